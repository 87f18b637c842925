/- Rules of operations, an interpreter over abstract values. -/
import Derived.Test.YtnoafcaolafipaaGreatDoorVa
import Derived.MapKept
/- Vam: append, conversions between strings and bytes, new slices, calls. -/
namespace Go.Vam
open Go Go.RowKit

def tyElem (P : Program) (e : TypeId) : Option (Nat × Nat × List V) :=
  match P.info? e with
  | some i => match i.zero with
    | some z => match cvL z.cells.toList with
      | some zs => match Nat.beq z.cells.size i.size with
        | true => some (i.size, i.bytes, zs)
        | false => none
      | none => none
    | none => none
  | none => none

/-- An element type: its cells, its bytes, its zero. -/
class TElem (P : Program) (e : TypeId) (sz bytes : outParam Nat) (zs : outParam (List V)) : Prop where
  h : tyElem P e = some (sz, bytes, zs)

theorem TElem.get {P : Program} {e sz by' : Nat} {zs : List V} (h : TElem P e sz by' zs) : ∃ i z, P.info? e = some i ∧ i.zero = some z ∧ i.size = sz ∧ i.bytes = by' ∧ z.cells.size = i.size ∧ cvL z.cells.toList = some zs := by
  have h := h.h
  unfold tyElem at h
  split at h
  · rename_i i hi
    split at h
    · rename_i z hz
      split at h
      · rename_i zs' hzs
        split at h
        · rename_i hb
          simp only [Option.some.injEq, Prod.mk.injEq] at h
          obtain ⟨h1, h2, rfl⟩ := h
          exact ⟨i, z, hi, hz, h1, h2, Nat.eq_of_beq_eq_true hb, hzs⟩
        · cases h
      · cases h
    · cases h
  · cases h

section
variable {E : Env} {N : Nat} {o : Oper} {g : G} {σ : St} {ops : Array Oper} {rest : List Oper} {Q : Q3} {β : Gh} {w : World}

theorem run_lenOf_slice {P : Program} (a : Option Addr) (n c : Nat) : ∀ w1 : World, (Builtin.lenOf (.slice a n c)).run P w1 = .ok n w1 := fun w1 => by simp [Builtin.lenOf]

theorem byteV_one (l : List UInt8) : ∀ u ∈ l.map byteV, u.oneCell' = true := by
  intro u hu
  obtain ⟨b, _, rfl⟩ := List.mem_map.1 hu
  rfl

theorem DstB.owns (hi : Inv E β σ w) {e : TypeId} {v : V} {bs : List UInt8} {σd : St} {u : Value} (h : DstB σ e v bs σd) (hr : Rel β v u) :
    ∃ us, us = bs.map byteV ∧ w.ownsRow E.B e 1 u bs.length us ∧
    ((σd = σ ∧ u.ownBlock = none ∧ us = []) ∨ ∃ p l, σ p = some (.tok e 1 bs.length) ∧ σd = σ.del p ∧ β.loc p = some l ∧ l.block? = u.ownBlock ∧ ∀ r, u.ownBlock = some r → β.ro r = some us) := by
  cases h with
  | nils => cases hr; exact ⟨[], rfl, World.ownsRow_nil _ _ _ _, .inl ⟨rfl, rfl, rfl⟩⟩
  | tok p _ hs =>
    obtain ⟨l, hl, ho⟩ := hi.obj p _ hs
    cases hr with
    | obytes _ _ b c _ hl' hu hb =>
      subst hu
      rw [hl] at hl'; cases hl'
      simp only [ORel] at ho
      obtain ⟨_, us, hown, hro⟩ := ho
      have hown2 := hown
      have hbl : (sliceAt b bs.length c).ownBlock = b := by cases b <;> rfl
      -- what the row holds is what is read
      have hus : us = bs.map byteV := by
        have hlen : us.length = bs.length := by have := hown.1; omega
        rcases ownsRow_inv hown2 with ⟨rfl, h0, rfl, _⟩ | ⟨r, cur, rfl, _, _, _, _, _, _⟩
        · have : bs = [] := List.eq_nil_of_length_eq_zero h0
          subst this; rfl
        · have hror := hro r rfl
          obtain ⟨a, cap, hsl, hc⟩ := bytes_get hi hb
          simp only [sliceAt, Option.map_some, Value.slice.injEq] at hsl
          obtain ⟨rfl, _, _⟩ := hsl
          refine List.ext_getElem? fun i => ?_
          by_cases hi' : i < bs.length
          · have hx : (bs.map byteV)[i]? = some (byteV bs[i]) := by simp [hi']
            obtain ⟨b2, off, hh, hcell⟩ := hc.at hx
            simp only [Option.some.injEq, Addr.mk.injEq] at hh
            obtain ⟨rfl, rfl, _⟩ := hh
            have h2 := hi.cell hror (List.getElem?_eq_getElem (show i < us.length by omega))
            rw [Nat.zero_add, h2] at hcell
            rw [hx, List.getElem?_eq_getElem (show i < us.length by omega)]
            exact hcell
          · rw [List.getElem?_eq_none (by omega), List.getElem?_eq_none (by simp; omega)]
      refine ⟨us, hus, hown, .inr ⟨p, _, hs, rfl, hl, by rw [hbl]; rfl, fun r hr => hro r (by rw [← hbl]; exact hr)⟩⟩

theorem DstS.owns (hi : Inv E β σ w) {v : V} {e sz : Nat} {xs : List V} {σd : St} {u : Value} (h : DstS σ e sz v xs σd) (hr : Rel β v u) :
    (∀ x ∈ xs, V.elem sz x) ∧ ∃ us, RelL β (flat xs) us ∧ w.ownsRow E.B e sz u xs.length us ∧
    ((σd = σ ∧ u.ownBlock = none ∧ us = []) ∨ ∃ p l, σ p = some (.tok e sz xs.length) ∧ σd = σ.del p ∧ β.loc p = some l ∧ l.block? = u.ownBlock ∧ ∀ r, u.ownBlock = some r → β.ro r = some us) := by
  cases h with
  | nils => cases hr; exact ⟨fun x hx => (by cases hx), [], .nil, World.ownsRow_nil _ _ _ _, .inl ⟨rfl, rfl, rfl⟩⟩
  | tok p xs hs =>
    obtain ⟨l, hl, ho⟩ := hi.obj p _ hs
    cases hr with
    | oslice _ _ _ b c _ hl' hu hb =>
      subst hu
      rw [hl] at hl'; cases hl'
      simp only [ORel] at ho
      obtain ⟨_, us, hown, hro⟩ := ho
      have hown2 := hown
      have hbl : (sliceAt b xs.length c).ownBlock = b := by cases b <;> rfl
      obtain ⟨hel, a, cap, vs, hsl, hc, hvs⟩ := slice_get hi hb
      have hus : RelL β (flat xs) us := by
        have hlen : us.length = xs.length * sz := hown.1
        have hfl := flat_len hel
        rcases ownsRow_inv hown2 with ⟨rfl, h0, rfl, _⟩ | ⟨r, cur, rfl, _, _, _, _, _, _⟩
        · have : xs = [] := List.eq_nil_of_length_eq_zero h0
          subst this; exact .nil
        · have hror := hro r rfl
          simp only [sliceAt, Option.map_some, Value.slice.injEq] at hsl
          obtain ⟨rfl, _, _⟩ := hsl
          refine ⟨by omega, fun i x hx => ?_⟩
          have hlt : i < (flat xs).length := (List.getElem?_eq_some_iff.1 hx).1
          obtain ⟨y, hy, hry⟩ := hvs.get hx
          obtain ⟨b2, off, hh, hcell⟩ := hc.at hy
          simp only [Option.some.injEq, Addr.mk.injEq] at hh
          obtain ⟨rfl, rfl, _⟩ := hh
          have hi' : i < us.length := by omega
          have h2 := hi.cell hror (List.getElem?_eq_getElem hi')
          rw [Nat.zero_add, h2] at hcell
          simp only [Option.some.injEq] at hcell
          simp only [List.getD, List.getElem?_eq_getElem hi', Option.getD_some]
          rw [hcell]; exact hry
      exact ⟨hel, us, hus, hown, .inr ⟨p, _, hs, rfl, hl, by rw [hbl]; rfl, fun r hr => hro r (by rw [← hbl]; exact hr)⟩⟩

/-- append of bytes: the source is told by what it reads as. -/
theorem append_bytes_any {n : Nat} {t t2 : TypeId} {by' : Nat} {zs : List V} {x y : Operand} {ts : Array TypeId} {v : V} {bs ys : List UInt8} {σd : St} {K : V → St → Nat → Prop} {d2 : TypeDesc}
    (ho : o.op = .call { callee := .builtin .append, args := #[x, y], argTypes := ts }) (hts : ts = #[t, t2]) (ht : E.P.underlying t = some (.slice E.byteT)) (he : TElem E.P E.byteT 1 by' zs) (hby : by' = 1) (ht2 : E.P.underlying t2 = some d2) (hd2 : ∀ k, d2 ≠ .int k)
    (hx : g.evO x = some v) (hv : DstB σ E.byteT v bs σd) (hlen : bs.length + ys.length ≤ 140737488355328)
    (hsrc : ∀ β a w, AR N β g a → Inv E β σ w → (∀ w1 : World, (Builtin.lenOf (a.eval y)).run E.P w1 = .ok ys.length w1) ∧
      ∀ w1 : World, w1.heap = w.heap → (Builtin.firstCells 1 ys.length (a.eval y)).run E.P w1 = .ok (ys.map byteV).toArray w1)
    (k : σd n = none → K (.obytes (bs ++ ys) n) (σd.set n (.tok E.byteT 1 (bs.length + ys.length))) (n + 1)) : OpI E N o g σ n K := by
  refine OpI.of_value fun β a w ha hi hn => ?_
  subst hn
  subst hts
  subst hby
  obtain ⟨i, z, hin, hz, hsz, hby, hzs, _⟩ := he.get
  obtain ⟨us, rfl, hown, hd⟩ := hv.owns hi (ha.evO hx)
  obtain ⟨hl1, hs1⟩ := hsrc β a w ha hi
  rw [← hsz] at hown hs1
  obtain ⟨v', w', hrun, hown', hstep⟩ := run_append_core (P := E.P) (ty := o.type) ht ht2 hd2 hin hz hzs hown hl1 hs1 (by simp [hsz]) (byteV_one ys) hlen (by rw [hby]; omega) hi.base
  rw [hsz] at hown'
  obtain ⟨β', c, hle, hkp, hinv, hvs, hloc, hro, hfr, hnx⟩ := hi.appended hd hown' (List.prefix_append _ _) rfl hstep
  refine ⟨v', w', β', .obytes (bs ++ ys) β.next, _, ?_, hle, hkp, ?_, hinv, by rw [hnx]; exact k hfr⟩
  · simp [execOp, ho, resolve, invoke, Go.builtin, hrun]
  · have hlen2 : (bs ++ ys).length = bs.length + ys.length := List.length_append
    refine .obytes _ _ v'.ownBlock c _ (by rw [hlen2]; exact hloc) (by rw [hlen2]; exact hvs) ?_
    cases hb : v'.ownBlock with
    | none =>
      rw [hb] at hvs
      rw [hvs] at hown' ⊢
      rcases ownsRow_inv hown' with ⟨_, h0, _⟩ | ⟨_, _, hh, _⟩
      · have : bs ++ ys = [] := List.eq_nil_of_length_eq_zero (by rw [hlen2, h0])
        rw [this, h0]; exact .bytes0 _ _
      · cases hh
    | some r =>
      rw [hb] at hvs hro
      rw [hvs] at hown' ⊢
      rcases ownsRow_inv hown' with ⟨hh, _⟩ | ⟨_, _, _, _, hnc, _, _, _, _⟩
      · cases hh
      · have := Rel.bytes (β := β') (bs ++ ys) r 0 c (bs.map byteV ++ ys.map byteV) (by rw [hlen2]; exact hnc) (hro r rfl) (fun i x hx => by
          rw [Nat.zero_add, ← List.map_append, List.getElem?_map, hx]; rfl)
        rw [hlen2] at this
        exact this

theorem i_appendB {n : Nat} {t : TypeId} {by' : Nat} {zs : List V} {x y : Operand} {ts : Array TypeId} {v u : V} {bs ys : List UInt8} {σd : St} {K : V → St → Nat → Prop}
    (ho : o.op = .call { callee := .builtin .append, args := #[x, y], argTypes := ts }) (hts : ts = #[t, t]) (ht : E.P.underlying t = some (.slice E.byteT)) (he : TElem E.P E.byteT 1 by' zs) (hby : by' = 1)
    (hx : g.evO x = some v) (hv : DstB σ E.byteT v bs σd) (hy : g.evO y = some u) (hu : u.rdB = some ys) (hlen : bs.length + ys.length ≤ 140737488355328)
    (k : σd n = none → K (.obytes (bs ++ ys) n) (σd.set n (.tok E.byteT 1 (bs.length + ys.length))) (n + 1)) : OpI E N o g σ n K := by
  refine append_bytes_any ho hts ht he hby ht (fun k h => by cases h) hx hv hlen (fun β a w ha hi => ?_) k
  obtain ⟨ad, cap, hue, hc⟩ := rdB_get hi hu (ha.evO hy)
  rw [hue]
  exact ⟨run_lenOf_slice _ _ _, hc.first (by simp)⟩

theorem i_appendBs {n : Nat} {t t2 : TypeId} {by' : Nat} {zs : List V} {x y : Operand} {ts : Array TypeId} {v : V} {bs ys : List UInt8} {σd : St} {K : V → St → Nat → Prop}
    (ho : o.op = .call { callee := .builtin .append, args := #[x, y], argTypes := ts }) (hts : ts = #[t, t2]) (ht : E.P.underlying t = some (.slice E.byteT)) (he : TElem E.P E.byteT 1 by' zs) (hby : by' = 1) (ht2 : E.P.underlying t2 = some .string)
    (hx : g.evO x = some v) (hv : DstB σ E.byteT v bs σd) (hy : g.evO y = some (.str ys)) (hlen : bs.length + ys.length ≤ 140737488355328)
    (k : σd n = none → K (.obytes (bs ++ ys) n) (σd.set n (.tok E.byteT 1 (bs.length + ys.length))) (n + 1)) : OpI E N o g σ n K := by
  refine append_bytes_any ho hts ht he hby ht2 (fun k h => by cases h) hx hv hlen (fun β a w ha hi => ?_) k
  have hue := (ha.evO hy).str_inv
  have hsz : (ByteArray.mk ys.toArray).size = ys.length := by simp [ByteArray.size]
  rw [hue]
  refine ⟨fun w1 => by simp [Builtin.lenOf, hsz], fun w1 _ => ?_⟩
  have hex : (ByteArray.mk ys.toArray).extract 0 ys.length = ⟨ys.toArray⟩ := by
    apply ByteArray.ext
    rw [ByteArray.data_extract]
    apply Array.ext'
    simp
  simp only [Builtin.firstCells, hex]
  simp only [Sem.run_pure]
  congr 1
  apply Array.ext'
  simp [byteV]

theorem i_appendS {n : Nat} {t e : TypeId} {sz by' : Nat} {zs : List V} {x y : Operand} {ts : Array TypeId} {v u : V} {xs ys : List V} {σd : St} {K : V → St → Nat → Prop}
    (ho : o.op = .call { callee := .builtin .append, args := #[x, y], argTypes := ts }) (hts : ts = #[t, t]) (ht : E.P.underlying t = some (.slice e)) (he : TElem E.P e sz by' zs)
    (hx : g.evO x = some v) (hv : DstS σ e sz v xs σd) (hy : g.evO y = some u) (hu : u.rdS sz = some ys) (hlen : xs.length + ys.length ≤ 140737488355328) (hbytes : (xs.length + ys.length) * by' ≤ 140737488355328)
    (k : σd n = none → K (.oslice sz (xs ++ ys) n) (σd.set n (.tok e sz (xs.length + ys.length))) (n + 1)) : OpI E N o g σ n K := by
  refine OpI.of_value fun β a w ha hi hn => ?_
  subst hn
  subst hts
  obtain ⟨i, z, hin, hz, hsz, hby, hzs, _⟩ := he.get
  obtain ⟨hel, us, hus, hown, hd⟩ := hv.owns hi (ha.evO hx)
  obtain ⟨hel2, ad, cap, us2, hue, hc, hus2⟩ := rdS_get hi hu (ha.evO hy)
  have hl2 : us2.length = ys.length * sz := by rw [hus2.1, flat_len hel2]
  have hs1 := hc.first (P := E.P) (cap := cap) hl2
  rw [← hue] at hs1
  have hl1 := run_lenOf_slice (P := E.P) ad ys.length cap
  rw [← hue] at hl1
  rw [← hsz] at hown hs1
  obtain ⟨v', w', hrun, hown', hstep⟩ := run_append_core (P := E.P) (ty := o.type) ht ht (fun k h => by cases h) hin hz hzs hown hl1 hs1 (by rw [hsz]; exact hl2) (hus2.oneCell (flat_one hel2)) hlen (by rw [hby]; exact hbytes) hi.base
  rw [hsz] at hown'
  obtain ⟨β', c, hle, hkp, hinv, hvs, hloc, hro, hfr, hnx⟩ := hi.appended hd hown' (List.prefix_append _ _) rfl hstep
  have hel3 : ∀ x ∈ xs ++ ys, V.elem sz x := fun x hx => (List.mem_append.1 hx).elim (hel x) (hel2 x)
  have hrel : RelL β' (flat (xs ++ ys)) (us ++ us2) := by
    rw [flat_append]
    have := hus.append hus2
    exact ⟨this.1, fun i x hx => (this.2 i x hx).mono hle⟩
  refine ⟨v', w', β', .oslice sz (xs ++ ys) β.next, _, ?_, hle, hkp, ?_, hinv, by rw [hnx]; exact k hfr⟩
  · simp [execOp, ho, resolve, invoke, Go.builtin, hrun]
  · have hlen2 : (xs ++ ys).length = xs.length + ys.length := List.length_append
    refine .oslice _ _ _ v'.ownBlock c _ (by rw [hlen2]; exact hloc) (by rw [hlen2]; exact hvs) ?_
    cases hb : v'.ownBlock with
    | none =>
      rw [hb] at hvs
      rw [hvs] at hown' ⊢
      rcases ownsRow_inv hown' with ⟨_, h0, _⟩ | ⟨_, _, hh, _⟩
      · have : xs ++ ys = [] := List.eq_nil_of_length_eq_zero (by rw [hlen2, h0])
        rw [this, h0]; exact .slice0 _ _ _
      · cases hh
    | some r =>
      rw [hb] at hvs hro
      rw [hvs] at hown' ⊢
      rcases ownsRow_inv hown' with ⟨hh, _⟩ | ⟨_, _, _, _, hnc, _, _, _, _⟩
      · cases hh
      · have := Rel.slice (β := β') sz (xs ++ ys) r 0 c (us ++ us2) (by rw [hlen2]; exact hnc) (hro r rfl) hel3 (by rw [Nat.zero_add, hrel.1]; exact Nat.le_refl _) (fun i x hx => by
          rw [Nat.zero_add]; exact hrel.2 i x hx)
        rw [hlen2] at this
        exact this

theorem o_appendB {t : TypeId} {by' : Nat} {zs : List V} {x y : Operand} {ts : Array TypeId} {v u : V} {bs ys : List UInt8} {σd : St} {K : V → St → Prop}
    (ho : o.op = .call { callee := .builtin .append, args := #[x, y], argTypes := ts }) (hts : ts = #[t, t]) (ht : E.P.underlying t = some (.slice E.byteT)) (he : TElem E.P E.byteT 1 by' zs) (hby : by' = 1)
    (hx : g.evO x = some v) (hv : DstB σ E.byteT v bs σd) (hy : g.evO y = some u) (hu : u.rdB = some ys) (hlen : bs.length + ys.length ≤ 140737488355328)
    (k : ∀ p, σd p = none → K (.obytes (bs ++ ys) p) (σd.set p (.tok E.byteT 1 (bs.length + ys.length)))) : OpS E N o g σ K :=
  OpS.ofI fun n _ => i_appendB ho hts ht he hby hx hv hy hu hlen (k n)

theorem o_appendBs {t t2 : TypeId} {by' : Nat} {zs : List V} {x y : Operand} {ts : Array TypeId} {v : V} {bs ys : List UInt8} {σd : St} {K : V → St → Prop}
    (ho : o.op = .call { callee := .builtin .append, args := #[x, y], argTypes := ts }) (hts : ts = #[t, t2]) (ht : E.P.underlying t = some (.slice E.byteT)) (he : TElem E.P E.byteT 1 by' zs) (hby : by' = 1) (ht2 : E.P.underlying t2 = some .string)
    (hx : g.evO x = some v) (hv : DstB σ E.byteT v bs σd) (hy : g.evO y = some (.str ys)) (hlen : bs.length + ys.length ≤ 140737488355328)
    (k : ∀ p, σd p = none → K (.obytes (bs ++ ys) p) (σd.set p (.tok E.byteT 1 (bs.length + ys.length)))) : OpS E N o g σ K :=
  OpS.ofI fun n _ => i_appendBs ho hts ht he hby ht2 hx hv hy hlen (k n)

theorem o_appendS {t e : TypeId} {sz by' : Nat} {zs : List V} {x y : Operand} {ts : Array TypeId} {v u : V} {xs ys : List V} {σd : St} {K : V → St → Prop}
    (ho : o.op = .call { callee := .builtin .append, args := #[x, y], argTypes := ts }) (hts : ts = #[t, t]) (ht : E.P.underlying t = some (.slice e)) (he : TElem E.P e sz by' zs)
    (hx : g.evO x = some v) (hv : DstS σ e sz v xs σd) (hy : g.evO y = some u) (hu : u.rdS sz = some ys) (hlen : xs.length + ys.length ≤ 140737488355328) (hbytes : (xs.length + ys.length) * by' ≤ 140737488355328)
    (k : ∀ p, σd p = none → K (.oslice sz (xs ++ ys) p) (σd.set p (.tok e sz (xs.length + ys.length)))) : OpS E N o g σ K :=
  OpS.ofI fun n _ => i_appendS ho hts ht he hx hv hy hu hlen hbytes (k n)

end
end Go.Vam

/- Vam: calls, conversions, new slices, buffers' elements, max and min. -/
namespace Go.Vam
open Go Go.RowKit

section
variable {E : Env} {N : Nat} {o : Oper} {g : G} {σ : St} {ops : Array Oper} {rest : List Oper} {Q : Q3} {β : Gh} {w : World}

def evL (g : G) : List Operand → Option (List V)
  | [] => some []
  | x :: r => match g.evO x, evL g r with
    | some v, some l => some (v :: l)
    | _, _ => none

theorem evL_rel {a : Act} (ha : AR N β g a) : ∀ {xs : List Operand} {vs : List V}, evL g xs = some vs → RelL β vs (xs.map a.eval)
  | [], vs, h => by simp [evL] at h; subst h; exact .nil
  | x :: r, vs, h => by
    simp only [evL] at h
    split at h
    · rename_i v l hv hl
      cases h
      exact .cons (ha.evO hv) (evL_rel ha hl)
    · cases h

theorem RelL.rels {vs : List V} {us : List Value} (h : RelL β vs us) : Rels β vs us.toArray := by
  refine ⟨by simp [h.1], fun i => ?_⟩
  by_cases hi : i < vs.length
  · have := h.2 i vs[i] (List.getElem?_eq_getElem hi)
    simpa [List.getD, List.getElem?_eq_getElem hi, Array.getD_eq_getD_getElem?] using this
  · have : vs.getD i .junk = .junk := by simp [List.getD, List.getElem?_eq_none (Nat.le_of_not_lt hi)]
    rw [this]; exact .junk _

/-- A call of a function that is known. -/
theorem o_call {f : FuncId} {xs : Array Operand} {ts : Array TypeId} {vs : List V} {K : V → St → Prop} (ho : o.op = .call { callee := .value (.func f), args := xs, argTypes := ts })
    (hv : evL g xs.toList = some vs) (h : Fn E f vs σ K) : OpS E N o g σ K := by
  intro β a w ha hi
  obtain ⟨⟨fn, hfn, hnm, hbody⟩, h⟩ := h
  have hr := (evL_rel ha hv).rels
  have hrun : (execOp a.eval o).run E.P w = .ok (.enter f (xs.toList.map a.eval).toArray) w := by
    have hb : fn.body ≠ none := by intro h0; rw [h0] at hbody; cases hbody
    simp [execOp, ho, resolve, Act.eval, Deferred.ofValue, invoke, callFunc, hfn, hb, beq_eq_false_iff_ne.1 hnm]
    apply Array.ext'; simp
  simp only [Oper.wp, hrun, Oper.upon]
  refine (h β w _ hi hr).mono ?_
  rintro e w' ⟨v, u, β', σ', rfl, hle, hrel, hi', hk⟩
  exact ⟨β', v, u, σ', hle, rfl, hrel, hi', hk⟩

/-- A call of a closure. -/
theorem o_callv {f : FuncId} {y : Operand} {xs : Array Operand} {ts : Array TypeId} {vs cap : List V} {K : V → St → Prop} (ho : o.op = .call { callee := .value y, args := xs, argTypes := ts })
    (hy : g.evO y = some (.func f cap)) (hv : evL g xs.toList = some vs) (h : Fn E f (vs ++ cap) σ K) : OpS E N o g σ K := by
  intro β a w ha hi
  obtain ⟨⟨fn, hfn, hnm, hbody⟩, h⟩ := h
  have hyr := ha.evO hy
  generalize hyu : a.eval y = r at hyr
  cases hyr with
  | func _ _ arr hs hc =>
    have hcr : RelL β cap arr.toList := ⟨by simpa using hs, fun i x hx => by simpa [Array.getD_eq_getD_getElem?, List.getD] using hc i x hx⟩
    have hr := ((evL_rel ha hv).append hcr).rels
    have hrun : (execOp a.eval o).run E.P w = .ok (.enter f (xs.toList.map a.eval ++ arr.toList).toArray) w := by
      have hb : fn.body ≠ none := by intro h0; rw [h0] at hbody; cases hbody
      simp [execOp, ho, resolve, hyu, Deferred.ofValue, invoke, callFunc, hfn, hb, beq_eq_false_iff_ne.1 hnm]
    simp only [Oper.wp, hrun, Oper.upon]
    refine (h β w _ hi hr).mono ?_
    rintro e w' ⟨v, u, β', σ', rfl, hle, hrel, hi', hk⟩
    exact ⟨β', v, u, σ', hle, rfl, hrel, hi', hk⟩

/-! Results. -/

theorem ret1 {fn : Func} {Q : V → St → Prop} {s : St} {t : Nat} {v : V} (hr : fn.results = #[.tmp t]) (ht : g.find t = some v) (hq : Q v s) : retQ E fn Q .ret g s := by
  refine ⟨v, hq, fun N β a w ha hi => ⟨a.tmps.getD t undef, results_tmp hr _ _ _, ?_⟩⟩
  have := ha.rel t
  rwa [G.find_get ht] at this

theorem retNone {fn : Func} {Q : V → St → Prop} {s : St} (hr : fn.results = #[]) (hq : Q (.tuple []) s) : retQ E fn Q .ret g s :=
  ⟨.tuple [], hq, fun N β a w ha hi => ⟨.tuple #[], results_none hr _ _ _, .tuple [] #[] rfl (fun i x h => by simp at h)⟩⟩

/-! Conversions. -/

theorem p_b2s {s d e : TypeId} {x : Operand} {v : V} {bs : List UInt8} (ho : o.op = .convert s d x) (hs : E.P.underlying s = some (.slice e)) (he : E.P.underlying e = some (.int .u8)) (hd : E.P.underlying d = some .string)
    (hx : g.evO x = some v) (hv : v.rdB = some bs) : Pv E N o g σ (.str bs) := by
  intro β a w ha hi
  obtain ⟨ad, cap, hu, hc⟩ := rdB_get hi hv (ha.evO hx)
  refine ⟨.string ⟨bs.toArray⟩, ?_, .str bs⟩
  cases ad with
  | none =>
    rcases hc with h0 | ⟨b, off, hh, _⟩
    · have : bs = [] := by simpa using h0
      subst this
      simp [execOp, ho, hu, Go.convert, run_underlying hs, run_underlying hd, run_underlying he, Conv.bytesToString]; rfl
    · cases hh
  | some ad =>
    have := run_convert_bytes_back (P := E.P) w s d e ad cap bs hs he hd (fun j hj => by
      obtain ⟨b, off, hh, hcell⟩ := hc.at (i := j) (x := byteV bs[j]) (by simp [hj])
      cases hh
      rw [addr_add]; exact hcell)
    simp [execOp, ho, hu, this]

theorem i_s2b {n : Nat} {s d : TypeId} {x : Operand} {bs : List UInt8} {K : V → St → Nat → Prop} (ho : o.op = .convert s d x) (hs : E.P.underlying s = some .string) (hd : E.P.underlying d = some (.slice E.byteT)) (he : E.P.underlying E.byteT = some (.int .u8))
    (hx : g.evO x = some (.str bs)) (k : K (.bytes bs) σ n) : OpI E N o g σ n K := by
  refine OpI.of_value fun β a w ha hi hn => ?_
  subst hn
  have hu := (ha.evO hx).str_inv
  have hsz : (ByteArray.mk bs.toArray).size = bs.length := by simp [ByteArray.size]
  have hrun := run_bytes_of_string (P := E.P) w s d E.byteT ⟨bs.toArray⟩ hs hd he
  rw [hsz] at hrun
  generalize hrow : bytesRow ⟨bs.toArray⟩ (grownCap w bs.length 0 E.byteT) = row at hrun
  have hg : Grew w (w.drew.alloc (.cells row E.byteT (row.size, row.size + 1))) :=
    (Grew.drew w).trans (Grew.alloc _ _)
  have hi2 := hi.grew hg
  have hnew : (w.drew.alloc (.cells row E.byteT (row.size, row.size + 1))).heap[w.heap.size]? = some (.cells row E.byteT (row.size, row.size + 1)) := heap_new w.drew _
  have hfree := hi.new_free (Nat.le_refl _)
  have hle := Gh.addRo_new (c := row.toList) hfree.2.1
  refine ⟨.slice (some ⟨w.heap.size, 0, none⟩) bs.length (grownCap w bs.length 0 E.byteT), _, β.addRo w.heap.size row.toList, .bytes bs, σ, ?_, hle, Gh.addRo_keep _ _, ?_, hi2.addRo hnew (List.prefix_refl _) (fun d hd => by rw [hfree.2.1] at hd; cases hd) hfree.2.2, k⟩
  · simp [execOp, ho, hu, hrun]
  · have hge := grownCap_ge w bs.length 0 E.byteT
    refine .bytes bs _ 0 _ row.toList hge (by simp [Gh.addRo]) fun i x hx => ?_
    have hlt : i < bs.length := (List.getElem?_eq_some_iff.1 hx).1
    rw [← hrow]
    simp only [bytesRow, Nat.zero_add]
    rw [Array.getElem?_toList, Array.getElem?_append_left (by simpa using hlt)]
    simp [hx, byteV]

theorem o_s2b {s d : TypeId} {x : Operand} {bs : List UInt8} {K : V → St → Prop} (ho : o.op = .convert s d x) (hs : E.P.underlying s = some .string) (hd : E.P.underlying d = some (.slice E.byteT)) (he : E.P.underlying E.byteT = some (.int .u8))
    (hx : g.evO x = some (.str bs)) (k : K (.bytes bs) σ) : OpS E N o g σ K :=
  OpS.ofI fun _ _ => i_s2b ho hs hd he hx k

/-! New slices. -/

def evElems (g : G) : Nat → List (Nat × Operand) → Option (List V)
  | _, [] => some []
  | k, (i, x) :: r => match Nat.beq i k, g.evO x, evElems g (k + 1) r with
    | true, some v, some l => some (v :: l)
    | _, _, _ => none

theorem cvL_size : ∀ {us : List Value} {l : List V}, cvL us = some l → l.length = us.length
  | [], l, h => by simp [cvL] at h; subst h; rfl
  | u :: us, l, h => by
    simp only [cvL] at h
    split at h
    · rename_i v l' hv hl; cases h; simp [cvL_size hl]
    · cases h

/-- The fill of a slice's literal, all elements told, in order. -/
theorem fill_elems {a : Act} (ha : AR N β g a) {sz : Nat} : ∀ {ps : List (Nat × Operand)} {k : Nat} {vs : List V} {done : List V} {cells : Array Value}, evElems g k ps = some vs → done.length = k * sz →
    (∀ v ∈ vs, V.elem sz v) → RelL β done (cells.toList.take (k * sz)) → cells.size = (k + ps.length) * sz →
    ∃ cells', Instr.fill (fun i => some (i * sz, sz)) cells (ps.map fun (i, x) => (i, a.eval x)) = some cells' ∧ RelL β (done ++ flat vs) cells'.toList := by
  intro ps
  induction ps with
  | nil =>
    intro k vs done cells hv hd hel hr hs
    simp [evElems] at hv
    subst hv
    refine ⟨cells, rfl, ?_⟩
    have : cells.toList.take (k * sz) = cells.toList := List.take_of_length_le (by simp at hs ⊢; omega)
    rw [this] at hr
    simpa [flat] using hr
  | cons p ps ih =>
    intro k vs done cells hv hd hel hr hs
    obtain ⟨i, x⟩ := p
    simp only [evElems] at hv
    split at hv
    · rename_i v l hb hx hl
      cases hv
      have hik : i = k := Nat.eq_of_beq_eq_true hb
      subst hik
      have hve := hel v (by simp)
      have hvc := (ha.evO hx).cells hve.2
      have hus : (a.eval x).cells.size = sz := by have := hvc.1; rw [hve.1] at this; simpa using this
      have hfit : i * sz + sz ≤ cells.size := by
        rw [hs]; simp only [List.length_cons, Nat.add_mul, Nat.one_mul]; omega
      have hfold := foldl_set (a.eval x).cells.toList (i * sz) cells 0 (by simp; omega)
      simp only [Nat.add_zero] at hfold
      have hz : (a.eval x).cells.zipIdx.foldl (fun cs (c, j) => cs.setIfInBounds (i * sz + j) c) cells = (cells.toList.take (i * sz) ++ (a.eval x).cells.toList ++ cells.toList.drop (i * sz + (a.eval x).cells.toList.length)).toArray := by
        rw [← hfold, ← Array.foldl_toList]; simp
      have hlt : (cells.toList.take (i * sz)).length = i * sz := by simp; omega
      have hcl : (a.eval x).cells.toList.length = sz := by simpa using hus
      obtain ⟨cells', h1, h2⟩ := ih (k := i + 1) (vs := l) (done := done ++ v.cells) (cells := (a.eval x).cells.zipIdx.foldl (fun cs (c, j) => cs.setIfInBounds (i * sz + j) c) cells) hl
        (by rw [List.length_append, hd, hve.1, Nat.add_mul, Nat.one_mul]) (fun v hv => hel v (by simp [hv]))
        (by
          rw [hz]
          simp only []
          have : (i + 1) * sz = (cells.toList.take (i * sz) ++ (a.eval x).cells.toList).length := by rw [List.length_append, hlt, hcl, Nat.add_mul, Nat.one_mul]
          rw [this, List.take_left]
          exact hr.append hvc)
        (by
          rw [hz]
          simp only [List.size_toArray, List.length_append, hlt, hcl, List.length_drop, Array.length_toList]
          rw [hs]; simp only [List.length_cons, Nat.add_mul, Nat.one_mul]; omega)
      refine ⟨cells', ?_, ?_⟩
      · have hcond : ¬ ((a.eval x).cells.size ≠ sz || decide (i * sz + (a.eval x).cells.size > cells.size)) = true := by
          simp only [ne_eq, Bool.or_eq_true, decide_eq_true_eq]; omega
        simp only [List.map_cons, Instr.fill]
        rw [if_neg (by simpa using hcond)]
        exact h1
      · simpa [flat] using h2
    · cases hv

theorem buildSlice_any {t e : TypeId} {sz by' len : Nat} {zs : List V} {ps : Array (Nat × Operand)} {vs : List V} (ho : o.op = .buildSlice t len ps) (ht : E.P.underlying t = some (.slice e)) (he : TElem E.P e sz by' zs)
    (hv : evElems g 0 ps.toList = some vs) (_ : vs.length = len) (hn : ps.size = len) (hel : ∀ v ∈ vs, V.elem sz v) (hsm : len * sz ≤ 16777216) (hpos : 0 < len * sz) {a : Act} (ha : AR N β g a) (_ : Inv E β σ w) :
    ∃ cells : Array Value, (execOp a.eval o).run E.P w = .ok (.value (.slice (some ⟨w.heap.size, 0, none⟩) len len)) (w.alloc (.cells cells e)) ∧ RelL β (flat vs) cells.toList := by
  obtain ⟨i, z, hin, hz, hsz, hby, hzs, hzl⟩ := he.get
  have hcells0 : ((Array.range (len * sz)).map (z.cells[· % z.cells.size]!)).size = len * sz := by simp
  obtain ⟨cells', h1, h2⟩ := fill_elems ha (sz := sz) (ps := ps.toList) (k := 0) (vs := vs) (done := []) (cells := (Array.range (len * sz)).map (z.cells[· % z.cells.size]!)) hv (by simp) hel
    (by simpa using RelL.nil) (by rw [hcells0]; simp [hn])
  refine ⟨cells', ?_, by simpa using h2⟩
  have hbig : ¬ 2 ^ 24 < len * sz := by omega
  have hmap : (ps.map fun (i, x) => (i, a.eval x)).toList = ps.toList.map fun (i, x) => (i, a.eval x) := by simp
  have h0 : ¬ len * sz = 0 := by omega
  simp only [execOp, ho, Instr.buildSlice, Sem.run_bind, run_underlying ht, Result.andThen_ok, sizeOf, typeInfo, run_program, hin, Sem.run_pure, hsz]
  simp only [hmap, gt_iff_lt, hbig, if_false, h0, zeroValue, typeInfo, Sem.run_bind, run_program, Result.andThen_ok, hin, Sem.run_pure, hz]
  simp [h1, newRow]


/-- The literal of a slice, not to be appended to. -/
theorem i_sliceLit {n : Nat} {t e : TypeId} {sz by' len : Nat} {zs : List V} {ps : Array (Nat × Operand)} {vs : List V} {K : V → St → Nat → Prop} (ho : o.op = .buildSlice t len ps) (ht : E.P.underlying t = some (.slice e)) (he : TElem E.P e sz by' zs)
    (hv : evElems g 0 ps.toList = some vs) (hl : vs.length = len) (hn : ps.size = len) (hel : ∀ v ∈ vs, V.elem sz v) (hsm : len * sz ≤ 16777216) (hpos : 0 < len * sz) (k : K (.slice sz vs) σ n) : OpI E N o g σ n K := by
  refine OpI.of_value fun β a w ha hi hnx => ?_
  subst hnx
  obtain ⟨cells, hrun, hr⟩ := buildSlice_any ho ht he hv hl hn hel hsm hpos ha hi
  have hi2 := hi.grew (Grew.alloc w (.cells cells e))
  have hfree := hi.new_free (Nat.le_refl _)
  have hle := Gh.addRo_new (c := cells.toList) hfree.2.1
  refine ⟨_, _, β.addRo w.heap.size cells.toList, .slice sz vs, σ, hrun, hle, Gh.addRo_keep _ _, ?_, hi2.addRo (heap_new w _) (List.prefix_refl _) (fun d hd => by rw [hfree.2.1] at hd; cases hd) hfree.2.2, k⟩
  rw [← hl]
  refine .slice sz vs _ 0 _ cells.toList (Nat.le_refl _) (by simp [Gh.addRo]) hel (by rw [Nat.zero_add, hr.1]; exact Nat.le_refl _) fun i x hx => ?_
  rw [Nat.zero_add]
  exact (hr.2 i x hx).mono hle

theorem o_sliceLit {t e : TypeId} {sz by' len : Nat} {zs : List V} {ps : Array (Nat × Operand)} {vs : List V} {K : V → St → Prop} (ho : o.op = .buildSlice t len ps) (ht : E.P.underlying t = some (.slice e)) (he : TElem E.P e sz by' zs)
    (hv : evElems g 0 ps.toList = some vs) (hl : vs.length = len) (hn : ps.size = len) (hel : ∀ v ∈ vs, V.elem sz v) (hsm : len * sz ≤ 16777216) (hpos : 0 < len * sz) (k : K (.slice sz vs) σ) : OpS E N o g σ K :=
  OpS.ofI fun _ _ => i_sliceLit ho ht he hv hl hn hel hsm hpos k

theorem flat_bytes : ∀ bs : List UInt8, flat (bs.map fun b => V.int .u8 b.toNat) = bs.map fun b => V.int .u8 b.toNat
  | [] => rfl
  | b :: l => by
    have := flat_bytes l
    simp only [flat, List.map_cons, List.flatMap_cons] at this ⊢
    rw [this]; rfl

/-- The literal of a slice of bytes. -/
theorem i_bytesLit {n : Nat} {t : TypeId} {by' len : Nat} {zs : List V} {ps : Array (Nat × Operand)} {bs : List UInt8} {K : V → St → Nat → Prop} (ho : o.op = .buildSlice t len ps) (ht : E.P.underlying t = some (.slice E.byteT)) (he : TElem E.P E.byteT 1 by' zs)
    (hv : evElems g 0 ps.toList = some (bs.map fun b => .int .u8 b.toNat)) (hl : bs.length = len) (hn : ps.size = len) (hsm : len ≤ 16777216) (hpos : 0 < len) (k : K (.bytes bs) σ n) : OpI E N o g σ n K := by
  refine OpI.of_value fun β a w ha hi hnx => ?_
  subst hnx
  obtain ⟨cells, hrun, hr⟩ := buildSlice_any ho ht he hv (by simp [hl]) hn (fun v hv => by
    obtain ⟨b, _, rfl⟩ := List.mem_map.1 hv; exact ⟨rfl, rfl⟩) (by omega) (by omega) ha hi
  have hi2 := hi.grew (Grew.alloc w (.cells cells E.byteT))
  have hfree := hi.new_free (Nat.le_refl _)
  have hle := Gh.addRo_new (c := cells.toList) hfree.2.1
  refine ⟨_, _, β.addRo w.heap.size cells.toList, .bytes bs, σ, hrun, hle, Gh.addRo_keep _ _, ?_, hi2.addRo (heap_new w _) (List.prefix_refl _) (fun d hd => by rw [hfree.2.1] at hd; cases hd) hfree.2.2, k⟩
  rw [← hl]
  refine .bytes bs _ 0 _ cells.toList (Nat.le_refl _) (by simp [Gh.addRo]) fun i x hx => ?_
  have hf : (flat (bs.map fun b => V.int .u8 b.toNat))[i]? = some (.int .u8 x.toNat) := by
    rw [flat_bytes]; simp [hx]
  obtain ⟨u, hu, hrel⟩ := hr.get hf
  have := hrel.int_inv
  subst this
  rw [Nat.zero_add]
  simpa [byteV] using hu

theorem o_bytesLit {t : TypeId} {by' len : Nat} {zs : List V} {ps : Array (Nat × Operand)} {bs : List UInt8} {K : V → St → Prop} (ho : o.op = .buildSlice t len ps) (ht : E.P.underlying t = some (.slice E.byteT)) (he : TElem E.P E.byteT 1 by' zs)
    (hv : evElems g 0 ps.toList = some (bs.map fun b => .int .u8 b.toNat)) (hl : bs.length = len) (hn : ps.size = len) (hsm : len ≤ 16777216) (hpos : 0 < len) (k : K (.bytes bs) σ) : OpS E N o g σ K :=
  OpS.ofI fun _ _ => i_bytesLit ho ht he hv hl hn hsm hpos k

theorem p_max2 {x y : Operand} {ts : Array TypeId} {k : IntKind} {m n : Int} {v : V} (ho : o.op = .call { callee := .builtin .max, args := #[x, y], argTypes := ts }) (hx : g.evO x = some (.int k m)) (hy : g.evO y = some (.int k n))
    (hv : some (V.int k (if n > m then n else m)) = some v) : Pv E N o g σ v := by
  intro β a w ha _
  cases hv
  have h1 := (ha.evO hx).int_inv
  have h2 := (ha.evO hy).int_inv
  exact ⟨_, by simp [execOp, ho, resolve, invoke, Go.builtin, Builtin.max_, h1, h2, Builtin.max2], .int _ _⟩

theorem p_min2 {x y : Operand} {ts : Array TypeId} {k : IntKind} {m n : Int} {v : V} (ho : o.op = .call { callee := .builtin .min, args := #[x, y], argTypes := ts }) (hx : g.evO x = some (.int k m)) (hy : g.evO y = some (.int k n))
    (hv : some (V.int k (if n < m then n else m)) = some v) : Pv E N o g σ v := by
  intro β a w ha _
  cases hv
  have h1 := (ha.evO hx).int_inv
  have h2 := (ha.evO hy).int_inv
  exact ⟨_, by simp [execOp, ho, resolve, invoke, Go.builtin, Builtin.min_, h1, h2, Builtin.min2], .int _ _⟩

end
end Go.Vam

/- Vam: maps, globals, arrays, what is left of conversions. -/
namespace Go.Vam
open Go Go.RowKit Go.MapKept

def kEq : IntKind → IntKind → Bool
  | .i8, .i8 => true | .i16, .i16 => true | .i32, .i32 => true | .i64, .i64 => true
  | .u8, .u8 => true | .u16, .u16 => true | .u32, .u32 => true | .u64, .u64 => true
  | _, _ => false

theorem kEq_iff {a b : IntKind} : kEq a b = true ↔ a = b := by cases a <;> cases b <;> simp [kEq]

def keyEq : V → V → Option Bool
  | .int k a, .int k' b => cond (kEq k k') (some (decide (a = b))) none
  | .str a, .str b => some (decide (a = b))
  | _, _ => none

def findE (k : V) : List (V × V × Nat) → Nat → Option (Option (Nat × V))
  | [], _ => some none
  | e :: r, i => match keyEq k e.1 with
    | some true => some (some (i, e.2.1))
    | some false => findE k r (i + 1)
    | none => none

def keyKind : TypeDesc → V → Bool
  | .string, .str _ => true
  | .int j, .int k _ => kEq j k
  | _, _ => false

/-- The zero value. -/
def zvO : Value → Option V
  | .agg a => match cvL a.toList with
    | some l => some (.agg l)
    | none => none
  | v => cvO v

theorem zvO_rel (β : Gh) {z : Value} {v : V} (h : zvO z = some v) : Rel β v z := by
  unfold zvO at h
  split at h
  · split at h
    · rename_i a l hl; cases h; have := (cvL_rel (β := β) hl).agg; simpa using this
    · cases h
  · exact Rel.cvO β h

section
variable {E : Env} {N : Nat} {o : Oper} {g : G} {σ : St} {ops : Array Oper} {rest : List Oper} {Q : Q3} {β : Gh} {w : World}

theorem isKey_of {d : TypeDesc} {k : V} {u : Value} (h : keyKind d k = true) (hr : Rel β k u) : IsKey d u := by
  unfold keyKind at h
  split at h
  · cases hr; trivial
  · have := kEq_iff.1 h; subst this; cases hr; rfl
  · cases h

def RelE (β : Gh) (es : List (V × V × Nat)) (ms : List MapEntry) : Prop :=
  ms.length = es.length ∧ ∀ (i : Nat) (x : V × V × Nat), es[i]? = some x → ∃ m, ms[i]? = some m ∧ Rel β x.1 m.key ∧ Rel β x.2.1 m.val ∧ m.born = x.2.2

theorem keyEq_now {d : TypeDesc} {k k2 : V} {u u2 : Value} {b : Bool} (hk : keyKind d k = true) (h : keyEq k k2 = some b) (hr : Rel β k u) (hr2 : Rel β k2 u2) : Instr.sameNow d u u2 = some b ∧ (b = true → k = k2) := by
  unfold keyEq at h
  split at h
  · rename_i kk a kk' b'
    cases hkk : kEq kk kk' with
    | false => simp [hkk] at h
    | true =>
      have := kEq_iff.1 hkk
      subst this
      simp only [hkk, cond_true, Option.some.injEq] at h
      subst h
      cases hr; cases hr2
      unfold keyKind at hk
      split at hk
      · rename_i hh; cases hh
      · simp only [Instr.sameNow, if_true, Option.some.injEq]
        refine ⟨rfl, fun h => by simp at h; rw [h]⟩
      · cases hk
  · simp only [Option.some.injEq] at h
    subst h
    rename_i a b'
    cases hr; cases hr2
    unfold keyKind at hk
    split at hk
    · simp only [Instr.sameNow, Option.some.injEq]
      refine ⟨?_, fun h => by simp at h; rw [h]⟩
      by_cases hab : a = b'
      · subst hab; simp; exact (bytes_beq _ _).2 rfl
      · simp [hab]
        cases hh : ((⟨a.toArray⟩ : ByteArray) == ⟨b'.toArray⟩) with
        | false => rfl
        | true =>
          have := (bytes_beq _ _).1 hh
          simp at this
          exact absurd this hab
    · rename_i hh; cases hh
    · cases hk
  · cases h

theorem findE_now {d : TypeDesc} {k : V} {u : Value} (hk : keyKind d k = true) (hr : Rel β k u) : ∀ {es : List (V × V × Nat)} {ms : List MapEntry} {i : Nat} {r : Option (Nat × V)},
    RelE β es ms → findE k es i = some r →
    match r with
    | none => Instr.findNow d u ms i = some none
    | some (j, v) => ∃ m x, Instr.findNow d u ms i = some (some (j, m.val)) ∧ i ≤ j ∧ ms[j - i]? = some m ∧ es[j - i]? = some x ∧ x.1 = k ∧ x.2.1 = v ∧ Rel β v m.val
  | [], ms, i, r, he, h => by
    have : ms = [] := List.eq_nil_of_length_eq_zero (by simpa using he.1)
    subst this
    simp only [findE, Option.some.injEq] at h
    subst h
    rfl
  | e :: es, ms, i, r, he, h => by
    cases ms with
    | nil => simp [RelE] at he
    | cons m ms =>
      obtain ⟨m', hm, h1, h2, h3⟩ := he.2 0 e rfl
      simp only [List.getElem?_cons_zero, Option.some.injEq] at hm
      subst hm
      have he' : RelE β es ms := ⟨by simpa using he.1, fun j x hx => by simpa using he.2 (j + 1) x (by simpa using hx)⟩
      simp only [findE] at h
      split at h
      · rename_i hb
        cases h
        obtain ⟨hs, hkk⟩ := keyEq_now hk hb hr h1
        exact ⟨m, e, by simp [Instr.findNow, hs], Nat.le_refl _, by simp, by simp, (hkk rfl).symm, rfl, h2⟩
      · rename_i hb
        obtain ⟨hs, _⟩ := keyEq_now hk hb hr h1
        have ih := findE_now hk hr he' h
        cases r with
        | none => simpa [Instr.findNow, hs] using ih
        | some jv =>
          obtain ⟨j, v⟩ := jv
          obtain ⟨m2, x, q1, q2, q3, q4, q5, q6, q7⟩ := ih
          obtain ⟨n, rfl⟩ : ∃ n, j = i + 1 + n := ⟨j - (i + 1), by omega⟩
          refine ⟨m2, x, by simpa [Instr.findNow, hs] using q1, by omega, ?_, ?_, q5, q6, q7⟩
          · rw [show i + 1 + n - i = n + 1 by omega, List.getElem?_cons_succ, ← show i + 1 + n - (i + 1) = n by omega]; exact q3
          · rw [show i + 1 + n - i = n + 1 by omega, List.getElem?_cons_succ, ← show i + 1 + n - (i + 1) = n by omega]; exact q4
      · cases h

theorem map_get (hi : Inv E β σ w) {p : Nat} {es : List (V × V × Nat)} {c : Nat} {u : Value} (hr : Rel β (.map p) u) (hs : σ p = some (.map es c)) :
    ∃ r a, u = .map (some r) ∧ β.loc p = some (.map r) ∧ w.heap[r]? = some (.map a c) ∧ RelE β es a.toList ∧ (∀ (i : Nat) (x : V × V × Nat), es[i]? = some x → x.2.2 < c) ∧ (es.map (·.2.2)).Nodup := by
  cases hr with
  | map _ r hl =>
    obtain ⟨l, hl', ho⟩ := hi.obj p _ hs
    rw [hl] at hl'; cases hl'
    simp only [ORel] at ho
    obtain ⟨a, h1, h2, h3, h4⟩ := ho
    refine ⟨r, a, rfl, hl, h1, ⟨by simpa using h2, fun i x hx => ?_⟩, fun i x hx => ?_, h4⟩
    · obtain ⟨m, q1, q2, q3, q4, _⟩ := h3 i x hx; exact ⟨m, by simpa using q1, q2, q3, q4⟩
    · obtain ⟨m, _, _, _, _, q5⟩ := h3 i x hx; exact q5

def lookR (ok : Bool) (z : V) : Option (Nat × V) → V
  | some (_, v) => cond ok (.tuple [v, .bool true]) v
  | none => cond ok (.tuple [z, .bool false]) z

theorem tup2 {a : V} {u : Value} {b : Bool} (h : Rel β a u) : Rel β (.tuple [a, .bool b]) (.tuple #[u, .bool b]) :=
  .tuple _ _ rfl fun i x hx => by
    match i, hx with
    | 0, hx => cases hx; exact h
    | 1, hx => cases hx; exact .bool b

theorem p_lookup {ty kt et : TypeId} {d : TypeDesc} {x y : Operand} {ok : Bool} {p c : Nat} {es : List (V × V × Nat)} {k : V} {r : Option (Nat × V)} {z : V} {i : TypeInfo} {zz : Value} (ho : o.op = .lookup ty x y ok)
    (ht : E.P.underlying ty = some (.map kt et)) (hd : E.P.underlying kt = some d) (hk : keyKind d k = true) (hx : g.evO x = some (.map p)) (hs : σ p = some (.map es c)) (hy : g.evO y = some k)
    (hf : findE k es 0 = some r) (hi : E.P.info? et = some i) (hz : i.zero = some zz) (hzv : zvO zz = some z) : Pv E N o g σ (lookR ok z r) := by
  intro β a w ha hinv
  obtain ⟨rr, arr, hu, hl, hw, hre, _, _⟩ := map_get hinv (ha.evO hx) hs
  have hkr := ha.evO hy
  have hik := isKey_of hk hkr
  have hfn := findE_now hk hkr hre hf
  have hzr := zvO_rel β hzv
  have hz0 : (zeroValue et).run E.P w = .ok zz w := by simp [zeroValue, typeInfo, hi, hz]
  cases r with
  | none =>
    have hrun : (Instr.lookup ty (.map (some rr)) (a.eval y) ok).run E.P w = .ok (if ok then .tuple #[zz, .bool false] else zz) w := by
      simp [Instr.lookup, run_underlying ht, MapKept.run_getObj_map hw, MapKept.run_checkKey hd hik, MapKept.run_findKey hd hfn, Result.andThen, hz0]
    refine ⟨if ok then .tuple #[zz, .bool false] else zz, by simp [execOp, ho, hu, hrun], ?_⟩
    cases ok
    · exact hzr
    · exact tup2 hzr
  | some jv =>
    obtain ⟨j, v⟩ := jv
    obtain ⟨m, x', q1, _, _, _, _, _, q7⟩ := hfn
    have hrun : (Instr.lookup ty (.map (some rr)) (a.eval y) ok).run E.P w = .ok (if ok then .tuple #[m.val, .bool true] else m.val) w := by
      simp [Instr.lookup, run_underlying ht, MapKept.run_getObj_map hw, MapKept.run_checkKey hd hik, MapKept.run_findKey hd q1, Result.andThen]
    refine ⟨if ok then .tuple #[m.val, .bool true] else m.val, by simp [execOp, ho, hu, hrun], ?_⟩
    cases ok
    · exact q7
    · exact tup2 q7

/-- A map's contents turn. -/
theorem Inv.setMap (hi : Inv E β σ w) {p r : Nat} {es es' : List (V × V × Nat)} {c c' : Nat} {a' : Array MapEntry} (hs : σ p = some (.map es c)) (hl : β.loc p = some (.map r)) (hw : ∃ a, w.heap[r]? = some (.map a c))
    (hre : RelE β es' a'.toList) (hb : ∀ (i : Nat) (x : V × V × Nat), es'[i]? = some x → x.2.2 < c') (hn : (es'.map (·.2.2)).Nodup) :
    Inv E β (σ.set p (.map es' c')) { w with heap := w.heap.setIfInBounds r (.map a' c') } := by
  obtain ⟨a, hw⟩ := hw
  have h1 := (heap_set (o' := .map a' c') hw).1
  have h2 := (heap_set (o' := .map a' c') hw).2
  refine hi.setObj hs rfl hl rfl rfl rfl rfl (by simp) (fun k _ hne => h2 k hne) ?_
  simp only [ORel]
  refine ⟨a', h1, by simpa using hre.1, fun i x hx => ?_, hn⟩
  obtain ⟨m, q1, q2, q3, q4⟩ := hre.2 i x hx
  exact ⟨m, by simpa using q1, q2, q3, q4, hb i x hx⟩

theorem RelE.push {es : List (V × V × Nat)} {ms : List MapEntry} (h : RelE β es ms) {k v : V} {b : Nat} {uk uv : Value} (hk : Rel β k uk) (hv : Rel β v uv) : RelE β (es ++ [(k, v, b)]) (ms ++ [{ key := uk, val := uv, born := b }]) := by
  refine ⟨by simp [h.1], fun i x hx => ?_⟩
  rw [List.getElem?_append] at hx
  split at hx
  · rename_i hlt
    obtain ⟨m, q1, q2⟩ := h.2 i x hx
    exact ⟨m, by rw [List.getElem?_append_left (by rw [h.1]; exact hlt)]; exact q1, q2⟩
  · rename_i hge
    have hi0 : i - es.length = 0 := by
      have := (List.getElem?_eq_some_iff.1 hx).1
      simp at this; omega
    rw [hi0] at hx
    simp only [List.getElem?_cons_zero, Option.some.injEq] at hx
    subst hx
    exact ⟨_, by rw [List.getElem?_append_right (by rw [h.1]; omega), h.1, hi0]; rfl, hk, hv, rfl⟩

theorem i_mapSet {ty kt et : TypeId} {d : TypeDesc} {x y z : Operand} {p c n : Nat} {es : List (V × V × Nat)} {k v : V} {r : Option (Nat × V)} {K : V → St → Nat → Prop} (ho : o.op = .mapUpdate ty x y z ∨ o.op = .insert ty x y z)
    (ht : E.P.underlying ty = some (.map kt et)) (hd : E.P.underlying kt = some d) (hk : keyKind d k = true) (hx : g.evO x = some (.map p)) (hs : σ p = some (.map es c)) (hy : g.evO y = some k) (hz : g.evO z = some v)
    (hf : findE k es 0 = some r)
    (hK : K .junk (σ.set p (match r with | some (i, _) => .map (es.modify i fun e => (e.1, v, e.2.2)) c | none => .map (es ++ [(k, v, c)]) (c + 1))) n) : OpI E N o g σ n K := by
  refine OpI.of_skip fun β a w ha hinv hn => ?_
  subst hn
  obtain ⟨rr, arr, hu, hl, hw, hre, hlt, hnd⟩ := map_get hinv (ha.evO hx) hs
  have hkr := ha.evO hy
  have hvr := ha.evO hz
  have hik := isKey_of hk hkr
  have hfn := findE_now hk hkr hre hf
  have hex : ∀ w', (Instr.mapUpdate ty (.map (some rr)) (a.eval y) (a.eval z)).run E.P w = .ok () w' → (execOp a.eval o).run E.P w = .ok .skip w' := by
    intro w' h
    rcases ho with ho | ho <;> simp [execOp, ho, hu, h]
  cases r with
  | none =>
    refine ⟨{ w with heap := w.heap.setIfInBounds rr (.map (arr.push { key := a.eval y, val := a.eval z, born := c }) (c + 1)) }, β, _, hex _ ?_, .refl β, .refl β, ?_, hK⟩
    · simp [Instr.mapUpdate, run_underlying ht, MapKept.run_getObj_map hw, MapKept.run_checkKey hd hik, MapKept.run_findKey hd hfn, MapKept.run_setObj_map _ hw, Result.andThen]
    · refine hinv.setMap hs hl ⟨_, hw⟩ (by simpa using hre.push hkr hvr) (fun i x hx => ?_) ?_
      · rw [List.getElem?_append] at hx
        split at hx
        · have := hlt i x hx; omega
        · have hx := List.mem_of_getElem? hx
          simp at hx; subst hx; simp
      · simp only [List.map_append, List.map_cons, List.map_nil]
        rw [List.nodup_append]
        refine ⟨hnd, by simp, fun b hb b' hb' => ?_⟩
        simp only [List.mem_singleton] at hb'
        subst hb'
        obtain ⟨x, hx, rfl⟩ := List.mem_map.1 hb
        obtain ⟨i, hi⟩ := List.getElem?_of_mem hx
        have := hlt i x hi
        omega
  | some jv =>
    obtain ⟨j, v0⟩ := jv
    obtain ⟨m, x', q1, _, q3, q4, q5, _, _⟩ := hfn
    rw [Nat.sub_zero] at q3 q4
    have hj : arr[j]? = some m := by simpa using q3
    have hmk : m.key = a.eval y := by
      obtain ⟨m2, w1, w2, _, _⟩ := hre.2 j x' q4
      rw [q3] at w1; cases w1
      rw [q5] at w2
      unfold keyKind at hk
      split at hk
      · rw [w2.str_inv, hkr.str_inv]
      · rw [w2.int_inv, hkr.int_inv]
      · cases hk
    refine ⟨{ w with heap := w.heap.setIfInBounds rr (.map (arr.modify j fun e => { e with key := a.eval y, val := a.eval z }) c) }, β, _, hex _ ?_, .refl β, .refl β, ?_, hK⟩
    · simp [Instr.mapUpdate, run_underlying ht, MapKept.run_getObj_map hw, MapKept.run_checkKey hd hik, MapKept.run_findKey hd q1, hj, hmk, MapKept.run_keyThatStays hik, MapKept.run_setObj_map _ hw, Result.andThen]
    · refine hinv.setMap hs hl ⟨_, hw⟩ ?_ (fun i x hx => ?_) ?_
      · refine ⟨by simp [hre.1, List.length_modify], fun i x hx => ?_⟩
        rw [Array.toList_modify]
        rw [List.getElem?_modify] at hx ⊢
        cases hei : es[i]? with
        | none => rw [hei] at hx; simp at hx
        | some e =>
          obtain ⟨m2, w1, w2, w3, w4⟩ := hre.2 i e hei
          rw [hei] at hx
          rw [w1]
          by_cases hij : j = i
          · subst hij
            simp at hx ⊢
            subst hx
            rw [q4] at hei; cases hei
            rw [q5]
            exact ⟨hkr, hvr, w4⟩
          · simp [hij] at hx ⊢
            subst hx
            exact ⟨w2, w3, w4⟩
      · rw [List.getElem?_modify] at hx
        cases hei : es[i]? with
        | none => rw [hei] at hx; simp at hx
        | some e =>
          rw [hei] at hx
          have := hlt i e hei
          by_cases hij : j = i
          · simp [hij] at hx; subst hx; exact this
          · simp [hij] at hx; subst hx; exact this
      · have : (es.modify j fun e => (e.1, v, e.2.2)).map (·.2.2) = es.map (·.2.2) := by
          refine List.ext_getElem? fun i => ?_
          simp only [List.getElem?_map, List.getElem?_modify]
          cases es[i]? with
          | none => simp
          | some e => by_cases hij : j = i <;> simp [hij]
        rw [this]; exact hnd

theorem i_delete {kt et ty : TypeId} {ts : Array TypeId} {d : TypeDesc} {x y : Operand} {p c n : Nat} {es : List (V × V × Nat)} {k : V} {r : Option (Nat × V)} {K : V → St → Nat → Prop}
    (ho : o.op = .call { callee := .builtin .delete, args := #[x, y], argTypes := ts }) (hts : ts[0]? = some ty)
    (ht : E.P.underlying ty = some (.map kt et)) (hd : E.P.underlying kt = some d) (hk : keyKind d k = true) (hx : g.evO x = some (.map p)) (hs : σ p = some (.map es c)) (hy : g.evO y = some k)
    (hf : findE k es 0 = some r)
    (hK : K (.tuple []) (σ.set p (match r with | some (i, _) => .map (es.eraseIdx i) c | none => .map es c)) n) : OpI E N o g σ n K := by
  refine OpI.of_value fun β a w ha hinv hn => ?_
  subst hn
  obtain ⟨rr, arr, hu, hl, hw, hre, hlt, hnd⟩ := map_get hinv (ha.evO hx) hs
  have hkr := ha.evO hy
  have hik := isKey_of hk hkr
  have hfn := findE_now hk hkr hre hf
  have htup : Rel β (.tuple []) (.tuple #[]) := .tuple [] #[] rfl (fun i x h => by simp at h)
  cases r with
  | none =>
    refine ⟨.tuple #[], { w with heap := w.heap.setIfInBounds rr (.map arr c) }, β, .tuple [], _, ?_, .refl β, .refl β, htup, hinv.setMap hs hl ⟨_, hw⟩ hre hlt hnd, hK⟩
    simp [execOp, ho, resolve, invoke, Go.builtin, hu, Builtin.delete_, hts, run_underlying ht, MapKept.run_getObj_map hw, MapKept.run_checkKey hd hik, MapKept.run_findKey hd hfn, MapKept.run_setObj_map _ hw, Result.andThen]
  | some jv =>
    obtain ⟨j, v0⟩ := jv
    obtain ⟨m, x', q1, _, q3, q4, q5, _, _⟩ := hfn
    rw [Nat.sub_zero] at q3 q4
    have hjl : j < arr.size := by have := (List.getElem?_eq_some_iff.1 q3).1; simpa using this
    refine ⟨.tuple #[], { w with heap := w.heap.setIfInBounds rr (.map (arr.eraseIdxIfInBounds j) c) }, β, .tuple [], _, ?_, .refl β, .refl β, htup, hinv.setMap hs hl ⟨_, hw⟩ ?_ (fun i x hx => ?_) ?_, hK⟩
    · simp [execOp, ho, resolve, invoke, Go.builtin, hu, Builtin.delete_, hts, run_underlying ht, MapKept.run_getObj_map hw, MapKept.run_checkKey hd hik, MapKept.run_findKey hd q1, MapKept.run_setObj_map _ hw, Result.andThen]
    · have he : (arr.eraseIdxIfInBounds j).toList = arr.toList.eraseIdx j := by simp [Array.eraseIdxIfInBounds, hjl]
      rw [he]
      refine ⟨by simp [List.length_eraseIdx, hre.1], fun i x hx => ?_⟩
      rw [List.getElem?_eraseIdx] at hx ⊢
      split at hx
      · rename_i h; rw [if_pos h]; exact hre.2 _ _ hx
      · rename_i h; rw [if_neg h]; exact hre.2 _ _ hx
    · rw [List.getElem?_eraseIdx] at hx
      split at hx <;> exact hlt _ _ hx
    · have : ((es.eraseIdx j).map (·.2.2)).Sublist (es.map (·.2.2)) := (List.eraseIdx_sublist _ _).map _
      exact hnd.sublist this

theorem i_makeMap {ty : TypeId} {n : Nat} {K : V → St → Nat → Prop} (ho : o.op = .makeMap ty none) (k : K (.map n) (σ.set n (.map [] 0)) (n + 1)) : OpI E N o g σ n K := by
  refine OpI.of_value fun β a w ha hi hn => ?_
  subst hn
  have hp := hi.next β.next (Nat.le_refl _)
  have hg := hi.grew (Grew.alloc w (.map #[] 0))
  have hn := hg.addObj hp (.map [] 0) (.map w.heap.size) (by
    simp only [ORel]
    exact ⟨#[], heap_new w _, rfl, fun i x hx => by simp at hx, by simp⟩) (fun r hr => by
    simp only [Loc.block?, Option.some.injEq] at hr
    subst hr
    obtain ⟨q1, q2, q3⟩ := hi.new_free (Nat.le_refl _)
    exact ⟨q1, fun _ => q2, q3⟩)
  refine ⟨.map (some w.heap.size), _, _, .map β.next, _, ?_, Gh.addObj_le hp _, Gh.addObj_keep _, .map _ _ (by simp [Gh.addObj]), hn, by rw [Gh.addObj_next]; exact k⟩
  simp [execOp, ho, Instr.makeMap]

/-! Globals. -/

theorem p_indexGlob {t len esz k : Nat} {x y : Operand} {cs : List V} {kk : IntKind} {n : Int} {v : V} (ho : o.op = .indexAddr t x y) (ht : TArr E.P t len esz) (hx : g.evO x = some (.glob k)) (hgl : E.gl k = some cs) (hy : g.evO y = some (.int kk n))
    (h0 : 0 ≤ n) (h1 : n < len) (h2 : n.toNat * esz ≤ cs.length) (hv : some (V.rptr (cs.drop (n.toNat * esz))) = some v) : Pv E N o g σ v := by
  intro β a w ha hi
  cases hv
  obtain ⟨e, hu, i, hin, hsz⟩ := ht.get
  have hn := (ha.evO hy).int_inv
  have h := ha.evO hx
  have hrp := hi.gl k cs hgl
  generalize hux : a.eval x = u at h
  cases h with
  | glob _ =>
    cases hrp with
    | rptr _ b off cells hro hs hc =>
      refine ⟨_, ?_, .rptr _ k (0 + n.toNat * esz) cells hro (by simp; omega) fun i x hx => ?_⟩
      · have : 0 ≤ n ∧ n < (len : Int) := ⟨h0, h1⟩
        simp [execOp, ho, hux, hn, Instr.indexAt, asIntOf, run_underlying hu, sizeOf, typeInfo, hin, hsz, Instr.sureAddr, this, addr_add]
      · rw [List.getElem?_drop] at hx
        have := hc _ _ hx
        rwa [show 0 + n.toNat * esz + i = 0 + (n.toNat * esz + i) by omega]

/-! What is left of conversions. -/

theorem p_convStr {s d : TypeId} {x : Operand} {bs : List UInt8} (ho : o.op = .convert s d x) (hs : E.P.underlying s = some .string) (hd : E.P.underlying d = some .string) (hx : g.evO x = some (.str bs)) : Pv E N o g σ (.str bs) := by
  intro β a w ha _
  have := (ha.evO hx).str_inv
  refine ⟨a.eval x, ?_, ha.evO hx⟩
  simp [execOp, ho, Go.convert, run_underlying hs, run_underlying hd, this]

theorem pointee_of {P : Program} {t e : TypeId} (h : P.underlying t = some (.pointer e)) : P.underlying t = some (.pointer (P.pointee t)) := by
  rw [h]; simp [Program.pointee, h]

theorem p_eqnilp {t u e : TypeId} {x y : Operand} {v : V} {b : Bool} (ho : o.op = .binOp .eql t x y u) (ht : E.P.underlying t = some (.pointer e)) (hx : g.evO x = some v) (hy : g.evO y = some .nilp)
    (hb : (match v with | .ptr _ _ => some false | .rptr _ => some false | .nilp => some true | _ => none) = some b) : Pv E N o g σ (.bool b) := by
  intro β a w ha hi
  have h := ha.evO hx
  have h2 := ha.evO hy
  generalize hu : a.eval x = r at h
  generalize hu2 : a.eval y = r2 at h2
  cases h2
  refine ⟨.bool b, ?_, .bool _⟩
  cases h <;> simp at hb <;> subst hb <;> simp [execOp, ho, hu, hu2, Go.binOp, eqGuard, run_equal_pointer_nil _ _ _ (pointee_of ht)]

theorem p_nenilp {t u e : TypeId} {x y : Operand} {v : V} {b : Bool} (ho : o.op = .binOp .neq t x y u) (ht : E.P.underlying t = some (.pointer e)) (hx : g.evO x = some v) (hy : g.evO y = some .nilp)
    (hb : (match v with | .ptr _ _ => some true | .rptr _ => some true | .nilp => some false | _ => none) = some b) : Pv E N o g σ (.bool b) := by
  intro β a w ha hi
  have h := ha.evO hx
  have h2 := ha.evO hy
  generalize hu : a.eval x = r at h
  generalize hu2 : a.eval y = r2 at h2
  cases h2
  refine ⟨.bool b, ?_, .bool _⟩
  cases h <;> simp at hb <;> subst hb <;> simp [execOp, ho, hu, hu2, Go.binOp, eqGuard, run_equal_pointer_nil _ _ _ (pointee_of ht)]

/-- An array's value. -/
theorem p_buildArr {t e len sz : Nat} {zs : List V} {xs : Array (Nat × Operand)} {ps : List (Nat × V)} {cs : List V} {i : TypeInfo} (ho : o.op = .build t xs) (hu : E.P.underlying t = some (.array len e)) (hz : tyZero E.P t = some zs)
    (hi : E.P.info? e = some i) (hsz : i.size = sz) {M : Nat}
    (hp : evP g xs.toList = some ps) (h1 : (ps.all fun p => p.2.cells.all V.one) = true) (hM : (ps.all fun p => Nat.blt p.1 M) = true) (hf : fillO ((List.range M).map fun k => (k * sz, sz)) zs ps = some cs) : Pv E N o g σ (.agg cs) := by
  intro β a w ha hinv
  obtain ⟨z, hz1, hz2⟩ := TZero.get ⟨hz⟩
  obtain ⟨hlen, hrel⟩ := evP_rel ha hp
  have hpl : ∀ k, (fun k => if k < M then some (k * sz, sz) else none) k = ((List.range M).map fun k => (k * sz, sz))[k]? := by
    intro k
    by_cases hk : k < M
    · simp [hk]
    · simp [hk]
  obtain ⟨a', hfill, hra⟩ := fill_rel (β := β) (pl := fun k => if k < M then some (k * sz, sz) else none) (pll := (List.range M).map fun k => (k * sz, sz)) hpl (us := (xs.map fun (i, x) => (i, a.eval x)).toList) (by simp [hlen]) (fun i p hpp => by simpa using hrel i p hpp)
    (fun p hpp => by rw [List.all_eq_true] at h1; exact h1 p hpp) (hz2 β) hf
  have hsame : ∀ (l : List (Nat × Value)) (c c' : Array Value), (∀ p ∈ l, p.1 < M) → Instr.fill (fun k => if k < M then some (k * sz, sz) else none) c l = some c' → Instr.fill (fun k => some (k * sz, sz)) c l = some c' := by
    intro l
    induction l with
    | nil => intro c c' _ h; exact h
    | cons p l ih =>
      intro c c' hp h
      obtain ⟨k, v⟩ := p
      have hk : k < M := hp (k, v) (by simp)
      simp only [Instr.fill, hk, if_true] at h ⊢
      split at h
      · cases h
      · rename_i hc; rw [if_neg hc]; exact ih _ _ (fun p hp' => hp p (by simp [hp'])) h
  have hfill2 := hsame _ _ _ (fun p hpp => by
    obtain ⟨j, hj⟩ := List.getElem?_of_mem hpp
    have hjl : j < ps.length := by
      have := (List.getElem?_eq_some_iff.1 hj).1
      have h2 : xs.toList.length = xs.size := Array.length_toList
      simp at this; omega
    obtain ⟨u, hu1, hu2, _⟩ := hrel j ps[j] (List.getElem?_eq_getElem hjl)
    have hj' : (xs.toList.map fun (i, x) => (i, a.eval x))[j]? = some p := by simpa using hj
    rw [hj'] at hu1
    cases hu1
    rw [hu2]
    rw [List.all_eq_true] at hM
    exact Nat.le_of_ble_eq_true (by simpa [Nat.blt] using hM ps[j] (List.getElem_mem hjl))) hfill
  refine ⟨.agg a', ?_, ?_⟩
  · have hfill3 : Instr.fill (fun x => some (x * sz, sz)) z.cells (List.map (fun x => (x.fst, a.eval x.snd)) xs.toList) = some a' := by simpa using hfill2
    simp [execOp, ho, Instr.build, hz1, run_underlying hu, sizeOf, typeInfo, hi, hsz, hfill3]
  · have := RelL.agg hra
    simpa using this

/-- A block's mark turns. -/
theorem Inv.marked (hi : Inv E β σ w) {b : Nat} {cur : Array Value} {e : TypeId} {fr fr' : Nat × Nat} {w' : World} (hw : w.heap[b]? = some (.cells cur e fr)) (hB : E.B ≤ b)
    (hos : w'.os = w.os) (ht : w'.tape = w.tape) (hout : w'.output = w.output) (hsz : w'.heap.size = w.heap.size) (hne : ∀ k, k ≠ b → w'.heap[k]? = w.heap[k]?) (hb : w'.heap[b]? = some (.cells cur e fr'))
    (hfree : ∀ o y l', σ o = some y → β.loc o = some l' → l'.block? ≠ some b) : Inv E β σ w' := by
  refine ⟨hi.below.trans ⟨hos, ht, hout, by omega, fun k hk => hne k (by omega)⟩, by rw [hsz]; exact hi.base, ?_, ?_, hi.owner, hi.next, hi.gl⟩
  · intro k c hk
    by_cases hkb : k = b
    · subst hkb
      obtain ⟨arr, e', fr2, q1, q2⟩ := hi.ro k c hk
      rw [hw] at q1; cases q1
      exact ⟨_, _, _, hb, q2⟩
    · rw [hne k hkb]; exact hi.ro k c hk
  · intro o x hx
    obtain ⟨l, hl, ho⟩ := hi.obj o x hx
    exact ⟨l, hl, ho.same fun r hr => hne r fun e => hfree o x l hx hl (by rw [hr, e])⟩

/-- []byte of a text that is told: a slice of bytes gets its mark, and is not appended to any more. -/
theorem i_convMark {t : TypeId} {x : Operand} {bs : List UInt8} {p n : Nat} {K : V → St → Nat → Prop} (ho : o.op = .convert t t x) (ht : E.P.underlying t = some (.slice E.byteT)) (he : E.P.underlying E.byteT = some (.int .u8))
    (hx : g.evO x = some (.obytes bs p)) (hs : σ p = some (.tok E.byteT 1 bs.length)) (hne : bs ≠ []) (k : K (.bytes bs) (σ.del p) n) : OpI E N o g σ n K := by
  refine OpI.of_value fun β a w ha hi hn => ?_
  subst hn
  obtain ⟨l, hl, hor⟩ := hi.obj p _ hs
  have hr := ha.evO hx
  generalize hux : a.eval x = u at hr
  cases hr with
  | obytes _ _ b c _ hl' hu hb =>
    subst hu
    rw [hl] at hl'; cases hl'
    simp only [ORel] at hor
    obtain ⟨_, us, hown, hro⟩ := hor
    rcases ownsRow_inv hown with ⟨_, h0, _⟩ | ⟨r, cur, rfl, _, _, hB, hw, hsz, _⟩
    · exact absurd (List.eq_nil_of_length_eq_zero h0) hne
    · have hlt : r < w.heap.size := (Array.getElem?_eq_some_iff.1 hw).1
      refine ⟨sliceAt (some r) bs.length c, w.freeze { block := r, off := cur.size } 1, β, .bytes bs, _, ?_, .refl β, .refl β, hb, (hi.weak (St.del_sub σ p)).marked hw hB rfl rfl rfl ?_ ?_ (fr' := (cur.size, cur.size + 1)) ?_ ?_, k⟩
      · have hm : (markStringish ⟨r, 0, none⟩).run E.P w = .ok () (w.freeze { block := r, off := cur.size } 1) := by
          simp [markStringish, shape, Sem.run, World.shape?, hw, freeze]
        simp [execOp, ho, hux, Go.convert, run_underlying ht, run_underlying he, sliceAt, hm]
      · simp [World.freeze]
      · intro k hk; simp [World.freeze, Array.getElem?_modify, Ne.symm hk]
      · simp [World.freeze, Array.getElem?_modify, hw]
      · intro o y l' hy hl2 hbb
        have hne : o ≠ p := fun e => by subst e; rw [St.del_same] at hy; cases hy
        rw [St.del_ne hne] at hy
        have h1 := (hi.owner o y l' r hy hl2 hbb).2.1
        have h2 := (hi.owner p _ _ r hs hl rfl).2.1
        rw [h1] at h2
        exact hne (Option.some.inj h2)

/-- The literal of a slice of bytes, with its token. -/
theorem i_bytesLitT {n : Nat} {t : TypeId} {by' len : Nat} {zs : List V} {ps : Array (Nat × Operand)} {bs : List UInt8} {K : V → St → Nat → Prop} (ho : o.op = .buildSlice t len ps) (ht : E.P.underlying t = some (.slice E.byteT)) (he : TElem E.P E.byteT 1 by' zs)
    (hv : evElems g 0 ps.toList = some (bs.map fun b => .int .u8 b.toNat)) (hl : bs.length = len) (hn : ps.size = len) (hsm : len ≤ 16777216) (hpos : 0 < len) (k : K (.obytes bs n) (σ.set n (.tok E.byteT 1 bs.length)) (n + 1)) : OpI E N o g σ n K := by
  refine OpI.of_value fun β a w ha hi hnx => ?_
  subst hnx
  obtain ⟨cells, hrun, hr⟩ := buildSlice_any ho ht he hv (by simp [hl]) hn (fun v hv => by
    obtain ⟨b, _, rfl⟩ := List.mem_map.1 hv; exact ⟨rfl, rfl⟩) (by omega) (by omega) ha hi
  have hi2 := hi.grew (Grew.alloc w (.cells cells E.byteT))
  have hfree := hi.new_free (Nat.le_refl _)
  have hle := Gh.addRo_new (c := cells.toList) hfree.2.1
  have hi3 := hi2.addRo (heap_new w _) (List.prefix_refl _) (fun d hd => by rw [hfree.2.1] at hd; cases hd) hfree.2.2
  have hp := hi3.next β.next (Nat.le_refl _)
  have hcl : cells.toList.length = bs.length := by have := hr.1; rw [flat_bytes] at this; simpa using this
  have hcb : ∀ (i : Nat) (x : UInt8), bs[i]? = some x → cells.toList[i]? = some (byteV x) := by
    intro i x hx
    have hf : (flat (bs.map fun b => V.int .u8 b.toNat))[i]? = some (.int .u8 x.toNat) := by
      rw [flat_bytes]; simp [hx]
    obtain ⟨u, hu, hrel⟩ := hr.get hf
    have := hrel.int_inv
    subst this
    exact hu
  have hi4 := hi3.addObj hp (.tok E.byteT 1 bs.length) (.sl (some w.heap.size) bs.length bs.length) (by
    simp only [ORel]
    refine ⟨trivial, cells.toList, ⟨by omega, .inr ⟨w.heap.size, bs.length, cells, rfl, hi.base, heap_new w _, Nat.le_refl _, by unfold maxLen; omega, by simpa using hcl, by rw [List.take_of_length_le (by omega)]⟩⟩, fun r hr => ?_⟩
    cases hr; simp [Gh.addObj, Gh.addRo]) (fun r hr => by
    simp only [Loc.block?, Option.some.injEq] at hr
    subst hr
    exact ⟨hfree.1, (fun h => by simp [O.isTok] at h), hfree.2.2⟩)
  refine ⟨_, _, (β.addRo w.heap.size cells.toList).addObj β.next (.sl (some w.heap.size) bs.length bs.length), .obytes bs β.next, _, hrun, hle.trans (Gh.addObj_le hp _), (Gh.addRo_keep _ _).trans (Gh.addObj_keep (β := β.addRo w.heap.size cells.toList) _), ?_, hi4, by
    have hx : ((β.addRo w.heap.size cells.toList).addObj β.next (.sl (some w.heap.size) bs.length bs.length)).next = β.next + 1 := Gh.addObj_next (β := β.addRo w.heap.size cells.toList) _
    rw [hx]; exact k⟩
  rw [← hl]
  refine .obytes bs _ (some w.heap.size) bs.length _ (by simp [Gh.addObj]) rfl (.bytes bs _ 0 _ cells.toList (Nat.le_refl _) (by simp [Gh.addObj, Gh.addRo]) fun i x hx => ?_)
  rw [Nat.zero_add]; exact hcb i x hx

/-- make of bytes, not to be written to. -/
theorem i_makeBytes {n : Nat} {t : TypeId} {x y : Operand} {k k' : IntKind} {m c : Int} {K : V → St → Nat → Prop} (ho : o.op = .makeSlice t x y) (ht : E.P.underlying t = some (.slice E.byteT)) (he : TElem E.P E.byteT 1 1 [.int .u8 0])
    (hx : g.evO x = some (.int k m)) (hy : g.evO y = some (.int k' c)) (h0 : 0 ≤ m) (h1 : m ≤ c) (h2 : c ≤ 16777216) (hK : K (.bytes (List.replicate m.toNat 0)) σ n) : OpI E N o g σ n K := by
  refine OpI.of_value fun β a w ha hi hnx => ?_
  subst hnx
  obtain ⟨i, z, hin, hz, hsz, hby, hzs, hzl⟩ := he.get
  have hxe := (ha.evO hx).int_inv
  have hye := (ha.evO hy).int_inv
  have hwm : IntKind.i64.wrap m = m := by simp [IntKind.wrap, IntKind.bits, IntKind.signed]; omega
  have hwc : IntKind.i64.wrap c = c := by simp [IntKind.wrap, IntKind.bits, IntKind.signed]; omega
  have hzc : z.cells.toList = [.int .u8 0] := by
    have hr := cvL_rel (β := β) hzl
    match hzz : z.cells.toList, hr with
    | [u], hr => have := hr.2 0 _ rfl; simp [List.getD] at this; rw [this.int_inv]
    | [], hr => have := hr.1; simp at this
    | _ :: _ :: _, hr => have := hr.1; simp at this
  have hcells : ∀ j, j < c.toNat → ((Array.range c.toNat).map (z.cells[· % z.cells.size]!))[j]? = some (byteV 0) := by
    intro j hj
    have hzs1 : z.cells.size = 1 := by rw [hzs, hsz]
    have hz0 : z.cells[0]! = byteV 0 := by
      have : z.cells[0]? = some (byteV 0) := by rw [← Array.getElem?_toList, hzc]; rfl
      rw [getElem!_def, this]
    simp only [Array.getElem?_map, Array.getElem?_range, hj, if_true, Option.map_some, hzs1, Nat.mod_one]
    rw [hz0]
  generalize hrow : (Array.range c.toNat).map (z.cells[· % z.cells.size]!) = row at hcells
  have hrun : (execOp a.eval o).run E.P w = .ok (.value (.slice (some ⟨w.heap.size, 0, none⟩) m.toNat c.toNat)) (w.alloc (.cells row E.byteT)) := by
    have q1 : ¬ c < 0 := by omega
    have q2 : ¬ 281474976710656 < c := by omega
    have q3 : ¬ m < 0 := by omega
    have q4 : ¬ c < m := by omega
    have q5 : ¬ (roomBytes < c.toNat) := by unfold roomBytes; omega
    simp only [execOp, ho, hxe, hye, Instr.makeSlice, Sem.run_bind, run_underlying ht, Result.andThen_ok, asInt, asIntOf, typeInfo, run_program, hin, Sem.run_pure, hby, hwm, hwc, sizeOf, zeroValue]
    simp [q1, q2, q3, q4, askRoom, q5, newRow]
    by_cases hc : c.toNat = 0
    · have : row = #[] := by rw [← hrow, hc]; simp
      have e0 : ∀ f : Nat → Value, Array.map f (Array.range 0) = #[] := fun f => by simp [Array.range]
      simp [hc, this, hin, e0]
    · simp [hc, hin, hz, hsz, hrow]
  have hi2 := hi.grew (Grew.alloc w (.cells row E.byteT))
  have hfree := hi.new_free (Nat.le_refl _)
  have hle := Gh.addRo_new (c := row.toList) hfree.2.1
  refine ⟨_, _, β.addRo w.heap.size row.toList, .bytes (List.replicate m.toNat 0), σ, hrun, hle, Gh.addRo_keep _ _, ?_, hi2.addRo (heap_new w _) (List.prefix_refl _) (fun d hd => by rw [hfree.2.1] at hd; cases hd) hfree.2.2, hK⟩
  have hb := Rel.bytes (β := β.addRo w.heap.size row.toList) (List.replicate m.toNat 0) w.heap.size 0 c.toNat row.toList (by simp; omega) (by simp [Gh.addRo]) (fun i x hx => by
    rw [List.getElem?_replicate] at hx
    split at hx
    · cases hx
      rw [Nat.zero_add, Array.getElem?_toList]
      exact hcells i (by omega)
    · cases hx)
  simpa using hb

end
end Go.Vam

/- Vam: an interpreter over abstract values. -/
namespace Go.Vam
open Go Go.RowKit

/-! Temporaries as a tree: small, and quick in the kernel. -/

inductive Tr where
  | l
  | n (a : Tr) (v : V) (b : Tr)

def Tr.get : Tr → Nat → V
  | .l, _ => .junk
  | .n a v b, i => cond (Nat.beq i 0) v (cond (Nat.beq (i % 2) 1) (a.get (i / 2)) (b.get (i / 2 - 1)))

def Tr.set : Tr → Nat → V → Tr
  | .l, _, _ => .l
  | .n a v b, i, x => cond (Nat.beq i 0) (.n a x b) (cond (Nat.beq (i % 2) 1) (.n (a.set (i / 2) x) v b) (.n a v (b.set (i / 2 - 1) x)))

def Tr.mk : Nat → Tr
  | 0 => .l
  | d + 1 => .n (Tr.mk d) .junk (Tr.mk d)

/-- What is known of a type. -/
structure TyI where
  u : TypeDesc
  size : Nat
  bytes : Nat
  zero : Option (List V)
  zv : Option V
  flds : List (Nat × Nat)
  cmp : Bool

def TyI.of (P : Program) (t : TypeId) : Option TyI :=
  match P.underlying t, P.info? t with
  | some u, some i => some {
      u, size := i.size, bytes := i.bytes,
      zero := match i.zero with
        | some z => cond (Nat.beq z.cells.size i.size) (cvL z.cells.toList) none
        | none => none
      zv := match i.zero with
        | some z => zvO z
        | none => none
      flds := (placesOf P t).getD []
      cmp := i.comparable }
  | _, _ => none

/-- A method that a type has itself: its function, and what the receiver is read as. -/
def methOf (P : Program) (t : TypeId) (name : String) : Option (FuncId × Option TypeId) :=
  match P.info? t with
  | some ti => match ti.methods.find? (·.name == name) with
    | some m => cond m.path.isEmpty (match m.func, P.underlying t with
      | some (f, pr), some (.pointer e) => cond pr (some (f, none)) (some (f, some e))
      | some (f, pr), some _ => cond pr none (some (f, none))
      | _, _ => none) none
    | none => none
  | none => none

/-- The heap: objects by number, and the next number. -/
structure Hp where
  os : List (Nat × O)
  n : Nat

def hget : List (Nat × O) → Nat → Option O
  | [], _ => none
  | (i, x) :: r, o => cond (Nat.beq i o) (some x) (hget r o)

def hset : List (Nat × O) → Nat → O → List (Nat × O)
  | [], o, y => [(o, y)]
  | (i, x) :: r, o, y => cond (Nat.beq i o) ((i, y) :: r) ((i, x) :: hset r o y)

def hdel : List (Nat × O) → Nat → List (Nat × O)
  | [], _ => []
  | (i, x) :: r, o => cond (Nat.beq i o) (hdel r o) ((i, x) :: hdel r o)

/-- What the interpreter reads of the program. -/
structure Pr where
  ty : TypeId → Option TyI
  fn : FuncId → Option Func
  gl : Nat → Option (List V)
  byteT : TypeId
  sm : FuncId → List V → Hp → Option (V × Hp)
  mt : TypeId → Bool
  me : TypeId → String → Option (FuncId × Option TypeId)

section
variable (R : Pr)

def ev (t : Nat → V) : Operand → Option V
  | .tmp i => some (t i)
  | .const v => cvO v
  | .global k => some (.glob k)
  | .func f => some (.func f [])

def evs (t : Nat → V) : List Operand → Option (List V)
  | [] => some []
  | x :: r => match ev t x, evs t r with
    | some v, some l => some (v :: l)
    | _, _ => none

def isAggD : TypeDesc → Bool
  | .struct _ => true
  | .array _ _ => true
  | _ => false

def binInt (op : BinOp) (k : IntKind) (m : Int) (k' : IntKind) (n : Int) : Option V :=
  match op with
  | .shl => cond (decide (0 ≤ n)) (some (.int k (k.wrap (m * 2 ^ (min n.toNat k.bits))))) none
  | .shr => cond (decide (0 ≤ n)) (some (.int k (m.fdiv (2 ^ (min n.toNat k.bits))))) none
  | .quo => cond (kEq k k' && decide (n ≠ 0)) (some (.int k (k.wrap (m.tdiv n)))) none
  | .rem => cond (kEq k k' && decide (n ≠ 0)) (some (.int k (m.tmod n))) none
  | op => cond (kEq k k') (binI op k m n) none

def binStr (op : BinOp) (m n : List UInt8) : Option V :=
  match op with
  | .eql => some (.bool (decide (m = n)))
  | .neq => some (.bool (!(decide (m = n))))
  | .lss => some (.bool (Op.bytesLess m n))
  | .gtr => some (.bool (!(Op.bytesLess m n || decide (m = n))))
  | .add => cond (Nat.ble (m.length + n.length) 9223372036854775807) (some (.str (m ++ n))) none
  | _ => none

def isNilI (c : Bool) : V → Option Bool
  | .iface _ _ => some false
  | .nili => cond c (some true) none
  | _ => none

def isConst : Operand → Bool
  | .const _ => true
  | _ => false

def isNilP : V → Option Bool
  | .ptr _ _ => some false
  | .rptr _ => some false
  | .nilp => some true
  | _ => none

def bin (c : Bool) (op : BinOp) (ty : TypeId) (x y : V) : Option V :=
  match x, y with
  | .int k m, .int k' n => binInt op k m k' n
  | .str m, .str n => binStr op m n
  | .bool m, .bool n => match R.ty ty with
    | some ⟨.bool, _, _, _, _, _, _⟩ => match op with
      | .eql => some (.bool (m == n))
      | .neq => some (.bool (m != n))
      | _ => none
    | _ => none
  | x, .nilp => match R.ty ty with
    | some ⟨.pointer _, _, _, _, _, _, _⟩ => match isNilP x with
      | some b => match op with
        | .eql => some (.bool b)
        | .neq => some (.bool (!b))
        | _ => none
      | none => none
    | _ => none
  | .iface s (.int k m), .iface s' (.int k' n) => match R.ty ty, R.ty s with
    | some ⟨.interface _, _, _, _, _, _, _⟩, some ⟨.int _, _, _, _, _, _, cm⟩ => match op with
      | .eql => cond (kEq k k' && cm) (some (.bool (Nat.beq s s' && decide (m = n)))) none
      | .neq => cond (kEq k k' && cm) (some (.bool (!(Nat.beq s s' && decide (m = n))))) none
      | _ => none
    | _, _ => none
  | x, .nili => match R.ty ty with
    | some ⟨.interface _, _, _, _, _, _, _⟩ => match isNilI c x with
      | some b => match op with
        | .eql => some (.bool b)
        | .neq => some (.bool (!b))
        | _ => none
      | none => none
    | _ => none
  | _, _ => none

def unI (op : UnOp) (x : V) : Option V :=
  match op, x with
  | .not, .bool b => some (.bool (!b))
  | .neg, .int k n => some (.int k (k.wrap (0 - n)))
  | .xor, .int k n => some (.int k (k.wrap (BitVec.ofInt k.bits (if k.signed then -1 else k.max) ^^^ BitVec.ofInt k.bits n).toNat))
  | _, _ => none

def bnd (t : Nat → V) : Option Operand → Option (Option Int)
  | none => some none
  | some x => match ev t x with
    | some (.int _ n) => some (some n)
    | _ => none

def inB (l h : Int) (len : Nat) : Bool := decide (0 ≤ l) && (decide (l ≤ h) && decide (h ≤ len))

def cutL {α : Type} (s : List α) (l h : Option Int) : Option (List α) :=
  cond (inB (l.getD 0) (h.getD s.length) s.length) (some ((s.take (h.getD s.length).toNat).drop (l.getD 0).toNat)) none

def cutV (i : TyI) (x : V) (l h : Option Int) : Option V :=
  match i.u with
  | .string => match x with
    | .str s => match cutL s l h with
      | some r => some (.str r)
      | none => none
    | _ => none
  | .slice e => cond (Nat.beq e R.byteT)
    (match x.rdB with
      | some s => match cutL s l h with
        | some r => some (.bytes r)
        | none => none
      | none => none)
    (match R.ty e with
      | some j => match x.rdS j.size with
        | some s => match cutL s l h with
          | some r => some (.slice j.size r)
          | none => none
        | none => none
      | none => none)
  | _ => none

def lenV (i : TyI) (x : V) : Option Nat :=
  match i.u, x with
  | .string, .str s => some s.length
  | .slice _, .nils => some 0
  | .slice _, .bytes s => some s.length
  | .slice _, .obytes s _ => some s.length
  | .slice _, .slice _ s => some s.length
  | .slice _, .oslice _ s _ => some s.length
  | _, _ => none

def loadV (h : List (Nat × O)) (i : TyI) (x : V) : Option V :=
  match x with
  | .ptr p off => match hget h p with
    | some (.cells _ cs) => cond (isAggD i.u) (cond (Nat.ble (off + i.size) cs.length) (some (.agg ((cs.drop off).take i.size))) none) cs[off]?
    | some (.buf _ _ xs) => cond (isAggD i.u) (cond (Nat.ble (off + i.size) (flat xs).length) (some (.agg (((flat xs).drop off).take i.size))) none) (flat xs)[off]?
    | _ => none
  | .glob g => match R.gl g with
    | some cs => cond (isAggD i.u) (cond (Nat.ble i.size cs.length) (some (.agg (cs.take i.size))) none) cs[0]?
    | none => none
  | .rptr cs => cond (isAggD i.u) (cond (Nat.ble i.size cs.length) (some (.agg (cs.take i.size))) none) cs[0]?
  | _ => none

def idxS (e : TypeId) (x : V) (n : Nat) : Option V :=
  cond (Nat.beq e R.byteT)
  (match x.rdB with
    | some s => match s[n]? with
      | some b => some (.rptr [.int .u8 b.toNat])
      | none => none
    | none => none)
  (match R.ty e with
    | some j => match x.rdS j.size with
      | some s => match s[n]? with
        | some c => some (.rptr c.cells)
        | none => none
      | none => none
    | none => none)

def idxA (len : Nat) (e : TypeId) (x : V) (n : Int) : Option V :=
  match R.ty e with
  | some i => cond (decide (n < len)) (match x with
    | .ptr p off => some (.ptr p (off + n.toNat * i.size))
    | .rptr cs => cond (Nat.ble (n.toNat * i.size) cs.length) (some (.rptr (cs.drop (n.toNat * i.size)))) none
    | .glob g => match R.gl g with
      | some cs => cond (Nat.ble (n.toNat * i.size) cs.length) (some (.rptr (cs.drop (n.toNat * i.size)))) none
      | none => none
    | _ => none) none
  | none => none

def idxV (t : TyI) (x : V) (n : Int) : Option V :=
  cond (decide (0 ≤ n))
  (match t.u with
  | .slice e => idxS R e x n.toNat
  | .array len e => idxA R len e x n
  | _ => none) none

def idxM (h : List (Nat × O)) (t : TyI) (o : Nat) (n : Int) : Option V :=
  match t.u, hget h o with
  | .slice e, some (.buf e' sz xs) => match R.ty e with
    | some j => cond (Nat.beq e e' && (Nat.beq j.size sz && (decide (0 ≤ n) && decide (n < xs.length)))) (some (.ptr o (n.toNat * sz))) none
    | none => none
  | _, _ => none

def idxO (h : List (Nat × O)) (t : TyI) (x : V) (n : Int) : Option V :=
  match x with
  | .buf o => idxM R h t o n
  | x => idxV R t x n

def lenO (h : List (Nat × O)) (i : TyI) (x : V) : Option Nat :=
  match x with
  | .buf o => match i.u, hget h o with
    | .slice _, some (.buf _ _ xs) => some xs.length
    | _, _ => none
  | x => lenV i x

def index1 (t : TyI) (x : V) (n : Int) : Option V :=
  cond (decide (0 ≤ n))
  (match t.u, x with
  | .array len e, .agg cs => match R.ty e with
    | some i => cond (decide (n < len) && (Nat.beq i.size 1 && !isAggD i.u)) cs[n.toNat]? none
    | none => none
  | .string, .str s => match s[n.toNat]? with
    | some b => some (.int .u8 b.toNat)
    | none => none
  | _, _ => none) none

def evPt (t : Nat → V) : List (Nat × Operand) → Option (List (Nat × V))
  | [] => some []
  | (i, x) :: r => match ev t x, evPt t r with
    | some v, some l => some ((i, v) :: l)
    | _, _ => none

def onesP (ps : List (Nat × V)) : Bool := ps.all fun p => p.2.cells.all V.one

def buildV (i : TyI) (ps : List (Nat × V)) : Option V :=
  match i.u, i.zero with
  | .struct _, some zs => match i.flds with
    | [] => none
    | _ :: _ => cond (onesP ps) (match fillO i.flds zs ps with
      | some l => some (.agg l)
      | none => none) none
  | .array _ e, some zs => match R.ty e with
    | some j => cond (onesP ps && ps.all fun p => Nat.blt p.1 zs.length) (match fillO ((List.range zs.length).map fun k => (k * j.size, j.size)) zs ps with
      | some l => some (.agg l)
      | none => none) none
    | none => none
  | _, _ => none

def convV (s d : TyI) (x : V) : Option V :=
  match s.u, d.u with
  | .int _, .int k' => match x with
    | .int _ n => some (.int k' (k'.wrap n))
    | _ => none
  | .string, .string => match x with
    | .str bs => some (.str bs)
    | _ => none
  | .slice e, .string => match R.ty e, x.rdB with
    | some ⟨.int .u8, _, _, _, _, _, _⟩, some bs => some (.str bs)
    | _, _ => none
  | _, _ => none

/-- Of a map's type: the key's, and the zero value of what it holds. -/
def mapT (i : TyI) : Option (TypeDesc × V) :=
  match i.u with
  | .map k e => match R.ty k, R.ty e with
    | some a, some b => match b.zv with
      | some z => some (a.u, z)
      | none => none
    | _, _ => none
  | _ => none

def fieldV (i : TyI) (x : V) (f : Nat) : Option V :=
  match i.u with
  | .struct _ => match i.flds[f]? with
    | some (off, sz) => cond (Nat.beq sz 0) none (match x with
      | .ptr p k => some (.ptr p (k + off))
      | .rptr cs => cond (Nat.ble off cs.length) (some (.rptr (cs.drop off))) none
      | _ => none)
    | none => none
  | _ => none

def partV (i : TyI) (x : V) (f : Nat) : Option V :=
  match i.u, x with
  | .struct fs, .agg cs => match fs[f]? with
    | some fd => match R.ty fd.type with
      | some j => cond (isAggD j.u) (cond (Nat.ble (fd.offset + j.size) cs.length) (some (.agg ((cs.drop fd.offset).take j.size))) none) cs[fd.offset]?
      | none => none
    | none => none
  | _, _ => none

/-- Values alone. -/
def pureOp (t : Nat → V) (h : List (Nat × O)) (o : Oper) : Option V :=
  match o.op with
  | .move x => ev t x
  | .assign x => ev t x
  | .pick c a b => match ev t c with
    | some (.bool b') => cond b' (ev t a) (ev t b)
    | _ => none
  | .binOp op ty x y _ => match ev t x, ev t y with
    | some a, some b => bin R (isConst y) op ty a b
    | _, _ => none
  | .unOp op _ x => match ev t x with
    | some x => unI op x
    | none => none
  | .convert s d x => match R.ty s, R.ty d, ev t x with
    | some s, some d, some x => convV R s d x
    | _, _, _ => none
  | .load ty a => match R.ty ty, ev t a with
    | some i, some x => loadV R h i x
    | _, _ => none
  | .nilCheck x => match ev t x with
    | some (.ptr p o) => some (.ptr p o)
    | some (.rptr p) => some (.rptr p)
    | _ => none
  | .fieldAddr ty x f => match R.ty ty, ev t x with
    | some i, some x => fieldV i x f
    | _, _ => none
  | .indexAddr ty x y => match R.ty ty, ev t x, ev t y with
    | some i, some x, some (.int _ n) => idxO R h i x n
    | _, _, _ => none
  | .field ty x f => match R.ty ty, ev t x with
    | some i, some x => partV R i x f
    | _, _ => none
  | .makeFunc (.func f) xs ys => cond (Nat.beq xs.size 0) (match evs t ys.toList with
    | some vs => some (.func f vs)
    | none => none) none
  | .makeInterface ty x => match R.ty ty, ev t x with
    | some ⟨.interface _, _, _, _, _, _, _⟩, _ => none
    | some _, some v => some (.iface ty v)
    | _, _ => none
  | .index ty x y => match R.ty ty, ev t x, ev t y with
    | some i, some x, some (.int _ n) => index1 R i x n
    | _, _, _ => none
  | .slice ty x lo hi none => match R.ty ty, ev t x, bnd t lo, bnd t hi with
    | some i, some x, some l, some hh => cutV R i x l hh
    | _, _, _, _ => none
  | .extract x i => match ev t x with
    | some (.tuple vs) => vs[i]?
    | _ => none
  | .build ty ps => match R.ty ty, evPt t ps.toList with
    | some i, some ps => buildV R i ps
    | _, _ => none
  | .lookup ty x y ok => match R.ty ty, ev t x, ev t y with
    | some i, some (.map p), some y => match mapT R i, hget h p with
      | some (d, z), some (.map es _) => cond (keyKind d y) (match findE y es 0 with
        | some r => some (lookR ok z r)
        | none => none) none
      | _, _ => none
    | _, _, _ => none
  | .call ⟨.builtin .len, xs, ts⟩ => match xs.toList, ts.toList with
    | [x], [ty] => match R.ty ty, ev t x with
      | some i, some v => match lenO h i v with
        | some n => some (.int .i64 n)
        | none => none
      | _, _ => none
    | _, _ => none
  | .call ⟨.builtin .max, xs, _⟩ => match xs.toList with
    | [x, y] => match ev t x, ev t y with
      | some (.int k m), some (.int k' n) => cond (kEq k k') (some (.int k (if n > m then n else m))) none
      | _, _ => none
    | _ => none
  | .call ⟨.builtin .min, xs, _⟩ => match xs.toList with
    | [x, y] => match ev t x, ev t y with
      | some (.int k m), some (.int k' n) => cond (kEq k k') (some (.int k (if n < m then n else m))) none
      | _, _ => none
    | _ => none
  | _ => none

def evElemsT (t : Nat → V) : Nat → List (Nat × Operand) → Option (List V)
  | _, [] => some []
  | k, (i, x) :: r => match Nat.beq i k, ev t x, evElemsT t (k + 1) r with
    | true, some v, some l => some (v :: l)
    | _, _, _ => none

def toBytes : List V → Option (List UInt8)
  | [] => some []
  | v :: r => match v, toBytes r with
    | .int .u8 n, some l => cond (decide (0 ≤ n) && decide (n < 256)) (some (UInt8.ofNat n.toNat :: l)) none
    | _, _ => none

/-- A value of its own, wherever it is made. -/
def neuOp (t : Nat → V) (o : Oper) : Option V :=
  match o.op with
  | .convert s d x => match R.ty s, R.ty d, ev t x with
    | some s, some d, some (.str bs) => match s.u, d.u with
      | .string, .slice e => cond (Nat.beq e R.byteT) (some (.bytes bs)) none
      | _, _ => none
    | _, _, _ => none
  | .buildSlice ty len ps => match R.ty ty, evElemsT t 0 ps.toList with
    | some i, some vs => match i.u with
      | .slice e => match R.ty e with
        | some j => cond (Nat.beq vs.length len && (Nat.beq ps.size len && (Nat.ble (len * j.size) 16777216 && (Nat.blt 0 (len * j.size) && !Nat.beq e R.byteT))))
          (match j.zero with
            | some _ => cond (vs.all fun v => Nat.beq v.cells.length j.size && v.cells.all V.one) (some (.slice j.size vs)) none
            | none => none) none
        | none => none
      | _ => none
    | _, _ => none
  | .makeSlice ty l c => match R.ty ty, ev t l, ev t c with
    | some i, some (.int _ n), some (.int _ m) => match i.u with
      | .slice e => cond (decide (0 ≤ n) && (decide (n ≤ m) && (decide (m ≤ 16777216) && Nat.beq e R.byteT))) (some (.bytes (List.replicate n.toNat 0))) none
      | _ => none
    | _, _, _ => none
  | _ => none

/-- What refers to a new object. -/
inductive NK where
  | ptr
  | map
  | ob (bs : List UInt8)

def newV : NK → Nat → V
  | .ptr, p => .ptr p 0
  | .map, p => .map p
  | .ob bs, p => .obytes bs p

/-- A new object. -/
def newOp (t : Nat → V) (o : Oper) : Option (NK × O) :=
  match o.op with
  | .alloc e => match R.ty e with
    | some i => match i.zero with
      | some zs => cond (zs.all V.one) (some (.ptr, .cells e zs)) none
      | none => none
    | none => none
  | .box e x => match ev t x with
    | some v => cond (v.cells.all V.one) (some (.ptr, .cells e v.cells)) none
    | none => none
  | .makeMap _ none => some (.map, .map [] 0)
  | .buildSlice ty len ps => match R.ty ty, evElemsT t 0 ps.toList with
    | some i, some vs => match i.u with
      | .slice e => cond (Nat.beq e R.byteT && (Nat.beq vs.length len && (Nat.beq ps.size len && (Nat.ble len 16777216 && Nat.blt 0 len))))
          (match toBytes vs with
            | some bs => some (.ob bs, .tok R.byteT 1 bs.length)
            | none => none) none
      | _ => none
    | _, _ => none
  | _ => none

def dstB (os : List (Nat × O)) (e : TypeId) (x : V) : Option (List UInt8 × List (Nat × O)) :=
  match x with
  | .nils => some ([], os)
  | .obytes bs p => match hget os p with
    | some (.tok e' sz n) => cond (Nat.beq e' e && (Nat.beq sz 1 && Nat.beq n bs.length)) (some (bs, hdel os p)) none
    | _ => none
  | _ => none

def dstS (os : List (Nat × O)) (e sz : Nat) (x : V) : Option (List V × List (Nat × O)) :=
  match x with
  | .nils => some ([], os)
  | .oslice sz2 xs p => match hget os p with
    | some (.tok e' sz' n) => cond (Nat.beq e' e && (Nat.beq sz' sz && (Nat.beq sz2 sz && Nat.beq n xs.length))) (some (xs, hdel os p)) none
    | _ => none
  | _ => none

def srcB (t t2 : TypeId) (y : V) : Option (List UInt8) :=
  match y with
  | .str s => match R.ty t2 with
    | some ⟨.string, _, _, _, _, _, _⟩ => some s
    | _ => none
  | y => cond (Nat.beq t t2) y.rdB none

def appB (h : Hp) (t t2 : TypeId) (e : TypeId) (x y : V) : Option (V × Hp) :=
  match srcB R t t2 y, dstB h.os e x with
  | some ys, some (bs, os) => cond (Nat.ble (bs.length + ys.length) 140737488355328) (some (.obytes (bs ++ ys) h.n, ⟨(h.n, .tok e 1 (bs.length + ys.length)) :: os, h.n + 1⟩)) none
  | _, _ => none

def appS (h : Hp) (t t2 : TypeId) (e : TypeId) (j : TyI) (x y : V) : Option (V × Hp) :=
  match j.zero, y.rdS j.size, dstS h.os e j.size x with
  | some _, some ys, some (xs, os) => cond (Nat.beq t t2 && (Nat.ble (xs.length + ys.length) 140737488355328 && Nat.ble ((xs.length + ys.length) * j.bytes) 140737488355328))
      (some (.oslice j.size (xs ++ ys) h.n, ⟨(h.n, .tok e j.size (xs.length + ys.length)) :: os, h.n + 1⟩)) none
  | _, _, _ => none

def dstM (os : List (Nat × O)) (e sz : Nat) (x : V) : Option (List V × List (Nat × O)) :=
  match x with
  | .nils => some ([], os)
  | .buf p => match hget os p with
    | some (.buf e' sz' xs) => cond (Nat.beq e' e && Nat.beq sz' sz) (some (xs, hdel os p)) none
    | _ => none
  | _ => none

def appM (h : Hp) (t t2 : TypeId) (e : TypeId) (j : TyI) (x y : V) : Option (V × Hp) :=
  match j.zero, y.rdS j.size, dstM h.os e j.size x with
  | some _, some ys, some (xs, os) => cond (Nat.beq t t2 && (Nat.ble (xs.length + ys.length) 140737488355328 && (Nat.ble ((xs.length + ys.length) * j.bytes) 140737488355328 && Nat.blt 0 ys.length)))
      (some (.buf h.n, ⟨(h.n, .buf e j.size (xs ++ ys)) :: os, h.n + 1⟩)) none
  | _, _, _ => none

/-- Cells as elements. -/
def regroup (sz : Nat) : Nat → List V → List V
  | 0, _ => []
  | n + 1, cs => cond (Nat.beq sz 1) (cs.take 1) [.agg (cs.take sz)] ++ regroup sz n (cs.drop sz)

def setM (h : Hp) (i : TyI) (p : Nat) (k v : V) : Option (V × Hp) :=
  match mapT R i, hget h.os p with
  | some (d, _), some (.map es c) => cond (keyKind d k) (match findE k es 0 with
    | some (some (i, _)) => some (.junk, ⟨hset h.os p (.map (es.modify i fun e => (e.1, v, e.2.2)) c), h.n⟩)
    | some none => some (.junk, ⟨hset h.os p (.map (es ++ [(k, v, c)]) (c + 1)), h.n⟩)
    | none => none) none
  | _, _ => none

/-- With an effect. -/
def effOp (t : Nat → V) (h : Hp) (o : Oper) : Option (V × Hp) :=
  match o.op with
  | .store ty x y => match R.ty ty, ev t x, ev t y with
    | some i, some (.ptr p off), some v => match hget h.os p with
      | some (.cells e cs) => match setAt cs off v.cells with
        | some cs' => cond (Nat.beq v.cells.length i.size && v.cells.all V.one) (some (.junk, ⟨hset h.os p (.cells e cs'), h.n⟩)) none
        | none => none
      | some (.buf e sz xs) => match setAt (flat xs) off v.cells with
        | some cs' => cond (Nat.beq v.cells.length i.size && (v.cells.all V.one && Nat.blt 0 sz)) (some (.junk, ⟨hset h.os p (.buf e sz (regroup sz xs.length cs')), h.n⟩)) none
        | none => none
      | _ => none
    | _, _, _ => none
  | .slice ty x lo hi none => match R.ty ty, ev t x, bnd t lo, bnd t hi with
    | some i, some (.buf p), some l, some (some k) => match i.u, hget h.os p with
      | .slice e, some (.buf e' sz xs) => match R.ty e with
        | some j => cond (Nat.beq e e' && (Nat.beq j.size sz && (decide (l.getD 0 = 0) && (decide (0 ≤ k) && decide (k ≤ xs.length)))))
          (some (.buf h.n, ⟨(h.n, .buf e sz (xs.take k.toNat)) :: hdel h.os p, h.n + 1⟩)) none
        | none => none
      | _, _ => none
    | _, _, _, _ => none
  | .convert s d x => match R.ty s, ev t x with
    | some i, some (.obytes bs p) => match i.u, hget h.os p with
      | .slice e, some (.tok e' sz n) => cond (Nat.beq s d && (Nat.beq e R.byteT && (Nat.beq e' R.byteT && (Nat.beq sz 1 && (Nat.beq n bs.length && Nat.blt 0 bs.length))))) (some (.bytes bs, ⟨hdel h.os p, h.n⟩)) none
      | _, _ => none
    | _, _ => none
  | .mapUpdate ty x k v => match R.ty ty, ev t x, ev t k, ev t v with
    | some i, some (.map p), some k, some v => setM R h i p k v
    | _, _, _, _ => none
  | .insert ty x k v => match R.ty ty, ev t x, ev t k, ev t v with
    | some i, some (.map p), some k, some v => setM R h i p k v
    | _, _, _, _ => none
  | .call ⟨.builtin .delete, xs, ts⟩ => match xs.toList, ts.toList with
    | [x, k], ty :: _ => match R.ty ty, ev t x, ev t k with
      | some i, some (.map p), some k => match mapT R i, hget h.os p with
        | some (d, _), some (.map es c) => cond (keyKind d k) (match findE k es 0 with
          | some (some (i, _)) => some (.tuple [], ⟨hset h.os p (.map (es.eraseIdx i) c), h.n⟩)
          | some none => some (.tuple [], ⟨hset h.os p (.map es c), h.n⟩)
          | none => none) none
        | _, _ => none
      | _, _, _ => none
    | _, _ => none
  | .call ⟨.builtin .append, xs, ts⟩ => match xs.toList, ts.toList with
    | [x, y], [ty, t2] => match R.ty ty, ev t x, ev t y with
      | some i, some x, some y => match i.u with
        | .slice e => cond (Nat.beq e R.byteT) (appB R h ty t2 e x y) (match R.ty e with
          | some j => cond (R.mt e) (appM h ty t2 e j x y) (appS h ty t2 e j x y)
          | none => none)
        | _ => none
      | _, _, _ => none
    | _, _ => none
  | _ => none

def argTr : List V → Nat → Tr → Tr
  | [], _, t => t
  | v :: r, i, t => argTr r (i + 1) (t.set i v)

def resR (os : List (Nat × O)) (t : Nat → V) : ResultVar → Option V
  | .tmp i => some (t i)
  | .cell a ty => match R.ty ty with
    | some i => match t a with
      | .ptr p off => loadV R os i (.ptr p off)
      | _ => none
    | none => none

def resL (os : List (Nat × O)) (t : Nat → V) : List ResultVar → Option (List V)
  | [] => some []
  | r :: l => match resR R os t r, resL os t l with
    | some v, some vs => some (v :: vs)
    | _, _ => none

def results1 (os : List (Nat × O)) (t : Nat → V) (l : List ResultVar) : Option V :=
  match resL R os t l with
  | some [v] => some v
  | some vs => some (.tuple vs)
  | none => none

def calleeOf (t : Nat → V) (h : List (Nat × O)) (o : Oper) : Option (FuncId × List V) :=
  match o.op with
  | .call ⟨.value x, xs, _⟩ => match ev t x, evs t xs.toList with
    | some (.func f cs), some vs => some (f, vs ++ cs)
    | _, _ => none
  | .call ⟨.invoke x name, xs, _⟩ => match ev t x, evs t xs.toList with
    | some (.iface ty v), some vs => match R.me ty name with
      | some (f, none) => some (f, v :: vs)
      | some (f, some e) => match R.ty e, v with
        | some i, .ptr p off => match loadV R h i (.ptr p off) with
          | some u => some (f, u :: vs)
          | none => none
        | _, _ => none
      | none => none
    | _, _ => none
  | _ => none

/-- Is it to be done? -/
def guardOk (all : List Oper) (t : Nat → V) (o : Oper) : Option Bool :=
  match o.guard with
  | none => some true
  | some (j, want) => match (all[j]?).bind (·.dst) with
    | some d => match t d with
      | .bool b => some (b == want)
      | .tuple [] => some false
      | _ => none
    | none => none

abbrev CallF := FuncId → List V → Hp → Option (V × Hp)

inductive R1 where
  | val (v : V)
  | obj (m : NK) (x : O)
  | eff (v : V) (h : Hp)

/-- One operation: a value, or a new object, or an effect. -/
def one (call : CallF) (all : List Oper) (t : Nat → V) (os : List (Nat × O)) (h : Hp) (o : Oper) : Option R1 :=
  match guardOk all t o with
  | none => none
  | some false => some (.val (.tuple []))
  | some true => match pureOp R t os o with
    | some v => some (.val v)
    | none => match neuOp R t o with
      | some v => some (.val v)
      | none => match newOp R t o with
        | some (m, x) => some (.obj m x)
        | none => match effOp R t h o with
          | some (v, h') => some (.eff v h')
          | none => match calleeOf R t h.os o with
            | some (g, vs) => match call g vs h with
              | some (v, h') => some (.eff v h')
              | none => none
            | none => none

def R1.out (h : Hp) : R1 → V × Hp
  | .val v => (v, h)
  | .obj m x => (newV m h.n, ⟨(h.n, x) :: h.os, h.n + 1⟩)
  | .eff v h' => (v, h')

/-- A region in its written order. -/
def seqOps (call : CallF) (N : Nat) (all : List Oper) : List Oper → Tr → Hp → Option (Tr × Hp)
  | [], t, h => some (t, h)
  | o :: l, t, h => match one R call all t.get h.os h o with
    | some r => match o.dst with
      | some d => cond (Nat.blt d N) (seqOps call N all l (t.set d (r.out h).1) (r.out h).2) none
      | none => seqOps call N all l t (r.out h).2
    | none => none

/-! A region whose order is drawn. -/

def V.beq : Nat → V → V → Bool
  | 0, _, _ => false
  | n + 1, x, y => match x, y with
    | .int k a, .int k' b => kEq k k' && decide (a = b)
    | .bool a, .bool b => a == b
    | .str a, .str b => decide (a = b)
    | .nils, .nils => true
    | .bytes a, .bytes b => decide (a = b)
    | .obytes a p, .obytes b q => decide (a = b) && Nat.beq p q
    | .slice s a, .slice s' b => Nat.beq s s' && all2 (V.beq n) a b
    | .oslice s a p, .oslice s' b q => Nat.beq s s' && (all2 (V.beq n) a b && Nat.beq p q)
    | .ptr p k, .ptr q l => Nat.beq p q && Nat.beq k l
    | .rptr a, .rptr b => all2 (V.beq n) a b
    | .nilp, .nilp => true
    | .map p, .map q => Nat.beq p q
    | .nilm, .nilm => true
    | .agg a, .agg b => all2 (V.beq n) a b
    | .tuple a, .tuple b => all2 (V.beq n) a b
    | .buf o, .buf p => Nat.beq o p
    | .func f a, .func g b => Nat.beq f g && all2 (V.beq n) a b
    | .iface s a, .iface t b => Nat.beq s t && V.beq n a b
    | .nili, .nili => true
    | .glob g, .glob h => Nat.beq g h
    | _, _ => false
where
  all2 (f : V → V → Bool) : List V → List V → Bool
    | [], [] => true
    | x :: r, y :: s => f x y && all2 f r s
    | _, _ => false

/-- What each operation comes behind: a number's bits. -/
def masks : List Oper → List Nat → List Nat
  | [], acc => acc
  | o :: l, acc => masks l (acc ++ [o.after.toList.foldl (fun s e => cond (Region.binds .any e) (Nat.lor s (Nat.lor (Nat.shiftLeft 1 e.on) (acc.getD e.on 0))) s) 0])

def writer (all : List Oper) (d : Nat) : Nat → Option Nat
  | i => match all with
    | [] => none
    | o :: l => match o.dst with
      | some d' => cond (Nat.beq d' d) (some i) (writer l d (i + 1))
      | none => writer l d (i + 1)

def rget (ms : List Nat) (all : List Oper) (t : Tr) (vs : List V) (i : Nat) (d : Nat) : V :=
  match writer all d 0 with
  | none => t.get d
  | some j => cond (Nat.testBit (ms.getD i 0) j) (vs.getD j .junk) (cond (Nat.testBit (ms.getD j 0) i) (t.get d) .junk)

/-- A new object of the region: the operation, its number, what it holds. -/
structure Fl where
  j : Nat
  p : Nat
  x : O

def absd (ms : List Nat) (es : List Nat) (j : Nat) : Bool := es.any fun e => Nat.testBit (ms.getD e 0) j

/-- The new objects that an operation knows of, and that are not yet in the chain of effects. -/
def fresh (ms : List Nat) (es : List Nat) (m : Nat) (fa : List Fl) : List (Nat × O) :=
  (fa.filter fun a => Nat.testBit m a.j && !absd ms es a.j).map fun a => (a.p, a.x)

structure Sm where
  vs : List V
  hs : List Hp
  es : List Nat
  fa : List Fl

/-- Its way in the written order: values, heaps, and which have an effect. -/
def sim (call : CallF) (ms : List Nat) (all : List Oper) (t : Tr) : List Oper → Nat → Sm → Hp → Nat → Option (Sm × Hp × Nat)
  | [], _, s, h, q => some (s, h, q)
  | o :: l, i, s, h, q => match one R call all (rget ms all t s.vs i) (h.os ++ fresh ms s.es (ms.getD i 0) s.fa) ⟨fresh ms s.es (ms.getD i 0) s.fa ++ h.os, h.n⟩ o with
    | some (.val v) => sim call ms all t l (i + 1) { s with vs := s.vs ++ [v] } h q
    | some (.obj m x) => sim call ms all t l (i + 1) { s with vs := s.vs ++ [newV m q], fa := s.fa ++ [⟨i, q, x⟩] } h (q + 1)
    | some (.eff v h') => sim call ms all t l (i + 1) { s with vs := s.vs ++ [v], hs := s.hs ++ [h], es := s.es ++ [i] } h' q
    | none => none

def cnt (p : Nat → Bool) : List Nat → Nat
  | [] => 0
  | e :: l => cond (p e) (cnt p l + 1) (cnt p l)

/-- An operation without an effect tells the same among all the heaps at which it may come. -/
def stable1 (ms : List Nat) (all : List Oper) (t : Tr) (s : Sm) (i : Nat) (o : Oper) : Bool :=
  match guardOk all (rget ms all t s.vs i) o with
  | some true =>
    match pureOp R (rget ms all t s.vs i) [] o with
    | some _ => true
    | none => match neuOp R (rget ms all t s.vs i) o with
      | some v => V.beq 8 v (s.vs.getD i .junk)
      | none => (List.range' (cnt (fun e => Nat.testBit (ms.getD i 0) e) s.es) (cnt (fun e => !Nat.testBit (ms.getD e 0) i) s.es + 1 - cnt (fun e => Nat.testBit (ms.getD i 0) e) s.es)).all fun c =>
        match pureOp R (rget ms all t s.vs i) ((s.hs.getD c ⟨[], 0⟩).os ++ fresh ms (s.es.take c) (ms.getD i 0) s.fa) o with
        | some v => V.beq 8 v (s.vs.getD i .junk)
        | none => false
  | _ => true

def stableAll (ms : List Nat) (all : List Oper) (t : Tr) (s : Sm) : List Oper → Nat → Bool
  | [], _ => true
  | o :: l, i => (s.es.contains i || (s.fa.any (fun a => Nat.beq a.j i) || stable1 R ms all t s i o)) && stableAll ms all t s l (i + 1)

/-- The effects come one behind the other. -/
def chained (ms : List Nat) : List Nat → Bool
  | a :: b :: l => Nat.testBit (ms.getD b 0) a && chained ms (b :: l)
  | _ => true

def distinct : List Oper → Bool
  | [] => true
  | o :: l => (match o.dst with
    | some d => l.all fun p => match p.dst with
      | some d' => !Nat.beq d d'
      | none => true
    | none => true) && distinct l

def ahead : List Oper → Nat → Bool
  | [], _ => true
  | o :: l, i => (o.after.toList.all fun e => !Region.binds .any e || Nat.blt e.on i) && ahead l (i + 1)

def setAll : List Oper → List V → Tr → Tr
  | o :: l, v :: vs, t => match o.dst with
    | some d => setAll l vs (t.set d v)
    | none => setAll l vs t
  | _, _, t => t

def dstOk (N : Nat) (l : List Oper) : Bool := l.all fun o => match o.dst with
  | some d => Nat.blt d N
  | none => true

def drawnOps (call : CallF) (N : Nat) (all : List Oper) (t : Tr) (h : Hp) : Option (Tr × Hp) :=
  match sim R call (masks all []) all t all 0 ⟨[], [], [], []⟩ ⟨h.os, h.n + all.length⟩ h.n with
  | some (s, h', q) =>
    cond (distinct all && (ahead all 0 && (dstOk N all && (chained (masks all []) s.es && (Nat.ble q (h.n + all.length) && stableAll R (masks all []) all t { s with hs := s.hs ++ [h'] } all 0)))))
      (some (setAll all s.vs t, ⟨(s.fa.filter fun a => !absd (masks all []) s.es a.j).map (fun a => (a.p, a.x)) ++ h'.os, h'.n⟩)) none
  | none => none

inductive Tk where
  | code (c : Code)
  | loop (c : Code)
  | scope (c r : Code)

def callWith (run : Nat → Tk → Tr → Hp → Option (Exit × Tr × Hp)) : CallF := fun g vs h =>
  match R.sm g vs h with
  | some r => some r
  | none => match R.fn g with
    | some fn => match fn.body with
      | some c => cond (Nat.ble vs.length fn.ntmps) (match run fn.ntmps (.code c) (argTr vs 0 (Tr.mk 8)) h with
        | some (.normal, t', h') => match results1 R h'.os t'.get fn.results.toList with
          | some v => some (v, h')
          | none => none
        | some (.ret, t', h') => match results1 R h'.os t'.get fn.results.toList with
          | some v => some (v, h')
          | none => none
        | _ => none) none
      | none => none
    | none => none

def run : Nat → Nat → Tk → Tr → Hp → Option (Exit × Tr × Hp)
  | 0, _, _, _, _ => none
  | f + 1, N, .code c, t, h => match c with
    | .skip => some (.normal, t, h)
    | .label _ => some (.normal, t, h)
    | .exit id => some (.exit id, t, h)
    | .goto l => some (.goto l, t, h)
    | .ret => some (.ret, t, h)
    | .seq a b => match run f N (.code a) t h with
      | some (.normal, t, h) => run f N (.code b) t h
      | r => r
    | .cond o a b => match ev t.get o with
      | some (.bool true) => run f N (.code a) t h
      | some (.bool false) => run f N (.code b) t h
      | _ => none
    | .block id c => match run f N (.code c) t h with
      | some (.exit id', t, h) => cond (Nat.beq id' id) (some (.normal, t, h)) (some (.exit id', t, h))
      | r => r
    | .loop c => run f N (.loop c) t h
    | .scope c => run f N (.scope c c) t h
    | .region _ ops false => match seqOps R (callWith R (run f)) N ops.toList ops.toList t h with
      | some (t, h) => some (.normal, t, h)
      | none => none
    | .region _ ops true => match drawnOps R (callWith R (run f)) N ops.toList t h with
      | some (t, h) => some (.normal, t, h)
      | none => none
    | _ => none
  | f + 1, N, .loop c, t, h => match run f N (.code c) t h with
    | some (.normal, t, h) => run f N (.loop c) t h
    | r => r
  | f + 1, N, .scope c r, t, h => match run f N (.code r) t h with
    | some (.goto l, t, h) => match findLabel c l with
      | some r => run f N (.scope c r) t h
      | none => none
    | r => r

end
end Go.Vam

/- Vam: slices that are written to (buffers); functions as values; interfaces. -/
namespace Go.Vam
open Go Go.RowKit

section
variable {E : Env} {N : Nat} {o : Oper} {g : G} {σ : St} {ops : Array Oper} {rest : List Oper} {Q : Q3} {β : Gh} {w : World}

/-! Buffers. -/

/-- Where a buffer lies. -/
theorem Inv.buf_at (hi : Inv E β σ w) {p : Nat} {e : TypeId} {sz : Nat} {xs : List V} (hs : σ p = some (.buf e sz xs)) :
    ∃ b c us, β.loc p = some (.sl b xs.length c) ∧ (∀ x ∈ xs, V.elem sz x) ∧ RelL β (flat xs) us ∧ w.ownsRow E.B e sz (sliceAt b xs.length c) xs.length us := by
  obtain ⟨l, hl, ho⟩ := hi.obj p _ hs
  cases l <;> simp only [ORel] at ho
  obtain ⟨rfl, h2, us, h3, h4⟩ := ho
  exact ⟨_, _, us, hl, h2, h3, h4⟩

theorem Rel.ptr_buf {p off : Nat} {u : Value} {e : TypeId} {sz : Nat} {xs : List V} (hi : Inv E β σ w) (h : Rel β (.ptr p off) u) (hs : σ p = some (.buf e sz xs)) :
    ∃ b c cur, u = .pointer (some ⟨b, off, none⟩) ∧ β.loc p = some (.sl (some b) xs.length c) ∧ xs.length ≤ c ∧ w.heap[b]? = some (.cells cur e (0, 0)) ∧ cur.size = c * sz ∧ RelL β (flat xs) (cur.toList.take (xs.length * sz)) ∧ (∀ x ∈ xs, V.elem sz x) ∧
      w.ownsRow E.B e sz (sliceAt (some b) xs.length c) xs.length (cur.toList.take (xs.length * sz)) := by
  cases h with
  | ptr _ _ b l hl hb =>
    obtain ⟨b', c, us, hl', hel, hr, hown⟩ := hi.buf_at hs
    rw [hl] at hl'; cases hl'
    simp only [Loc.block?] at hb
    subst hb
    have hown2 := hown
    rcases ownsRow_inv hown with ⟨h0, _⟩ | ⟨r, cur, hr', _, hnc, _, hw, hcs, ht⟩
    · cases h0
    · cases hr'
      subst ht
      exact ⟨b, c, cur, rfl, hl, hnc, hw, hcs, hr, hel, hown2⟩

theorem buf_cell {b : Nat} {cur : Array Value} {e : TypeId} {fr : Nat × Nat} (hw : w.heap[b]? = some (.cells cur e fr)) {n i : Nat} {u : Value} (hu : (cur.toList.take n)[i]? = some u) : w.cell? ⟨b, i, none⟩ = some u := by
  rw [cell_of_row w b i cur e fr hw]
  rw [List.getElem?_take] at hu
  split at hu
  · simpa using hu
  · cases hu

theorem run_loadBuf1 {t : TypeId} {sz esz p off : Nat} {e : TypeId} {xs : List V} {v : V} {u : Value} (ht : TLoad E.P t false sz) (hi : Inv E β σ w) (hr : Rel β (.ptr p off) u) (hs : σ p = some (.buf e esz xs)) (hv : (flat xs)[off]? = some v) :
    ∃ ad r, u = .pointer (some ad) ∧ (loadVar t ad).run E.P w = .ok r w ∧ Rel β v r := by
  obtain ⟨b, c, cur, rfl, _, _, hw, _, hrl, _⟩ := hr.ptr_buf hi hs
  obtain ⟨r, hu2, hr2⟩ := hrl.get hv
  exact ⟨_, r, rfl, run_loadVar1 ht (buf_cell hw hu2), hr2⟩

theorem run_loadBufA {t : TypeId} {sz esz p off : Nat} {e : TypeId} {xs : List V} {u : Value} (ht : TLoad E.P t true sz) (hi : Inv E β σ w) (hr : Rel β (.ptr p off) u) (hs : σ p = some (.buf e esz xs)) (hl : off + sz ≤ (flat xs).length) :
    ∃ ad r, u = .pointer (some ad) ∧ (loadVar t ad).run E.P w = .ok r w ∧ Rel β (.agg (((flat xs).drop off).take sz)) r := by
  obtain ⟨b, c, cur, rfl, _, _, hw, _, hrl, _⟩ := hr.ptr_buf hi hs
  have hlen : (((cur.toList.take (xs.length * esz)).drop off).take sz).length = sz := by
    have := hrl.1
    rw [List.length_take, List.length_drop]
    omega
  have hrun := run_loadVarA (P := E.P) ht (w := w) (a := ⟨b, off, none⟩) hlen (fun j v hj => by
    rw [addr_add]
    rw [List.getElem?_take] at hj
    split at hj
    · rw [List.getElem?_drop] at hj; exact buf_cell hw hj
    · cases hj)
  exact ⟨_, _, rfl, hrun, (hrl.slice off sz).agg⟩

theorem p_loadBuf1 {t : TypeId} {sz esz : Nat} {x : Operand} {p off : Nat} {e : TypeId} {xs : List V} {v : V} (ho : o.op = .load t x) (ht : TLoad E.P t false sz) (hx : g.evO x = some (.ptr p off))
    (hs : σ p = some (.buf e esz xs)) (hv : (flat xs)[off]? = some v) : Pv E N o g σ v := by
  intro β a w ha hi
  obtain ⟨ad, r, hu, hrun, hr⟩ := run_loadBuf1 ht hi (ha.evO hx) hs hv
  exact ⟨r, by simp [execOp, ho, hu, Instr.loadAt, Instr.sureAddr, hrun], hr⟩

theorem p_loadBufA {t : TypeId} {sz esz : Nat} {x : Operand} {p off : Nat} {e : TypeId} {xs : List V} (ho : o.op = .load t x) (ht : TLoad E.P t true sz) (hx : g.evO x = some (.ptr p off))
    (hs : σ p = some (.buf e esz xs)) (hl : off + sz ≤ (flat xs).length) : Pv E N o g σ (.agg (((flat xs).drop off).take sz)) := by
  intro β a w ha hi
  obtain ⟨ad, r, hu, hrun, hr⟩ := run_loadBufA ht hi (ha.evO hx) hs hl
  exact ⟨r, by simp [execOp, ho, hu, Instr.loadAt, Instr.sureAddr, hrun], hr⟩

/-- A pointer to a global reads as its cells. -/
theorem AR.glob {a : Act} (ha : AR N β g a) (hi : Inv E β σ w) {x : Operand} {k : Nat} {cs : List V} (hx : g.evO x = some (.glob k)) (hg : E.gl k = some cs) : Rel β (.rptr cs) (a.eval x) := by
  have h := ha.evO hx
  have hrp := hi.gl k cs hg
  generalize a.eval x = u at h
  cases h
  exact hrp

theorem p_loadg1 {t : TypeId} {sz k : Nat} {x : Operand} {cs : List V} {v : V} (ho : o.op = .load t x) (ht : TLoad E.P t false sz) (hx : g.evO x = some (.glob k)) (hg : E.gl k = some cs) (hv : cs[0]? = some v) : Pv E N o g σ v := by
  intro β a w ha hi
  have h := ha.glob hi hx hg
  generalize hu : a.eval x = u at h
  cases h with
  | rptr _ b off cells hb hs hc =>
    have hlt : off < cells.length := by
      have : 0 < cs.length := (List.getElem?_eq_some_iff.1 hv).1
      omega
    have hcell : w.cell? ⟨b, off, none⟩ = some cells[off] := hi.cell hb (List.getElem?_eq_getElem hlt)
    refine ⟨cells[off], by simp [execOp, ho, hu, Instr.loadAt, Instr.sureAddr, run_loadVar1 ht hcell], ?_⟩
    have := hc 0 v hv
    simpa [List.getD, List.getElem?_eq_getElem hlt] using this

theorem p_loadgA {t : TypeId} {sz k : Nat} {x : Operand} {cs : List V} (ho : o.op = .load t x) (ht : TLoad E.P t true sz) (hx : g.evO x = some (.glob k)) (hg : E.gl k = some cs) (hl : sz ≤ cs.length) :
    Pv E N o g σ (.agg (cs.take sz)) := by
  intro β a w ha hi
  have h := ha.glob hi hx hg
  generalize hu : a.eval x = u at h
  cases h with
  | rptr _ b off cells hb hs hc =>
    have hlen : ((cells.drop off).take sz).length = sz := by simp; omega
    have hrun := run_loadVarA (P := E.P) ht (w := w) (a := ⟨b, off, none⟩) hlen (fun j v hj => by
      rw [addr_add]
      rw [List.getElem?_take] at hj
      split at hj
      · rw [List.getElem?_drop] at hj; exact hi.cell hb hj
      · cases hj)
    refine ⟨_, by simp only [execOp, ho, hu, Instr.loadAt, Instr.sureAddr, Sem.run_bind, Sem.run_pure, Result.andThen_ok, hrun]; rfl, ?_⟩
    refine RelL.agg ⟨by simp; omega, fun i x hx => ?_⟩
    rw [List.getElem?_take] at hx
    split at hx
    · rename_i hi'
      have h1 := hc i x hx
      have hlt : off + i < cells.length := by have := (List.getElem?_eq_some_iff.1 hx).1; omega
      simp only [List.getD]
      rw [List.getElem?_take, if_pos hi', List.getElem?_drop]
      simpa [List.getD] using h1
    · cases hx

/-- A buffer's value. -/
theorem Rel.buf_val {p : Nat} {u : Value} {e : TypeId} {sz : Nat} {xs : List V} (hi : Inv E β σ w) (h : Rel β (.buf p) u) (hs : σ p = some (.buf e sz xs)) :
    ∃ b c us, u = sliceAt b xs.length c ∧ β.loc p = some (.sl b xs.length c) ∧ (∀ x ∈ xs, V.elem sz x) ∧ RelL β (flat xs) us ∧ w.ownsRow E.B e sz (sliceAt b xs.length c) xs.length us := by
  obtain ⟨b', c', us, hl', hel, hr, hown⟩ := hi.buf_at hs
  cases h with
  | buf _ b n c hl =>
    rw [hl] at hl'; cases hl'
    exact ⟨_, _, us, rfl, hl, hel, hr, hown⟩

theorem p_lenBuf {t e e' : TypeId} {ts : Array TypeId} {x : Operand} {p sz : Nat} {xs : List V} (ho : o.op = .call { callee := .builtin .len, args := #[x], argTypes := ts }) (hts : ts = #[t]) (ht : E.P.underlying t = some (.slice e))
    (hx : g.evO x = some (.buf p)) (hs : σ p = some (.buf e' sz xs)) : Pv E N o g σ (.int .i64 xs.length) := by
  intro β a w ha hi
  obtain ⟨b, c, us, hu, _⟩ := (ha.evO hx).buf_val hi hs
  subst hts
  refine ⟨.int .i64 xs.length, ?_, .int _ _⟩
  simp [execOp, ho, resolve, invoke, Go.builtin, Builtin.len_, hu, sliceAt, run_underlying ht, goInt]

theorem p_indexBuf {t e by' : Nat} {x y : Operand} {p sz : Nat} {xs : List V} {k : IntKind} {n : Int} (ho : o.op = .indexAddr t x y) (ht : TSlice E.P t e sz by') (hx : g.evO x = some (.buf p)) (hs : σ p = some (.buf e sz xs)) (hy : g.evO y = some (.int k n))
    (h0 : 0 ≤ n) (h1 : n < xs.length) : Pv E N o g σ (.ptr p (n.toNat * sz)) := by
  intro β a w ha hi
  obtain ⟨hu, i, hin, hsz, _⟩ := ht.get
  have hn := (ha.evO hy).int_inv
  obtain ⟨b, c, us, hux, hl, _, _, hown⟩ := (ha.evO hx).buf_val hi hs
  cases b with
  | none =>
    rcases ownsRow_inv hown with ⟨_, h0', _⟩ | ⟨r, _, hh, _⟩
    · omega
    · cases hh
  | some b =>
    refine ⟨.pointer (some ⟨b, n.toNat * sz, none⟩), ?_, .ptr _ _ b _ hl rfl⟩
    have : 0 ≤ n ∧ n < (xs.length : Int) := ⟨h0, h1⟩
    simp [execOp, ho, hux, sliceAt, hn, Instr.indexAt, asIntOf, run_underlying hu, sizeOf, typeInfo, hin, hsz, this, addr_add]

/-! Functions as values, interfaces, parts of structs. -/

theorem p_makeFunc {fn : FuncId} {xs ys : Array Operand} {vs : List V} (ho : o.op = .makeFunc (.func fn) xs ys) (hx : xs = #[]) (hy : evL g ys.toList = some vs) : Pv E N o g σ (.func fn vs) := by
  intro β a w ha hi
  have hr := evL_rel ha hy
  subst hx
  refine ⟨.func (.func fn) #[] (ys.map a.eval), by simp [execOp, ho, Instr.makeFunc], .func fn vs _ (by simpa using hr.1) fun i x hx => ?_⟩
  have := hr.2 i x hx
  simpa [Array.getD_eq_getD_getElem?, List.getD] using this

theorem p_makeIface {t : TypeId} {d : TypeDesc} {x : Operand} {v : V} (ho : o.op = .makeInterface t x) (ht : E.P.underlying t = some d) (hd : ∀ m, d ≠ .interface m) (hx : g.evO x = some v) : Pv E N o g σ (.iface t v) := by
  intro β a w ha hi
  refine ⟨.iface t (a.eval x), ?_, .iface t v _ (ha.evO hx)⟩
  simp only [execOp, ho, Instr.makeInterface, Sem.run_bind, run_underlying ht, Result.andThen_ok]
  cases d <;> first | rfl | exact absurd rfl (hd _)

theorem p_fieldV {t : TypeId} {fs : Array Field} {fd : Field} {x : Operand} {k sz : Nat} {agg : Bool} {cs : List V} {v : V} (ho : o.op = .field t x k) (ht : E.P.underlying t = some (.struct fs)) (hf : fs[k]? = some fd) (hl : TLoad E.P fd.type agg sz)
    (hx : g.evO x = some (.agg cs)) (hv : cond agg (cond (Nat.ble (fd.offset + sz) cs.length) (some (V.agg ((cs.drop fd.offset).take sz))) none) cs[fd.offset]? = some v) : Pv E N o g σ v := by
  intro β a w ha hi
  obtain ⟨arr, hu, hr⟩ := (ha.evO hx).agg_inv
  cases agg with
  | false =>
    obtain ⟨u, hu2, hr2⟩ := hr.get hv
    have hcell : arr[fd.offset]? = some u := by simpa using hu2
    refine ⟨u, ?_, hr2⟩
    simp [execOp, ho, hu, Instr.field, run_underlying ht, hf, part, run_isAgg hl, asAgg, hcell]
  | true =>
    simp only [cond_true] at hv
    cases hb : Nat.ble (fd.offset + sz) cs.length with
    | false => rw [hb] at hv; cases hv
    | true =>
      rw [hb] at hv
      simp only [cond_true, Option.some.injEq] at hv
      subst hv
      have hle := Nat.le_of_ble_eq_true hb
      have hs := hr.1
      refine ⟨.agg (arr.extract fd.offset (fd.offset + sz)), ?_, ?_⟩
      · simp [execOp, ho, hu, Instr.field, run_underlying ht, hf, part, run_isAgg hl, run_sizeOf hl, asAgg]
      · have := (hr.slice fd.offset sz).agg
        have he : ((arr.toList.drop fd.offset).take sz).toArray = arr.extract fd.offset (fd.offset + sz) := by
          apply Array.ext'
          simp [Array.toList_extract, List.extract_eq_take_drop]
        rwa [he] at this

theorem run_equalIn_nilr {d : Nat} {t : TypeId} {ms : Array (String × TypeId)} (ht : E.P.underlying t = some (.interface ms)) {v : V} {c b : Bool} (hb : isNilI c v = some b) {u : Value} (hr : Rel β v u) : (Op.equalIn (d + 1) t u .nilIface).run E.P w = .ok b w := by
  cases hr <;> simp only [isNilI, reduceCtorEq, Option.some.injEq] at hb
  · subst hb; simp [Op.equalIn, run_underlying ht]
  · cases c <;> simp at hb
    subst hb; simp [Op.equalIn, run_underlying ht]

theorem run_equal_nilr {t : TypeId} {ms : Array (String × TypeId)} (ht : E.P.underlying t = some (.interface ms)) {v : V} {c b : Bool} (hb : isNilI c v = some b) {u : Value} (hr : Rel β v u) : (Op.equal t u .nilIface).run E.P w = .ok b w := run_equalIn_nilr (d := 9999) ht hb hr

theorem run_guard_nil {op : BinOp} {t : TypeId} {x y : Operand} {v : V} {b : Bool} (hb : isNilI (isConst y) v = some b) {u : Value} (hr : Rel β v u) : (eqGuard op t x y u .nilIface).run E.P w = .ok () w := by
  unfold eqGuard
  cases hr <;> simp only [isNilI, reduceCtorEq, Option.some.injEq] at hb
  · cases op <;> simp
  · cases y <;> simp [isConst] at hb
    cases op <;> simp

theorem p_eqIfNil {t u : TypeId} {ms : Array (String × TypeId)} {x y : Operand} {v : V} {b : Bool} (ho : o.op = .binOp .eql t x y u) (ht : E.P.underlying t = some (.interface ms)) (hx : g.evO x = some v) (hy : g.evO y = some .nili)
    (hb : isNilI (isConst y) v = some b) : Pv E N o g σ (.bool b) := by
  intro β a w ha hi
  have h := ha.evO hx
  have h2 := ha.evO hy
  generalize hu2 : a.eval y = r2 at h2
  cases h2
  refine ⟨.bool b, ?_, .bool _⟩
  simp only [execOp, ho, hu2, Sem.run_bind, run_guard_nil hb h, Result.andThen_ok]
  have := run_equal_nilr (w := w) ht hb h
  generalize a.eval x = r at h this
  cases h <;> simp only [isNilI, reduceCtorEq] at hb <;> simp [Go.binOp, this]

theorem p_neIfNil {t u : TypeId} {ms : Array (String × TypeId)} {x y : Operand} {v : V} {b : Bool} (ho : o.op = .binOp .neq t x y u) (ht : E.P.underlying t = some (.interface ms)) (hx : g.evO x = some v) (hy : g.evO y = some .nili)
    (hb : isNilI (isConst y) v = some b) : Pv E N o g σ (.bool (!b)) := by
  intro β a w ha hi
  have h := ha.evO hx
  have h2 := ha.evO hy
  generalize hu2 : a.eval y = r2 at h2
  cases h2
  refine ⟨.bool (!b), ?_, .bool _⟩
  simp only [execOp, ho, hu2, Sem.run_bind, run_guard_nil hb h, Result.andThen_ok]
  have := run_equal_nilr (w := w) ht hb h
  generalize a.eval x = r at h this
  cases h <;> simp only [isNilI, reduceCtorEq] at hb <;> simp [Go.binOp, this]

theorem run_equalIn_ifInt {d : Nat} {t s s' : TypeId} {ms : Array (String × TypeId)} {k k1 : IntKind} {m n : Int} {ti : TypeInfo} (ht : E.P.underlying t = some (.interface ms)) (hs : E.P.underlying s = some (.int k1)) (hin : E.P.info? s = some ti) (hc : ti.comparable = true) :
    (Op.equalIn (d + 2) t (.iface s (.int k m)) (.iface s' (.int k n))).run E.P w = .ok (Nat.beq s s' && decide (m = n)) w := by
  by_cases h : s = s'
  · subst h
    have h2 : (Op.equalIn (d + 1) s (.int k m) (.int k n)).run E.P w = .ok (decide (m = n)) w := by simp [Op.equalIn, run_underlying hs]; rfl
    unfold Op.equalIn
    simp only [Sem.run_bind, run_underlying ht, Result.andThen_ok, ne_eq, not_true_eq_false, if_false, typeInfo, run_program, hin, Sem.run_pure, hc, Bool.not_true, Bool.false_eq_true, h2, Nat.beq_refl, Bool.true_and]
  · have : Nat.beq s s' = false := by
      cases hb : Nat.beq s s' with
      | false => rfl
      | true => exact absurd (Nat.eq_of_beq_eq_true hb) h
    unfold Op.equalIn
    simp [run_underlying ht, h, this]

theorem run_equal_ifInt {t s s' : TypeId} {ms : Array (String × TypeId)} {k k1 : IntKind} {m n : Int} {ti : TypeInfo} (ht : E.P.underlying t = some (.interface ms)) (hs : E.P.underlying s = some (.int k1)) (hin : E.P.info? s = some ti) (hc : ti.comparable = true) :
    (Op.equal t (.iface s (.int k m)) (.iface s' (.int k n))).run E.P w = .ok (Nat.beq s s' && decide (m = n)) w := run_equalIn_ifInt (d := 9998) ht hs hin hc

theorem p_eqIfInt {t u s s' : TypeId} {ms : Array (String × TypeId)} {x y : Operand} {k k1 : IntKind} {m n : Int} {ti : TypeInfo} (ho : o.op = .binOp .eql t x y u) (ht : E.P.underlying t = some (.interface ms)) (hs : E.P.underlying s = some (.int k1)) (hin : E.P.info? s = some ti) (hc : ti.comparable = true)
    (hx : g.evO x = some (.iface s (.int k m))) (hy : g.evO y = some (.iface s' (.int k n))) : Pv E N o g σ (.bool (Nat.beq s s' && decide (m = n))) := by
  intro β a w ha hi
  have h := ha.evO hx
  have h2 := ha.evO hy
  generalize hu : a.eval x = r at h
  generalize hu2 : a.eval y = r2 at h2
  cases h with
  | iface _ _ v h => cases h with
    | int _ _ => cases h2 with
      | iface _ _ v h2 => cases h2 with
        | int _ _ => exact ⟨_, by simp only [execOp, ho, hu, hu2, eqGuard, Go.binOp, Sem.run_bind, run_equal_ifInt ht hs hin hc, Sem.run_pure, Result.andThen_ok]; rfl, .bool _⟩

theorem p_neIfInt {t u s s' : TypeId} {ms : Array (String × TypeId)} {x y : Operand} {k k1 : IntKind} {m n : Int} {ti : TypeInfo} (ho : o.op = .binOp .neq t x y u) (ht : E.P.underlying t = some (.interface ms)) (hs : E.P.underlying s = some (.int k1)) (hin : E.P.info? s = some ti) (hc : ti.comparable = true)
    (hx : g.evO x = some (.iface s (.int k m))) (hy : g.evO y = some (.iface s' (.int k n))) : Pv E N o g σ (.bool (!(Nat.beq s s' && decide (m = n)))) := by
  intro β a w ha hi
  have h := ha.evO hx
  have h2 := ha.evO hy
  generalize hu : a.eval x = r at h
  generalize hu2 : a.eval y = r2 at h2
  cases h with
  | iface _ _ v h => cases h with
    | int _ _ => cases h2 with
      | iface _ _ v h2 => cases h2 with
        | int _ _ => exact ⟨_, by simp only [execOp, ho, hu, hu2, eqGuard, Go.binOp, Sem.run_bind, run_equal_ifInt ht hs hin hc, Sem.run_pure, Result.andThen_ok]; rfl, .bool _⟩

/-! Methods. -/

theorem methOf_inv {P : Program} {t : TypeId} {name : String} {f : FuncId} {eo : Option TypeId} (h : methOf P t name = some (f, eo)) :
    ∃ ti m d pr, P.info? t = some ti ∧ ti.methods.find? (·.name == name) = some m ∧ m.path.toList = [] ∧ m.path.isEmpty = true ∧ m.func = some (f, pr) ∧ P.underlying t = some d ∧
      ((∃ e, d = .pointer e ∧ ((pr = true ∧ eo = none) ∨ (pr = false ∧ eo = some e))) ∨ ((∀ e, d ≠ .pointer e) ∧ pr = false ∧ eo = none)) := by
  unfold methOf at h
  cases hin : P.info? t with
  | none => rw [hin] at h; cases h
  | some ti =>
    simp only [hin] at h
    cases hm : ti.methods.find? (·.name == name) with
    | none => rw [hm] at h; cases h
    | some m =>
      simp only [hm] at h
      cases hp : m.path.isEmpty with
      | false => rw [hp] at h; cases h
      | true =>
        rw [hp] at h
        simp only [cond_true] at h
        have hpl : m.path.toList = [] := by
          have : m.path = #[] := Array.isEmpty_iff.1 hp
          rw [this]
        cases hf : m.func with
        | none => simp [hf] at h
        | some x =>
          obtain ⟨f', pr⟩ := x
          cases hu : P.underlying t with
          | none => simp [hf, hu] at h
          | some d =>
            simp only [hf, hu] at h
            by_cases hd : ∃ e, d = .pointer e
            · obtain ⟨e, rfl⟩ := hd
              cases pr with
              | true => cases h; exact ⟨ti, m, _, true, rfl, hm, hpl, hp, hf, rfl, .inl ⟨e, rfl, .inl ⟨rfl, rfl⟩⟩⟩
              | false => cases h; exact ⟨ti, m, _, false, rfl, hm, hpl, hp, hf, rfl, .inl ⟨e, rfl, .inr ⟨rfl, rfl⟩⟩⟩
            · have hd' : ∀ e, d ≠ .pointer e := fun e he => hd ⟨e, he⟩
              cases pr with
              | true => cases d <;> first | (cases h; done) | exact absurd rfl (hd' _)
              | false =>
                have : f' = f ∧ none = eo := by cases d <;> first | (cases h; exact ⟨rfl, rfl⟩) | exact absurd rfl (hd' _)
                obtain ⟨rfl, rfl⟩ := this
                exact ⟨ti, m, d, false, rfl, hm, hpl, hp, hf, rfl, .inr ⟨hd', rfl, rfl⟩⟩

theorem run_method_own {fuel : Nat} {t : TypeId} {u : Value} {name : String} {f : FuncId} (h : methOf E.P t name = some (f, none)) : (method (fuel + 1) t u name).run E.P w = .ok (f, u) w := by
  obtain ⟨ti, m, d, pr, hin, hm, hpl, hp, hf, hu, hd⟩ := methOf_inv h
  rcases hd with ⟨e, rfl, ⟨rfl, _⟩ | ⟨_, h0⟩⟩ | ⟨hd, rfl, _⟩
  · simp [method, typeInfo, hin, hm, hpl, follow, hf, receiverAt, run_underlying hu, Place.get]
  · cases h0
  · have hrec : ∀ nm, (receiverAt t (.val u) false nm).run E.P w = .ok u w := by
      intro nm
      simp only [receiverAt, run_underlying hu, Sem.run_bind, Result.andThen_ok]
      cases d <;> first | rfl | exact absurd rfl (hd _)
    simp [method, typeInfo, hin, hm, hpl, follow, hf, hrec]

theorem run_wrap {P : Program} {ts : Array TypeId} {t : TypeId} {ad : Addr} {a b : String} (w : World) : (Builtin.ssaWrapNilChk_ ts t #[.pointer (some ad), strVal a, strVal b]).run P w = .ok (.pointer (some ad)) w := rfl

theorem run_method_at {fuel : Nat} {t e : TypeId} {ad : Addr} {r : Value} {name : String} {f : FuncId} (h : methOf E.P t name = some (f, some e)) (hl : (loadVar e ad).run E.P w = .ok r w) : (method (fuel + 1) t (.pointer (some ad)) name).run E.P w = .ok (f, r) w := by
  obtain ⟨ti, m, d, pr, hin, hm, hpl, hp, hf, hu, hd⟩ := methOf_inv h
  rcases hd with ⟨e, rfl, ⟨_, h0⟩ | ⟨rfl, h0⟩⟩ | ⟨hd, _, h0⟩
  · cases h0
  · cases h0
    have hrec : ∀ nm, (receiverAt t (.val (.pointer (some ad))) false (some nm)).run E.P w = .ok r w := by
      intro nm
      simp only [receiverAt, run_underlying hu, Sem.run_bind, Result.andThen_ok, Place.get, Sem.run_pure, run_wrap, asAddr, hl]
    have hp' : m.path = #[] := Array.isEmpty_iff.1 hp
    simp [method, typeInfo, hin, hm, hp', follow, hf, hrec]
  · cases h0

/-! Writing to a buffer. -/

theorem regroup_len (sz : Nat) : ∀ (n : Nat) (cs : List V), n * sz ≤ cs.length → (regroup sz n cs).length = n
  | 0, cs, _ => rfl
  | n + 1, cs, h => by
    have h1 : sz + n * sz ≤ cs.length := by rw [Nat.add_mul] at h; omega
    have ih := regroup_len sz n (cs.drop sz) (by rw [List.length_drop]; omega)
    simp only [regroup, List.length_append, ih]
    cases hb : Nat.beq sz 1 with
    | true =>
      have := Nat.eq_of_beq_eq_true hb; subst this
      simp only [cond_true, List.length_take]
      omega
    | false => simp; omega

theorem regroup_flat (sz : Nat) : ∀ (n : Nat) (cs : List V), cs.length = n * sz → cs.all V.one = true → flat (regroup sz n cs) = cs ∧ ∀ x ∈ regroup sz n cs, V.elem sz x
  | 0, cs, h, _ => by
    have : cs = [] := List.eq_nil_of_length_eq_zero (by rw [h, Nat.zero_mul])
    subst this
    exact ⟨rfl, fun x hx => (by cases hx)⟩
  | n + 1, cs, h, h1 => by
    have hl : cs.length = n * sz + sz := by rw [h, Nat.add_mul, Nat.one_mul]
    have hd1 : (cs.drop sz).all V.one = true := by
      rw [List.all_eq_true] at h1 ⊢; exact fun x hx => h1 x (List.mem_of_mem_drop hx)
    have ht1 : (cs.take sz).all V.one = true := by
      rw [List.all_eq_true] at h1 ⊢; exact fun x hx => h1 x (List.mem_of_mem_take hx)
    obtain ⟨q1, q2⟩ := regroup_flat sz n (cs.drop sz) (by rw [List.length_drop]; omega) hd1
    simp only [regroup]
    rw [flat_append, q1]
    cases hb : Nat.beq sz 1 with
    | true =>
      have := Nat.eq_of_beq_eq_true hb; subst this
      simp only [cond_true]
      match cs, hl, h1 with
      | c :: cs, hl, h1 =>
        have hc1 : V.one c = true := by simp at h1; exact h1.1
        have hcc : c.cells = [c] := by cases c <;> first | rfl | cases hc1
        refine ⟨by simp [flat, hcc], fun x hx => ?_⟩
        rcases List.mem_append.1 hx with hx | hx
        · simp at hx; subst hx
          exact ⟨by rw [hcc]; rfl, by rw [hcc]; simp [hc1]⟩
        · exact q2 x hx
    | false =>
      simp only [cond_false]
      refine ⟨by simp [flat, V.cells], fun x hx => ?_⟩
      rcases List.mem_append.1 hx with hx | hx
      · simp at hx; subst hx
        exact ⟨by simp [V.cells]; omega, ht1⟩
      · exact q2 x hx

theorem i_storeBuf {t : TypeId} {agg : Bool} {sz esz : Nat} {x y : Operand} {p off : Nat} {e : TypeId} {xs : List V} {cs' : List V} {v : V} {n : Nat} {K : V → St → Nat → Prop} (ho : o.op = .store t x y) (ht : TLoad E.P t agg sz)
    (hx : g.evO x = some (.ptr p off)) (hs : σ p = some (.buf e esz xs)) (hy : g.evO y = some v) (h1 : v.cells.all V.one = true) (hl : v.cells.length = sz) (hc : setAt (flat xs) off v.cells = some cs')
    (k : K .junk (σ.set p (.buf e esz (regroup esz xs.length cs'))) n) : OpI E N o g σ n K := by
  refine OpI.of_skip fun β a w ha hi hn => ?_
  subst hn
  obtain ⟨b, c, cur, hu, hloc, hnc, hw, hcs, hr, hel, hown⟩ := (ha.evO hx).ptr_buf hi hs
  have hv := (ha.evO hy)
  have hvc := hv.cells h1
  obtain ⟨hle, heq⟩ := setAt_eq hc
  have hsz : (a.eval y).cells.size = sz := by have := hvc.1; simp at this; omega
  have hfl := flat_len hel
  have hmul : xs.length * esz ≤ c * esz := Nat.mul_le_mul_right _ hnc
  have hlen : (a.eval y).cells.toList.length = v.cells.length := hvc.1
  have hst := run_storeCells_at E.P b off e (a.eval y).cells.toList 0 cur w hw (by simp; omega) (hvc.oneCell h1)
  simp only [Nat.add_zero] at hst
  generalize hnew : (cur.toList.take off ++ (a.eval y).cells.toList ++ cur.toList.drop (off + (a.eval y).cells.toList.length)).toArray = new at hst
  have hnl : new.size = cur.size := by
    rw [← hnew]; simp only [List.size_toArray, List.length_append, List.length_take, List.length_drop, Array.length_toList]; omega
  have hcl : cs'.length = xs.length * esz := by
    rw [heq]; simp only [List.length_append, List.length_take, List.length_drop]; omega
  have hc1 := all_one_setAt hc (flat_one hel) h1
  obtain ⟨q1, q2⟩ := regroup_flat esz xs.length cs' hcl hc1
  have q3 := regroup_len esz xs.length cs' (by omega)
  have htake : new.toList.take (xs.length * esz) = (cur.toList.take (xs.length * esz)).take off ++ (a.eval y).cells.toList ++ (cur.toList.take (xs.length * esz)).drop (off + v.cells.length) := by
    rw [← hnew]
    simp only [hlen]
    have ha1 : (cur.toList.take off ++ (a.eval y).cells.toList).length = off + v.cells.length := by
      simp only [List.length_append, List.length_take, hlen, Array.length_toList]; omega
    have ha2 : (cur.toList.take (xs.length * esz)).take off = cur.toList.take off := by rw [List.take_take, Nat.min_eq_left (by omega)]
    have ha3 : (cur.toList.take (xs.length * esz)).drop (off + v.cells.length) = (cur.toList.drop (off + v.cells.length)).take (xs.length * esz - (off + v.cells.length)) := by rw [List.drop_take]
    rw [ha2, ha3, List.take_append, List.take_of_length_le (by omega), ha1]
  refine ⟨w.setRow b new, β, _, ?_, .refl β, .refl β, ?_, k⟩
  · have : ¬ (a.eval y).cells.size ≠ sz := by omega
    simp [execOp, ho, hu, Instr.storeAt, Instr.sureAddr, storeVar, run_sizeOf ht, this, hst]
  · refine hi.setObj hs rfl hloc rfl rfl rfl rfl (by simp) (fun k hk hne => Go.setRow_other w b k _ hne) ?_
    simp only [ORel]
    refine ⟨q3.symm, q2, new.toList.take (xs.length * esz), ?_, ?_⟩
    · rw [q1, heq, htake]
      exact ((hr.take off).append hvc).append (hr.drop _)
    · obtain ⟨r1, r2⟩ := hown
      have hnl' : new.toList.length = c * esz := by rw [← hcs]; simpa using hnl
      refine ⟨by rw [List.length_take]; omega, ?_⟩
      rcases r2 with ⟨hh, _⟩ | ⟨g', cap, cur', hv', hb', hg', hn', hm', hsz', ht'⟩
      · simp [sliceAt] at hh
      · simp only [sliceAt, Option.map_some, Value.slice.injEq, Option.some.injEq, Addr.mk.injEq] at hv'
        obtain ⟨⟨rfl, _, _⟩, _, rfl⟩ := hv'
        exact .inr ⟨b, c, new, rfl, hb', setRow_gets w b _ _ _ _ hw, hn', hm', by rw [hnl]; exact hcs, rfl⟩

/-- The invariant when a buffer has moved on: the old object is gone, the new one is there. -/
theorem Inv.rebuf (hi : Inv E β σ w) {σd : St} {w' : World} {e sz n c : Nat} {ob nb : Option Nat} {xs : List V} {us : List Value}
    (hd : (σd = σ ∧ ob = none) ∨ ∃ p y l, σ p = some y ∧ y.isTok = false ∧ σd = σ.del p ∧ β.loc p = some l ∧ l.block? = ob)
    (hown : w'.ownsRow E.B e sz (sliceAt nb n c) n us) (hn : n = xs.length) (hel : ∀ x ∈ xs, V.elem sz x) (hrel : RelL β (flat xs) us)
    (hstep : (nb = ob ∧ w.grownBy w' ob) ∨ (nb = some w.heap.size ∧ Grew w w')) :
    ∃ β', β.le β' ∧ β.keep β' ∧ Inv E β' (σd.set β.next (.buf e sz xs)) w' ∧ β'.loc β.next = some (.sl nb n c) ∧ σd β.next = none ∧ β'.next = β.next + 1 := by
  have hsub : σd.sub σ := by
    rcases hd with ⟨rfl, _⟩ | ⟨p, y, l, _, _, rfl, _⟩
    · exact .refl _
    · exact St.del_sub σ p
  have hid := hi.weak hsub
  have hfree : ∀ o z l' r, σd o = some z → β.loc o = some l' → l'.block? = some r → ob ≠ some r := by
    intro o z l' r hz hl' hr hv
    rcases hd with ⟨_, h0⟩ | ⟨p, y, l, hp, _, rfl, hl, hb⟩
    · rw [h0] at hv; cases hv
    · have hne : o ≠ p := fun e => by subst e; rw [St.del_same] at hz; cases hz
      rw [St.del_ne hne] at hz
      have h1 := (hi.owner o z l' r hz hl' hr).2.1
      have h2 := (hi.owner p _ l r hp hl (by rw [hb, hv])).2.1
      rw [h1] at h2
      exact hne (Option.some.inj h2)
  have hblk : ∀ k, k < w.heap.size → some k ≠ ob → w'.heap[k]? = w.heap[k]? := by
    intro k hk hne
    rcases hstep with ⟨_, hg⟩ | ⟨_, hg⟩
    · exact hg.block k hk hne
    · exact hg.block k hk
  have hmeta : w'.os = w.os ∧ w'.tape = w.tape ∧ w'.output = w.output ∧ w.heap.size ≤ w'.heap.size := by
    rcases hstep with ⟨_, hg⟩ | ⟨_, hg⟩
    · exact ⟨hg.os, hg.tape, hg.output, hg.size⟩
    · exact ⟨hg.os, hg.tape, hg.output, hg.size⟩
  have hvB : ∀ r, ob = some r → E.B ≤ r ∧ β.ro r = none := by
    intro r hr
    rcases hd with ⟨_, h0⟩ | ⟨p, y, l, hp, hy, _, hl, hb⟩
    · rw [h0] at hr; cases hr
    · have := hi.owner p _ l r hp hl (by rw [hb, hr]); exact ⟨this.1, this.2.2 hy⟩
  have hi1 : Inv E β σd w' := by
    refine ⟨hi.below.trans ⟨hmeta.1, hmeta.2.1, hmeta.2.2.1, hmeta.2.2.2, fun k hk => hblk k (Nat.lt_of_lt_of_le hk hi.base) (fun e => by have := (hvB k e.symm).1; omega)⟩, Nat.le_trans hi.base hmeta.2.2.2, ?_, ?_, hid.owner, hi.next, hi.gl⟩
    · intro k x hk
      have : some k ≠ ob := fun e => by have := (hvB k e.symm).2; rw [hk] at this; cases this
      rw [hblk k (hi.ro_lt hk) this]
      exact hi.ro k x hk
    · intro o z hz
      obtain ⟨l', hl', ho'⟩ := hid.obj o z hz
      exact ⟨l', hl', ho'.same fun r hr => hblk r (ho'.lt hr) (fun e => hfree o z l' r hz hl' hr e.symm)⟩
  have hbfree : ∀ r, nb = some r → E.B ≤ r ∧ β.ro r = none ∧ ∀ o y l', σd o = some y → β.loc o = some l' → l'.block? ≠ some r := by
    intro r hr
    rcases hstep with ⟨he, _⟩ | ⟨he, _⟩
    · rw [hr] at he
      have := hvB r he.symm
      exact ⟨this.1, this.2, fun o y l' hy hl' hb => hfree o y l' r hy hl' hb he.symm⟩
    · rw [hr] at he; cases he
      exact hid.new_free (Nat.le_refl _)
  have hp := hi.next β.next (Nat.le_refl _)
  have hle := Gh.addObj_le hp (.sl nb n c)
  refine ⟨β.addObj β.next (.sl nb n c), hle, Gh.addObj_keep _, hi1.addObj hp (.buf e sz xs) _ ?_ ?_, by simp [Gh.addObj], hid.fresh, Gh.addObj_next _⟩
  · simp only [ORel]
    exact ⟨hn, hel, us, ⟨hrel.1, fun i x hx => (hrel.2 i x hx).mono hle⟩, hown⟩
  · intro r hr
    obtain ⟨q1, q2, q3⟩ := hbfree r hr
    exact ⟨q1, fun _ => q2, q3⟩

inductive DstM (σ : St) (e sz : Nat) : V → List V → St → Prop
  | nils : DstM σ e sz .nils [] σ
  | buf (p : Nat) (xs : List V) (h : σ p = some (.buf e sz xs)) : DstM σ e sz (.buf p) xs (σ.del p)

theorem DstM.owns (hi : Inv E β σ w) {v : V} {e sz : Nat} {xs : List V} {σd : St} {u : Value} (h : DstM σ e sz v xs σd) (hr : Rel β v u) :
    (∀ x ∈ xs, V.elem sz x) ∧ ∃ us, RelL β (flat xs) us ∧ w.ownsRow E.B e sz u xs.length us ∧
    ((σd = σ ∧ u.ownBlock = none) ∨ ∃ p y l, σ p = some y ∧ y.isTok = false ∧ σd = σ.del p ∧ β.loc p = some l ∧ l.block? = u.ownBlock) := by
  cases h with
  | nils => cases hr; exact ⟨fun x hx => (by cases hx), [], .nil, World.ownsRow_nil _ _ _ _, .inl ⟨rfl, rfl⟩⟩
  | buf p xs hs =>
    obtain ⟨b, c, us, rfl, hl, hel, hrl, hown⟩ := hr.buf_val hi hs
    refine ⟨hel, us, hrl, hown, .inr ⟨p, _, _, hs, rfl, rfl, hl, ?_⟩⟩
    cases b <;> rfl

theorem i_appendM {n : Nat} {t e : TypeId} {sz by' : Nat} {zs : List V} {x y : Operand} {ts : Array TypeId} {v u : V} {xs ys : List V} {σd : St} {K : V → St → Nat → Prop}
    (ho : o.op = .call { callee := .builtin .append, args := #[x, y], argTypes := ts }) (hts : ts = #[t, t]) (ht : E.P.underlying t = some (.slice e)) (he : TElem E.P e sz by' zs)
    (hx : g.evO x = some v) (hv : DstM σ e sz v xs σd) (hy : g.evO y = some u) (hu : u.rdS sz = some ys) (hlen : xs.length + ys.length ≤ 140737488355328) (hbytes : (xs.length + ys.length) * by' ≤ 140737488355328)
    (k : σd n = none → K (.buf n) (σd.set n (.buf e sz (xs ++ ys))) (n + 1)) : OpI E N o g σ n K := by
  refine OpI.of_value fun β a w ha hi hn => ?_
  subst hn
  subst hts
  obtain ⟨i, z, hin, hz, hsz, hby, hzs, _⟩ := he.get
  obtain ⟨hel, us, hus, hown, hd⟩ := hv.owns hi (ha.evO hx)
  obtain ⟨hel2, ad, cap, us2, hue, hc, hus2⟩ := rdS_get hi hu (ha.evO hy)
  have hl2 : us2.length = ys.length * sz := by rw [hus2.1, flat_len hel2]
  have hs1 := hc.first (P := E.P) (cap := cap) hl2
  rw [← hue] at hs1
  have hl1 := run_lenOf_slice (P := E.P) ad ys.length cap
  rw [← hue] at hl1
  rw [← hsz] at hown hs1
  obtain ⟨v', w', hrun, hown', hstep⟩ := run_append_core (P := E.P) (ty := o.type) ht ht (fun k h => by cases h) hin hz hzs hown hl1 hs1 (by rw [hsz]; exact hl2) (hus2.oneCell (flat_one hel2)) hlen (by rw [hby]; exact hbytes) hi.base
  rw [hsz] at hown'
  obtain ⟨b', c', hvs, hb'⟩ := slice_of_owns hown'
  have hel3 : ∀ x ∈ xs ++ ys, V.elem sz x := fun x hx => (List.mem_append.1 hx).elim (hel x) (hel2 x)
  have hrel : RelL β (flat (xs ++ ys)) (us ++ us2) := by
    rw [flat_append]; exact hus.append hus2
  rw [hvs] at hown'
  rw [hb'] at hstep
  obtain ⟨β', hle, hkp, hinv, hloc, hfr, hnx⟩ := hi.rebuf hd hown' (by simp) hel3 hrel hstep
  refine ⟨v', w', β', .buf β.next, _, ?_, hle, hkp, ?_, hinv, by rw [hnx]; exact k hfr⟩
  · simp [execOp, ho, resolve, invoke, Go.builtin, hrun]
  · rw [hvs]; exact .buf _ _ _ _ hloc

theorem i_cutM {n : Nat} {t e sz by' : Nat} {x : Operand} {lo hi : Option Operand} {p : Nat} {xs : List V} {l : Option Int} {m : Int} {K : V → St → Nat → Prop} (ho : o.op = .slice t x lo hi none) (ht : TSlice E.P t e sz by') (hx : g.evO x = some (.buf p)) (hs : σ p = some (.buf e sz xs))
    (hl : bndO g lo = some l) (hh : bndO g hi = some (some m)) (h1 : l.getD 0 = 0) (h2 : 0 ≤ m) (h3 : m ≤ xs.length)
    (k : (σ.del p) n = none → K (.buf n) ((σ.del p).set n (.buf e sz (xs.take m.toNat))) (n + 1)) : OpI E N o g σ n K := by
  refine OpI.of_value fun β a w ha hinv hn => ?_
  subst hn
  obtain ⟨hut, i, hin, hisz, _⟩ := ht.get
  obtain ⟨b, c, us, hux, hloc, hel, hrl, hown⟩ := (ha.evO hx).buf_val hinv hs
  have hnc : xs.length ≤ c := by
    rcases ownsRow_inv hown with ⟨_, h0, _⟩ | ⟨_, _, _, _, hnc, _⟩
    · omega
    · exact hnc
  have hb := run_bounds (P := E.P) ha hl hh (isS := true) (len := xs.length) (cap := c) (by omega) (by simp; omega) (by simp; omega) hnc w
  simp only [h1, Int.toNat_zero, Option.getD_some] at hb
  have hel' : ∀ x ∈ xs.take m.toNat, V.elem sz x := fun x hx => hel x (List.mem_of_mem_take hx)
  have hlen : (xs.take m.toNat).length = m.toNat := by rw [List.length_take]; omega
  have hrl' : RelL β (flat (xs.take m.toNat)) (us.take (m.toNat * sz)) := by
    rw [← flat_take hel]; exact hrl.take _
  have hmul : m.toNat * sz ≤ xs.length * sz := Nat.mul_le_mul_right _ (by omega)
  have hown' : w.ownsRow E.B e sz (sliceAt b m.toNat c) m.toNat (us.take (m.toNat * sz)) := by
    refine ⟨by rw [List.length_take, hown.1]; omega, ?_⟩
    rcases hown.2 with ⟨hv, h0⟩ | ⟨g', cap', cur, hv, hb', hg', hn', hm', hsz', ht'⟩
    · cases b with
      | none =>
        simp only [sliceAt, Option.map_none, Value.slice.injEq] at hv
        have : m.toNat = 0 := by omega
        exact .inl ⟨by simp [sliceAt, this, hv.2.2], this⟩
      | some b => simp [sliceAt] at hv
    · cases b with
      | none => simp [sliceAt] at hv
      | some b =>
        simp only [sliceAt, Option.map_some, Value.slice.injEq, Option.some.injEq, Addr.mk.injEq] at hv
        obtain ⟨⟨rfl, _, _⟩, _, rfl⟩ := hv
        refine .inr ⟨b, c, cur, rfl, hb', hg', by omega, hm', hsz', ?_⟩
        rw [← ht', List.take_take, Nat.min_eq_left hmul]
  obtain ⟨β', hle, hkp, hi', hloc', hfr, hnx⟩ := hinv.rebuf (ob := b) (.inr ⟨p, _, _, hs, rfl, rfl, hloc, rfl⟩) hown' hlen.symm hel' hrl' (.inl ⟨rfl, rfl, rfl, rfl, Nat.le_refl _, fun _ _ _ => rfl⟩)
  refine ⟨sliceAt b m.toNat c, w, β', .buf β.next, _, ?_, hle, hkp, .buf _ _ _ _ hloc', hi', by rw [hnx]; exact k hfr⟩
  simp only [execOp, ho, hux, sliceAt, Instr.sliceAt, Instr.slice, run_underlying hut, Sem.run_bind, Result.andThen_ok, Option.map_none, hb]
  cases b with
  | none => simp [sizeOf, typeInfo, hin]
  | some b => simp [sizeOf, typeInfo, hin, hisz, addr_add]

end
end Go.Vam
