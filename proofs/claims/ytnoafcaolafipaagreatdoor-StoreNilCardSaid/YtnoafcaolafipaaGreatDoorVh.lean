/- StoreNil's walk. -/
import Derived.Test.YtnoafcaolafipaaGreatDoorVc
import Derived.KernelRfl
import Derived.OpenShut
import Derived.LaidMore
import Derived.MakeChecks
import Derived.Test.YtnoafcaolafipaaGreatDoorRows
import Derived.Stop.LaidErr
import Derived.Test.YtnoafcaolafipaaGreatDoorVd
import Derived.Test.YtnoafcaolafipaaGreatDoorVe
namespace Go.Vam
open Go Go.RowKit Go.Proofs
set_option maxRecDepth 1000000

theorem eV (W : World) : (env0 Tryz.prog W 5 glob).P = Tryz.prog := rfl

theorem names_ok : (Tryz.prog.funcs.all fun x => !(x.name == "runtime.NumGoroutine")) = true := by kernel_rfl

theorem pr_ok (W : World) : PrOk pr (env0 Tryz.prog W 5 glob) := by
  refine ⟨fun t i h => h, fun f x h => ⟨h, ?_⟩, fun k cs h => h, rfl, ?_, ⟨by kernel_rfl⟩, by kernel_rfl, fun t n x h => h⟩
  · have := Array.all_eq_true_iff_forall_mem.1 names_ok x (Array.mem_of_getElem? h)
    simpa using this
  · show Tryz.prog.underlying 5 = some (.int .u8)
    kernel_rfl

theorem callable214 : Callable Tryz.prog 214 := ⟨_, Tryz.func214, by kernel_rfl, by kernel_rfl⟩
theorem callable197 : Callable Tryz.prog 197 := ⟨_, Tryz.func197, by kernel_rfl, by kernel_rfl⟩
theorem callable36 : Callable Tryz.prog 36 := ⟨_, Tryz.func36, by kernel_rfl, by kernel_rfl⟩
theorem callable270 : Callable Tryz.prog 270 := ⟨_, Tryz.func270, by kernel_rfl, by kernel_rfl⟩
theorem callable3 : Callable Tryz.prog 3 := ⟨_, Tryz.func3, by kernel_rfl, by kernel_rfl⟩

open Go.Maps in
theorem names_list (W : World) {h : Hp} {p m c : Nat} {e : TypeId} {cs : List V} {es : List (V × V × Nat)} {l : List (List UInt8)} (hp : hget h.os p = some (.cells e cs)) (hcs : cs[1]? = some (.map m)) (hcs4 : cs[4]? = some (.bool false)) (hm : hget h.os m = some (.map es c))
    (hk : keysV es = some l) (hok : keysOk l = true) (hlen : l.length ≤ 1000000) : CallOk (env0 Tryz.prog W 5 glob) 36 [.ptr p 0] h (listV l) h := by
  refine list_ok (e := 9) callable36 fun φ β w us hi hr => ?_
  obtain ⟨u, rfl, hu⟩ := rels_inv1 hr
  obtain ⟨d, rfl, hcell⟩ := ptr_cell hi.inv hu (U_get hp)
  obtain ⟨v1, hv1, hr1⟩ := hcell 1 _ hcs
  obtain ⟨v4, hv4, hr4⟩ := hcell 4 _ hcs4
  obtain ⟨r, a, rfl, hl, hb, hre, hlt, hnd⟩ := map_get hi.inv hr1 (U_get hm)
  rw [hr4.bool_inv] at hv4
  have hborn : ∀ x ∈ a.toList, x.born < c := fun x hx => by
    obtain ⟨i, hi', rfl⟩ := List.mem_iff_getElem.1 hx
    have hlen : i < es.length := by have := hre.1; omega
    obtain ⟨mm, q1, _, _, q4⟩ := hre.2 i _ (List.getElem?_eq_getElem hlen)
    rw [List.getElem?_eq_getElem hi'] at q1; cases q1
    have := hlt i _ (List.getElem?_eq_getElem hlen)
    omega
  have hnd' : (a.toList.map (·.born)).Nodup := by
    have : a.toList.map (·.born) = es.map (·.2.2) := by
      apply List.ext_getElem?
      intro i
      rw [List.getElem?_map, List.getElem?_map]
      cases hx : es[i]? with
      | none =>
        have : a.toList[i]? = none := by rw [List.getElem?_eq_none_iff] at hx ⊢; rw [hre.1]; exact hx
        rw [this]; rfl
      | some x =>
        obtain ⟨mm, q1, _, _, q4⟩ := hre.2 i x hx
        rw [q1]; simp [q4]
    rw [this]; exact hnd
  obtain ⟨D, hD, hperm, hsize⟩ := keys_own (P := Tryz.prog) (k := 9) (show Tryz.prog.underlying 9 = some .string by kernel_rfl) hb (keysV_rel hre hk) hborn hnd' hok hlen
  refine (list_walk r d a.size false D Rk w hv1 hv4 hD (by rw [hsize]; unfold maxLen; omega) (by rw [hsize]; omega)).mono ?_
  rintro en w' ⟨v, ss, rfl, h1, _, h3, h4, h5⟩
  exact ⟨v, ss, rfl, (h1 rfl).trans hperm, h3, h4, ⟨h5.os, h5.tape, h5.output, h5.size, h5.block⟩⟩

theorem sclone_ok (W : World) {h : Hp} {s : List UInt8} (hs : s.length ≤ 281474976710656) : CallOk (env0 Tryz.prog W 5 glob) 270 [.str s] h (.str s) h := by
  intro φ β w us hi hr
  obtain ⟨u, rfl, hu⟩ := rels_inv1 hr
  rw [hu.str_inv]
  refine .inl ⟨callable270, (sclone_walk ⟨s.toArray⟩ w (by simpa [ByteArray.size] using hs)).mono ?_⟩
  rintro e w' ⟨rfl, h5⟩
  exact ⟨_, rfl, β, .refl β, .refl β, .str s, ⟨hi.inv.grew ⟨h5.os, h5.tape, h5.output, h5.size, h5.block⟩, hi.next, hi.dj⟩⟩

theorem sums_ok (W : World) : ∀ g vs h v h', pr.sm g vs h = some (v, h') → CallOk (env0 Tryz.prog W 5 glob) g vs h v h' := by
  intro g vs h v h' hs
  change sums g vs h = some (v, h') at hs
  unfold sums at hs
  split at hs
  · split at hs
    · cases hs
      exact indexByteString_ok (fn := Tryz.f356) Tryz.func356 (by kernel_rfl) (by kernel_rfl) (by kernel_rfl) (by kernel_rfl) _ _
    · cases hs
  · split at hs
    · split at hs
      · rename_i a b hx hy
        cases hs
        exact compare_ok (fn := Tryz.f165) Tryz.func165 (by kernel_rfl) (by kernel_rfl) (by kernel_rfl) (by kernel_rfl) hx hy
      · cases hs
    · cases hs
  · split at hs
    · split at hs
      · rename_i hm
        cases hs
        exact clone_ok callable214 clone_walk hm
      · cases hs
    · cases hs
  · split at hs
    · split at hs
      · rename_i hp
        split at hs
        · rename_i hcs
          split at hs
          · rename_i hm
            split at hs
            · rename_i hn
              obtain ⟨h1, h2⟩ := cond_some hs
              cases h2
              exact used_ok callable197 used_walk hp hcs hm hn (Nat.le_of_ble_eq_true h1)
            · cases hs
          · cases hs
        · cases hs
      · cases hs
    · cases hs
  · split at hs
    · split at hs
      · rename_i hp
        split at hs
        · rename_i hcs hcs4
          split at hs
          · rename_i hm
            split at hs
            · rename_i hk
              obtain ⟨h1, h2⟩ := cond_some hs
              cases h2
              simp only [Bool.and_eq_true] at h1
              exact names_list W hp hcs hcs4 hm hk h1.1 (Nat.le_of_ble_eq_true h1.2)
            · cases hs
          · cases hs
        · cases hs
      · cases hs
    · cases hs
  · split at hs
    · obtain ⟨h1, h2⟩ := cond_some hs
      cases h2
      exact sclone_ok W (Nat.le_of_ble_eq_true h1)
    · cases hs
  · cases hs

/-- A listed table of whole numbers lies in its variable as it is listed. -/
theorem ints_laid {H : Type} {enc : TypeId × Value → H} {P : Program} {W : World} {b : Nat} {sp : Nat → Bool} {hd : Bool} {fuel : Nat} {t e : TypeId} {len : Nat} {k : IntKind} {cs : List Value} {ns : List Int} {ps : List MemPlace}
    (hu : P.underlying t = some (.array len e)) (hue : P.underlying e = some (.int k)) (c1 : P.cellsOf e = 1) (ct : P.cellsOf t = len)
    (h : DataW.trod enc P W b sp hd fuel t cs = some (.agg (ns.map fun n => .lit (.int k n)), ps)) : cs = ns.map (.int k) := by
  obtain ⟨xs, m, rfl, hx, hlen, hn, hel⟩ := DataW.trod_array hu h
  simp only [Prod.mk.injEq, DataW.agg.injEq] at hx
  have hl : ns.length = len := by have := congrArg List.length hx.1; simpa [hn] using this
  apply List.ext_getElem?
  intro i
  rw [List.getElem?_map]
  by_cases hi : i < len
  · have h0 := hel i hi
    rw [c1, Nat.mul_one] at h0
    have hxi : i < xs.length := by omega
    rw [List.getElem?_eq_getElem hxi] at h0
    obtain ⟨n, e1, e2, _⟩ := DataW.trod_int hue h0
    have h1 : xs[i].1 = .lit (.int k n) := by rw [e2]
    have h2 := congrArg (fun l => l[i]?) hx.1
    simp only [List.getElem?_map, List.getElem?_eq_getElem hxi, List.getElem?_eq_getElem (show i < ns.length by omega), Option.map_some, Option.some.injEq] at h2
    rw [h1] at h2
    have h3 : ns[i] = n := by simpa using h2
    have hci : i < cs.length := by omega
    have h4 : (cs.drop i).take 1 = [cs[i]] := by rw [List.drop_eq_getElem_cons hci]; rfl
    rw [h4] at e1
    rw [List.getElem?_eq_getElem hci, List.getElem?_eq_getElem (show i < ns.length by omega)]
    simp only [List.cons.injEq, and_true] at e1
    rw [e1]; simp [h3]
  · rw [List.getElem?_eq_none (by omega), List.getElem?_eq_none (by omega)]; rfl

theorem g7 : Tryz.prog.globalNamed (Proofs.YtnoafcaolafipaaGreatDoor.Rows.storeNilRow.laid.getD 0 (default, .nil)).1 = some 7 := by kernel_rfl
theorem g3 : Tryz.prog.globalNamed (Proofs.YtnoafcaolafipaaGreatDoor.Rows.storeNilRow.laid.getD 1 (default, .nil)).1 = some 3 := by kernel_rfl
theorem g1 : Tryz.prog.globalNamed (Proofs.YtnoafcaolafipaaGreatDoor.Rows.storeNilRow.laid.getD 5 (default, .nil)).1 = some 1 := by kernel_rfl
theorem t7 : (Tryz.prog.globals[7]?).map (·.type) = some 454 := by kernel_rfl
theorem t3 : (Tryz.prog.globals[3]?).map (·.type) = some 403 := by kernel_rfl
theorem t1 : (Tryz.prog.globals[1]?).map (·.type) = some 141 := by kernel_rfl
theorem star : "*" ++ "errors.errorString" = "*errors.errorString" := by decide
theorem row416 (u : TypeId) (h : Tryz.prog.typeName? 3 u = some "*errors.errorString") : u = 416 :=
  typeName_ptr_named (nm := "errors.errorString") (by rw [star]; kernel_rfl) (by kernel_rfl) (by decide) u (by rw [star]; exact h)

theorem var_heap {P : Program} {W : World} {n : String} {g : Nat} {cs : Array Value} (hg : P.globalNamed n = some g) (h : W.var? P n = some cs) : ∃ e fr, W.heap[g]? = some (.cells cs e fr) := by
  simp only [World.var?, hg, Option.bind_some] at h
  split at h
  · rename_i e fr hh; cases h; exact ⟨e, fr, hh⟩
  · cases h

/-- WHAT THE CONDITION GIVES: the two tables, and an error. -/
theorem glob_laid {W : World} (h : laidMetH Tryz.prog Proofs.YtnoafcaolafipaaGreatDoor.Rows.storeNilRow.laid W) : ∀ k cs, glob k = some cs → Rel (gh0 W) (.rptr cs) (.pointer (some ⟨k, 0, none⟩)) := by
  rw [MakeChecks.laidMetH_plain _ _ _ (by kernel_rfl)] at h
  have hE := h.tail.tail.tail.tail.tail
  obtain ⟨ae, se, hve, hce, hse, _⟩ := laid_sentinel hE g1 t1 Tryz.underlying141 row416 Tryz.underlying416 Tryz.underlying418 rfl rfl Tryz.underlying9 (by kernel_rfl) (by kernel_rfl)
  obtain ⟨ps, ⟨i7, y7, cs7, f7, p7, q7, hg7, ht7, hv7, hd7, ⟨i3, y3, cs3, f3, p3, q3, hg3, ht3, hv3, hd3, _, _⟩, _⟩, _, _⟩ := h
  obtain rfl := Option.some.inj (g7.symm.trans hg7)
  obtain rfl := Option.some.inj (g3.symm.trans hg3)
  obtain rfl := Option.some.inj (t7.symm.trans ht7)
  obtain rfl := Option.some.inj (t3.symm.trans ht3)
  obtain ⟨e7, r7, w7⟩ := var_heap g7 hv7
  obtain ⟨e3, r3, w3⟩ := var_heap g3 hv3
  obtain ⟨e1, r1, w1⟩ := var_heap g1 hve
  have k7 := ints_laid (ns := tab32) (k := .u8) (show Tryz.prog.underlying 454 = some (.array 32 5) by kernel_rfl) (show Tryz.prog.underlying 5 = some (.int .u8) by kernel_rfl) (by kernel_rfl) (by kernel_rfl) hd7
  have k3 := ints_laid (ns := tab64) (k := .u8) (show Tryz.prog.underlying 403 = some (.array 64 5) by kernel_rfl) (show Tryz.prog.underlying 5 = some (.int .u8) by kernel_rfl) (by kernel_rfl) (by kernel_rfl) hd3
  have k1 := gl_iface w1 rfl hce
  rw [hse] at k1
  intro k cs hk
  unfold glob at hk
  split at hk
  · cases hk; exact k1
  · cases hk; exact gl_ints w3 k3
  · cases hk; exact gl_ints w7 k7
  · cases hk

/-- THE WALK: StoreNil, of any filter, tells true; nothing that was there has turned. -/
theorem nil_walk {W : World} (hL : laidMetH Tryz.prog Proofs.YtnoafcaolafipaaGreatDoor.Rows.storeNilRow.laid W) (s : ByteArray) :
    Calls Tryz.prog 3 #[.string s] W fun e w' => e = .returned (.bool true) ∧ Below W.heap.size W w' := by
  refine top (R := pr) (pr_ok W) (sums_ok W) (glob_laid hL) callable3 (nil_ok s.data.toList) ⟨rfl, fun i => ?_⟩
  match i with
  | 0 =>
    have := Rel.str (β := gh0 W) s.data.toList
    simpa using this
  | i + 1 => exact .junk _
end Go.Vam
