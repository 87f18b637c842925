/- DbNil's walk. -/
import Derived.Test.YtagljlpbfeeicaaGreatDoorVc
import Derived.KernelRfl
import Derived.OpenShut
import Derived.LaidMore
import Derived.MakeChecks
import Derived.Test.YtagljlpbfeeicaaGreatDoorRows
import Derived.Test.YtagljlpbfeeicaaGreatDoorVd
import Derived.Test.YtagljlpbfeeicaaGreatDoorVe
namespace Go.Vam
open Go Go.RowKit Go.Proofs
set_option maxRecDepth 1000000

theorem eV (W : World) : (env0 Tryz.prog W 5 glob).P = Tryz.prog := rfl

theorem names_ok : (Tryz.prog.funcs.all fun x => !(x.name == "runtime.NumGoroutine")) = true := by kernel_rfl

theorem pr_ok (W : World) : PrOk pr (env0 Tryz.prog W 5 glob) := by
  refine ⟨fun t i h => h, fun f x h => ⟨h, ?_⟩, fun k cs h => h, rfl, ?_, ⟨by kernel_rfl⟩, by kernel_rfl⟩
  · have := Array.all_eq_true_iff_forall_mem.1 names_ok x (Array.mem_of_getElem? h)
    simpa using this
  · show Tryz.prog.underlying 5 = some (.int .u8)
    kernel_rfl

theorem callable82 : Callable Tryz.prog 82 := ⟨_, Tryz.func82, by kernel_rfl, by kernel_rfl⟩
theorem callable43 : Callable Tryz.prog 43 := ⟨_, Tryz.func43, by kernel_rfl, by kernel_rfl⟩
theorem callable38 : Callable Tryz.prog 38 := ⟨_, Tryz.func38, by kernel_rfl, by kernel_rfl⟩
theorem callable14 : Callable Tryz.prog 14 := ⟨_, Tryz.func14, by kernel_rfl, by kernel_rfl⟩

theorem sums_ok (W : World) : ∀ g vs h v h', pr.sm g vs h = some (v, h') → CallOk (env0 Tryz.prog W 5 glob) g vs h v h' := by
  intro g vs h v h' hs
  change sums g vs h = some (v, h') at hs
  unfold sums at hs
  split at hs
  · split at hs
    · cases hs
      exact indexByteString_ok (fn := Tryz.f243) Tryz.func243 (by kernel_rfl) (by kernel_rfl) (by kernel_rfl) (by kernel_rfl) _ _
    · cases hs
  · split at hs
    · split at hs
      · rename_i a b hx hy
        cases hs
        exact compare_ok (fn := Tryz.f177) Tryz.func177 (by kernel_rfl) (by kernel_rfl) (by kernel_rfl) (by kernel_rfl) hx hy
      · cases hs
    · cases hs
  · split at hs
    · split at hs
      · rename_i hm
        cases hs
        exact clone_ok callable82 clone_walk hm
      · cases hs
    · cases hs
  · split at hs
    · split at hs
      · rename_i hp
        split at hs
        · rename_i hcs
          split at hs
          · rename_i hm
            split at hs
            · rename_i hn
              obtain ⟨h1, h2⟩ := cond_some hs
              cases h2
              exact used_ok callable43 used_walk hp hcs hm hn (Nat.le_of_ble_eq_true h1)
            · cases hs
          · cases hs
        · cases hs
      · cases hs
    · cases hs
  · split at hs
    · split at hs
      · rename_i hp
        split at hs
        · rename_i hcs hcs4
          split at hs
          · rename_i hm
            cases hs
            exact list_empty W hp hcs hcs4 hm
          · cases hs
        · cases hs
      · cases hs
    · cases hs
  · cases hs

/-- A listed table of whole numbers lies in its variable as it is listed. -/
theorem ints_laid {H : Type} {enc : TypeId × Value → H} {P : Program} {W : World} {b : Nat} {sp : Nat → Bool} {hd : Bool} {fuel : Nat} {t e : TypeId} {len : Nat} {k : IntKind} {cs : List Value} {ns : List Int} {ps : List MemPlace}
    (hu : P.underlying t = some (.array len e)) (hue : P.underlying e = some (.int k)) (c1 : P.cellsOf e = 1) (ct : P.cellsOf t = len)
    (h : DataW.trod enc P W b sp hd fuel t cs = some (.agg (ns.map fun n => .lit (.int k n)), ps)) : cs = ns.map (.int k) := by
  obtain ⟨xs, m, rfl, hx, hlen, hn, hel⟩ := DataW.trod_array hu h
  simp only [Prod.mk.injEq, DataW.agg.injEq] at hx
  have hl : ns.length = len := by have := congrArg List.length hx.1; simpa [hn] using this
  apply List.ext_getElem?
  intro i
  rw [List.getElem?_map]
  by_cases hi : i < len
  · have h0 := hel i hi
    rw [c1, Nat.mul_one] at h0
    have hxi : i < xs.length := by omega
    rw [List.getElem?_eq_getElem hxi] at h0
    obtain ⟨n, e1, e2, _⟩ := DataW.trod_int hue h0
    have h1 : xs[i].1 = .lit (.int k n) := by rw [e2]
    have h2 := congrArg (fun l => l[i]?) hx.1
    simp only [List.getElem?_map, List.getElem?_eq_getElem hxi, List.getElem?_eq_getElem (show i < ns.length by omega), Option.map_some, Option.some.injEq] at h2
    rw [h1] at h2
    have h3 : ns[i] = n := by simpa using h2
    have hci : i < cs.length := by omega
    have h4 : (cs.drop i).take 1 = [cs[i]] := by rw [List.drop_eq_getElem_cons hci]; rfl
    rw [h4] at e1
    rw [List.getElem?_eq_getElem hci, List.getElem?_eq_getElem (show i < ns.length by omega)]
    simp only [List.cons.injEq, and_true] at e1
    rw [e1]; simp [h3]
  · rw [List.getElem?_eq_none (by omega), List.getElem?_eq_none (by omega)]; rfl

theorem g3 : Tryz.prog.globalNamed (Proofs.YtagljlpbfeeicaaGreatDoor.Rows.dbNilRow.laid.getD 1 (default, .nil)).1 = some 3 := by kernel_rfl
theorem g4 : Tryz.prog.globalNamed (Proofs.YtagljlpbfeeicaaGreatDoor.Rows.dbNilRow.laid.getD 2 (default, .nil)).1 = some 4 := by kernel_rfl
theorem g5 : Tryz.prog.globalNamed (Proofs.YtagljlpbfeeicaaGreatDoor.Rows.dbNilRow.laid.getD 0 (default, .nil)).1 = some 5 := by kernel_rfl
theorem t3 : (Tryz.prog.globals[3]?).map (·.type) = some 365 := by kernel_rfl
theorem t4 : (Tryz.prog.globals[4]?).map (·.type) = some 381 := by kernel_rfl
theorem t5 : (Tryz.prog.globals[5]?).map (·.type) = some 402 := by kernel_rfl

theorem var_heap {P : Program} {W : World} {n : String} {g : Nat} {cs : Array Value} (hg : P.globalNamed n = some g) (h : W.var? P n = some cs) : ∃ e fr, W.heap[g]? = some (.cells cs e fr) := by
  simp only [World.var?, hg, Option.bind_some] at h
  split at h
  · rename_i e fr hh; cases h; exact ⟨e, fr, hh⟩
  · cases h

/-- WHAT THE CONDITION GIVES: the three tables. -/
theorem glob_laid {W : World} (h : laidMetH Tryz.prog Proofs.YtagljlpbfeeicaaGreatDoor.Rows.dbNilRow.laid W) : ∀ k cs, glob k = some cs → Rel (gh0 W) (.rptr cs) (.pointer (some ⟨k, 0, none⟩)) := by
  rw [MakeChecks.laidMetH_plain _ _ _ (by kernel_rfl)] at h
  obtain ⟨ps, ⟨i5, y5, cs5, f5, p5, q5, hg5, ht5, hv5, hd5, ⟨i3, y3, cs3, f3, p3, q3, hg3, ht3, hv3, hd3, ⟨i4, y4, cs4, f4, p4, q4, hg4, ht4, hv4, hd4, _, _⟩, _⟩, _⟩, _, _⟩ := h
  obtain rfl := Option.some.inj (g5.symm.trans hg5)
  obtain rfl := Option.some.inj (g3.symm.trans hg3)
  obtain rfl := Option.some.inj (g4.symm.trans hg4)
  obtain rfl := Option.some.inj (t5.symm.trans ht5)
  obtain rfl := Option.some.inj (t3.symm.trans ht3)
  obtain rfl := Option.some.inj (t4.symm.trans ht4)
  obtain ⟨e5, r5, w5⟩ := var_heap g5 hv5
  obtain ⟨e3, r3, w3⟩ := var_heap g3 hv3
  obtain ⟨e4, r4, w4⟩ := var_heap g4 hv4
  have k5 := ints_laid (ns := tab32) (k := .u8) (show Tryz.prog.underlying 402 = some (.array 32 5) by kernel_rfl) (show Tryz.prog.underlying 5 = some (.int .u8) by kernel_rfl) (by kernel_rfl) (by kernel_rfl) hd5
  have k3 := ints_laid (ns := tab64) (k := .u8) (show Tryz.prog.underlying 365 = some (.array 64 5) by kernel_rfl) (show Tryz.prog.underlying 5 = some (.int .u8) by kernel_rfl) (by kernel_rfl) (by kernel_rfl) hd3
  have k4 := ints_laid (ns := pow10s) (k := .u64) (show Tryz.prog.underlying 381 = some (.array 20 58) by kernel_rfl) (show Tryz.prog.underlying 58 = some (.int .u64) by kernel_rfl) (by kernel_rfl) (by kernel_rfl) hd4
  intro k cs hk
  unfold glob at hk
  split at hk
  · cases hk; exact gl_ints w3 k3
  · cases hk; exact gl_ints w4 k4
  · cases hk; exact gl_ints w5 k5
  · cases hk

/-- THE WALK: DbNil, of any key and numbers, tells true; nothing that was there has turned. -/
theorem nil_walk {W : World} (hL : laidMetH Tryz.prog Proofs.YtagljlpbfeeicaaGreatDoor.Rows.dbNilRow.laid W) (key : List UInt8) (a : Option Addr) (n c : Nat) (s t : Int) (hk : Rel (gh0 W) (.bytes key) (.slice a n c)) :
    Calls Tryz.prog 14 #[.slice a n c, .int .i64 s, .int .i64 t] W fun e w' => e = .returned (.bool true) ∧ Below W.heap.size W w' := by
  refine top (R := pr) (pr_ok W) (sums_ok W) (glob_laid hL) callable14 (nil_ok key s t) ⟨rfl, fun i => ?_⟩
  match i with
  | 0 => exact hk
  | 1 => exact .int .i64 s
  | 2 => exact .int .i64 t
  | i + 3 => exact .junk _
end Go.Vam
