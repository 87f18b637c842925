/- The library's contracts on sorted keys at this dump; the walks of Clone, Used, List; how bytes come in. -/
import Derived.Shelf.SlIter.Nil
import Derived.Shelf.SortM.Plain
import Derived.Shelf.SortM.SortNone
import Derived.Ground.GgzProg
import Derived.Ground.SlgmProg
import Derived.Test.YtagljlpbfeeicaaGreatDoorProg
import Derived.Test.YtagljlpbfeeicaaGreatDoorVc
import Derived.WalkKit
import Derived.Below
import Derived.Lib.Hide
import Derived.MapKept
import Derived.LoopTactic
import Derived.LoopN
import Derived.OpenShut
/-
  DERIVED: THE SHELF's CONTRACTS AT THIS DUMP, IN PLAIN WORDS (tools/lay-plain.mjs out of 'TryzIter.lean', which tools/lay-shelf.mjs wrote): THE SAME DECLARATIONS UNDER THE SAME NAMES: 'import', 'namespace', 'open', 'def', 'theorem' AND NOTHING ELSE: no command of the shelf's: FOR A HAND-IN. Each laying: the table of numbers ('.._ren') and one theorem, a field a fact of the dump's own or the kernel's comparison; each contract: ONE APPLICATION.
-/
namespace Go.Proofs
open Go.Shelf
def Tryz.keys80_ren : Go.Shelf.Ren := ⟨fun | 7 => 80 | 10 => 133 | n => n, fun | 23 => 95 | 26 => 9 | 3 => 117 | 28 => 144 | 0 => 0 | 27 => 143 | 33 => 136 | 4 => 4 | n => n, fun | n => n⟩
theorem Tryz.keys80 : Go.Proofs.SlLaysZ.n7 Tryz.prog Tryz.keys80_ren := {
  mixed := by kernel_rfl
  f7 := ⟨Tryz.f80.name, by decide, Tryz.func80.trans (congrArg some (by kernel_rfl))⟩
  f10 := ⟨Tryz.f133.name, by decide, Tryz.func133.trans (congrArg some (by kernel_rfl))⟩
  t0 := Tryz.underlying0
  a0 := Tryz.isAgg0
  z0 := Tryz.sizeOf0
  v0 := Tryz.zeroValue0
  t4 := Tryz.underlying4
  a4 := Tryz.isAgg4
  z4 := Tryz.sizeOf4
  v4 := Tryz.zeroValue4
  t23 := Tryz.underlying95
  a23 := Tryz.isAgg95
  z23 := Tryz.sizeOf95
  v23 := Tryz.zeroValue95
  t26 := Tryz.underlying9
  a26 := Tryz.isAgg9
  z26 := Tryz.sizeOf9
  v26 := Tryz.zeroValue9
  t27 := Tryz.underlying143
  a27 := Tryz.isAgg143
  z27 := Tryz.sizeOf143
  v27 := Tryz.zeroValue143
  t28 := Tryz.underlying144
  a28 := Tryz.isAgg144
  z28 := Tryz.sizeOf144
  v28 := Tryz.zeroValue144
  t33 := Tryz.underlying136
  a33 := Tryz.isAgg136
  z33 := Tryz.sizeOf136
  v33 := Tryz.zeroValue136 }
def Tryz.sorted79_ren : Go.Shelf.Ren := ⟨fun | 6 => 79 | 8 => 131 | 9 => 132 | 11 => 192 | 13 => 194 | 12 => 193 | 23 => 253 | 24 => 254 | 14 => 244 | 15 => 245 | 16 => 246 | 17 => 247 | 18 => 248 | 19 => 249 | 20 => 250 | 21 => 251 | 22 => 252 | 25 => 288 | 26 => 289 | 27 => 290 | 28 => 291 | 29 => 292 | 30 => 293 | 31 => 316 | n => n, fun | 26 => 9 | 28 => 144 | 24 => 43 | 0 => 0 | 3 => 3 | 37 => 33 | 48 => 217 | 50 => 58 | 4 => 4 | 40 => 326 | 39 => 325 | 45 => 331 | 5 => 5 | 9 => 9 | 51 => 370 | 55 => 374 | 57 => 395 | 58 => 396 | 33 => 136 | n => n, fun | n => n⟩
theorem Tryz.sorted79 : Go.Proofs.SlLaysZ.n6 Tryz.prog Tryz.sorted79_ren := {
  mixed := by kernel_rfl
  f6 := ⟨Tryz.f79.name, by decide, Tryz.func79.trans (congrArg some (by kernel_rfl))⟩
  f8 := ⟨Tryz.f131.name, by decide, Tryz.func131.trans (congrArg some (by kernel_rfl))⟩
  f11 := ⟨Tryz.f192.name, by decide, Tryz.func192.trans (congrArg some (by kernel_rfl))⟩
  t0 := Tryz.underlying0
  a0 := Tryz.isAgg0
  z0 := Tryz.sizeOf0
  v0 := Tryz.zeroValue0
  t24 := Tryz.underlying43
  a24 := Tryz.isAgg43
  z24 := Tryz.sizeOf43
  v24 := Tryz.zeroValue43
  t26 := Tryz.underlying9
  a26 := Tryz.isAgg9
  z26 := Tryz.sizeOf9
  v26 := Tryz.zeroValue9
  t28 := Tryz.underlying144
  a28 := Tryz.isAgg144
  z28 := Tryz.sizeOf144
  v28 := Tryz.zeroValue144
  i26 := by kernel_rfl }
def Tryz.sort132_ren : Go.Shelf.Ren := ⟨fun | 6 => 132 | 8 => 194 | 9 => 193 | 19 => 253 | 20 => 254 | 21 => 244 | 22 => 245 | 23 => 246 | 24 => 247 | 25 => 248 | 26 => 249 | 27 => 250 | 28 => 251 | 29 => 252 | 36 => 288 | 31 => 289 | 32 => 290 | 37 => 291 | 38 => 292 | 39 => 293 | 41 => 316 | n => n, fun | 27 => 43 | 29 => 9 | 3 => 3 | 32 => 33 | 26 => 43 | 0 => 0 | 44 => 217 | 46 => 58 | 4 => 4 | 36 => 326 | 35 => 325 | 41 => 331 | 5 => 5 | 9 => 9 | 53 => 370 | 57 => 374 | 63 => 395 | 64 => 396 | n => n, fun | n => n⟩
theorem Tryz.sort132 : Go.Proofs.SlLaysM.n6 Tryz.prog Tryz.sort132_ren := {
  mixed := by kernel_rfl
  f6 := ⟨Tryz.f132.name, by decide, Tryz.func132.trans (congrArg some (by kernel_rfl))⟩
  f8 := Tryz.func194.trans (congrArg some (by kernel_rfl))
  f9 := ⟨Tryz.f193.name, by decide, Tryz.func193.trans (congrArg some (by kernel_rfl))⟩
  f19 := Tryz.func253.trans (congrArg some (by kernel_rfl))
  f20 := Tryz.func254.trans (congrArg some (by kernel_rfl))
  f21 := ⟨Tryz.f244.name, by decide, Tryz.func244.trans (congrArg some (by kernel_rfl))⟩
  f22 := ⟨Tryz.f245.name, by decide, Tryz.func245.trans (congrArg some (by kernel_rfl))⟩
  f23 := ⟨Tryz.f246.name, by decide, Tryz.func246.trans (congrArg some (by kernel_rfl))⟩
  f24 := ⟨Tryz.f247.name, by decide, Tryz.func247.trans (congrArg some (by kernel_rfl))⟩
  f25 := ⟨Tryz.f248.name, by decide, Tryz.func248.trans (congrArg some (by kernel_rfl))⟩
  f26 := ⟨Tryz.f249.name, by decide, Tryz.func249.trans (congrArg some (by kernel_rfl))⟩
  f27 := ⟨Tryz.f250.name, by decide, Tryz.func250.trans (congrArg some (by kernel_rfl))⟩
  f28 := ⟨Tryz.f251.name, by decide, Tryz.func251.trans (congrArg some (by kernel_rfl))⟩
  f29 := ⟨Tryz.f252.name, by decide, Tryz.func252.trans (congrArg some (by kernel_rfl))⟩
  f31 := Tryz.func289.trans (congrArg some (by kernel_rfl))
  f32 := Tryz.func290.trans (congrArg some (by kernel_rfl))
  f36 := ⟨Tryz.f288.name, by decide, Tryz.func288.trans (congrArg some (by kernel_rfl))⟩
  f37 := ⟨Tryz.f291.name, by decide, Tryz.func291.trans (congrArg some (by kernel_rfl))⟩
  f38 := ⟨Tryz.f292.name, by decide, Tryz.func292.trans (congrArg some (by kernel_rfl))⟩
  f39 := ⟨Tryz.f293.name, by decide, Tryz.func293.trans (congrArg some (by kernel_rfl))⟩
  f41 := ⟨Tryz.f316.name, by decide, Tryz.func316.trans (congrArg some (by kernel_rfl))⟩
  t0 := Tryz.underlying0
  a0 := Tryz.isAgg0
  z0 := Tryz.sizeOf0
  v0 := Tryz.zeroValue0
  t3 := Tryz.underlying3
  a3 := Tryz.isAgg3
  z3 := Tryz.sizeOf3
  v3 := Tryz.zeroValue3
  t4 := Tryz.underlying4
  a4 := Tryz.isAgg4
  z4 := Tryz.sizeOf4
  v4 := Tryz.zeroValue4
  t5 := Tryz.underlying5
  a5 := Tryz.isAgg5
  z5 := Tryz.sizeOf5
  v5 := Tryz.zeroValue5
  t9 := Tryz.underlying9
  a9 := Tryz.isAgg9
  z9 := Tryz.sizeOf9
  v9 := Tryz.zeroValue9
  t26 := Tryz.underlying43
  a26 := Tryz.isAgg43
  z26 := Tryz.sizeOf43
  v26 := Tryz.zeroValue43
  t27 := Tryz.underlying43
  a27 := Tryz.isAgg43
  z27 := Tryz.sizeOf43
  v27 := Tryz.zeroValue43
  t29 := Tryz.underlying9
  a29 := Tryz.isAgg9
  z29 := Tryz.sizeOf9
  v29 := Tryz.zeroValue9
  t32 := Tryz.underlying33
  a32 := Tryz.isAgg33
  z32 := Tryz.sizeOf33
  v32 := Tryz.zeroValue33
  t35 := Tryz.underlying325
  a35 := Tryz.isAgg325
  z35 := Tryz.sizeOf325
  v35 := Tryz.zeroValue325
  t36 := Tryz.underlying326
  a36 := Tryz.isAgg326
  z36 := Tryz.sizeOf326
  v36 := Tryz.zeroValue326
  t41 := Tryz.underlying331
  a41 := Tryz.isAgg331
  z41 := Tryz.sizeOf331
  v41 := Tryz.zeroValue331
  t44 := Tryz.underlying217
  a44 := Tryz.isAgg217
  z44 := Tryz.sizeOf217
  v44 := Tryz.zeroValue217
  t46 := Tryz.underlying58
  a46 := Tryz.isAgg58
  z46 := Tryz.sizeOf58
  v46 := Tryz.zeroValue58
  t53 := Tryz.underlying370
  a53 := Tryz.isAgg370
  z53 := Tryz.sizeOf370
  v53 := Tryz.zeroValue370
  t57 := Tryz.underlying374
  a57 := Tryz.isAgg374
  z57 := Tryz.sizeOf374
  v57 := Tryz.zeroValue374
  t63 := Tryz.underlying395
  a63 := Tryz.isAgg395
  z63 := Tryz.sizeOf395
  v63 := Tryz.zeroValue395
  t64 := Tryz.underlying396
  a64 := Tryz.isAgg396
  z64 := Tryz.sizeOf396
  v64 := Tryz.zeroValue396 }
end Go.Proofs

namespace Go.Proofs
open Go.RowKit Go.Maps Go.Sort Go.Shelf

/-- slices.Sort's two contracts at this dump, at the fence that asks nothing. -/
theorem Tryz.sorts79 (m : Nat) : AnyZ.SortsIn Tryz.prog Tryz.sorted79_ren Fence.wide m :=
  ⟨fun blk off cap ss W hH hblk hsz => callsIn_wide.2 (AnyM.slices_Sort_string Tryz.sort132 blk off cap ss W hH hblk hsz),
   fun p cap W => callsIn_wide.2 (AnyM.slices_Sort_string_none Tryz.sort132 p cap W)⟩

/-- **maps.Keys[map[string]*halyard/disk.file,string,*halyard/disk.file], at whatever map, the nil one too:** a function value over ONE NEW BLOCK, which holds the map. -/
theorem Tryz.maps_Keys_80 (mb : Option Nat) (W : World) : CallsIn Fence.wide 5 Tryz.prog 80 #[.map mb] W fun e w' => e = .returned (.func (.func 133) #[] #[.pointer (some ⟨W.heap.size, 0, none⟩)]) ∧ w' = W.alloc (.cells #[.map mb] 95) :=
  AnyZ.keys_in Tryz.keys80 Fence.wide 5 trivial rfl mb W

set_option maxHeartbeats 1000000 in
/-- **slices.Sorted[string] AT WHAT maps.Keys[map[string]*halyard/disk.file,string,*halyard/disk.file] HANDED BACK FOR A MAP THAT IS NOT nil** ('w': the world AHEAD of maps.Keys' call): A NEW SLICE THAT HOLDS THE MAP's KEYS, SORTED; nil just where it has none; nothing that lay before has turned. -/
theorem Tryz.slices_Sorted_keys_79_80 {H : Type} (b nn : Nat) (D0 : DataW H) (R : Value → Option (DataW H × List MemPlace)) (w : World) (hown : w.ownsMap Tryz.prog 9 R b nn D0) (hmax : Maps.size D0 ≤ maxLen) (hbytes : Maps.size D0 * 16 ≤ 140737488355328) :
    CallsIn Fence.wide 5 Tryz.prog 79 #[.func (.func 133) #[] #[.pointer (some ⟨w.heap.size, 0, none⟩)]] (w.alloc (.cells #[.map (some b)] 95)) fun e w' => ∃ (v : Value) (ss : List (List UInt8)), e = .returned v ∧ ss.Perm (strKeys D0) ∧
      w'.ownsRow (w.alloc (.cells #[.map (some b)] 95)).heap.size 9 1 v ss.length ((ss.mergeSort (fun x y => decide (x ≤ y))).map encStr) ∧ (v = .slice none 0 0 ↔ ss = []) ∧ Below (w.alloc (.cells #[.map (some b)] 95)).heap.size (w.alloc (.cells #[.map (some b)] 95)) w' := by
  have hbl := hown.lt
  have hseq : SeqGives Fence.wide 2 Tryz.prog 133 #[.pointer (some ⟨w.heap.size, 0, none⟩)] encStr (fun ss => ss.Perm (strKeys D0)) (Maps.size D0) (w.alloc (.cells #[.map (some b)] 95)) :=
    AnyZ.keys_gives (ρ := Tryz.keys80_ren) { Tryz.keys80 with } Fence.wide _ trivial rfl (by omega) w.heap.size b nn D0 _ (by simp) (by simp) (by
      obtain ⟨es, clock, hb, Ft, hs, hD⟩ := hown
      exact ⟨es, clock, (Below.heap_alloc _ _ b hbl).trans hb, Ft, hs, hD⟩)
  exact AnyZ.sorted_in Tryz.sorted79 Fence.wide 5 trivial trivial trivial trivial rfl (by omega) (Tryz.sorts79 _) (enters_of Tryz.func132 (by kernel_rfl) rfl) 133 #[.pointer (some ⟨w.heap.size, 0, none⟩)] trivial (enters_of Tryz.func133 (by kernel_rfl) rfl) _ _ hmax hbytes _ hseq


end Go.Proofs
namespace Go.Vam
open Go Go.RowKit Go.Proofs Go.Maps Go.Sort Go.Shelf

theorem ownsRow_base' {w : World} {b b' e sz n : Nat} {v : Value} {xs : List Value} (h : w.ownsRow b e sz v n xs) (hb : b' ≤ b) : w.ownsRow b' e sz v n xs := by
  refine ⟨h.1, ?_⟩
  rcases h.2 with h2 | ⟨g, cap, cur, h3, h4, h5⟩
  · exact .inl h2
  · exact .inr ⟨g, cap, cur, h3, Nat.le_trans hb h4, h5⟩

def ListPost {H : Type} (w : World) (down : Bool) (D0 : DataW H) (e : Ending) (w' : World) : Prop :=
  ∃ (v : Value) (ss : List (List UInt8)), e = .returned v ∧ (down = false → ss.Perm (strKeys D0)) ∧ (down = true → ss = []) ∧
      w'.ownsRow w.heap.size 9 1 v ss.length ((ss.mergeSort (fun x y => decide (x ≤ y))).map encStr) ∧ (v = .slice none 0 0 ↔ ss = []) ∧ Below w.heap.size w w'

set_option maxHeartbeats 2000000 in
set_option maxRecDepth 1000000 in
/-- List, of a disk whose directory is there: the names, sorted. -/
theorem list_walk {H : Type} (b d nn : Nat) (down : Bool) (D0 : DataW H) (R : Value → Option (DataW H × List MemPlace)) (w : World) (hd : w.cell? ⟨d, 1, none⟩ = some (.map (some b))) (hd4 : w.cell? ⟨d, 4, none⟩ = some (.bool down))
    (hown : w.ownsMap Tryz.prog 9 R b nn D0) (hmax : Maps.size D0 ≤ maxLen) (hbytes : Maps.size D0 * 16 ≤ 140737488355328) :
    Calls Tryz.prog 38 #[.pointer (some ⟨d, 0, none⟩)] w (ListPost w down D0) := by
  refine (callsIn_wide (n := 6)).1 ?_
  have hfK : Fence.wide.fn 80 := trivial
  have hfS : Fence.wide.fn 79 := trivial
  refine callsIn_of_wp Tryz.func38 rfl trivial ?_ rfl
  simp only [Tryz.ntmps38, List.size_toArray, List.length_cons, List.length_nil, Nat.reduceAdd, Nat.reduceSub, Array.replicate_succ, Array.replicate_zero, List.push_toArray, List.append_toArray, List.nil_append, List.cons_append]
  cases down
  · gi_wp2_with (first
      | (gi_at_call 80; refine (Tryz.maps_Keys_80 _ _).mono ?_; rintro e w' ⟨rfl, rfl⟩)
      | (gi_at_call 79; refine (Tryz.slices_Sorted_keys_79_80 b nn D0 R w hown hmax hbytes).mono ?_; rintro e w' ⟨v, ss, rfl, hS, hrow, hnil, hb⟩))
    go_ret
    exact ⟨v, ss, rfl, fun _ => hS, (fun h => by cases h), ownsRow_base' hrow (by simp), hnil, ((Below.refl _ w).alloc (Nat.le_refl _) _).trans (hb.mono (by simp))⟩
  · gi_wp2_with (first
      | (gi_at_call 80; refine (Tryz.maps_Keys_80 _ _).mono ?_; rintro e w' ⟨rfl, rfl⟩)
      | (gi_at_call 79; refine (Tryz.slices_Sorted_keys_79_80 b nn D0 R w hown hmax hbytes).mono ?_; rintro e w' ⟨v, ss, rfl, hS, hrow, hnil, hb⟩))
    go_ret
    exact ⟨.slice none 0 0, [], rfl, (fun h => by cases h), fun _ => rfl, by simpa using World.ownsRow_nil _ _ _ _, by simp, Below.refl _ _⟩

set_option maxRecDepth 1000000 in
theorem list_empty (W : World) {gl : Nat → Option (List V)} {h : Hp} {p m c : Nat} {e : TypeId} {cs : List V} {b : Bool} (hp : hget h.os p = some (.cells e cs)) (hcs : cs[1]? = some (.map m)) (hcs4 : cs[4]? = some (.bool b)) (hm : hget h.os m = some (.map [] c)) :
    CallOk (env0 Tryz.prog W 5 gl) 38 [.ptr p 0] h .nils h := by
  refine nils_ok ⟨_, Tryz.func38, by kernel_rfl, by kernel_rfl⟩ fun φ β w us hi hr => ?_
  obtain ⟨u, rfl, hu⟩ := rels_inv1 hr
  obtain ⟨d, rfl, hcell⟩ := ptr_cell hi.inv hu (U_get hp)
  obtain ⟨v1, hv1, hr1⟩ := hcell 1 _ hcs
  obtain ⟨v4, hv4, hr4⟩ := hcell 4 _ hcs4
  obtain ⟨r, a, rfl, hl, hb, hre, hlt, hnd⟩ := map_get hi.inv hr1 (U_get hm)
  rw [hr4.bool_inv] at hv4
  have ha : a = #[] := by have := hre.1; apply Array.eq_empty_of_size_eq_zero; simpa using this
  subst ha
  have hown : w.ownsMap Tryz.prog 9 (fun _ => none) r 0 (.map [] : DataW Unit) := ⟨#[], c, hb, ⟨by simp, by simp [MapKept.Stamped], fun x hx => by simp at hx⟩, Nat.le_refl _, rfl⟩
  refine (list_walk r d 0 b _ _ w hv1 hv4 hown (by simp [Maps.size]) (by simp [Maps.size])).mono ?_
  rintro e w' ⟨v, ss, rfl, h1, h2, _, h4, h5⟩
  have hss : ss = [] := by
    cases b with
    | true => exact h2 rfl
    | false => have := h1 rfl; simpa [strKeys] using this
  rw [h4.2 hss]
  exact ⟨rfl, ⟨h5.os, h5.tape, h5.output, h5.size, h5.block⟩⟩
end Go.Vam

namespace Go.Vam
open Go Go.RowKit Go.Proofs

theorem u95 : Tryz.prog.underlying 95 = some (.map 9 117) := by kernel_rfl

section
variable {P : Program} (w : World)
theorem run_mapNil (t k e : TypeId) (p : Option Nat) (h : P.underlying t = some (.map k e)) : (binOp .eql t (.map p) (.map none)).run P w = .ok (.bool p.isNone) w := by
  have h1 : ∀ d, (Op.equalIn (d + 1) t (.map p) (.map none)).run P w = .ok p.isNone w := fun d => by cases p <;> simp [Op.equalIn, run_underlying h]
  simp only [binOp]
  simp [show Op.equal t (.map p) (.map none) = Op.equalIn (9999 + 1) t (.map p) (.map none) from rfl, h1 9999]
theorem run_assertMap (t xT k e : TypeId) (v : Value) (h : P.underlying t = some (.map k e)) : (Instr.typeAssert (.iface t v) xT t false).run P w = .ok v w := by
  simp [Instr.typeAssert, run_underlying h, go_sem, Result.andThen]
theorem run_cloneMap {r : Nat} {es : Array MapEntry} {clock : Nat} (t : TypeId) (hb : w.heap[r]? = some (.map es clock)) :
    (Extern.MapsClone.clone #[.iface t (.map (some r))]).run P w = .ok (.iface t (.map (some w.heap.size))) (w.alloc (.map es clock)) := by
  have e : Extern.MapsClone.clone #[.iface t (.map (some r))] = (getObj r >>= fun o => match o with
      | .map entries clock => (newObj (.map entries clock) >>= fun n => pure (.iface t (.map (some n))))
      | _ => stuck "maps.clone: a map expected") := rfl
  rw [e]
  simp [MapKept.run_getObj_map hb, Result.andThen, go_sem]
end

set_option maxHeartbeats 2000000 in
set_option maxRecDepth 1000000 in
theorem clone_walk (w : World) (b : Nat) (es : Array MapEntry) (clock : Nat) (hb : w.heap[b]? = some (.map es clock)) :
    Calls Tryz.prog 82 #[.map (some b)] w fun e w' => e = .returned (.map (some w.heap.size)) ∧ w' = w.alloc (.map es clock) := by
  have hq := fun w => run_mapNil (P := Tryz.prog) w 95 _ _ (some b) u95
  go_enter Tryz.func82, Tryz.ntmps82
  go_wp2
  rw [run_callFunc_extern Tryz.func134 (by kernel_rfl) (by kernel_rfl) (by kernel_rfl) (e := Extern.MapsClone.clone) (by kernel_rfl), run_cloneMap w 95 hb]
  simp only [Result.andThen]
  rw [Oper.upon_value]
  go_wp2
  rw [run_assertMap _ 95 20 _ _ _ u95]
  simp only [Result.andThen]
  rw [Oper.upon_value]
  go_wp2
  go_ret
  exact ⟨rfl, rfl⟩

theorem sum_le (l : List Nat) : (0 : Int) ≤ (l.sum : Nat) := by omega

/-- The lengths of those that have been handed out. -/
def seenLen (W : World) : List MapEntry → Array Nat → Nat
  | [], _ => 0
  | x :: l, seen => (if seen.contains x.born then lenAt W x.val else 0) + seenLen W l seen

theorem seenLen_other (W : World) (seen : Array Nat) (b : Nat) : ∀ (es : List MapEntry), b ∉ es.map (·.born) → seenLen W es (seen.push b) = seenLen W es seen
  | [], _ => rfl
  | x :: l, h => by
    have hx : (x.born == b) = false := by
      cases hc : x.born == b with
      | false => rfl
      | true => exact absurd (List.mem_cons.2 (Or.inl (beq_iff_eq.1 hc).symm)) h
    have ih := seenLen_other W seen b l (fun e => h (List.mem_cons.2 (Or.inr e)))
    simp only [seenLen, contains_push, hx, Bool.or_false, ih]

theorem seenLen_push (W : World) (seen : Array Nat) (e : MapEntry) (hs : seen.contains e.born = false) : ∀ (es : List MapEntry), (es.map (·.born)).Nodup → e ∈ es → seenLen W es (seen.push e.born) = seenLen W es seen + lenAt W e.val
  | x :: l, hn, he => by
    have hn' : x.born ∉ l.map (·.born) ∧ (l.map (·.born)).Nodup := List.nodup_cons.1 hn
    rcases List.mem_cons.1 he with rfl | h
    · simp only [seenLen, contains_push, hs, beq_self_eq_true, Bool.or_true, if_true, Bool.false_eq_true, if_false, seenLen_other W seen e.born l hn'.1]
      omega
    · have hx : (x.born == e.born) = false := by
        cases hc : x.born == e.born with
        | false => rfl
        | true => exact absurd (by rw [beq_iff_eq.1 hc]; exact List.mem_map.2 ⟨e, h, rfl⟩) hn'.1
      simp only [seenLen, contains_push, hx, Bool.or_false, seenLen_push W seen e hs l hn'.2 h]
      omega

theorem seenLen_le (W : World) (seen : Array Nat) : ∀ (es : List MapEntry), seenLen W es seen ≤ (es.map fun e => lenAt W e.val).sum
  | [] => Nat.le_refl _
  | x :: l => by
    have := seenLen_le W seen l
    simp only [seenLen, List.map_cons, List.sum_cons]
    split <;> omega

theorem seenLen_all (W : World) (es : Array MapEntry) (seen : Array Nat) (h : (leftOf es seen).size = 0) : seenLen W es.toList seen = (es.toList.map fun e => lenAt W e.val).sum := by
  have ha := all_seen es seen h
  generalize es.toList = l at ha
  induction l with
  | nil => rfl
  | cons x l ih => simp only [seenLen, ha x (by simp), if_true, List.map_cons, List.sum_cons, ih (fun y hy => ha y (by simp [hy]))]

theorem seenLen_none (W : World) : ∀ (es : List MapEntry), seenLen W es #[] = 0
  | [] => rfl
  | x :: l => by
    have : (#[] : Array Nat).contains x.born = false := by simp
    simp only [seenLen, this, Bool.false_eq_true, if_false, seenLen_none W l]

/-! The tape is never turned by 'next'. -/

def Tp {α : Type} (s : Sem α) : Prop := ∀ P w v w', s.run P w = .ok v w' → w'.tape = w.tape

theorem Tp.pure {α : Type} (a : α) : Tp (Pure.pure a : Sem α) := fun P w v w' h => by
  rw [Sem.run_pure] at h; cases h; rfl
theorem Tp.halt {α : Type} (x : Halt) : Tp (.halt x : Sem α) := fun P w v w' h => by cases h
theorem Tp.bind {α β : Type} {s : Sem α} {f : α → Sem β} (hs : Tp s) (hf : ∀ a, Tp (f a)) : Tp (s >>= f) := fun P w v w' h => by
  rw [Sem.run_bind] at h
  cases hr : s.run P w with
  | ok a w1 => rw [hr] at h; exact (hf a P w1 v w' h).trans (hs P w a w1 hr)
  | halt x w1 => rw [hr] at h; cases h
theorem Tp.getObj (r : Nat) : Tp (Go.getObj r) := fun P w v w' h => by
  simp only [Go.getObj, Sem.run] at h
  split at h
  · cases h
  · cases h; rfl
  · cases h
theorem Tp.setObj (r : Nat) (o : Obj) : Tp (Go.setObj r o) := fun P w v w' h => by
  simp only [Go.setObj, Sem.run] at h
  split at h
  · cases h
  · cases h; rfl
  · cases h
theorem Tp.choose (q : Question) : Tp (Go.choose q) := fun P w v w' h => by
  simp only [Go.choose, Sem.run] at h
  split at h
  · cases h; rfl
  · cases h; rfl

theorem Tp.next (it : Value) (b : Bool) (t : TypeId) : Tp (Instr.next it b t) := by
  unfold Instr.next
  simp only
  split
  · refine (Tp.getObj _).bind fun o => ?_
    split
    · split
      · exact (Tp.setObj _ _).bind fun _ => Tp.pure _
      · exact Tp.pure _
    · exact Tp.pure _
    · refine (Tp.getObj _).bind fun o => ?_
      split
      · split
        · exact (Tp.halt _).bind fun _ => (Tp.choose _).bind fun j => by
            split
            · exact (Tp.setObj _ _).bind fun _ => Tp.pure _
            · exact Tp.pure _
            · exact Tp.halt _
        · refine (Tp.choose _).bind fun j => ?_
          split
          · exact (Tp.setObj _ _).bind fun _ => Tp.pure _
          · exact Tp.pure _
          · exact Tp.halt _
      · exact Tp.halt _
    · exact Tp.halt _
  · exact Tp.halt _

set_option maxHeartbeats 4000000 in
set_option maxRecDepth 1000000 in
theorem used_walk (w : World) (b r : Nat) (es : Array MapEntry) (clock : Nat) (hd : w.cell? ⟨b, 1, none⟩ = some (.map (some r))) (hb : w.heap[r]? = some (.map es clock)) (hborn : ∀ x ∈ es.toList, x.born < clock) (hnd : (es.toList.map (·.born)).Nodup)
    (hv : ∀ x ∈ es.toList, ∃ q a n c, x.val = .pointer (some ⟨q, 0, none⟩) ∧ w.cell? ⟨q, 0, none⟩ = some (.slice a n c)) (hsum : ((es.toList.map fun x => lenAt w x.val).sum : Nat) ≤ 4611686018427387904) :
    Calls Tryz.prog 43 #[.pointer (some ⟨b, 0, none⟩)] w fun e w' => e = .returned (.int .i64 ((es.toList.map fun x => lenAt w x.val).sum : Nat)) ∧ Grew w w' := by
  have hrg := run_range_map (P := Tryz.prog) w 95 9 117 r es clock u95 hb
  go_enter Tryz.func43, Tryz.ntmps43
  go_wp2
  go_loopw [3] (fun s w' => ∃ (w1 : World) (seen : Array Nat), w1.Alike w ∧ w1.tape = w.tape ∧ w' = w1.alloc (.mapIter (some r) clock seen clock) ∧ ∃ k : Nat, k = seenLen w es.toList seen ∧ s = .int .i64 k) (fun _ w' => (leftOf es (w'.iterSeen w.heap.size)).size)
  case atStart => exact ⟨w, #[], ⟨rfl, rfl, rfl⟩, rfl, rfl, 0, by rw [seenLen_none], rfl⟩
  case round =>
    obtain ⟨w1, seen, hal, htp, rfl, k, hk, rfl⟩ := hrel
    have hsz : w1.heap.size = w.heap.size := by rw [hal.1]
    have hb1 : w1.heap[r]? = some (.map es clock) := by rw [hal.1]; exact hb
    have law := run_next_map (P := Tryz.prog) w1 0 r clock clock seen es clock hb1 hborn (Nat.le_refl _)
    rw [hsz] at law
    have hkb := seenLen_le w seen es.toList
    rcases law with ⟨h0, hrun⟩ | ⟨e, he, w2, hal2, hrun⟩
    · have hnx : ∀ ty, (Instr.next (.pointer (some ⟨w.heap.size, 0, none⟩)) false ty).run Tryz.prog (w1.alloc (.mapIter (some r) clock seen clock)) = _ := fun _ => hrun
      have hfin : k = (es.toList.map fun x => lenAt w x.val).sum := by rw [hk, seenLen_all w es seen h0]
      have HK := Lib.hid hfin
      clear hk hfin hkb hsum
      go_wp2
      go_ret
      refine ⟨by rw [HK.out]; rfl, ?_⟩
      exact ⟨hal.2.1, htp, hal.2.2, by simp [hsz], fun j hj => by
        show (w1.heap.push _)[j]? = w.heap[j]?
        rw [Array.getElem?_push, if_neg (by omega), hal.1]⟩
    · obtain ⟨q, a, n, c, hval, hcell⟩ := hv e (mem_left he).1
      rw [hval] at hrun
      have hnx : ∀ ty, (Instr.next (.pointer (some ⟨w.heap.size, 0, none⟩)) false ty).run Tryz.prog (w1.alloc (.mapIter (some r) clock seen clock)) = _ := fun _ => hrun
      have hsz2 : w2.heap.size = w.heap.size := by rw [hal2.1, hal.1]
      have hb2 : w2.heap[r]? = some (.map es clock) := by rw [hal2.1]; exact hb1
      have hen := run_entry_map (P := Tryz.prog) w2 r clock seen es clock e hb2 (mem_left he).1 hnd
      rw [hsz2, hval] at hen
      have hlen : lenAt w e.val = n := by rw [hval]; simp [lenAt, hcell]
      have hpush := seenLen_push w seen e (mem_left he).2 es.toList hnd (mem_left he).1
      have hpb := seenLen_le w (seen.push e.born) es.toList
      have hkn : (k : Int) + n ≤ 4611686018427387904 := by omega
      have HK := Lib.hid hk
      have HP := Lib.hid hpush
      have HL := Lib.hid hlen
      clear hk hpush hpb hlen hkb hsum
      have htp2 : w2.tape = w.tape := (Tp.next _ _ _ _ _ _ _ hrun).trans htp
      have hq : q < w.heap.size := by
        rcases Nat.lt_or_ge q w.heap.size with h | h
        · exact h
        · simp [World.cell?, Array.getElem?_eq_none h] at hcell
      have hcell2 : ∀ o, (w2.alloc o).cell? ⟨q, 0, none⟩ = some (.slice a n c) := fun o => by
        have hh : (w2.alloc o).heap[q]? = w.heap[q]? := by
          show (w2.heap.push o)[q]? = _
          rw [Array.getElem?_push, if_neg (by omega), hal2.1, hal.1]
        rw [← hcell]
        simp only [World.cell?, hh]
      have HTP := Lib.hid htp2
      clear htp2 htp
      go_wp2
      go_roundw
      case rel =>
        refine ⟨w2, seen.push e.born, ⟨hal2.1.trans hal.1, hal2.2.1.trans hal.2.1, hal2.2.2.trans hal.2.2⟩, HTP.out, rfl, k + n, ?_, ?_⟩
        · rw [HP.out, HK.out, HL.out]
        · rw [Int.natCast_add]
      case measure =>
        rw [← hsz2, World.iterSeen_alloc, hsz2, ← hsz, World.iterSeen_alloc]
        exact left_shrinks es seen e he
end Go.Vam

namespace Go.Vam
open Go Go.RowKit

/-- A slice of bytes that came in, as an abstract value. -/
theorem bytes_in {W : World} {a : Option Addr} {x : Addr} {len cap : Nat} {zs : List Int} (ha : a = some x) (hl : len ≤ cap) (hz : zs.length = cap) (hc : ∀ i, i < zs.length → W.cell? (x.add i) = some (.int .u8 (zs.getD i 0)))
    (hw : ∀ n ∈ zs, (Lit.int .u8 n).wf = true) : ∃ bs, Rel (gh0 W) (.bytes bs) (.slice a len cap) := by
  subst ha
  rcases Nat.eq_zero_or_pos len with h0 | h0
  · subst h0; exact ⟨[], .bytes0 _ _⟩
  · obtain ⟨b, off, rfl, hd⟩ := ints_at hc (by omega)
    have hb := hd 0 (by omega)
    obtain ⟨arr, e, fr, hh⟩ : ∃ arr e fr, W.heap[b]? = some (.cells arr e fr) := by
      unfold World.cell? at hb
      split at hb
      · rename_i c e fr hh; exact ⟨c, e, fr, hh⟩
      · cases hb
    have hlen : len = ((zs.take len).map fun n => UInt8.ofNat n.toNat).length := by simp; omega
    refine ⟨(zs.take len).map fun n => UInt8.ofNat n.toNat, ?_⟩
    have key := Rel.bytes (β := gh0 W) ((zs.take len).map fun n => UInt8.ofNat n.toNat) b off cap arr.toList (by rw [← hlen]; exact hl) (by simp only [gh0, hh]) (fun i x hx => by
      rw [List.getElem?_map, List.getElem?_take] at hx
      split at hx
      · rename_i hi
        have hi' : i < zs.length := by omega
        rw [List.getElem?_eq_getElem hi'] at hx
        simp only [Option.map_some, Option.some.injEq] at hx
        subst hx
        have h1 := hd i hi'
        unfold World.cell? at h1
        rw [hh] at h1
        simp only [Option.isSome_none, Bool.false_eq_true, if_false] at h1
        have h2 : zs.getD i 0 = zs[i] := by simp [List.getD_eq_getElem?_getD, hi']
        rw [h2] at h1
        have h3 := bounds_u8 (hw zs[i] (List.getElem_mem hi'))
        have h4 : ((UInt8.ofNat zs[i].toNat).toNat : Int) = zs[i] := by
          simp only [UInt8.toNat_ofNat']; omega
        simp only [byteV, h4]
        simpa using h1
      · simp at hx)
    rw [← hlen] at key
    exact key
end Go.Vam
