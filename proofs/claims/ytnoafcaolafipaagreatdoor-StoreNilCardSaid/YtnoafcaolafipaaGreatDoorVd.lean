/- The library's contracts on sorted keys at this dump; the walks of Clone, Used, List, stringslite.Clone. -/
import Derived.Shelf.SlIter.Nil
import Derived.Shelf.SortM.Plain
import Derived.Shelf.SortM.SortNone
import Derived.Ground.GgzProg
import Derived.Ground.SlgmProg
import Derived.Test.YtnoafcaolafipaaGreatDoorProg
import Derived.Test.YtnoafcaolafipaaGreatDoorVc
import Derived.WalkKit
import Derived.Below
import Derived.Lib.Hide
import Derived.MapKept
import Derived.LoopTactic
import Derived.LoopN
import Derived.Lib.Strings
import Derived.Lib.Walk
import Derived.Lib.BufferWrite
import Derived.Lib.UnsafeStr
import Derived.Laws.MakeOwn
import Derived.OwnWalk
/-
  DERIVED: THE SHELF's CONTRACTS AT THIS DUMP, IN PLAIN WORDS (tools/lay-plain.mjs out of 'Tryz2Iter.lean', which tools/lay-shelf.mjs wrote): THE SAME DECLARATIONS UNDER THE SAME NAMES: 'import', 'namespace', 'open', 'def', 'theorem' AND NOTHING ELSE: no command of the shelf's: FOR A HAND-IN. Each laying: the table of numbers ('.._ren') and one theorem, a field a fact of the dump's own or the kernel's comparison; each contract: ONE APPLICATION.
-/
namespace Go.Proofs
open Go.Shelf
def Tryz.keys77_ren : Go.Shelf.Ren := ⟨fun | 7 => 77 | 10 => 142 | n => n, fun | 23 => 57 | 26 => 9 | 3 => 148 | 28 => 146 | 0 => 0 | 27 => 145 | 33 => 45 | 4 => 4 | n => n, fun | n => n⟩
theorem Tryz.keys77 : Go.Proofs.SlLaysZ.n7 Tryz.prog Tryz.keys77_ren := {
  mixed := by kernel_rfl
  f7 := ⟨Tryz.f77.name, by decide, Tryz.func77.trans (congrArg some (by kernel_rfl))⟩
  f10 := ⟨Tryz.f142.name, by decide, Tryz.func142.trans (congrArg some (by kernel_rfl))⟩
  t0 := Tryz.underlying0
  a0 := Tryz.isAgg0
  z0 := Tryz.sizeOf0
  v0 := Tryz.zeroValue0
  t4 := Tryz.underlying4
  a4 := Tryz.isAgg4
  z4 := Tryz.sizeOf4
  v4 := Tryz.zeroValue4
  t23 := Tryz.underlying57
  a23 := Tryz.isAgg57
  z23 := Tryz.sizeOf57
  v23 := Tryz.zeroValue57
  t26 := Tryz.underlying9
  a26 := Tryz.isAgg9
  z26 := Tryz.sizeOf9
  v26 := Tryz.zeroValue9
  t27 := Tryz.underlying145
  a27 := Tryz.isAgg145
  z27 := Tryz.sizeOf145
  v27 := Tryz.zeroValue145
  t28 := Tryz.underlying146
  a28 := Tryz.isAgg146
  z28 := Tryz.sizeOf146
  v28 := Tryz.zeroValue146
  t33 := Tryz.underlying45
  a33 := Tryz.isAgg45
  z33 := Tryz.sizeOf45
  v33 := Tryz.zeroValue45 }
def Tryz.sorted76_ren : Go.Shelf.Ren := ⟨fun | 6 => 76 | 8 => 140 | 9 => 141 | 11 => 209 | 13 => 211 | 12 => 210 | 23 => 282 | 24 => 283 | 14 => 273 | 15 => 274 | 16 => 275 | 17 => 276 | 18 => 277 | 19 => 278 | 20 => 279 | 21 => 280 | 22 => 281 | 25 => 322 | 26 => 323 | 27 => 324 | 28 => 325 | 29 => 326 | 30 => 327 | 31 => 355 | n => n, fun | 26 => 9 | 28 => 146 | 24 => 40 | 0 => 0 | 3 => 3 | 37 => 249 | 48 => 228 | 50 => 178 | 4 => 4 | 40 => 364 | 39 => 363 | 45 => 368 | 5 => 5 | 9 => 9 | 51 => 419 | 55 => 423 | 57 => 444 | 58 => 445 | 33 => 45 | n => n, fun | n => n⟩
theorem Tryz.sorted76 : Go.Proofs.SlLaysZ.n6 Tryz.prog Tryz.sorted76_ren := {
  mixed := by kernel_rfl
  f6 := ⟨Tryz.f76.name, by decide, Tryz.func76.trans (congrArg some (by kernel_rfl))⟩
  f8 := ⟨Tryz.f140.name, by decide, Tryz.func140.trans (congrArg some (by kernel_rfl))⟩
  f11 := ⟨Tryz.f209.name, by decide, Tryz.func209.trans (congrArg some (by kernel_rfl))⟩
  t0 := Tryz.underlying0
  a0 := Tryz.isAgg0
  z0 := Tryz.sizeOf0
  v0 := Tryz.zeroValue0
  t24 := Tryz.underlying40
  a24 := Tryz.isAgg40
  z24 := Tryz.sizeOf40
  v24 := Tryz.zeroValue40
  t26 := Tryz.underlying9
  a26 := Tryz.isAgg9
  z26 := Tryz.sizeOf9
  v26 := Tryz.zeroValue9
  t28 := Tryz.underlying146
  a28 := Tryz.isAgg146
  z28 := Tryz.sizeOf146
  v28 := Tryz.zeroValue146
  i26 := by kernel_rfl }
def Tryz.sort141_ren : Go.Shelf.Ren := ⟨fun | 6 => 141 | 8 => 211 | 9 => 210 | 19 => 282 | 20 => 283 | 21 => 273 | 22 => 274 | 23 => 275 | 24 => 276 | 25 => 277 | 26 => 278 | 27 => 279 | 28 => 280 | 29 => 281 | 36 => 322 | 31 => 323 | 32 => 324 | 37 => 325 | 38 => 326 | 39 => 327 | 41 => 355 | n => n, fun | 27 => 40 | 29 => 9 | 3 => 3 | 32 => 249 | 26 => 40 | 0 => 0 | 44 => 228 | 46 => 178 | 4 => 4 | 36 => 364 | 35 => 363 | 41 => 368 | 5 => 5 | 9 => 9 | 53 => 419 | 57 => 423 | 63 => 444 | 64 => 445 | n => n, fun | n => n⟩
theorem Tryz.sort141 : Go.Proofs.SlLaysM.n6 Tryz.prog Tryz.sort141_ren := {
  mixed := by kernel_rfl
  f6 := ⟨Tryz.f141.name, by decide, Tryz.func141.trans (congrArg some (by kernel_rfl))⟩
  f8 := Tryz.func211.trans (congrArg some (by kernel_rfl))
  f9 := ⟨Tryz.f210.name, by decide, Tryz.func210.trans (congrArg some (by kernel_rfl))⟩
  f19 := Tryz.func282.trans (congrArg some (by kernel_rfl))
  f20 := Tryz.func283.trans (congrArg some (by kernel_rfl))
  f21 := ⟨Tryz.f273.name, by decide, Tryz.func273.trans (congrArg some (by kernel_rfl))⟩
  f22 := ⟨Tryz.f274.name, by decide, Tryz.func274.trans (congrArg some (by kernel_rfl))⟩
  f23 := ⟨Tryz.f275.name, by decide, Tryz.func275.trans (congrArg some (by kernel_rfl))⟩
  f24 := ⟨Tryz.f276.name, by decide, Tryz.func276.trans (congrArg some (by kernel_rfl))⟩
  f25 := ⟨Tryz.f277.name, by decide, Tryz.func277.trans (congrArg some (by kernel_rfl))⟩
  f26 := ⟨Tryz.f278.name, by decide, Tryz.func278.trans (congrArg some (by kernel_rfl))⟩
  f27 := ⟨Tryz.f279.name, by decide, Tryz.func279.trans (congrArg some (by kernel_rfl))⟩
  f28 := ⟨Tryz.f280.name, by decide, Tryz.func280.trans (congrArg some (by kernel_rfl))⟩
  f29 := ⟨Tryz.f281.name, by decide, Tryz.func281.trans (congrArg some (by kernel_rfl))⟩
  f31 := Tryz.func323.trans (congrArg some (by kernel_rfl))
  f32 := Tryz.func324.trans (congrArg some (by kernel_rfl))
  f36 := ⟨Tryz.f322.name, by decide, Tryz.func322.trans (congrArg some (by kernel_rfl))⟩
  f37 := ⟨Tryz.f325.name, by decide, Tryz.func325.trans (congrArg some (by kernel_rfl))⟩
  f38 := ⟨Tryz.f326.name, by decide, Tryz.func326.trans (congrArg some (by kernel_rfl))⟩
  f39 := ⟨Tryz.f327.name, by decide, Tryz.func327.trans (congrArg some (by kernel_rfl))⟩
  f41 := ⟨Tryz.f355.name, by decide, Tryz.func355.trans (congrArg some (by kernel_rfl))⟩
  t0 := Tryz.underlying0
  a0 := Tryz.isAgg0
  z0 := Tryz.sizeOf0
  v0 := Tryz.zeroValue0
  t3 := Tryz.underlying3
  a3 := Tryz.isAgg3
  z3 := Tryz.sizeOf3
  v3 := Tryz.zeroValue3
  t4 := Tryz.underlying4
  a4 := Tryz.isAgg4
  z4 := Tryz.sizeOf4
  v4 := Tryz.zeroValue4
  t5 := Tryz.underlying5
  a5 := Tryz.isAgg5
  z5 := Tryz.sizeOf5
  v5 := Tryz.zeroValue5
  t9 := Tryz.underlying9
  a9 := Tryz.isAgg9
  z9 := Tryz.sizeOf9
  v9 := Tryz.zeroValue9
  t26 := Tryz.underlying40
  a26 := Tryz.isAgg40
  z26 := Tryz.sizeOf40
  v26 := Tryz.zeroValue40
  t27 := Tryz.underlying40
  a27 := Tryz.isAgg40
  z27 := Tryz.sizeOf40
  v27 := Tryz.zeroValue40
  t29 := Tryz.underlying9
  a29 := Tryz.isAgg9
  z29 := Tryz.sizeOf9
  v29 := Tryz.zeroValue9
  t32 := Tryz.underlying249
  a32 := Tryz.isAgg249
  z32 := Tryz.sizeOf249
  v32 := Tryz.zeroValue249
  t35 := Tryz.underlying363
  a35 := Tryz.isAgg363
  z35 := Tryz.sizeOf363
  v35 := Tryz.zeroValue363
  t36 := Tryz.underlying364
  a36 := Tryz.isAgg364
  z36 := Tryz.sizeOf364
  v36 := Tryz.zeroValue364
  t41 := Tryz.underlying368
  a41 := Tryz.isAgg368
  z41 := Tryz.sizeOf368
  v41 := Tryz.zeroValue368
  t44 := Tryz.underlying228
  a44 := Tryz.isAgg228
  z44 := Tryz.sizeOf228
  v44 := Tryz.zeroValue228
  t46 := Tryz.underlying178
  a46 := Tryz.isAgg178
  z46 := Tryz.sizeOf178
  v46 := Tryz.zeroValue178
  t53 := Tryz.underlying419
  a53 := Tryz.isAgg419
  z53 := Tryz.sizeOf419
  v53 := Tryz.zeroValue419
  t57 := Tryz.underlying423
  a57 := Tryz.isAgg423
  z57 := Tryz.sizeOf423
  v57 := Tryz.zeroValue423
  t63 := Tryz.underlying444
  a63 := Tryz.isAgg444
  z63 := Tryz.sizeOf444
  v63 := Tryz.zeroValue444
  t64 := Tryz.underlying445
  a64 := Tryz.isAgg445
  z64 := Tryz.sizeOf445
  v64 := Tryz.zeroValue445 }
end Go.Proofs

namespace Go.Proofs
open Go.RowKit Go.Maps Go.Sort Go.Shelf

/-- slices.Sort's two contracts at this dump, at the fence that asks nothing. -/
theorem Tryz.sorts76 (m : Nat) : AnyZ.SortsIn Tryz.prog Tryz.sorted76_ren Fence.wide m :=
  ⟨fun blk off cap ss W hH hblk hsz => callsIn_wide.2 (AnyM.slices_Sort_string Tryz.sort141 blk off cap ss W hH hblk hsz),
   fun p cap W => callsIn_wide.2 (AnyM.slices_Sort_string_none Tryz.sort141 p cap W)⟩

/-- **maps.Keys[map[string]*halyard/disk.file,string,*halyard/disk.file], at whatever map, the nil one too:** a function value over ONE NEW BLOCK, which holds the map. -/
theorem Tryz.maps_Keys_77 (mb : Option Nat) (W : World) : CallsIn Fence.wide 5 Tryz.prog 77 #[.map mb] W fun e w' => e = .returned (.func (.func 142) #[] #[.pointer (some ⟨W.heap.size, 0, none⟩)]) ∧ w' = W.alloc (.cells #[.map mb] 57) :=
  AnyZ.keys_in Tryz.keys77 Fence.wide 5 trivial rfl mb W

set_option maxHeartbeats 1000000 in
/-- **slices.Sorted[string] AT WHAT maps.Keys[map[string]*halyard/disk.file,string,*halyard/disk.file] HANDED BACK FOR A MAP THAT IS NOT nil** ('w': the world AHEAD of maps.Keys' call): A NEW SLICE THAT HOLDS THE MAP's KEYS, SORTED; nil just where it has none; nothing that lay before has turned. -/
theorem Tryz.slices_Sorted_keys_76_77 {H : Type} (b nn : Nat) (D0 : DataW H) (R : Value → Option (DataW H × List MemPlace)) (w : World) (hown : w.ownsMap Tryz.prog 9 R b nn D0) (hmax : Maps.size D0 ≤ maxLen) (hbytes : Maps.size D0 * 16 ≤ 140737488355328) :
    CallsIn Fence.wide 5 Tryz.prog 76 #[.func (.func 142) #[] #[.pointer (some ⟨w.heap.size, 0, none⟩)]] (w.alloc (.cells #[.map (some b)] 57)) fun e w' => ∃ (v : Value) (ss : List (List UInt8)), e = .returned v ∧ ss.Perm (strKeys D0) ∧
      w'.ownsRow (w.alloc (.cells #[.map (some b)] 57)).heap.size 9 1 v ss.length ((ss.mergeSort (fun x y => decide (x ≤ y))).map encStr) ∧ (v = .slice none 0 0 ↔ ss = []) ∧ Below (w.alloc (.cells #[.map (some b)] 57)).heap.size (w.alloc (.cells #[.map (some b)] 57)) w' := by
  have hbl := hown.lt
  have hseq : SeqGives Fence.wide 2 Tryz.prog 142 #[.pointer (some ⟨w.heap.size, 0, none⟩)] encStr (fun ss => ss.Perm (strKeys D0)) (Maps.size D0) (w.alloc (.cells #[.map (some b)] 57)) :=
    AnyZ.keys_gives (ρ := Tryz.keys77_ren) { Tryz.keys77 with } Fence.wide _ trivial rfl (by omega) w.heap.size b nn D0 _ (by simp) (by simp) (by
      obtain ⟨es, clock, hb, Ft, hs, hD⟩ := hown
      exact ⟨es, clock, (Below.heap_alloc _ _ b hbl).trans hb, Ft, hs, hD⟩)
  exact AnyZ.sorted_in Tryz.sorted76 Fence.wide 5 trivial trivial trivial trivial rfl (by omega) (Tryz.sorts76 _) (enters_of Tryz.func141 (by kernel_rfl) rfl) 142 #[.pointer (some ⟨w.heap.size, 0, none⟩)] trivial (enters_of Tryz.func142 (by kernel_rfl) rfl) _ _ hmax hbytes _ hseq


end Go.Proofs
namespace Go.Vam
open Go Go.RowKit Go.Proofs Go.Maps Go.Sort Go.Shelf

theorem ownsRow_base' {w : World} {b b' e sz n : Nat} {v : Value} {xs : List Value} (h : w.ownsRow b e sz v n xs) (hb : b' ≤ b) : w.ownsRow b' e sz v n xs := by
  refine ⟨h.1, ?_⟩
  rcases h.2 with h2 | ⟨g, cap, cur, h3, h4, h5⟩
  · exact .inl h2
  · exact .inr ⟨g, cap, cur, h3, Nat.le_trans hb h4, h5⟩

def ListPost {H : Type} (w : World) (down : Bool) (D0 : DataW H) (e : Ending) (w' : World) : Prop :=
  ∃ (v : Value) (ss : List (List UInt8)), e = .returned v ∧ (down = false → ss.Perm (strKeys D0)) ∧ (down = true → ss = []) ∧
      w'.ownsRow w.heap.size 9 1 v ss.length ((ss.mergeSort (fun x y => decide (x ≤ y))).map encStr) ∧ (v = .slice none 0 0 ↔ ss = []) ∧ Below w.heap.size w w'

set_option maxHeartbeats 2000000 in
set_option maxRecDepth 1000000 in
/-- List, of a disk whose directory is there: the names, sorted. -/
theorem list_walk {H : Type} (b d nn : Nat) (down : Bool) (D0 : DataW H) (R : Value → Option (DataW H × List MemPlace)) (w : World) (hd : w.cell? ⟨d, 1, none⟩ = some (.map (some b))) (hd4 : w.cell? ⟨d, 4, none⟩ = some (.bool down))
    (hown : w.ownsMap Tryz.prog 9 R b nn D0) (hmax : Maps.size D0 ≤ maxLen) (hbytes : Maps.size D0 * 16 ≤ 140737488355328) :
    Calls Tryz.prog 36 #[.pointer (some ⟨d, 0, none⟩)] w (ListPost w down D0) := by
  refine (callsIn_wide (n := 6)).1 ?_
  have hfK : Fence.wide.fn 77 := trivial
  have hfS : Fence.wide.fn 76 := trivial
  refine callsIn_of_wp Tryz.func36 rfl trivial ?_ rfl
  simp only [Tryz.ntmps36, List.size_toArray, List.length_cons, List.length_nil, Nat.reduceAdd, Nat.reduceSub, Array.replicate_succ, Array.replicate_zero, List.push_toArray, List.append_toArray, List.nil_append, List.cons_append]
  cases down
  · gi_wp2_with (first
      | (gi_at_call 77; refine (Tryz.maps_Keys_77 _ _).mono ?_; rintro e w' ⟨rfl, rfl⟩)
      | (gi_at_call 76; refine (Tryz.slices_Sorted_keys_76_77 b nn D0 R w hown hmax hbytes).mono ?_; rintro e w' ⟨v, ss, rfl, hS, hrow, hnil, hb⟩))
    go_ret
    exact ⟨v, ss, rfl, fun _ => hS, (fun h => by cases h), ownsRow_base' hrow (by simp), hnil, ((Below.refl _ w).alloc (Nat.le_refl _) _).trans (hb.mono (by simp))⟩
  · gi_wp2_with (first
      | (gi_at_call 77; refine (Tryz.maps_Keys_77 _ _).mono ?_; rintro e w' ⟨rfl, rfl⟩)
      | (gi_at_call 76; refine (Tryz.slices_Sorted_keys_76_77 b nn D0 R w hown hmax hbytes).mono ?_; rintro e w' ⟨v, ss, rfl, hS, hrow, hnil, hb⟩))
    go_ret
    exact ⟨.slice none 0 0, [], rfl, (fun h => by cases h), fun _ => rfl, by simpa using World.ownsRow_nil _ _ _ _, by simp, Below.refl _ _⟩

end Go.Vam

namespace Go.Vam
open Go Go.RowKit Go.Proofs

theorem u57 : Tryz.prog.underlying 57 = some (.map 9 148) := by kernel_rfl

section
variable {P : Program} (w : World)
theorem run_mapNil (t k e : TypeId) (p : Option Nat) (h : P.underlying t = some (.map k e)) : (binOp .eql t (.map p) (.map none)).run P w = .ok (.bool p.isNone) w := by
  have h1 : ∀ d, (Op.equalIn (d + 1) t (.map p) (.map none)).run P w = .ok p.isNone w := fun d => by cases p <;> simp [Op.equalIn, run_underlying h]
  simp only [binOp]
  simp [show Op.equal t (.map p) (.map none) = Op.equalIn (9999 + 1) t (.map p) (.map none) from rfl, h1 9999]
theorem run_assertMap (t xT k e : TypeId) (v : Value) (h : P.underlying t = some (.map k e)) : (Instr.typeAssert (.iface t v) xT t false).run P w = .ok v w := by
  simp [Instr.typeAssert, run_underlying h, go_sem, Result.andThen]
theorem run_cloneMap {r : Nat} {es : Array MapEntry} {clock : Nat} (t : TypeId) (hb : w.heap[r]? = some (.map es clock)) :
    (Extern.MapsClone.clone #[.iface t (.map (some r))]).run P w = .ok (.iface t (.map (some w.heap.size))) (w.alloc (.map es clock)) := by
  have e : Extern.MapsClone.clone #[.iface t (.map (some r))] = (getObj r >>= fun o => match o with
      | .map entries clock => (newObj (.map entries clock) >>= fun n => pure (.iface t (.map (some n))))
      | _ => stuck "maps.clone: a map expected") := rfl
  rw [e]
  simp [MapKept.run_getObj_map hb, Result.andThen, go_sem]
end

set_option maxHeartbeats 2000000 in
set_option maxRecDepth 1000000 in
theorem clone_walk (w : World) (b : Nat) (es : Array MapEntry) (clock : Nat) (hb : w.heap[b]? = some (.map es clock)) :
    Calls Tryz.prog 214 #[.map (some b)] w fun e w' => e = .returned (.map (some w.heap.size)) ∧ w' = w.alloc (.map es clock) := by
  have hq := fun w => run_mapNil (P := Tryz.prog) w 57 _ _ (some b) u57
  go_enter Tryz.func214, Tryz.ntmps214
  go_wp2
  rw [run_callFunc_extern Tryz.func286 (by kernel_rfl) (by kernel_rfl) (by kernel_rfl) (e := Extern.MapsClone.clone) (by kernel_rfl), run_cloneMap w 57 hb]
  simp only [Result.andThen]
  rw [Oper.upon_value]
  go_wp2
  rw [run_assertMap _ 57 20 _ _ _ u57]
  simp only [Result.andThen]
  rw [Oper.upon_value]
  go_wp2
  go_ret
  exact ⟨rfl, rfl⟩

theorem sum_le (l : List Nat) : (0 : Int) ≤ (l.sum : Nat) := by omega

/-- The lengths of those that have been handed out. -/
def seenLen (W : World) : List MapEntry → Array Nat → Nat
  | [], _ => 0
  | x :: l, seen => (if seen.contains x.born then lenAt W x.val else 0) + seenLen W l seen

theorem seenLen_other (W : World) (seen : Array Nat) (b : Nat) : ∀ (es : List MapEntry), b ∉ es.map (·.born) → seenLen W es (seen.push b) = seenLen W es seen
  | [], _ => rfl
  | x :: l, h => by
    have hx : (x.born == b) = false := by
      cases hc : x.born == b with
      | false => rfl
      | true => exact absurd (List.mem_cons.2 (Or.inl (beq_iff_eq.1 hc).symm)) h
    have ih := seenLen_other W seen b l (fun e => h (List.mem_cons.2 (Or.inr e)))
    simp only [seenLen, contains_push, hx, Bool.or_false, ih]

theorem seenLen_push (W : World) (seen : Array Nat) (e : MapEntry) (hs : seen.contains e.born = false) : ∀ (es : List MapEntry), (es.map (·.born)).Nodup → e ∈ es → seenLen W es (seen.push e.born) = seenLen W es seen + lenAt W e.val
  | x :: l, hn, he => by
    have hn' : x.born ∉ l.map (·.born) ∧ (l.map (·.born)).Nodup := List.nodup_cons.1 hn
    rcases List.mem_cons.1 he with rfl | h
    · simp only [seenLen, contains_push, hs, beq_self_eq_true, Bool.or_true, if_true, Bool.false_eq_true, if_false, seenLen_other W seen e.born l hn'.1]
      omega
    · have hx : (x.born == e.born) = false := by
        cases hc : x.born == e.born with
        | false => rfl
        | true => exact absurd (by rw [beq_iff_eq.1 hc]; exact List.mem_map.2 ⟨e, h, rfl⟩) hn'.1
      simp only [seenLen, contains_push, hx, Bool.or_false, seenLen_push W seen e hs l hn'.2 h]
      omega

theorem seenLen_le (W : World) (seen : Array Nat) : ∀ (es : List MapEntry), seenLen W es seen ≤ (es.map fun e => lenAt W e.val).sum
  | [] => Nat.le_refl _
  | x :: l => by
    have := seenLen_le W seen l
    simp only [seenLen, List.map_cons, List.sum_cons]
    split <;> omega

theorem seenLen_all (W : World) (es : Array MapEntry) (seen : Array Nat) (h : (leftOf es seen).size = 0) : seenLen W es.toList seen = (es.toList.map fun e => lenAt W e.val).sum := by
  have ha := all_seen es seen h
  generalize es.toList = l at ha
  induction l with
  | nil => rfl
  | cons x l ih => simp only [seenLen, ha x (by simp), if_true, List.map_cons, List.sum_cons, ih (fun y hy => ha y (by simp [hy]))]

theorem seenLen_none (W : World) : ∀ (es : List MapEntry), seenLen W es #[] = 0
  | [] => rfl
  | x :: l => by
    have : (#[] : Array Nat).contains x.born = false := by simp
    simp only [seenLen, this, Bool.false_eq_true, if_false, seenLen_none W l]

/-! The tape is never turned by 'next'. -/

def Tp {α : Type} (s : Sem α) : Prop := ∀ P w v w', s.run P w = .ok v w' → w'.tape = w.tape

theorem Tp.pure {α : Type} (a : α) : Tp (Pure.pure a : Sem α) := fun P w v w' h => by
  rw [Sem.run_pure] at h; cases h; rfl
theorem Tp.halt {α : Type} (x : Halt) : Tp (.halt x : Sem α) := fun P w v w' h => by cases h
theorem Tp.bind {α β : Type} {s : Sem α} {f : α → Sem β} (hs : Tp s) (hf : ∀ a, Tp (f a)) : Tp (s >>= f) := fun P w v w' h => by
  rw [Sem.run_bind] at h
  cases hr : s.run P w with
  | ok a w1 => rw [hr] at h; exact (hf a P w1 v w' h).trans (hs P w a w1 hr)
  | halt x w1 => rw [hr] at h; cases h
theorem Tp.getObj (r : Nat) : Tp (Go.getObj r) := fun P w v w' h => by
  simp only [Go.getObj, Sem.run] at h
  split at h
  · cases h
  · cases h; rfl
  · cases h
theorem Tp.setObj (r : Nat) (o : Obj) : Tp (Go.setObj r o) := fun P w v w' h => by
  simp only [Go.setObj, Sem.run] at h
  split at h
  · cases h
  · cases h; rfl
  · cases h
theorem Tp.choose (q : Question) : Tp (Go.choose q) := fun P w v w' h => by
  simp only [Go.choose, Sem.run] at h
  split at h
  · cases h; rfl
  · cases h; rfl

theorem Tp.next (it : Value) (b : Bool) (t : TypeId) : Tp (Instr.next it b t) := by
  unfold Instr.next
  simp only
  split
  · refine (Tp.getObj _).bind fun o => ?_
    split
    · split
      · exact (Tp.setObj _ _).bind fun _ => Tp.pure _
      · exact Tp.pure _
    · exact Tp.pure _
    · refine (Tp.getObj _).bind fun o => ?_
      split
      · split
        · exact (Tp.halt _).bind fun _ => (Tp.choose _).bind fun j => by
            split
            · exact (Tp.setObj _ _).bind fun _ => Tp.pure _
            · exact Tp.pure _
            · exact Tp.halt _
        · refine (Tp.choose _).bind fun j => ?_
          split
          · exact (Tp.setObj _ _).bind fun _ => Tp.pure _
          · exact Tp.pure _
          · exact Tp.halt _
      · exact Tp.halt _
    · exact Tp.halt _
  · exact Tp.halt _

set_option maxHeartbeats 4000000 in
set_option maxRecDepth 1000000 in
theorem used_walk (w : World) (b r : Nat) (es : Array MapEntry) (clock : Nat) (hd : w.cell? ⟨b, 1, none⟩ = some (.map (some r))) (hb : w.heap[r]? = some (.map es clock)) (hborn : ∀ x ∈ es.toList, x.born < clock) (hnd : (es.toList.map (·.born)).Nodup)
    (hv : ∀ x ∈ es.toList, ∃ q a n c, x.val = .pointer (some ⟨q, 0, none⟩) ∧ w.cell? ⟨q, 0, none⟩ = some (.slice a n c)) (hsum : ((es.toList.map fun x => lenAt w x.val).sum : Nat) ≤ 4611686018427387904) :
    Calls Tryz.prog 197 #[.pointer (some ⟨b, 0, none⟩)] w fun e w' => e = .returned (.int .i64 ((es.toList.map fun x => lenAt w x.val).sum : Nat)) ∧ Grew w w' := by
  have hrg := run_range_map (P := Tryz.prog) w 57 9 148 r es clock u57 hb
  go_enter Tryz.func197, Tryz.ntmps197
  go_wp2
  go_loopw [3] (fun s w' => ∃ (w1 : World) (seen : Array Nat), w1.Alike w ∧ w1.tape = w.tape ∧ w' = w1.alloc (.mapIter (some r) clock seen clock) ∧ ∃ k : Nat, k = seenLen w es.toList seen ∧ s = .int .i64 k) (fun _ w' => (leftOf es (w'.iterSeen w.heap.size)).size)
  case atStart => exact ⟨w, #[], ⟨rfl, rfl, rfl⟩, rfl, rfl, 0, by rw [seenLen_none], rfl⟩
  case round =>
    obtain ⟨w1, seen, hal, htp, rfl, k, hk, rfl⟩ := hrel
    have hsz : w1.heap.size = w.heap.size := by rw [hal.1]
    have hb1 : w1.heap[r]? = some (.map es clock) := by rw [hal.1]; exact hb
    have law := run_next_map (P := Tryz.prog) w1 0 r clock clock seen es clock hb1 hborn (Nat.le_refl _)
    rw [hsz] at law
    have hkb := seenLen_le w seen es.toList
    rcases law with ⟨h0, hrun⟩ | ⟨e, he, w2, hal2, hrun⟩
    · have hnx : ∀ ty, (Instr.next (.pointer (some ⟨w.heap.size, 0, none⟩)) false ty).run Tryz.prog (w1.alloc (.mapIter (some r) clock seen clock)) = _ := fun _ => hrun
      have hfin : k = (es.toList.map fun x => lenAt w x.val).sum := by rw [hk, seenLen_all w es seen h0]
      have HK := Lib.hid hfin
      clear hk hfin hkb hsum
      go_wp2
      go_ret
      refine ⟨by rw [HK.out]; rfl, ?_⟩
      exact ⟨hal.2.1, htp, hal.2.2, by simp [hsz], fun j hj => by
        show (w1.heap.push _)[j]? = w.heap[j]?
        rw [Array.getElem?_push, if_neg (by omega), hal.1]⟩
    · obtain ⟨q, a, n, c, hval, hcell⟩ := hv e (mem_left he).1
      rw [hval] at hrun
      have hnx : ∀ ty, (Instr.next (.pointer (some ⟨w.heap.size, 0, none⟩)) false ty).run Tryz.prog (w1.alloc (.mapIter (some r) clock seen clock)) = _ := fun _ => hrun
      have hsz2 : w2.heap.size = w.heap.size := by rw [hal2.1, hal.1]
      have hb2 : w2.heap[r]? = some (.map es clock) := by rw [hal2.1]; exact hb1
      have hen := run_entry_map (P := Tryz.prog) w2 r clock seen es clock e hb2 (mem_left he).1 hnd
      rw [hsz2, hval] at hen
      have hlen : lenAt w e.val = n := by rw [hval]; simp [lenAt, hcell]
      have hpush := seenLen_push w seen e (mem_left he).2 es.toList hnd (mem_left he).1
      have hpb := seenLen_le w (seen.push e.born) es.toList
      have hkn : (k : Int) + n ≤ 4611686018427387904 := by omega
      have HK := Lib.hid hk
      have HP := Lib.hid hpush
      have HL := Lib.hid hlen
      clear hk hpush hpb hlen hkb hsum
      have htp2 : w2.tape = w.tape := (Tp.next _ _ _ _ _ _ _ hrun).trans htp
      have hq : q < w.heap.size := by
        rcases Nat.lt_or_ge q w.heap.size with h | h
        · exact h
        · simp [World.cell?, Array.getElem?_eq_none h] at hcell
      have hcell2 : ∀ o, (w2.alloc o).cell? ⟨q, 0, none⟩ = some (.slice a n c) := fun o => by
        have hh : (w2.alloc o).heap[q]? = w.heap[q]? := by
          show (w2.heap.push o)[q]? = _
          rw [Array.getElem?_push, if_neg (by omega), hal2.1, hal.1]
        rw [← hcell]
        simp only [World.cell?, hh]
      have HTP := Lib.hid htp2
      clear htp2 htp
      go_wp2
      go_roundw
      case rel =>
        refine ⟨w2, seen.push e.born, ⟨hal2.1.trans hal.1, hal2.2.1.trans hal.2.1, hal2.2.2.trans hal.2.2⟩, HTP.out, rfl, k + n, ?_, ?_⟩
        · rw [HP.out, HK.out, HL.out]
        · rw [Int.natCast_add]
      case measure =>
        rw [← hsz2, World.iterSeen_alloc, hsz2, ← hsz, World.iterSeen_alloc]
        exact left_shrinks es seen e he

set_option maxHeartbeats 4000000 in
set_option maxRecDepth 1000000 in
/-- stringslite.Clone: the same bytes; nothing that was there has turned. -/
theorem sclone_walk (s : ByteArray) (w : World) (hlim : s.size ≤ 281474976710656) :
    Calls Tryz.prog 270 #[.string s] w fun e w' => e = .returned (.string s) ∧ Below w.heap.size w w' := by
  by_cases h0 : s.size = 0
  · have hs : s = ⟨#[]⟩ := by
      apply ByteArray.ext
      exact Array.eq_empty_of_size_eq_zero h0
    subst hs
    go_enter Tryz.func270, Tryz.ntmps270
    go_wp2
    go_ret
    exact ⟨rfl, Below.refl _ _⟩
  · have u75 : Tryz.prog.underlying 75 = some (.slice 5) := by kernel_rfl
    have u415 : Tryz.prog.underlying 415 = some (.pointer 5) := by kernel_rfl
    obtain ⟨i0, hi, hz0, hz1, hz2⟩ := info_parts (P := Tryz.prog) (e := 5) (z := .int .u8 0) (size := 1) (bytes := 1) (by kernel_rfl)
    have hinfo : (Tryz.prog.info? 5).map (·.size) = some 1 := by rw [hi]; simp [hz1]
    have hco : Tryz.prog.cellsOf 5 = 1 := by simp [Program.cellsOf, hi, hz1]
    obtain ⟨M, hM⟩ : ∃ M, M = madeCells (Value.int .u8 0).cells (((s.size : Nat) : Int).toNat * i0.size) := ⟨_, rfl⟩
    have hMs : M.size = s.size := by rw [hM, size_madeCells, hz1]; simp
    have hmk : ∀ W : World, (Instr.makeSlice 75 (.int .i64 (s.size : Int)) (.int .i64 (s.size : Int))).run Tryz.prog W = .ok (.slice (some ⟨W.heap.size, 0, none⟩) s.size s.size) (W.alloc (.cells M 5)) := fun W => by
      have h := run_make (P := Tryz.prog) W 75 5 i0 (.int .u8 0) u75 hi hz0 .i64 .i64 (s.size : Int) (s.size : Int) (by omega) (by omega) (by rw [hz2]; omega) (by omega)
      rw [← hM] at h
      simpa using h
    clear hM
    have hcp := Lib.run_copy_row_string (P := Tryz.prog) (w.alloc (.cells M 5)) 75 9 3 5 w.heap.size 0 s.size s.size s M 5 u75 hinfo (heap_alloc_new w _) (Nat.le_refl _) (by omega)
    obtain ⟨Y, hY⟩ : ∃ Y, Y = (M.toList.take 0 ++ Lib.byteCells s.data.toList ++ M.toList.drop (0 + s.size)).toArray := ⟨_, rfl⟩
    rw [← hY] at hcp
    have hYl : Y.toList = Lib.byteCells s.data.toList := by
      rw [hY, List.toList_toArray, List.take_zero, List.nil_append, List.drop_of_length_le (by rw [Array.length_toList]; omega), List.append_nil]
    have hYs : Y.size = s.size := by rw [← Array.length_toList, hYl, Lib.byteCells_length, ← Lib.size_eq]
    have hgY : ((w.alloc (.cells M 5)).setRow w.heap.size Y).heap[w.heap.size]? = some (.cells Y 5 (0, 0)) := setRow_heap _ _ M _ 5 (0, 0) (heap_alloc_new w _)
    have hne : s.data.toList ≠ [] := fun e => h0 (by rw [Lib.size_eq, e]; rfl)
    have hUS := Lib.run_unsafeString_row (P := Tryz.prog) ((w.alloc (.cells M 5)).setRow w.heap.size Y) 415 3 9 5 u415 hco w.heap.size Y.size (by unfold World.shape?; rw [hgY]) s.data.toList hne (by rw [← Lib.size_eq]; omega) (by rw [← Lib.size_eq]; omega)
      (fun j x hx => Lib.cells_of_row hgY Y.size j _ (by rw [List.take_of_length_le (by rw [Array.length_toList]; exact Nat.le_refl _), hYl]; simp [Lib.byteCells, hx]))
    rw [← Lib.size_eq] at hUS
    clear hY
    go_enter Tryz.func270, Tryz.ntmps270
    go_wp2
    go_ret
    have hb1 : Below w.heap.size w (w.alloc (.cells M 5)) := (Below.refl _ w).alloc (Nat.le_refl _) _
    have hb2 : Below w.heap.size (w.alloc (.cells M 5)) ((w.alloc (.cells M 5)).setRow w.heap.size Y) := ⟨rfl, rfl, rfl, by simp, fun k hk => setRow_other _ _ _ _ (by omega)⟩
    exact ⟨rfl, Lib.below_freeze (hb1.trans hb2) (p := ⟨w.heap.size, 0, none⟩) (Nat.le_refl _) _⟩
end Go.Vam
