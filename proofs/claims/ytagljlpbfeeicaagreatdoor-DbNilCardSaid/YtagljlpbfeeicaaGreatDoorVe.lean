/- DbNil's run by the kernel over the summaries. -/
import Derived.Test.YtagljlpbfeeicaaGreatDoorVc
import Derived.KernelRfl
import Derived.Test.YtagljlpbfeeicaaGreatDoorProg
namespace Go.Vam
open Go Go.RowKit Go.Proofs

def sums (f : FuncId) (vs : List V) (h : Hp) : Option (V × Hp) :=
  match f with
  | 243 => match vs with
    | [.str s, .int .u8 c] => some (.int .i64 (Lib.indexByte s c.toNat.toUInt8), h)
    | _ => none
  | 177 => match vs with
    | [x, y] => match x.rdB, y.rdB with
      | some a, some b => some (.int .i64 (Lib.compareBytes a b), h)
      | _, _ => none
    | _ => none
  | 82 => match vs with
    | [.map m] => match hget h.os m with
      | some (.map es c) => some (.map h.n, ⟨(h.n, .map es c) :: h.os, h.n + 1⟩)
      | _ => none
    | _ => none
  | 43 => match vs with
    | [.ptr p 0] => match hget h.os p with
      | some (.cells _ cs) => match cs[1]? with
        | some (V.map m) => match hget h.os m with
          | some (.map es _) => match usedV h.os es with
            | some n => cond (Nat.ble n 4611686018427387904) (some (.int .i64 n, h)) none
            | none => none
          | _ => none
        | _ => none
      | _ => none
    | _ => none
  | 38 => match vs with
    | [.ptr p 0] => match hget h.os p with
      | some (.cells _ cs) => match cs[1]?, cs[4]? with
        | some (V.map m), some (V.bool _) => match hget h.os m with
          | some (.map [] _) => some (.nils, h)
          | _ => none
        | _, _ => none
      | _ => none
    | _ => none
  | _ => none

def tab64 : List Int := [0, 1, 56, 2, 57, 49, 28, 3, 61, 58, 42, 50, 38, 29, 17, 4, 62, 47, 59, 36, 45, 43, 51, 22, 53, 39, 33, 30, 24, 18, 12, 5, 63, 55, 48, 27, 60, 41, 37, 16, 46, 35, 44, 21, 52, 32, 23, 11, 54, 26, 40, 15, 34, 20, 31, 10, 25, 14, 19, 9, 13, 8, 7, 6]
def tab32 : List Int := [0, 1, 28, 2, 29, 14, 24, 3, 30, 22, 20, 15, 25, 17, 4, 8, 31, 27, 13, 23, 21, 19, 16, 7, 26, 12, 18, 6, 11, 5, 10, 9]
def pow10s : List Int := [1, 10, 100, 1000, 10000, 100000, 1000000, 10000000, 100000000, 1000000000, 10000000000, 100000000000, 1000000000000, 10000000000000, 100000000000000, 1000000000000000, 10000000000000000, 100000000000000000, 1000000000000000000, 10000000000000000000]

def glob (k : Nat) : Option (List V) :=
  match k with
  | 3 => some (tab64.map (.int .u8))
  | 4 => some (pow10s.map (.int .u64))
  | 5 => some (tab32.map (.int .u8))
  | _ => none

noncomputable def pr : Pr := { ty := TyI.of Tryz.prog, fn := fun f => Tryz.prog.funcs[f]?, gl := glob, byteT := 5, sm := sums }

set_option maxRecDepth 1000000
theorem nil_ok (key : List UInt8) (s t : Int) : goodC pr 14 [.bytes key, .int .i64 s, .int .i64 t] = true := by kernel_rfl
theorem nil_ok0 (s t : Int) : goodC pr 14 [.nils, .int .i64 s, .int .i64 t] = true := by kernel_rfl
end Go.Vam
