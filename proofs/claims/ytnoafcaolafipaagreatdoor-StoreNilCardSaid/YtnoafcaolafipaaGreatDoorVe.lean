/- StoreNil's run by the kernel over the summaries. -/
import Derived.Test.YtnoafcaolafipaaGreatDoorVc
import Derived.KernelRfl
import Derived.Lib.Bytealg
import Derived.Test.YtnoafcaolafipaaGreatDoorProg
namespace Go.Vam
open Go Go.RowKit Go.Proofs

def sums (f : FuncId) (vs : List V) (h : Hp) : Option (V × Hp) :=
  match f with
  | 356 => match vs with
    | [.str s, .int .u8 c] => some (.int .i64 (Lib.indexByte s c.toNat.toUInt8), h)
    | _ => none
  | 165 => match vs with
    | [x, y] => match x.rdB, y.rdB with
      | some a, some b => some (.int .i64 (Lib.compareBytes a b), h)
      | _, _ => none
    | _ => none
  | 214 => match vs with
    | [.map m] => match hget h.os m with
      | some (.map es c) => some (.map h.n, ⟨(h.n, .map es c) :: h.os, h.n + 1⟩)
      | _ => none
    | _ => none
  | 197 => match vs with
    | [.ptr p 0] => match hget h.os p with
      | some (.cells _ cs) => match cs[1]? with
        | some (V.map m) => match hget h.os m with
          | some (.map es _) => match usedV h.os es with
            | some n => cond (Nat.ble n 4611686018427387904) (some (.int .i64 n, h)) none
            | none => none
          | _ => none
        | _ => none
      | _ => none
    | _ => none
  | 36 => match vs with
    | [.ptr p 0] => match hget h.os p with
      | some (.cells _ cs) => match cs[1]?, cs[4]? with
        | some (V.map m), some (V.bool false) => match hget h.os m with
          | some (.map es _) => match keysV es with
            | some l => cond (keysOk l && Nat.ble l.length 1000000) (some (listV l, h)) none
            | none => none
          | _ => none
        | _, _ => none
      | _ => none
    | _ => none
  | 270 => match vs with
    | [.str s] => cond (Nat.ble s.length 281474976710656) (some (.str s, h)) none
    | _ => none
  | _ => none

def tab64 : List Int := [0, 1, 56, 2, 57, 49, 28, 3, 61, 58, 42, 50, 38, 29, 17, 4, 62, 47, 59, 36, 45, 43, 51, 22, 53, 39, 33, 30, 24, 18, 12, 5, 63, 55, 48, 27, 60, 41, 37, 16, 46, 35, 44, 21, 52, 32, 23, 11, 54, 26, 40, 15, 34, 20, 31, 10, 25, 14, 19, 9, 13, 8, 7, 6]
def tab32 : List Int := [0, 1, 28, 2, 29, 14, 24, 3, 30, 22, 20, 15, 25, 17, 4, 8, 31, 27, 13, 23, 21, 19, 16, 7, 26, 12, 18, 6, 11, 5, 10, 9]
def synt : List UInt8 := [105, 110, 118, 97, 108, 105, 100, 32, 115, 121, 110, 116, 97, 120]

def glob (k : Nat) : Option (List V) :=
  match k with
  | 1 => some [.iface 416 (.rptr [.str synt])]
  | 3 => some (tab64.map (.int .u8))
  | 7 => some (tab32.map (.int .u8))
  | _ => none

noncomputable def pr : Pr := { ty := TyI.of Tryz.prog, fn := fun f => Tryz.prog.funcs[f]?, gl := glob, byteT := 5, sm := sums, mt := fun t => Nat.beq t 256 || Nat.beq t 258, me := methOf Tryz.prog }

set_option maxRecDepth 1000000
theorem nil_ok (s : List UInt8) : goodC pr 3 [.str s] = true := by kernel_rfl
end Go.Vam
