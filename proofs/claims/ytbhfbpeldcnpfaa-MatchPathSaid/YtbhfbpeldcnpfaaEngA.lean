/- The engine, its second part: operations that only reckon. -/
import Derived.Test.YtbhfbpeldcnpfaaEng
namespace Go.Proofs.Ytbhfbpeldcnpfaa
open Go.RowKit

/-! ### Types, as a table -/
inductive UK where
  | int (k : IntKind) | bool | string | ptr (e : Nat) | slice (e : Nat) | arr (n e : Nat) | struct (fs : List (Nat × Nat × Nat)) | map (k e : Nat) | func | iface | other
  deriving Repr, Inhabited
structure TI where
  uk : UK
  size : Nat
  bytes : Nat
  zero : Option Value
def aggB (P : Program) (t : TypeId) : Nat := match P.underlying t with | some (.struct _) => 1 | some (.array _ _) => 1 | some _ => 0 | none => 2
def ukOf (P : Program) : TypeDesc → UK
  | .int k => .int k
  | .bool => .bool
  | .string => .string
  | .pointer e => .ptr e
  | .slice e => .slice e
  | .array n e => .arr n e
  | .map k e => .map k e
  | .struct fs => .struct (fs.toList.map fun f => (f.offset, P.cellsOf f.type, aggB P f.type))
  | .func .. => .func
  | .interface _ => .iface
  | _ => .other
def tabOf (P : Program) (t : TypeId) : Option TI := match P.underlying t with
  | some d => match P.info? t with
    | some i => some ⟨ukOf P d, i.size, i.bytes, match d with | .tuple _ => none | _ => i.zero⟩
    | none => none
  | none => none
def tabL : List (Option TI) := [
  some ⟨.other, 1, 0, none⟩,
  some ⟨.func, 1, 8, some (.nilFunc)⟩,
  some ⟨.int .i64, 1, 8, some (.int .i64 0)⟩,
  some ⟨.int .i64, 1, 8, some (.int .i64 0)⟩,
  some ⟨.bool, 1, 1, some (.bool false)⟩,
  some ⟨.int .u8, 1, 1, some (.int .u8 0)⟩,
  some ⟨.int .u8, 1, 1, some (.int .u8 0)⟩,
  some ⟨.struct [(0, 1, 0), (1, 1, 0), (2, 1, 0), (3, 1, 0)], 4, 24, some (.agg #[.int .i64 0, .int .i64 0, .bool false, .int .u8 0])⟩,
  some ⟨.struct [(0, 1, 0), (1, 1, 0), (2, 1, 0), (3, 1, 0)], 4, 24, some (.agg #[.int .i64 0, .int .i64 0, .bool false, .int .u8 0])⟩,
  some ⟨.string, 1, 16, some (.string ⟨#[]⟩)⟩,
  some ⟨.string, 1, 16, some (.string ⟨#[]⟩)⟩,
  some ⟨.string, 1, 16, some (.string ⟨#[]⟩)⟩,
  some ⟨.int .u64, 1, 8, some (.int .u64 0)⟩,
  some ⟨.struct [(0, 1, 0), (1, 1, 0)], 2, 24, some (.agg #[.string ⟨#[]⟩, .int .u64 0])⟩,
  some ⟨.struct [(0, 1, 0), (1, 1, 0)], 2, 24, some (.agg #[.string ⟨#[]⟩, .int .u64 0])⟩,
  some ⟨.ptr 137, 1, 8, some (.pointer none)⟩,
  some ⟨.ptr 140, 1, 8, some (.pointer none)⟩,
  some ⟨.ptr 150, 1, 8, some (.pointer none)⟩,
  some ⟨.struct [(0, 1, 0)], 1, 8, some (.agg #[.pointer none])⟩,
  some ⟨.struct [(0, 1, 0)], 1, 8, some (.agg #[.pointer none])⟩,
  some ⟨.iface, 1, 16, some (.nilIface)⟩,
  some ⟨.int .i32, 1, 4, some (.int .i32 0)⟩,
  some ⟨.slice 91, 1, 24, some (.slice none 0 0)⟩,
  some ⟨.slice 3, 1, 24, some (.slice none 0 0)⟩,
  some ⟨.func, 1, 8, some (.nilFunc)⟩,
  some ⟨.slice 51, 1, 24, some (.slice none 0 0)⟩,
  some ⟨.struct [(0, 1, 0), (1, 1, 0), (2, 1, 0), (3, 1, 0)], 4, 48, some (.agg #[.int .i64 0, .int .i64 0, .int .i64 0, .slice none 0 0])⟩,
  some ⟨.struct [(0, 1, 0), (1, 1, 0), (2, 1, 0), (3, 1, 0)], 4, 48, some (.agg #[.int .i64 0, .int .i64 0, .int .i64 0, .slice none 0 0])⟩,
  some ⟨.func, 1, 8, some (.nilFunc)⟩,
  some ⟨.slice 2, 1, 24, some (.slice none 0 0)⟩,
  some ⟨.struct [(0, 1, 0), (1, 1, 0), (2, 1, 0), (3, 1, 0)], 4, 48, some (.agg #[.slice none 0 0, .int .i64 0, .int .i64 0, .int .i64 0])⟩,
  some ⟨.struct [(0, 1, 0), (1, 1, 0), (2, 1, 0), (3, 1, 0)], 4, 48, some (.agg #[.slice none 0 0, .int .i64 0, .int .i64 0, .int .i64 0])⟩,
  some ⟨.int .i64, 1, 8, some (.int .i64 0)⟩,
  some ⟨.other, 1, 0, none⟩,
  some ⟨.func, 1, 8, some (.nilFunc)⟩,
  some ⟨.other, 1, 0, none⟩,
  some ⟨.func, 1, 8, some (.nilFunc)⟩,
  some ⟨.other, 1, 0, none⟩,
  some ⟨.func, 1, 8, some (.nilFunc)⟩,
  some ⟨.func, 1, 8, some (.nilFunc)⟩,
  some ⟨.func, 1, 8, some (.nilFunc)⟩,
  some ⟨.func, 1, 8, some (.nilFunc)⟩,
  some ⟨.func, 1, 8, some (.nilFunc)⟩,
  some ⟨.func, 1, 8, some (.nilFunc)⟩,
  some ⟨.func, 1, 8, some (.nilFunc)⟩,
  some ⟨.func, 1, 8, some (.nilFunc)⟩,
  some ⟨.func, 1, 8, some (.nilFunc)⟩,
  some ⟨.func, 1, 8, some (.nilFunc)⟩,
  some ⟨.func, 1, 8, some (.nilFunc)⟩,
  some ⟨.func, 1, 8, some (.nilFunc)⟩,
  some ⟨.struct [(0, 1, 0), (1, 1, 0), (2, 1, 0)], 3, 24, some (.agg #[.int .i64 0, .int .i64 0, .int .i64 0])⟩,
  some ⟨.struct [(0, 1, 0), (1, 1, 0), (2, 1, 0)], 3, 24, some (.agg #[.int .i64 0, .int .i64 0, .int .i64 0])⟩,
  some ⟨.func, 1, 8, some (.nilFunc)⟩,
  some ⟨.slice 99, 1, 24, some (.slice none 0 0)⟩,
  some ⟨.func, 1, 8, some (.nilFunc)⟩,
  some ⟨.func, 1, 8, some (.nilFunc)⟩,
  some ⟨.slice 60, 1, 24, some (.slice none 0 0)⟩,
  some ⟨.other, 1, 0, none⟩,
  some ⟨.func, 1, 8, some (.nilFunc)⟩,
  some ⟨.struct [(0, 1, 0), (1, 1, 0), (2, 1, 0), (3, 1, 0)], 4, 32, some (.agg #[.int .i64 0, .int .i64 0, .int .i64 0, .int .i64 0])⟩,
  some ⟨.struct [(0, 1, 0), (1, 1, 0), (2, 1, 0), (3, 1, 0)], 4, 32, some (.agg #[.int .i64 0, .int .i64 0, .int .i64 0, .int .i64 0])⟩,
  some ⟨.func, 1, 8, some (.nilFunc)⟩,
  some ⟨.slice 66, 1, 24, some (.slice none 0 0)⟩,
  some ⟨.struct [(0, 1, 0), (1, 1, 0), (2, 1, 0)], 3, 40, some (.agg #[.int .i64 0, .int .i64 0, .slice none 0 0])⟩,
  some ⟨.struct [(0, 1, 0), (1, 1, 0), (2, 1, 0)], 3, 40, some (.agg #[.int .i64 0, .int .i64 0, .slice none 0 0])⟩,
  some ⟨.struct [(0, 1, 0), (1, 1, 0)], 2, 16, some (.agg #[.int .i64 0, .int .i64 0])⟩,
  some ⟨.struct [(0, 1, 0), (1, 1, 0)], 2, 16, some (.agg #[.int .i64 0, .int .i64 0])⟩,
  some ⟨.func, 1, 8, some (.nilFunc)⟩,
  some ⟨.func, 1, 8, some (.nilFunc)⟩,
  some ⟨.func, 1, 8, some (.nilFunc)⟩,
  some ⟨.func, 1, 8, some (.nilFunc)⟩,
  some ⟨.other, 1, 0, none⟩,
  some ⟨.func, 1, 8, some (.nilFunc)⟩,
  some ⟨.slice 4, 1, 24, some (.slice none 0 0)⟩,
  some ⟨.func, 1, 8, some (.nilFunc)⟩,
  some ⟨.struct [(0, 1, 0), (1, 1, 0)], 2, 48, some (.agg #[.slice none 0 0, .slice none 0 0])⟩,
  some ⟨.struct [(0, 1, 0), (1, 1, 0)], 2, 48, some (.agg #[.slice none 0 0, .slice none 0 0])⟩,
  some ⟨.other, 1, 0, none⟩,
  some ⟨.func, 1, 8, some (.nilFunc)⟩,
  some ⟨.func, 1, 8, some (.nilFunc)⟩,
  some ⟨.func, 1, 8, some (.nilFunc)⟩,
  some ⟨.func, 1, 8, some (.nilFunc)⟩,
  some ⟨.func, 1, 8, some (.nilFunc)⟩,
  some ⟨.func, 1, 8, some (.nilFunc)⟩,
  some ⟨.slice 110, 1, 24, some (.slice none 0 0)⟩,
  some ⟨.func, 1, 8, some (.nilFunc)⟩,
  some ⟨.other, 1, 0, none⟩,
  some ⟨.func, 1, 8, some (.nilFunc)⟩,
  some ⟨.func, 1, 8, some (.nilFunc)⟩,
  some ⟨.func, 1, 8, some (.nilFunc)⟩,
  some ⟨.struct [(0, 1, 0), (1, 1, 0), (2, 1, 0)], 3, 24, some (.agg #[.int .i64 0, .int .i64 0, .int .i64 0])⟩,
  some ⟨.struct [(0, 1, 0), (1, 1, 0), (2, 1, 0)], 3, 24, some (.agg #[.int .i64 0, .int .i64 0, .int .i64 0])⟩,
  some ⟨.func, 1, 8, some (.nilFunc)⟩,
  some ⟨.func, 1, 8, some (.nilFunc)⟩,
  some ⟨.func, 1, 8, some (.nilFunc)⟩,
  some ⟨.func, 1, 8, some (.nilFunc)⟩,
  some ⟨.func, 1, 8, some (.nilFunc)⟩,
  some ⟨.func, 1, 8, some (.nilFunc)⟩,
  some ⟨.map 3 4, 1, 8, some (.map none)⟩,
  some ⟨.struct [(0, 1, 0), (1, 1, 0), (2, 1, 0)], 3, 24, some (.agg #[.int .i64 0, .int .i64 0, .int .i64 0])⟩,
  some ⟨.func, 1, 8, some (.nilFunc)⟩,
  some ⟨.func, 1, 8, some (.nilFunc)⟩,
  some ⟨.func, 1, 8, some (.nilFunc)⟩,
  some ⟨.func, 1, 8, some (.nilFunc)⟩,
  some ⟨.func, 1, 8, some (.nilFunc)⟩,
  some ⟨.func, 1, 8, some (.nilFunc)⟩,
  some ⟨.slice 23, 1, 24, some (.slice none 0 0)⟩,
  some ⟨.func, 1, 8, some (.nilFunc)⟩,
  some ⟨.other, 1, 0, none⟩,
  some ⟨.func, 1, 8, some (.nilFunc)⟩,
  some ⟨.struct [(0, 1, 0), (1, 1, 0), (2, 1, 0)], 3, 24, some (.agg #[.int .i64 0, .int .i64 0, .int .i64 0])⟩,
  some ⟨.other, 1, 0, none⟩,
  some ⟨.func, 1, 8, some (.nilFunc)⟩,
  some ⟨.other, 1, 0, none⟩,
  some ⟨.func, 1, 8, some (.nilFunc)⟩,
  some ⟨.func, 1, 8, some (.nilFunc)⟩,
  some ⟨.other, 1, 0, none⟩,
  some ⟨.func, 1, 8, some (.nilFunc)⟩,
  some ⟨.iface, 1, 16, some (.nilIface)⟩,
  some ⟨.iface, 1, 16, some (.nilIface)⟩,
  some ⟨.func, 1, 8, some (.nilFunc)⟩,
  some ⟨.func, 1, 8, some (.nilFunc)⟩,
  some ⟨.other, 1, 0, none⟩,
  some ⟨.func, 1, 8, some (.nilFunc)⟩,
  some ⟨.func, 1, 8, some (.nilFunc)⟩,
  some ⟨.func, 1, 8, some (.nilFunc)⟩,
  some ⟨.int .u64, 1, 8, some (.int .u64 0)⟩,
  some ⟨.func, 1, 8, some (.nilFunc)⟩,
  some ⟨.func, 1, 8, some (.nilFunc)⟩,
  some ⟨.func, 1, 8, some (.nilFunc)⟩,
  some ⟨.struct [], 0, 0, some (.agg #[])⟩,
  some ⟨.struct [], 0, 0, some (.agg #[])⟩,
  some ⟨.struct [], 0, 0, some (.agg #[])⟩,
  some ⟨.func, 1, 8, some (.nilFunc)⟩,
  some ⟨.int .u64, 1, 8, some (.int .u64 0)⟩,
  some ⟨.func, 1, 8, some (.nilFunc)⟩,
  some ⟨.struct [(0, 1, 0), (1, 1, 0), (2, 1, 0), (3, 1, 0)], 4, 40, some (.agg #[.pointer none, .pointer none, .pointer none, .string ⟨#[]⟩])⟩,
  some ⟨.struct [(0, 1, 0), (1, 1, 0), (2, 1, 0), (3, 1, 0)], 4, 40, some (.agg #[.pointer none, .pointer none, .pointer none, .string ⟨#[]⟩])⟩,
  some ⟨.arr 0 16, 0, 0, some (.agg #[])⟩,
  some ⟨.struct [(0, 0, 1)], 0, 0, some (.agg #[])⟩,
  some ⟨.struct [(0, 0, 1)], 0, 0, some (.agg #[])⟩,
  some ⟨.func, 1, 8, some (.nilFunc)⟩,
  some ⟨.int .u32, 1, 4, some (.int .u32 0)⟩,
  some ⟨.int .u8, 1, 1, some (.int .u8 0)⟩,
  some ⟨.int .u8, 1, 1, some (.int .u8 0)⟩,
  some ⟨.func, 1, 8, some (.nilFunc)⟩,
  some ⟨.ptr 5, 1, 8, some (.pointer none)⟩,
  some ⟨.int .i32, 1, 4, some (.int .i32 0)⟩,
  some ⟨.int .i32, 1, 4, some (.int .i32 0)⟩,
  some ⟨.struct [(0, 1, 0), (1, 1, 0), (2, 1, 0), (3, 1, 0), (4, 1, 0), (5, 1, 0), (6, 1, 0), (7, 1, 0), (8, 1, 0), (9, 1, 0), (10, 1, 0)], 11, 48, some (.agg #[.int .u64 0, .int .u64 0, .int .u32 0, .int .u8 0, .int .u8 0, .int .u8 0, .int .u8 0, .nilFunc, .pointer none, .int .i32 0, .int .i32 0])⟩,
  some ⟨.struct [(0, 1, 0), (1, 1, 0), (2, 1, 0), (3, 1, 0), (4, 1, 0), (5, 1, 0), (6, 1, 0), (7, 1, 0), (8, 1, 0), (9, 1, 0), (10, 1, 0)], 11, 48, some (.agg #[.int .u64 0, .int .u64 0, .int .u32 0, .int .u8 0, .int .u8 0, .int .u8 0, .int .u8 0, .nilFunc, .pointer none, .int .i32 0, .int .i32 0])⟩,
  some ⟨.slice 157, 1, 24, some (.slice none 0 0)⟩,
  some ⟨.other, 1, 0, none⟩,
  some ⟨.func, 1, 8, some (.nilFunc)⟩,
  some ⟨.ptr 160, 1, 8, some (.pointer none)⟩,
  some ⟨.func, 1, 8, some (.nilFunc)⟩,
  some ⟨.struct [(0, 1, 0), (1, 1, 0)], 2, 32, some (.agg #[.slice none 0 0, .int .i64 0])⟩,
  some ⟨.struct [(0, 1, 0), (1, 1, 0)], 2, 32, some (.agg #[.slice none 0 0, .int .i64 0])⟩,
  some ⟨.func, 1, 8, some (.nilFunc)⟩,
  some ⟨.struct [(0, 4, 1), (4, 1, 0), (5, 1, 0), (6, 1, 0), (7, 1, 0)], 8, 128, some (.agg #[.int .i64 0, .int .i64 0, .int .i64 0, .slice none 0 0, .slice none 0 0, .int .i64 0, .slice none 0 0, .slice none 0 0])⟩,
  some ⟨.struct [(0, 4, 1), (4, 1, 0), (5, 1, 0), (6, 1, 0), (7, 1, 0)], 8, 128, some (.agg #[.int .i64 0, .int .i64 0, .int .i64 0, .slice none 0 0, .slice none 0 0, .int .i64 0, .slice none 0 0, .slice none 0 0])⟩,
  some ⟨.func, 1, 8, some (.nilFunc)⟩,
  some ⟨.func, 1, 8, some (.nilFunc)⟩,
  some ⟨.other, 1, 0, none⟩,
  some ⟨.func, 1, 8, some (.nilFunc)⟩,
  some ⟨.ptr 169, 1, 8, some (.pointer none)⟩,
  some ⟨.func, 1, 8, some (.nilFunc)⟩,
  some ⟨.ptr 179, 1, 8, some (.pointer none)⟩,
  some ⟨.struct [(0, 4, 1), (4, 1, 0), (5, 1, 0), (6, 1, 0), (7, 1, 0), (8, 1, 0), (9, 1, 0), (10, 1, 0)], 11, 152, some (.agg #[.int .i64 0, .int .i64 0, .int .i64 0, .slice none 0 0, .slice none 0 0, .int .i64 0, .slice none 0 0, .slice none 0 0, .pointer none, .int .i64 0, .int .i64 0])⟩,
  some ⟨.struct [(0, 4, 1), (4, 1, 0), (5, 1, 0), (6, 1, 0), (7, 1, 0), (8, 1, 0), (9, 1, 0), (10, 1, 0)], 11, 152, some (.agg #[.int .i64 0, .int .i64 0, .int .i64 0, .slice none 0 0, .slice none 0 0, .int .i64 0, .slice none 0 0, .slice none 0 0, .pointer none, .int .i64 0, .int .i64 0])⟩,
  some ⟨.func, 1, 8, some (.nilFunc)⟩,
  some ⟨.other, 1, 0, none⟩,
  some ⟨.func, 1, 8, some (.nilFunc)⟩,
  some ⟨.func, 1, 8, some (.nilFunc)⟩,
  some ⟨.func, 1, 8, some (.nilFunc)⟩,
  some ⟨.ptr 191, 1, 8, some (.pointer none)⟩,
  some ⟨.struct [(0, 1, 0), (1, 1, 0)], 2, 32, some (.agg #[.pointer none, .slice none 0 0])⟩,
  some ⟨.struct [(0, 1, 0), (1, 1, 0)], 2, 32, some (.agg #[.pointer none, .slice none 0 0])⟩,
  some ⟨.struct [(0, 2, 1), (2, 1, 0)], 3, 40, some (.agg #[.pointer none, .slice none 0 0, .int .i64 0])⟩,
  some ⟨.struct [(0, 2, 1), (2, 1, 0)], 3, 40, some (.agg #[.pointer none, .slice none 0 0, .int .i64 0])⟩,
  some ⟨.other, 1, 0, none⟩,
  some ⟨.func, 1, 8, some (.nilFunc)⟩,
  some ⟨.func, 1, 8, some (.nilFunc)⟩,
  some ⟨.other, 1, 0, none⟩,
  some ⟨.func, 1, 8, some (.nilFunc)⟩,
  some ⟨.func, 1, 8, some (.nilFunc)⟩,
  some ⟨.func, 1, 8, some (.nilFunc)⟩,
  some ⟨.func, 1, 8, some (.nilFunc)⟩,
  some ⟨.func, 1, 8, some (.nilFunc)⟩,
  some ⟨.slice 194, 1, 24, some (.slice none 0 0)⟩,
  some ⟨.struct [(0, 1, 0), (1, 1, 0)], 2, 32, some (.agg #[.slice none 0 0, .int .i64 0])⟩,
  some ⟨.struct [(0, 1, 0), (1, 1, 0)], 2, 32, some (.agg #[.slice none 0 0, .int .i64 0])⟩,
  some ⟨.arr 2 3, 2, 16, some (.agg #[.int .i64 0, .int .i64 0])⟩,
  some ⟨.struct [(0, 1, 0), (1, 2, 1), (3, 1, 0), (4, 1, 0), (5, 1, 0), (6, 1, 0), (7, 1, 0), (8, 1, 0)], 9, 72, some (.agg #[.int .i64 0, .int .i64 0, .int .i64 0, .int .i64 0, .int .i64 0, .int .i64 0, .int .i64 0, .int .i64 0, .bool false])⟩,
  some ⟨.struct [(0, 1, 0), (1, 2, 1), (3, 1, 0), (4, 1, 0), (5, 1, 0), (6, 1, 0), (7, 1, 0), (8, 1, 0)], 9, 72, some (.agg #[.int .i64 0, .int .i64 0, .int .i64 0, .int .i64 0, .int .i64 0, .int .i64 0, .int .i64 0, .int .i64 0, .bool false])⟩,
  some ⟨.other, 1, 0, none⟩,
  some ⟨.func, 1, 8, some (.nilFunc)⟩,
  some ⟨.other, 1, 0, none⟩,
  some ⟨.func, 1, 8, some (.nilFunc)⟩,
  some ⟨.ptr 177, 1, 8, some (.pointer none)⟩,
  some ⟨.func, 1, 8, some (.nilFunc)⟩,
  some ⟨.func, 1, 8, some (.nilFunc)⟩,
  some ⟨.func, 1, 8, some (.nilFunc)⟩,
  some ⟨.func, 1, 8, some (.nilFunc)⟩,
  some ⟨.func, 1, 8, some (.nilFunc)⟩,
  some ⟨.func, 1, 8, some (.nilFunc)⟩,
  some ⟨.ptr 194, 1, 8, some (.pointer none)⟩,
  some ⟨.other, 1, 8, some (.pointer none)⟩]
def tab (t : Nat) : Option TI := match tabL[t]? with
  | some i => i
  | none => none
theorem tab_all : (List.range 208).map (fun t => tabL[t]?) = (List.range 208).map (fun t => some (tabOf Try.prog t)) := by kernel_rfl
theorem tab_ok {t : Nat} {i : TI} (h : tab t = some i) : tabOf Try.prog t = some i := by
  unfold tab at h
  split at h
  · rename_i j hj
    have hl : t < 208 := (List.getElem?_eq_some_iff.1 hj).1
    have := List.map_eq_map_iff.1 tab_all t (List.mem_range.2 hl)
    rw [hj] at this
    rw [← Option.some.inj this, h]
  · cases h
theorem tab_und {t : Nat} {i : TI} (h : tab t = some i) : ∃ d j, Try.prog.underlying t = some d ∧ Try.prog.info? t = some j ∧ ukOf Try.prog d = i.uk ∧ j.size = i.size ∧ j.bytes = i.bytes ∧
    (∀ z, i.zero = some z → j.zero = some z) := by
  have := tab_ok h
  unfold tabOf at this
  split at this
  · rename_i d hd
    split at this
    · rename_i j hj
      simp only [Option.some.injEq] at this
      subst this
      refine ⟨d, j, hd, hj, rfl, rfl, rfl, fun z hz => ?_⟩
      simp only at hz
      split at hz
      · cases hz
      · exact hz
    · cases this
  · cases this
end Go.Proofs.Ytbhfbpeldcnpfaa
