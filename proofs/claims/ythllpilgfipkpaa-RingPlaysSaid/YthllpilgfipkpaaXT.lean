import Derived.Test.YthllpilgfipkpaaXB
import Derived.Test.YthllpilgfipkpaaProg
namespace Go.Proofs.Ythllpilgfipkpaa.X
open Go
noncomputable section
def tiL : List (TypeId × TR) := [
  (2, ⟨.int .i64, 1, 8, [.int .i64 0], .int .i64⟩),
  (3, ⟨.int .i64, 1, 8, [.int .i64 0], .int .i64⟩),
  (4, ⟨.bool, 1, 1, [.bool false], .bool⟩),
  (5, ⟨.int .u8, 1, 1, [.int .u8 0], .int .u8⟩),
  (9, ⟨.string, 1, 16, [.string ByteArray.empty], .str⟩),
  (12, ⟨.int .u64, 1, 8, [.int .u64 0], .int .u64⟩),
  (21, ⟨.int .i32, 1, 4, [.int .i32 0], .int .i32⟩),
  (22, ⟨.slice 9, 1, 24, [.slice none 0 0], .sl (.str)⟩),
  (23, ⟨.pointer 77, 1, 8, [.pointer none], .unit⟩),
  (32, ⟨.slice 3, 1, 24, [.slice none 0 0], .sl (.int .i64)⟩),
  (33, ⟨.pointer 79, 1, 8, [.pointer none], .unit⟩),
  (38, ⟨.slice 32, 1, 24, [.slice none 0 0], .sl (.sl (.int .i64))⟩),
  (41, ⟨.pointer 82, 1, 8, [.pointer none], .unit⟩),
  (47, ⟨.slice 52, 1, 24, [.slice none 0 0], .sl (.pair (.int .i64) (.int .i64))⟩),
  (49, ⟨.struct #[⟨"Things", 32, 0, false, "", "", 0⟩, ⟨"Most", 3, 1, false, "", "", 24⟩, ⟨"Gone", 3, 2, false, "", "", 32⟩], 3, 40, [.slice none 0 0, .int .i64 0, .int .i64 0], .pair (.sl (.int .i64)) (.pair (.int .i64) (.int .i64))⟩),
  (52, ⟨.struct #[⟨"Kind", 3, 0, false, "", "", 0⟩, ⟨"V", 3, 1, false, "", "", 8⟩], 2, 16, [.int .i64 0, .int .i64 0], .pair (.int .i64) (.int .i64)⟩),
  (62, ⟨.slice 70, 1, 24, [.slice none 0 0], .sl (.pair (.int .i64) (.int .i64))⟩),
  (63, ⟨.int .i64, 1, 8, [.int .i64 0], .int .i64⟩),
  (70, ⟨.struct #[⟨"Kind", 3, 0, false, "", "", 0⟩, ⟨"N", 3, 1, false, "", "", 8⟩], 2, 16, [.int .i64 0, .int .i64 0], .pair (.int .i64) (.int .i64)⟩),
  (77, ⟨.struct #[⟨"things", 22, 0, false, "", "casement/ring", 0⟩, ⟨"from", 3, 1, false, "", "casement/ring", 24⟩, ⟨"count", 3, 2, false, "", "casement/ring", 32⟩, ⟨"gone", 3, 3, false, "", "casement/ring", 40⟩], 4, 48, [.slice none 0 0, .int .i64 0, .int .i64 0, .int .i64 0], .pair (.sl (.str)) (.pair (.int .i64) (.pair (.int .i64) (.int .i64)))⟩),
  (79, ⟨.struct #[⟨"things", 38, 0, false, "", "casement/ring", 0⟩, ⟨"from", 3, 1, false, "", "casement/ring", 24⟩, ⟨"count", 3, 2, false, "", "casement/ring", 32⟩, ⟨"gone", 3, 3, false, "", "casement/ring", 40⟩], 4, 48, [.slice none 0 0, .int .i64 0, .int .i64 0, .int .i64 0], .pair (.sl (.sl (.int .i64))) (.pair (.int .i64) (.pair (.int .i64) (.int .i64)))⟩),
  (82, ⟨.struct #[⟨"things", 32, 0, false, "", "casement/ring", 0⟩, ⟨"from", 3, 1, false, "", "casement/ring", 24⟩, ⟨"count", 3, 2, false, "", "casement/ring", 32⟩, ⟨"gone", 3, 3, false, "", "casement/ring", 40⟩], 4, 48, [.slice none 0 0, .int .i64 0, .int .i64 0, .int .i64 0], .pair (.sl (.int .i64)) (.pair (.int .i64) (.pair (.int .i64) (.int .i64)))⟩),
  (92, ⟨.array 0 16, 0, 0, [], .unit⟩),
  (95, ⟨.int .u32, 1, 4, [.int .u32 0], .int .u32⟩),
  (99, ⟨.pointer 5, 1, 8, [.pointer none], .unit⟩),
  (106, ⟨.unsafePointer, 1, 8, [.pointer none], .unit⟩)]
def tiGet : List (TypeId × TR) → TypeId → Option TR
  | [], _ => none
  | (u, r) :: l, t => if u == t then some r else tiGet l t
def ti : TI := tiGet tiL
end
end Go.Proofs.Ythllpilgfipkpaa.X
