import Derived.Test.YtopnjcclbepdoaaXB
import Derived.Test.YtopnjcclbepdoaaProg
namespace Go.Proofs.Ytopnjcclbepdoaa.X
open Go
noncomputable section
def tiL : List (TypeId × TR) := [
  (2, ⟨.int .i64, 1, 8, [.int .i64 0], .int .i64⟩),
  (3, ⟨.int .i64, 1, 8, [.int .i64 0], .int .i64⟩),
  (4, ⟨.bool, 1, 1, [.bool false], .bool⟩),
  (5, ⟨.int .u8, 1, 1, [.int .u8 0], .int .u8⟩),
  (9, ⟨.string, 1, 16, [.string ByteArray.empty], .str⟩),
  (12, ⟨.int .u64, 1, 8, [.int .u64 0], .int .u64⟩),
  (21, ⟨.int .i32, 1, 4, [.int .i32 0], .int .i32⟩),
  (23, ⟨.struct #[⟨"Kind", 3, 0, false, "", "", 0⟩, ⟨"N", 3, 1, false, "", "", 8⟩], 2, 16, [.int .i64 0, .int .i64 0], .pair (.int .i64) (.int .i64)⟩),
  (24, ⟨.slice 27, 1, 24, [.slice none 0 0], .unit⟩),
  (25, ⟨.slice 83, 1, 24, [.slice none 0 0], .sl (.pair (.int .i64) (.pair (.int .i64) (.pair (.int .i64) (.int .i64))))⟩),
  (27, ⟨.struct #[⟨"Kind", 3, 0, false, "", "", 0⟩, ⟨"Size", 23, 1, false, "", "", 8⟩, ⟨"Name", 9, 3, false, "", "", 24⟩, ⟨"Kids", 24, 4, false, "", "", 40⟩, ⟨"Float", 25, 5, false, "", "", 64⟩], 6, 88, [.int .i64 0, .int .i64 0, .int .i64 0, .string ByteArray.empty, .slice none 0 0, .slice none 0 0], .unit⟩),
  (31, ⟨.int .i64, 1, 8, [.int .i64 0], .int .i64⟩),
  (35, ⟨.slice 9, 1, 24, [.slice none 0 0], .sl (.str)⟩),
  (40, ⟨.slice 43, 1, 24, [.slice none 0 0], .unit⟩),
  (43, ⟨.struct #[⟨"Min", 3, 0, false, "", "", 0⟩, ⟨"Max", 3, 1, false, "", "", 8⟩, ⟨"Plan", 27, 2, false, "", "", 16⟩], 8, 104, [.int .i64 0, .int .i64 0, .int .i64 0, .int .i64 0, .int .i64 0, .string ByteArray.empty, .slice none 0 0, .slice none 0 0], .unit⟩),
  (46, ⟨.slice 2, 1, 24, [.slice none 0 0], .sl (.int .i64)⟩),
  (47, ⟨.slice 5, 1, 24, [.slice none 0 0], .sl (.int .u8)⟩),
  (49, ⟨.struct #[⟨"Fg", 3, 0, false, "", "", 0⟩, ⟨"Bg", 3, 1, false, "", "", 8⟩, ⟨"Attr", 3, 2, false, "", "", 16⟩], 3, 24, [.int .i64 0, .int .i64 0, .int .i64 0], .pair (.int .i64) (.pair (.int .i64) (.int .i64))⟩),
  (51, ⟨.struct #[⟨"N", 3, 0, false, "", "", 0⟩, ⟨"Pane", 3, 1, false, "", "", 8⟩, ⟨"X", 3, 2, false, "", "", 16⟩, ⟨"Y", 3, 3, false, "", "", 24⟩, ⟨"Kind", 3, 4, false, "", "", 32⟩, ⟨"Rune", 21, 5, false, "", "", 40⟩, ⟨"Style", 49, 6, false, "", "", 48⟩, ⟨"Bytes", 47, 9, false, "", "", 72⟩], 10, 96, [.int .i64 0, .int .i64 0, .int .i64 0, .int .i64 0, .int .i64 0, .int .i32 0, .int .i64 0, .int .i64 0, .int .i64 0, .slice none 0 0], .pair (.int .i64) (.pair (.int .i64) (.pair (.int .i64) (.pair (.int .i64) (.pair (.int .i64) (.pair (.int .i32) (.pair (.pair (.int .i64) (.pair (.int .i64) (.int .i64))) (.sl (.int .u8))))))))⟩),
  (64, ⟨.pointer 3, 1, 8, [.pointer none], .unit⟩),
  (67, ⟨.pointer 27, 1, 8, [.pointer none], .unit⟩),
  (78, ⟨.array 10 3, 10, 80, [.int .i64 0, .int .i64 0, .int .i64 0, .int .i64 0, .int .i64 0, .int .i64 0, .int .i64 0, .int .i64 0, .int .i64 0, .int .i64 0], .unit⟩),
  (83, ⟨.struct #[⟨"X", 3, 0, false, "", "", 0⟩, ⟨"Y", 3, 1, false, "", "", 8⟩, ⟨"W", 3, 2, false, "", "", 16⟩, ⟨"H", 3, 3, false, "", "", 24⟩], 4, 32, [.int .i64 0, .int .i64 0, .int .i64 0, .int .i64 0], .pair (.int .i64) (.pair (.int .i64) (.pair (.int .i64) (.int .i64)))⟩),
  (85, ⟨.slice 99, 1, 24, [.slice none 0 0], .sl (.pair (.int .i64) (.pair (.int .i64) (.pair (.int .i64) (.sl (.pair (.int .i64) (.int .i64))))))⟩),
  (87, ⟨.struct #[⟨"Mem", 3, 0, false, "", "", 0⟩, ⟨"Data", 47, 1, false, "", "", 8⟩, ⟨"Funcs", 85, 2, false, "", "", 32⟩], 3, 56, [.int .i64 0, .slice none 0 0, .slice none 0 0], .pair (.int .i64) (.pair (.sl (.int .u8)) (.sl (.pair (.int .i64) (.pair (.int .i64) (.pair (.int .i64) (.sl (.pair (.int .i64) (.int .i64))))))))⟩),
  (91, ⟨.struct #[⟨"Op", 3, 0, false, "", "", 0⟩, ⟨"N", 2, 1, false, "", "", 8⟩], 2, 16, [.int .i64 0, .int .i64 0], .pair (.int .i64) (.int .i64)⟩),
  (92, ⟨.pointer 51, 1, 8, [.pointer none], .unit⟩),
  (97, ⟨.slice 91, 1, 24, [.slice none 0 0], .sl (.pair (.int .i64) (.int .i64))⟩),
  (99, ⟨.struct #[⟨"Params", 3, 0, false, "", "", 0⟩, ⟨"Results", 3, 1, false, "", "", 8⟩, ⟨"Locals", 3, 2, false, "", "", 16⟩, ⟨"Code", 97, 3, false, "", "", 24⟩], 4, 48, [.int .i64 0, .int .i64 0, .int .i64 0, .slice none 0 0], .pair (.int .i64) (.pair (.int .i64) (.pair (.int .i64) (.sl (.pair (.int .i64) (.int .i64)))))⟩),
  (100, ⟨.array 12 3, 12, 96, [.int .i64 0, .int .i64 0, .int .i64 0, .int .i64 0, .int .i64 0, .int .i64 0, .int .i64 0, .int .i64 0, .int .i64 0, .int .i64 0, .int .i64 0, .int .i64 0], .unit⟩),
  (103, ⟨.struct #[⟨"from", 21, 0, false, "", "casement/glyph", 0⟩, ⟨"to", 21, 1, false, "", "casement/glyph", 4⟩], 2, 8, [.int .i32 0, .int .i32 0], .pair (.int .i32) (.int .i32)⟩),
  (104, ⟨.slice 103, 1, 24, [.slice none 0 0], .sl (.pair (.int .i32) (.int .i32))⟩),
  (111, ⟨.array 0 16, 0, 0, [], .unit⟩),
  (115, ⟨.int .u32, 1, 4, [.int .u32 0], .int .u32⟩),
  (119, ⟨.pointer 5, 1, 8, [.pointer none], .unit⟩),
  (124, ⟨.unsafePointer, 1, 8, [.pointer none], .unit⟩)]
def tiGet : List (TypeId × TR) → TypeId → Option TR
  | [], _ => none
  | (u, r) :: l, t => if u == t then some r else tiGet l t
def ti : TI := tiGet tiL
end
end Go.Proofs.Ytopnjcclbepdoaa.X
