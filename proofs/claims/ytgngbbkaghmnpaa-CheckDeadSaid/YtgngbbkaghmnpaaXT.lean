import Derived.Test.YtgngbbkaghmnpaaXB
import Derived.Test.YtgngbbkaghmnpaaProg
namespace Go.Proofs.Ytgngbbkaghmnpaa.X
open Go
noncomputable section
def tiL : List (TypeId × TR) := [
  (2, ⟨.int .i64, 1, 8, [.int .i64 0], .int .i64⟩),
  (3, ⟨.int .i64, 1, 8, [.int .i64 0], .int .i64⟩),
  (4, ⟨.bool, 1, 1, [.bool false], .bool⟩),
  (5, ⟨.int .u8, 1, 1, [.int .u8 0], .int .u8⟩),
  (9, ⟨.string, 1, 16, [.string ByteArray.empty], .str⟩),
  (12, ⟨.int .u64, 1, 8, [.int .u64 0], .int .u64⟩),
  (21, ⟨.int .i32, 1, 4, [.int .i32 0], .int .i32⟩),
  (22, ⟨.slice 5, 1, 24, [.slice none 0 0], .sl (.int .u8)⟩),
  (23, ⟨.slice 42, 1, 24, [.slice none 0 0], .sl (.pair (.int .i64) (.pair (.int .i64) (.pair (.int .i64) (.sl (.pair (.int .i64) (.int .i64))))))⟩),
  (25, ⟨.struct #[⟨"Mem", 3, 0, false, "", "", 0⟩, ⟨"Data", 22, 1, false, "", "", 8⟩, ⟨"Funcs", 23, 2, false, "", "", 32⟩], 3, 56, [.int .i64 0, .slice none 0 0, .slice none 0 0], .pair (.int .i64) (.pair (.sl (.int .u8)) (.sl (.pair (.int .i64) (.pair (.int .i64) (.pair (.int .i64) (.sl (.pair (.int .i64) (.int .i64))))))))⟩),
  (27, ⟨.int .i64, 1, 8, [.int .i64 0], .int .i64⟩),
  (29, ⟨.struct #[⟨"Func", 3, 0, false, "", "", 0⟩, ⟨"Ins", 3, 1, false, "", "", 8⟩, ⟨"Code", 27, 2, false, "", "", 16⟩], 3, 24, [.int .i64 0, .int .i64 0, .int .i64 0], .pair (.int .i64) (.pair (.int .i64) (.int .i64))⟩),
  (32, ⟨.struct #[⟨"Func", 3, 0, false, "", "", 0⟩, ⟨"Ins", 3, 1, false, "", "", 8⟩, ⟨"Code", 3, 2, false, "", "", 16⟩], 3, 24, [.int .i64 0, .int .i64 0, .int .i64 0], .pair (.int .i64) (.pair (.int .i64) (.int .i64))⟩),
  (34, ⟨.slice 3, 1, 24, [.slice none 0 0], .sl (.int .i64)⟩),
  (40, ⟨.slice 46, 1, 24, [.slice none 0 0], .sl (.pair (.int .i64) (.int .i64))⟩),
  (42, ⟨.struct #[⟨"Params", 3, 0, false, "", "", 0⟩, ⟨"Results", 3, 1, false, "", "", 8⟩, ⟨"Locals", 3, 2, false, "", "", 16⟩, ⟨"Code", 40, 3, false, "", "", 24⟩], 4, 48, [.int .i64 0, .int .i64 0, .int .i64 0, .slice none 0 0], .pair (.int .i64) (.pair (.int .i64) (.pair (.int .i64) (.sl (.pair (.int .i64) (.int .i64)))))⟩),
  (46, ⟨.struct #[⟨"Op", 3, 0, false, "", "", 0⟩, ⟨"N", 2, 1, false, "", "", 8⟩], 2, 16, [.int .i64 0, .int .i64 0], .pair (.int .i64) (.int .i64)⟩),
  (63, ⟨.int .u64, 1, 8, [.int .u64 0], .int .u64⟩),
  (67, ⟨.array 12 3, 12, 96, [.int .i64 0, .int .i64 0, .int .i64 0, .int .i64 0, .int .i64 0, .int .i64 0, .int .i64 0, .int .i64 0, .int .i64 0, .int .i64 0, .int .i64 0, .int .i64 0], .unit⟩),
  (69, ⟨.int .u64, 1, 8, [.int .u64 0], .int .u64⟩),
  (76, ⟨.array 0 16, 0, 0, [], .unit⟩),
  (80, ⟨.int .u32, 1, 4, [.int .u32 0], .int .u32⟩),
  (84, ⟨.pointer 5, 1, 8, [.pointer none], .unit⟩),
  (89, ⟨.unsafePointer, 1, 8, [.pointer none], .unit⟩)]
def tiGet : List (TypeId × TR) → TypeId → Option TR
  | [], _ => none
  | (u, r) :: l, t => if u == t then some r else tiGet l t
def ti : TI := tiGet tiL
end
end Go.Proofs.Ytgngbbkaghmnpaa.X
