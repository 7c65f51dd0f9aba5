import Derived.Test.YtbdkphjpdoajpaaXB
import Derived.Test.YtbdkphjpdoajpaaProg
namespace Go.Proofs.Ytbdkphjpdoajpaa.X
open Go
noncomputable section
def tiL : List (TypeId × TR) := [
  (2, ⟨.int .i64, 1, 8, [.int .i64 0], .int .i64⟩),
  (3, ⟨.int .i64, 1, 8, [.int .i64 0], .int .i64⟩),
  (4, ⟨.bool, 1, 1, [.bool false], .bool⟩),
  (5, ⟨.int .u8, 1, 1, [.int .u8 0], .int .u8⟩),
  (9, ⟨.string, 1, 16, [.string ByteArray.empty], .str⟩),
  (12, ⟨.int .u64, 1, 8, [.int .u64 0], .int .u64⟩),
  (21, ⟨.int .i32, 1, 4, [.int .i32 0], .int .i32⟩),
  (22, ⟨.slice 5, 1, 24, [.slice none 0 0], .sl (.int .u8)⟩),
  (24, ⟨.slice 44, 1, 24, [.slice none 0 0], .sl (.pair (.int .i64) (.pair (.int .i64) (.pair (.int .i64) (.sl (.pair (.int .i64) (.int .i64))))))⟩),
  (26, ⟨.struct #[⟨"Mem", 3, 0, false, "", "", 0⟩, ⟨"Data", 22, 1, false, "", "", 8⟩, ⟨"Funcs", 24, 2, false, "", "", 32⟩], 3, 56, [.int .i64 0, .slice none 0 0, .slice none 0 0], .pair (.int .i64) (.pair (.sl (.int .u8)) (.sl (.pair (.int .i64) (.pair (.int .i64) (.pair (.int .i64) (.sl (.pair (.int .i64) (.int .i64))))))))⟩),
  (27, ⟨.int .i64, 1, 8, [.int .i64 0], .int .i64⟩),
  (29, ⟨.struct #[⟨"Code", 27, 0, false, "", "", 0⟩, ⟨"At", 3, 1, false, "", "", 8⟩], 2, 16, [.int .i64 0, .int .i64 0], .pair (.int .i64) (.int .i64)⟩),
  (41, ⟨.struct #[⟨"Op", 3, 0, false, "", "", 0⟩, ⟨"N", 2, 1, false, "", "", 8⟩], 2, 16, [.int .i64 0, .int .i64 0], .pair (.int .i64) (.int .i64)⟩),
  (42, ⟨.slice 41, 1, 24, [.slice none 0 0], .sl (.pair (.int .i64) (.int .i64))⟩),
  (44, ⟨.struct #[⟨"Params", 3, 0, false, "", "", 0⟩, ⟨"Results", 3, 1, false, "", "", 8⟩, ⟨"Locals", 3, 2, false, "", "", 16⟩, ⟨"Code", 42, 3, false, "", "", 24⟩], 4, 48, [.int .i64 0, .int .i64 0, .int .i64 0, .slice none 0 0], .pair (.int .i64) (.pair (.int .i64) (.pair (.int .i64) (.sl (.pair (.int .i64) (.int .i64)))))⟩),
  (46, ⟨.int .u64, 1, 8, [.int .u64 0], .int .u64⟩),
  (47, ⟨.int .u64, 1, 8, [.int .u64 0], .int .u64⟩),
  (50, ⟨.pointer 52, 1, 8, [.pointer none], .unit⟩),
  (52, ⟨.struct #[⟨"b", 22, 0, false, "", "casement/module", 0⟩, ⟨"at", 3, 1, false, "", "casement/module", 24⟩, ⟨"bad", 4, 2, false, "", "casement/module", 32⟩], 3, 40, [.slice none 0 0, .int .i64 0, .bool false], .pair (.sl (.int .u8)) (.pair (.int .i64) (.bool))⟩),
  (53, ⟨.slice 3, 1, 24, [.slice none 0 0], .sl (.int .i64)⟩),
  (57, ⟨.struct #[⟨"B", 22, 0, false, "", "", 0⟩, ⟨"At", 3, 1, false, "", "", 24⟩, ⟨"Ok", 4, 2, false, "", "", 32⟩], 3, 40, [.slice none 0 0, .int .i64 0, .bool false], .pair (.sl (.int .u8)) (.pair (.int .i64) (.bool))⟩),
  (75, ⟨.array 0 16, 0, 0, [], .unit⟩),
  (79, ⟨.int .u32, 1, 4, [.int .u32 0], .int .u32⟩),
  (83, ⟨.pointer 5, 1, 8, [.pointer none], .unit⟩),
  (88, ⟨.unsafePointer, 1, 8, [.pointer none], .unit⟩)]
def tiGet : List (TypeId × TR) → TypeId → Option TR
  | [], _ => none
  | (u, r) :: l, t => if u == t then some r else tiGet l t
def ti : TI := tiGet tiL
end
end Go.Proofs.Ytbdkphjpdoajpaa.X
