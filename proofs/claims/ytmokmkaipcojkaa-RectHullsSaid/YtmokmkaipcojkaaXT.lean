import Derived.Test.YtmokmkaipcojkaaXB
import Derived.Test.YtmokmkaipcojkaaProg
namespace Go.Proofs.Ytmokmkaipcojkaa.X
open Go
noncomputable section
def tiL : List (TypeId × TR) := [
  (2, ⟨.int .i64, 1, 8, [.int .i64 0], .int .i64⟩),
  (3, ⟨.int .i64, 1, 8, [.int .i64 0], .int .i64⟩),
  (4, ⟨.bool, 1, 1, [.bool false], .bool⟩),
  (5, ⟨.int .u8, 1, 1, [.int .u8 0], .int .u8⟩),
  (9, ⟨.string, 1, 16, [.string ByteArray.empty], .str⟩),
  (12, ⟨.int .u64, 1, 8, [.int .u64 0], .int .u64⟩),
  (21, ⟨.int .i32, 1, 4, [.int .i32 0], .int .i32⟩),
  (22, ⟨.slice 26, 1, 24, [.slice none 0 0], .sl (.pair (.int .i64) (.pair (.int .i64) (.pair (.int .i64) (.int .i64))))⟩),
  (26, ⟨.struct #[⟨"X", 3, 0, false, "", "", 0⟩, ⟨"Y", 3, 1, false, "", "", 8⟩, ⟨"W", 3, 2, false, "", "", 16⟩, ⟨"H", 3, 3, false, "", "", 24⟩], 4, 32, [.int .i64 0, .int .i64 0, .int .i64 0, .int .i64 0], .pair (.int .i64) (.pair (.int .i64) (.pair (.int .i64) (.int .i64)))⟩),
  (36, ⟨.slice 3, 1, 24, [.slice none 0 0], .sl (.int .i64)⟩),
  (52, ⟨.array 0 16, 0, 0, [], .unit⟩),
  (56, ⟨.int .u32, 1, 4, [.int .u32 0], .int .u32⟩),
  (60, ⟨.pointer 5, 1, 8, [.pointer none], .unit⟩),
  (65, ⟨.unsafePointer, 1, 8, [.pointer none], .unit⟩)]
def tiGet : List (TypeId × TR) → TypeId → Option TR
  | [], _ => none
  | (u, r) :: l, t => if u == t then some r else tiGet l t
def ti : TI := tiGet tiL
end
end Go.Proofs.Ytmokmkaipcojkaa.X
