import Derived.Test.YtjbdeccohpbegaaXB
import Derived.Test.YtjbdeccohpbegaaProg
namespace Go.Proofs.Ytjbdeccohpbegaa.X
open Go
noncomputable section
def tiL : List (TypeId × TR) := [
  (2, ⟨.int .i64, 1, 8, [.int .i64 0], .int .i64⟩),
  (3, ⟨.int .i64, 1, 8, [.int .i64 0], .int .i64⟩),
  (4, ⟨.bool, 1, 1, [.bool false], .bool⟩),
  (5, ⟨.int .u8, 1, 1, [.int .u8 0], .int .u8⟩),
  (9, ⟨.string, 1, 16, [.string ByteArray.empty], .str⟩),
  (12, ⟨.int .u64, 1, 8, [.int .u64 0], .int .u64⟩),
  (21, ⟨.int .i32, 1, 4, [.int .i32 0], .int .i32⟩),
  (22, ⟨.slice 5, 1, 24, [.slice none 0 0], .sl (.int .u8)⟩),
  (23, ⟨.slice 63, 1, 24, [.slice none 0 0], .sl (.pair (.int .i64) (.pair (.int .i64) (.pair (.int .i64) (.sl (.pair (.int .i64) (.int .i64))))))⟩),
  (25, ⟨.struct #[⟨"Mem", 3, 0, false, "", "", 0⟩, ⟨"Data", 22, 1, false, "", "", 8⟩, ⟨"Funcs", 23, 2, false, "", "", 32⟩], 3, 56, [.int .i64 0, .slice none 0 0, .slice none 0 0], .pair (.int .i64) (.pair (.sl (.int .u8)) (.sl (.pair (.int .i64) (.pair (.int .i64) (.pair (.int .i64) (.sl (.pair (.int .i64) (.int .i64))))))))⟩),
  (26, ⟨.slice 3, 1, 24, [.slice none 0 0], .sl (.int .i64)⟩),
  (27, ⟨.slice 2, 1, 24, [.slice none 0 0], .sl (.int .i64)⟩),
  (29, ⟨.pointer 60, 1, 8, [.pointer none], .unit⟩),
  (30, ⟨.int .i64, 1, 8, [.int .i64 0], .int .i64⟩),
  (35, ⟨.struct #[⟨"Kind", 3, 0, false, "", "", 0⟩, ⟨"Trap", 3, 1, false, "", "", 8⟩, ⟨"Used", 3, 2, false, "", "", 16⟩, ⟨"Call", 2, 3, false, "", "", 24⟩, ⟨"Args", 27, 4, false, "", "", 32⟩], 5, 56, [.int .i64 0, .int .i64 0, .int .i64 0, .int .i64 0, .slice none 0 0], .pair (.int .i64) (.pair (.int .i64) (.pair (.int .i64) (.pair (.int .i64) (.sl (.int .i64)))))⟩),
  (48, ⟨.struct #[⟨"Op", 3, 0, false, "", "", 0⟩, ⟨"N", 2, 1, false, "", "", 8⟩], 2, 16, [.int .i64 0, .int .i64 0], .pair (.int .i64) (.int .i64)⟩),
  (50, ⟨.int .u64, 1, 8, [.int .u64 0], .int .u64⟩),
  (51, ⟨.int .u64, 1, 8, [.int .u64 0], .int .u64⟩),
  (56, ⟨.struct #[⟨"Func", 3, 0, false, "", "", 0⟩, ⟨"Ins", 3, 1, false, "", "", 8⟩, ⟨"Code", 30, 2, false, "", "", 16⟩], 3, 24, [.int .i64 0, .int .i64 0, .int .i64 0], .pair (.int .i64) (.pair (.int .i64) (.int .i64))⟩),
  (58, ⟨.slice 77, 1, 24, [.slice none 0 0], .sl (.pair (.int .i64) (.pair (.int .i64) (.pair (.sl (.int .i64)) (.sl (.int .i64)))))⟩),
  (60, ⟨.struct #[⟨"m", 25, 0, false, "", "casement/vm", 0⟩, ⟨"memory", 22, 3, false, "", "casement/vm", 56⟩, ⟨"frames", 58, 4, false, "", "casement/vm", 80⟩, ⟨"asks", 4, 5, false, "", "casement/vm", 104⟩, ⟨"call", 2, 6, false, "", "casement/vm", 112⟩, ⟨"args", 27, 7, false, "", "casement/vm", 120⟩, ⟨"trap", 3, 8, false, "", "casement/vm", 144⟩], 9, 152, [.int .i64 0, .slice none 0 0, .slice none 0 0, .slice none 0 0, .slice none 0 0, .bool false, .int .i64 0, .slice none 0 0, .int .i64 0], .pair (.pair (.int .i64) (.pair (.sl (.int .u8)) (.sl (.pair (.int .i64) (.pair (.int .i64) (.pair (.int .i64) (.sl (.pair (.int .i64) (.int .i64))))))))) (.pair (.sl (.int .u8)) (.pair (.sl (.pair (.int .i64) (.pair (.int .i64) (.pair (.sl (.int .i64)) (.sl (.int .i64)))))) (.pair (.bool) (.pair (.int .i64) (.pair (.sl (.int .i64)) (.int .i64))))))⟩),
  (61, ⟨.slice 48, 1, 24, [.slice none 0 0], .sl (.pair (.int .i64) (.int .i64))⟩),
  (63, ⟨.struct #[⟨"Params", 3, 0, false, "", "", 0⟩, ⟨"Results", 3, 1, false, "", "", 8⟩, ⟨"Locals", 3, 2, false, "", "", 16⟩, ⟨"Code", 61, 3, false, "", "", 24⟩], 4, 48, [.int .i64 0, .int .i64 0, .int .i64 0, .slice none 0 0], .pair (.int .i64) (.pair (.int .i64) (.pair (.int .i64) (.sl (.pair (.int .i64) (.int .i64)))))⟩),
  (67, ⟨.pointer 77, 1, 8, [.pointer none], .unit⟩),
  (77, ⟨.struct #[⟨"f", 3, 0, false, "", "casement/vm", 0⟩, ⟨"at", 3, 1, false, "", "casement/vm", 8⟩, ⟨"locals", 27, 2, false, "", "casement/vm", 16⟩, ⟨"stack", 27, 3, false, "", "casement/vm", 40⟩], 4, 64, [.int .i64 0, .int .i64 0, .slice none 0 0, .slice none 0 0], .pair (.int .i64) (.pair (.int .i64) (.pair (.sl (.int .i64)) (.sl (.int .i64))))⟩),
  (91, ⟨.array 12 3, 12, 96, [.int .i64 0, .int .i64 0, .int .i64 0, .int .i64 0, .int .i64 0, .int .i64 0, .int .i64 0, .int .i64 0, .int .i64 0, .int .i64 0, .int .i64 0, .int .i64 0], .unit⟩),
  (96, ⟨.array 0 16, 0, 0, [], .unit⟩),
  (100, ⟨.int .u32, 1, 4, [.int .u32 0], .int .u32⟩),
  (104, ⟨.pointer 5, 1, 8, [.pointer none], .unit⟩),
  (109, ⟨.unsafePointer, 1, 8, [.pointer none], .unit⟩)]
def tiGet : List (TypeId × TR) → TypeId → Option TR
  | [], _ => none
  | (u, r) :: l, t => if u == t then some r else tiGet l t
def ti : TI := tiGet tiL
end
end Go.Proofs.Ytjbdeccohpbegaa.X
