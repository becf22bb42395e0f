/- Own text: R1T. -/
import Derived.Test.YtcnplegmmmobcaaAmLaw
import Derived.Test.YtcnplegmmmobcaaProg
import Derived.KernelRfl
open Go Go.Am Go.Proofs
set_option maxRecDepth 100000
def tl : List (TypeId × TD) := [
(3, ⟨1, .int .i64, [.d (.int .i64 0)]⟩),
  (4, ⟨1, .bool, [.d (.bool false)]⟩),
  (5, ⟨1, .int .u8, [.d (.int .u8 0)]⟩),
  (9, ⟨1, .string, [.d (.str ByteArray.empty)]⟩),
  (22, ⟨1, .slice 66, [.own 3 []]⟩),
  (24, ⟨2, .struct [(3, 0), (22, 1)], [.d (.int .i64 0), .own 3 []]⟩),
  (25, ⟨1, .slice 3, [.own 1 []]⟩),
  (28, ⟨1, .int .i64, [.d (.int .i64 0)]⟩),
  (31, ⟨1, .slice 25, [.own 1 []]⟩),
  (46, ⟨1, .slice 62, [.own 2 []]⟩),
  (55, ⟨6, .array 3 24, [.d (.int .i64 0), .own 3 [], .d (.int .i64 0), .own 3 [], .d (.int .i64 0), .own 3 []]⟩),
  (62, ⟨2, .array 2 3, [.d (.int .i64 0), .d (.int .i64 0)]⟩),
  (66, ⟨3, .struct [(3, 0), (3, 1), (3, 2)], [.d (.int .i64 0), .d (.int .i64 0), .d (.int .i64 0)]⟩),
  (67, ⟨1, .other, [.nilptr]⟩),
  (71, ⟨1, .other, [.nilfunc]⟩),
  (72, ⟨1, .int .u8, [.d (.int .u8 0)]⟩),
  (76, ⟨1, .other, [.nilfunc]⟩),
  (78, ⟨6, .array 6 72, [.d (.int .u8 0), .d (.int .u8 0), .d (.int .u8 0), .d (.int .u8 0), .d (.int .u8 0), .d (.int .u8 0)]⟩),
  (80, ⟨24, .array 4 78, List.replicate 24 (.d (.int .u8 0))⟩),
  (82, ⟨50, .struct [(24, 0), (80, 2), (80, 26)], [.d (.int .i64 0), .own 3 [], .d (.int .u8 0), .d (.int .u8 0), .d (.int .u8 0), .d (.int .u8 0), .d (.int .u8 0), .d (.int .u8 0), .d (.int .u8 0), .d (.int .u8 0), .d (.int .u8 0), .d (.int .u8 0), .d (.int .u8 0), .d (.int .u8 0), .d (.int .u8 0), .d (.int .u8 0), .d (.int .u8 0), .d (.int .u8 0), .d (.int .u8 0), .d (.int .u8 0), .d (.int .u8 0), .d (.int .u8 0), .d (.int .u8 0), .d (.int .u8 0), .d (.int .u8 0), .d (.int .u8 0), .d (.int .u8 0), .d (.int .u8 0), .d (.int .u8 0), .d (.int .u8 0), .d (.int .u8 0), .d (.int .u8 0), .d (.int .u8 0), .d (.int .u8 0), .d (.int .u8 0), .d (.int .u8 0), .d (.int .u8 0), .d (.int .u8 0), .d (.int .u8 0), .d (.int .u8 0), .d (.int .u8 0), .d (.int .u8 0), .d (.int .u8 0), .d (.int .u8 0), .d (.int .u8 0), .d (.int .u8 0), .d (.int .u8 0), .d (.int .u8 0), .d (.int .u8 0), .d (.int .u8 0)]⟩),
  (88, ⟨3, .struct [(72, 0), (72, 1), (25, 2)], [.d (.int .u8 0), .d (.int .u8 0), .own 1 []]⟩),
  (89, ⟨2, .array 2 72, [.d (.int .u8 0), .d (.int .u8 0)]⟩),
  (90, ⟨1, .map 89 4, [.nilmap]⟩),
  (91, ⟨1, .slice 88, [.own 3 []]⟩),
  (92, ⟨64, .array 64 4, List.replicate 64 (.d (.bool false))⟩),
  (93, ⟨4096, .array 64 92, List.replicate 4096 (.d (.bool false))⟩),
  (95, ⟨1, .slice 72, [.own 1 []]⟩),
  (102, ⟨1, .map 66 4, [.nilmap]⟩),
  (107, ⟨6, .array 6 72, [.d (.int .u8 0), .d (.int .u8 0), .d (.int .u8 0), .d (.int .u8 0), .d (.int .u8 0), .d (.int .u8 0)]⟩),
  (113, ⟨1, .slice 24, [.own 2 []]⟩),
  (118, ⟨1, .other, [.nilfunc]⟩),
  (122, ⟨1, .other, [.nilfunc]⟩),
  (125, ⟨1, .other, [.nilfunc]⟩),
  (127, ⟨1, .other, [.nilfunc]⟩),
  (130, ⟨1, .other, [.nilptr]⟩),
  (136, ⟨1, .int .u64, [.d (.int .u64 0)]⟩),
  (141, ⟨1, .int .i64, [.d (.int .i64 0)]⟩),
  (149, ⟨1, .int .u32, [.d (.int .u32 0)]⟩),
  (151, ⟨1, .int .u64, [.d (.int .u64 0)]⟩),
  (152, ⟨1, .int .u64, [.d (.int .u64 0)]⟩),
  (156, ⟨1, .other, [.nilptr]⟩),
  (158, ⟨1, .other, [.nilptr]⟩)
]
def T : Types := tlook tl
theorem hT : TOk Try.prog T := TOk.of_list (by kernel_rfl)
