/- Own text: D1T. -/
import Derived.Test.YtalfdjihejohoaaAmLoop
import Derived.Test.YtalfdjihejohoaaProg
import Derived.KernelRfl
open Go Go.Am Go.Proofs
set_option maxRecDepth 100000
def tl : List (TypeId × TD) := [
(3, ⟨1, .int .i64, [.d (.int .i64 0)]⟩),
  (4, ⟨1, .bool, [.d (.bool false)]⟩),
  (5, ⟨1, .int .u8, [.d (.int .u8 0)]⟩),
  (22, ⟨1, .slice 25, [.own 1 []]⟩),
  (25, ⟨1, .slice 76, [.own 2 []]⟩),
  (26, ⟨1, .int .i64, [.d (.int .i64 0)]⟩),
  (32, ⟨1, .slice 40, [.own 3 []]⟩),
  (40, ⟨3, .array 3 3, [.d (.int .i64 0), .d (.int .i64 0), .d (.int .i64 0)]⟩),
  (48, ⟨1, .slice 55, [.own 1 []]⟩),
  (49, ⟨1, .slice 118, [.own 2 []]⟩),
  (55, ⟨1, .slice 3, [.own 1 []]⟩),
  (56, ⟨1, .slice 114, [.own 1 []]⟩),
  (76, ⟨2, .struct [(3, 0), (4, 1)], [.d (.int .i64 0), .d (.bool false)]⟩),
  (77, ⟨1, .other, [.nilfunc]⟩),
  (78, ⟨1, .slice 25, [.own 1 []]⟩),
  (79, ⟨1, .slice 82, [.own 2 []]⟩),
  (82, ⟨2, .struct [(3, 0), (3, 1)], [.d (.int .i64 0), .d (.int .i64 0)]⟩),
  (89, ⟨1, .other, [.nilfunc]⟩),
  (90, ⟨1, .other, [.nilfunc]⟩),
  (92, ⟨1, .slice 98, [.own 3 []]⟩),
  (98, ⟨3, .array 3 3, [.d (.int .i64 0), .d (.int .i64 0), .d (.int .i64 0)]⟩),
  (99, ⟨1, .other, [.nilfunc]⟩),
  (100, ⟨1, .slice 32, [.own 1 []]⟩),
  (102, ⟨1, .other, [.nilfunc]⟩),
  (103, ⟨1, .slice 119, [.own 2 []]⟩),
  (114, ⟨1, .slice 116, [.own 3 []]⟩),
  (116, ⟨3, .struct [(3, 0), (3, 1), (3, 2)], [.d (.int .i64 0), .d (.int .i64 0), .d (.int .i64 0)]⟩),
  (118, ⟨2, .array 2 3, [.d (.int .i64 0), .d (.int .i64 0)]⟩),
  (119, ⟨2, .array 2 3, [.d (.int .i64 0), .d (.int .i64 0)]⟩),
  (125, ⟨1, .other, [.nilfunc]⟩),
  (128, ⟨1, .map 119 3, [.nilmap]⟩),
  (130, ⟨1, .other, [.nilfunc]⟩),
  (135, ⟨1, .map 98 4, [.nilmap]⟩),
  (142, ⟨1, .other, [.nilfunc]⟩),
  (153, ⟨1, .other, [.nilfunc]⟩),
  (156, ⟨1, .int .u64, [.d (.int .u64 0)]⟩)
]
def T : Types := tlook tl
theorem hT : TOk Try.prog T := TOk.of_list (by kernel_rfl)
