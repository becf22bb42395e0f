/- Own text: H1T. -/
import Derived.Test.YtlpolnmadfmphaaAmLaw
import Derived.Test.YtlpolnmadfmphaaProg
import Derived.KernelRfl
open Go Go.Am Go.Proofs
set_option maxRecDepth 100000
def tl : List (TypeId × TD) := [
(3, ⟨1, .int .i64, [.d (.int .i64 0)]⟩),
  (4, ⟨1, .bool, [.d (.bool false)]⟩),
  (5, ⟨1, .int .u8, [.d (.int .u8 0)]⟩),
  (22, ⟨1, .slice 64, [.own 4 []]⟩),
  (23, ⟨1, .slice 50, [.own 6 []]⟩),
  (24, ⟨2, .array 2 3, [.d (.int .i64 0), .d (.int .i64 0)]⟩),
  (27, ⟨1, .other, [.nilfunc]⟩),
  (28, ⟨1, .int .i64, [.d (.int .i64 0)]⟩),
  (44, ⟨4, .array 4 5, [.d (.int .u8 0), .d (.int .u8 0), .d (.int .u8 0), .d (.int .u8 0)]⟩),
  (45, ⟨1, .slice 3, [.own 1 []]⟩),
  (50, ⟨6, .struct [(3, 0), (3, 1), (3, 2), (3, 3), (3, 4), (3, 5)], [.d (.int .i64 0), .d (.int .i64 0), .d (.int .i64 0), .d (.int .i64 0), .d (.int .i64 0), .d (.int .i64 0)]⟩),
  (53, ⟨2, .array 2 5, [.d (.int .u8 0), .d (.int .u8 0)]⟩),
  (58, ⟨3, .array 3 5, [.d (.int .u8 0), .d (.int .u8 0), .d (.int .u8 0)]⟩),
  (62, ⟨1, .slice 45, [.own 1 []]⟩),
  (64, ⟨4, .struct [(3, 0), (3, 1), (62, 2), (62, 3)], [.d (.int .i64 0), .d (.int .i64 0), .own 1 [], .own 1 []]⟩),
  (67, ⟨1, .other, [.nilfunc]⟩),
  (69, ⟨101, .array 101 4, List.replicate 101 (.d (.bool false))⟩),
  (70, ⟨1, .other, [.nilfunc]⟩),
  (72, ⟨1, .other, [.nilptr]⟩),
  (75, ⟨1, .int .u8, [.d (.int .u8 0)]⟩),
  (76, ⟨2, .array 2 3, [.d (.int .i64 0), .d (.int .i64 0)]⟩),
  (78, ⟨3, .struct [(75, 0), (76, 1)], [.d (.int .u8 0), .d (.int .i64 0), .d (.int .i64 0)]⟩),
  (79, ⟨1, .other, [.nilptr]⟩),
  (81, ⟨5, .struct [(22, 0), (23, 1), (4, 2), (3, 3), (45, 4)], [.own 4 [], .own 6 [], .d (.bool false), .d (.int .i64 0), .own 1 []]⟩),
  (87, ⟨1, .other, [.nilfunc]⟩),
  (91, ⟨1, .other, [.nilfunc]⟩),
  (95, ⟨1, .other, [.nilptr]⟩),
  (97, ⟨2, .array 2 4, [.d (.bool false), .d (.bool false)]⟩),
  (100, ⟨1, .other, [.nilfunc]⟩),
  (102, ⟨1, .other, [.nilfunc]⟩),
  (104, ⟨1, .map 78 3, [.nilmap]⟩),
  (106, ⟨4, .struct [(22, 0), (23, 1), (67, 2), (104, 3)], [.own 4 [], .own 6 [], .nilfunc, .nilmap]⟩),
  (109, ⟨1, .other, [.nilfunc]⟩),
  (112, ⟨1, .slice 4, [.own 1 []]⟩),
  (113, ⟨1, .map 3 4, [.nilmap]⟩),
  (117, ⟨1, .other, [.nilfunc]⟩),
  (118, ⟨1, .other, [.nilfunc]⟩),
  (121, ⟨1, .other, [.nilfunc]⟩)
]
def T : Types := tlook tl
theorem hT : TOk Try.prog T := TOk.of_list (by kernel_rfl)
