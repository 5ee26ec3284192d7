/- What the texts ask of the program's types, to rewrite with (printed). -/
import Derived.Test.YtneihjdkaogkiaaDoorOps
import Derived.Test.YtneihjdkaogkiaaDoorProg
namespace Go.Proofs.YtneihjdkaogkiaaDoor
open Go Go.Eng Go.Proofs

theorem sz2 : sizeT Tryd.prog 2 = some 1 := by kernel_rfl
theorem kt2 : kindT Tryd.prog 2 = some false := by kernel_rfl
theorem oz2 : ofZero Tryd.prog 2 = some [.v (Value.int IntKind.i64 0)] := by kernel_rfl
theorem sz3 : sizeT Tryd.prog 3 = some 1 := by kernel_rfl
theorem kt3 : kindT Tryd.prog 3 = some false := by kernel_rfl
theorem oz3 : ofZero Tryd.prog 3 = some [.v (Value.int IntKind.i64 0)] := by kernel_rfl
theorem sz4 : sizeT Tryd.prog 4 = some 1 := by kernel_rfl
theorem kt4 : kindT Tryd.prog 4 = some false := by kernel_rfl
theorem un4 : Tryd.prog.underlying 4 = some .bool := by kernel_rfl
theorem oz4 : ofZero Tryd.prog 4 = some [.v (Value.bool false)] := by kernel_rfl
theorem sz5 : sizeT Tryd.prog 5 = some 1 := by kernel_rfl
theorem kt5 : kindT Tryd.prog 5 = some false := by kernel_rfl
theorem oz5 : ofZero Tryd.prog 5 = some [.v (Value.int IntKind.u8 0)] := by kernel_rfl
theorem sz9 : sizeT Tryd.prog 9 = some 1 := by kernel_rfl
theorem kt9 : kindT Tryd.prog 9 = some false := by kernel_rfl
theorem isr9 : isStr Tryd.prog 9 = true := by kernel_rfl
theorem oz9 : ofZero Tryd.prog 9 = some [.v (Value.string { data := #[] })] := by kernel_rfl
theorem sz22 : sizeT Tryd.prog 22 = some 1 := by kernel_rfl
theorem kt22 : kindT Tryd.prog 22 = some false := by kernel_rfl
theorem isl22 : isSl Tryd.prog 22 = true := by kernel_rfl
theorem el22 : elT Tryd.prog 22 = some 11 := by kernel_rfl
theorem ix22 : ixT Tryd.prog 22 = some (none, 11) := by kernel_rfl
theorem ap22 : apT Tryd.prog 22 = some (43, 11, 136) := by kernel_rfl
theorem oz22 : ofZero Tryd.prog 22 = some [.v (Value.slice none 0 0)] := by kernel_rfl
theorem sz25 : sizeT Tryd.prog 25 = some 1 := by kernel_rfl
theorem kt25 : kindT Tryd.prog 25 = some false := by kernel_rfl
theorem isl25 : isSl Tryd.prog 25 = true := by kernel_rfl
theorem el25 : elT Tryd.prog 25 = some 1 := by kernel_rfl
theorem ix25 : ixT Tryd.prog 25 = some (none, 1) := by kernel_rfl
theorem ap25 : apT Tryd.prog 25 = some (3, 1, 8) := by kernel_rfl
theorem oz25 : ofZero Tryd.prog 25 = some [.v (Value.slice none 0 0)] := by kernel_rfl
theorem sz26 : sizeT Tryd.prog 26 = some 1 := by kernel_rfl
theorem kt26 : kindT Tryd.prog 26 = some false := by kernel_rfl
theorem isl26 : isSl Tryd.prog 26 = true := by kernel_rfl
theorem el26 : elT Tryd.prog 26 = some 1 := by kernel_rfl
theorem ix26 : ixT Tryd.prog 26 = some (none, 1) := by kernel_rfl
theorem ap26 : apT Tryd.prog 26 = some (25, 1, 24) := by kernel_rfl
theorem oz26 : ofZero Tryd.prog 26 = some [.v (Value.slice none 0 0)] := by kernel_rfl
theorem sz27 : sizeT Tryd.prog 27 = some 1 := by kernel_rfl
theorem kt27 : kindT Tryd.prog 27 = some false := by kernel_rfl
theorem isl27 : isSl Tryd.prog 27 = true := by kernel_rfl
theorem el27 : elT Tryd.prog 27 = some 5 := by kernel_rfl
theorem ix27 : ixT Tryd.prog 27 = some (none, 5) := by kernel_rfl
theorem ap27 : apT Tryd.prog 27 = some (47, 5, 40) := by kernel_rfl
theorem oz27 : ofZero Tryd.prog 27 = some [.v (Value.slice none 0 0)] := by kernel_rfl
theorem sz29 : sizeT Tryd.prog 29 = some 4 := by kernel_rfl
theorem kt29 : kindT Tryd.prog 29 = some true := by kernel_rfl
theorem pl29 : placesT Tryd.prog 29 = some [(0, 1), (1, 1), (2, 1), (3, 1)] := by kernel_rfl
theorem fd29x0 : fieldOf Tryd.prog 29 0 = some (0, 25, 1) := by kernel_rfl
theorem fd29x1 : fieldOf Tryd.prog 29 1 = some (1, 26, 1) := by kernel_rfl
theorem fd29x2 : fieldOf Tryd.prog 29 2 = some (2, 25, 1) := by kernel_rfl
theorem fd29x3 : fieldOf Tryd.prog 29 3 = some (3, 27, 1) := by kernel_rfl
theorem oz29 : ofZero Tryd.prog 29 = some [.v (Value.slice none 0 0), .v (Value.slice none 0 0), .v (Value.slice none 0 0), .v (Value.slice none 0 0)] := by kernel_rfl
theorem sz31 : sizeT Tryd.prog 31 = some 1 := by kernel_rfl
theorem kt31 : kindT Tryd.prog 31 = some false := by kernel_rfl
theorem oz31 : ofZero Tryd.prog 31 = some [.v (Value.int IntKind.u32 0)] := by kernel_rfl
theorem sz38 : sizeT Tryd.prog 38 = some 1 := by kernel_rfl
theorem kt38 : kindT Tryd.prog 38 = some false := by kernel_rfl
theorem isl38 : isSl Tryd.prog 38 = true := by kernel_rfl
theorem el38 : elT Tryd.prog 38 = some 1 := by kernel_rfl
theorem ix38 : ixT Tryd.prog 38 = some (none, 1) := by kernel_rfl
theorem ap38 : apT Tryd.prog 38 = some (5, 1, 1) := by kernel_rfl
theorem oz38 : ofZero Tryd.prog 38 = some [.v (Value.slice none 0 0)] := by kernel_rfl
theorem sz41 : sizeT Tryd.prog 41 = some 3 := by kernel_rfl
theorem kt41 : kindT Tryd.prog 41 = some true := by kernel_rfl
theorem pl41 : placesT Tryd.prog 41 = some [(0, 1), (1, 1), (2, 1)] := by kernel_rfl
theorem fd41x0 : fieldOf Tryd.prog 41 0 = some (0, 5, 1) := by kernel_rfl
theorem fd41x1 : fieldOf Tryd.prog 41 1 = some (1, 2, 1) := by kernel_rfl
theorem fd41x2 : fieldOf Tryd.prog 41 2 = some (2, 9, 1) := by kernel_rfl
theorem oz41 : ofZero Tryd.prog 41 = some [.v (Value.int IntKind.u8 0), .v (Value.int IntKind.i64 0), .v (Value.string { data := #[] })] := by kernel_rfl
theorem sz43 : sizeT Tryd.prog 43 = some 11 := by kernel_rfl
theorem kt43 : kindT Tryd.prog 43 = some true := by kernel_rfl
theorem pl43 : placesT Tryd.prog 43 = some [(0, 1), (1, 1), (2, 1), (3, 3), (6, 1), (7, 1), (8, 1), (9, 1), (10, 1)] := by kernel_rfl
theorem fd43x0 : fieldOf Tryd.prog 43 0 = some (0, 5, 1) := by kernel_rfl
theorem fd43x1 : fieldOf Tryd.prog 43 1 = some (1, 9, 1) := by kernel_rfl
theorem fd43x2 : fieldOf Tryd.prog 43 2 = some (2, 4, 1) := by kernel_rfl
theorem fd43x3 : fieldOf Tryd.prog 43 3 = some (3, 41, 3) := by kernel_rfl
theorem fd43x4 : fieldOf Tryd.prog 43 4 = some (6, 9, 1) := by kernel_rfl
theorem fd43x5 : fieldOf Tryd.prog 43 5 = some (7, 9, 1) := by kernel_rfl
theorem fd43x6 : fieldOf Tryd.prog 43 6 = some (8, 3, 1) := by kernel_rfl
theorem fd43x7 : fieldOf Tryd.prog 43 7 = some (9, 3, 1) := by kernel_rfl
theorem fd43x8 : fieldOf Tryd.prog 43 8 = some (10, 22, 1) := by kernel_rfl
theorem oz43 : ofZero Tryd.prog 43 = some [.v (Value.int IntKind.u8 0), .v (Value.string { data := #[] }), .v (Value.bool false), .v (Value.int IntKind.u8 0), .v (Value.int IntKind.i64 0), .v (Value.string { data := #[] }), .v (Value.string { data := #[] }), .v (Value.string { data := #[] }), .v (Value.int IntKind.i64 0), .v (Value.int IntKind.i64 0), .v (Value.slice none 0 0)] := by kernel_rfl
theorem sz47 : sizeT Tryd.prog 47 = some 5 := by kernel_rfl
theorem kt47 : kindT Tryd.prog 47 = some true := by kernel_rfl
theorem pl47 : placesT Tryd.prog 47 = some [(0, 1), (1, 1), (2, 1), (3, 1), (4, 1)] := by kernel_rfl
theorem oz47 : ofZero Tryd.prog 47 = some [.v (Value.int IntKind.i64 0), .v (Value.int IntKind.i64 0), .v (Value.int IntKind.i64 0), .v (Value.int IntKind.i64 0), .v (Value.int IntKind.i64 0)] := by kernel_rfl
theorem sz55 : sizeT Tryd.prog 55 = some 32 := by kernel_rfl
theorem kt55 : kindT Tryd.prog 55 = some true := by kernel_rfl
theorem ar55 : arT Tryd.prog 55 = some (32, 5, 1) := by kernel_rfl
theorem ix55 : ixT Tryd.prog 55 = some (some 32, 1) := by kernel_rfl
theorem oz55 : ofZero Tryd.prog 55 = some [.v (Value.int IntKind.u8 0), .v (Value.int IntKind.u8 0), .v (Value.int IntKind.u8 0), .v (Value.int IntKind.u8 0), .v (Value.int IntKind.u8 0), .v (Value.int IntKind.u8 0), .v (Value.int IntKind.u8 0), .v (Value.int IntKind.u8 0), .v (Value.int IntKind.u8 0), .v (Value.int IntKind.u8 0), .v (Value.int IntKind.u8 0), .v (Value.int IntKind.u8 0), .v (Value.int IntKind.u8 0), .v (Value.int IntKind.u8 0), .v (Value.int IntKind.u8 0), .v (Value.int IntKind.u8 0), .v (Value.int IntKind.u8 0), .v (Value.int IntKind.u8 0), .v (Value.int IntKind.u8 0), .v (Value.int IntKind.u8 0), .v (Value.int IntKind.u8 0), .v (Value.int IntKind.u8 0), .v (Value.int IntKind.u8 0), .v (Value.int IntKind.u8 0), .v (Value.int IntKind.u8 0), .v (Value.int IntKind.u8 0), .v (Value.int IntKind.u8 0), .v (Value.int IntKind.u8 0), .v (Value.int IntKind.u8 0), .v (Value.int IntKind.u8 0), .v (Value.int IntKind.u8 0), .v (Value.int IntKind.u8 0)] := by kernel_rfl
theorem cv3x31 (k : IntKind) (n : Int) : cvt Tryd.prog 3 31 (.int k n) = some (.int IntKind.u32 (IntKind.u32.wrap n)) := cvt_int (by kernel_rfl) (by kernel_rfl) k n
theorem cv5x3 (k : IntKind) (n : Int) : cvt Tryd.prog 5 3 (.int k n) = some (.int IntKind.i64 (IntKind.i64.wrap n)) := cvt_int (by kernel_rfl) (by kernel_rfl) k n
theorem cv5x31 (k : IntKind) (n : Int) : cvt Tryd.prog 5 31 (.int k n) = some (.int IntKind.u32 (IntKind.u32.wrap n)) := cvt_int (by kernel_rfl) (by kernel_rfl) k n
attribute [go_sem] sz2 kt2 oz2 sz3 kt3 oz3 sz4 kt4 un4 oz4 sz5 kt5 oz5 sz9 kt9 isr9 oz9 sz22 kt22 isl22 el22 ix22 ap22 oz22 sz25 kt25 isl25 el25 ix25 ap25 oz25 sz26 kt26 isl26 el26 ix26 ap26 oz26 sz27 kt27 isl27 el27 ix27 ap27 oz27 sz29 kt29 pl29 fd29x0 fd29x1 fd29x2 fd29x3 oz29 sz31 kt31 oz31 sz38 kt38 isl38 el38 ix38 ap38 oz38 sz41 kt41 pl41 fd41x0 fd41x1 fd41x2 oz41 sz43 kt43 pl43 fd43x0 fd43x1 fd43x2 fd43x3 fd43x4 fd43x5 fd43x6 fd43x7 fd43x8 oz43 sz47 kt47 pl47 oz47 sz55 kt55 ar55 ix55 oz55 cv3x31 cv5x3 cv5x31
end Go.Proofs.YtneihjdkaogkiaaDoor
