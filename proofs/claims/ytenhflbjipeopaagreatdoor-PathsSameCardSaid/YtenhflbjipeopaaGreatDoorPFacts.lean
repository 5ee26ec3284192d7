/- What the texts ask of the program's types, to rewrite with (printed). -/
import Derived.Test.YtenhflbjipeopaaGreatDoorPFlat
import Derived.Test.YtenhflbjipeopaaGreatDoorProg
namespace Go.Proofs.YtenhflbjipeopaaGreatDoor
open Go Go.Eng Go.Proofs
set_option linter.unusedVariables false
set_option linter.unusedSimpArgs false

theorem sz2 : sizeT Tryz.prog 2 = some 1 := by kernel_rfl
theorem kt2 : kindT Tryz.prog 2 = some false := by kernel_rfl
theorem oz2 : ofZero Tryz.prog 2 = some [.v (Value.int IntKind.i64 0)] := by kernel_rfl
theorem sz3 : sizeT Tryz.prog 3 = some 1 := by kernel_rfl
theorem kt3 : kindT Tryz.prog 3 = some false := by kernel_rfl
theorem oz3 : ofZero Tryz.prog 3 = some [.v (Value.int IntKind.i64 0)] := by kernel_rfl
theorem sz4 : sizeT Tryz.prog 4 = some 1 := by kernel_rfl
theorem kt4 : kindT Tryz.prog 4 = some false := by kernel_rfl
theorem un4 : Tryz.prog.underlying 4 = some .bool := by kernel_rfl
theorem oz4 : ofZero Tryz.prog 4 = some [.v (Value.bool false)] := by kernel_rfl
theorem sz5 : sizeT Tryz.prog 5 = some 1 := by kernel_rfl
theorem kt5 : kindT Tryz.prog 5 = some false := by kernel_rfl
theorem oz5 : ofZero Tryz.prog 5 = some [.v (Value.int IntKind.u8 0)] := by kernel_rfl
theorem sz9 : sizeT Tryz.prog 9 = some 1 := by kernel_rfl
theorem kt9 : kindT Tryz.prog 9 = some false := by kernel_rfl
theorem isr9 : isStr Tryz.prog 9 = true := by kernel_rfl
theorem oz9 : ofZero Tryz.prog 9 = some [.v (Value.string { data := #[] })] := by kernel_rfl
theorem sz20 : sizeT Tryz.prog 20 = some 1 := by kernel_rfl
theorem kt20 : kindT Tryz.prog 20 = some false := by kernel_rfl
theorem iif20 : isIf Tryz.prog 20 = true := by kernel_rfl
theorem sz21 : sizeT Tryz.prog 21 = some 1 := by kernel_rfl
theorem kt21 : kindT Tryz.prog 21 = some false := by kernel_rfl
theorem oz21 : ofZero Tryz.prog 21 = some [.v (Value.int IntKind.i32 0)] := by kernel_rfl
theorem sz22 : sizeT Tryz.prog 22 = some 1 := by kernel_rfl
theorem kt22 : kindT Tryz.prog 22 = some false := by kernel_rfl
theorem isl22 : isSl Tryz.prog 22 = true := by kernel_rfl
theorem el22 : elT Tryz.prog 22 = some 3 := by kernel_rfl
theorem ix22 : ixT Tryz.prog 22 = some (none, 3) := by kernel_rfl
theorem ap22 : apT Tryz.prog 22 = some (26, 3, 32) := by kernel_rfl
theorem oz22 : ofZero Tryz.prog 22 = some [.v (Value.slice none 0 0)] := by kernel_rfl
theorem sz26 : sizeT Tryz.prog 26 = some 3 := by kernel_rfl
theorem kt26 : kindT Tryz.prog 26 = some true := by kernel_rfl
theorem pl26 : placesT Tryz.prog 26 = some [(0, 1), (1, 1), (2, 1)] := by kernel_rfl
theorem fd26x0 : fieldOf Tryz.prog 26 0 = some (0, 5, 1) := by kernel_rfl
theorem fd26x1 : fieldOf Tryz.prog 26 1 = some (1, 2, 1) := by kernel_rfl
theorem fd26x2 : fieldOf Tryz.prog 26 2 = some (2, 9, 1) := by kernel_rfl
theorem oz26 : ofZero Tryz.prog 26 = some [.v (Value.int IntKind.u8 0), .v (Value.int IntKind.i64 0), .v (Value.string { data := #[] })] := by kernel_rfl
theorem sz30 : sizeT Tryz.prog 30 = some 1 := by kernel_rfl
theorem kt30 : kindT Tryz.prog 30 = some false := by kernel_rfl
theorem isl30 : isSl Tryz.prog 30 = true := by kernel_rfl
theorem el30 : elT Tryz.prog 30 = some 5 := by kernel_rfl
theorem ix30 : ixT Tryz.prog 30 = some (none, 5) := by kernel_rfl
theorem ap30 : apT Tryz.prog 30 = some (79, 5, 64) := by kernel_rfl
theorem oz30 : ofZero Tryz.prog 30 = some [.v (Value.slice none 0 0)] := by kernel_rfl
theorem sz31 : sizeT Tryz.prog 31 = some 1 := by kernel_rfl
theorem kt31 : kindT Tryz.prog 31 = some false := by kernel_rfl
theorem isl31 : isSl Tryz.prog 31 = true := by kernel_rfl
theorem el31 : elT Tryz.prog 31 = some 7 := by kernel_rfl
theorem ix31 : ixT Tryz.prog 31 = some (none, 7) := by kernel_rfl
theorem ap31 : apT Tryz.prog 31 = some (42, 7, 96) := by kernel_rfl
theorem oz31 : ofZero Tryz.prog 31 = some [.v (Value.slice none 0 0)] := by kernel_rfl
theorem sz33 : sizeT Tryz.prog 33 = some 2 := by kernel_rfl
theorem kt33 : kindT Tryz.prog 33 = some true := by kernel_rfl
theorem pl33 : placesT Tryz.prog 33 = some [(0, 1), (1, 1)] := by kernel_rfl
theorem fd33x0 : fieldOf Tryz.prog 33 0 = some (0, 30, 1) := by kernel_rfl
theorem fd33x1 : fieldOf Tryz.prog 33 1 = some (1, 31, 1) := by kernel_rfl
theorem oz33 : ofZero Tryz.prog 33 = some [.v (Value.slice none 0 0), .v (Value.slice none 0 0)] := by kernel_rfl
theorem sz34 : sizeT Tryz.prog 34 = some 1 := by kernel_rfl
theorem kt34 : kindT Tryz.prog 34 = some false := by kernel_rfl
theorem isl34 : isSl Tryz.prog 34 = true := by kernel_rfl
theorem el34 : elT Tryz.prog 34 = some 3 := by kernel_rfl
theorem ix34 : ixT Tryz.prog 34 = some (none, 3) := by kernel_rfl
theorem ap34 : apT Tryz.prog 34 = some (85, 3, 40) := by kernel_rfl
theorem oz34 : ofZero Tryz.prog 34 = some [.v (Value.slice none 0 0)] := by kernel_rfl
theorem sz35 : sizeT Tryz.prog 35 = some 1 := by kernel_rfl
theorem kt35 : kindT Tryz.prog 35 = some false := by kernel_rfl
theorem isl35 : isSl Tryz.prog 35 = true := by kernel_rfl
theorem el35 : elT Tryz.prog 35 = some 1 := by kernel_rfl
theorem ix35 : ixT Tryz.prog 35 = some (none, 1) := by kernel_rfl
theorem ap35 : apT Tryz.prog 35 = some (3, 1, 8) := by kernel_rfl
theorem oz35 : ofZero Tryz.prog 35 = some [.v (Value.slice none 0 0)] := by kernel_rfl
theorem sz37 : sizeT Tryz.prog 37 = some 7 := by kernel_rfl
theorem kt37 : kindT Tryz.prog 37 = some true := by kernel_rfl
theorem pl37 : placesT Tryz.prog 37 = some [(0, 1), (1, 1), (2, 1), (3, 1), (4, 1), (5, 1), (6, 1)] := by kernel_rfl
theorem fd37x0 : fieldOf Tryz.prog 37 0 = some (0, 5, 1) := by kernel_rfl
theorem fd37x1 : fieldOf Tryz.prog 37 1 = some (1, 3, 1) := by kernel_rfl
theorem fd37x2 : fieldOf Tryz.prog 37 2 = some (2, 34, 1) := by kernel_rfl
theorem fd37x3 : fieldOf Tryz.prog 37 3 = some (3, 35, 1) := by kernel_rfl
theorem fd37x4 : fieldOf Tryz.prog 37 4 = some (4, 3, 1) := by kernel_rfl
theorem fd37x5 : fieldOf Tryz.prog 37 5 = some (5, 34, 1) := by kernel_rfl
theorem fd37x6 : fieldOf Tryz.prog 37 6 = some (6, 35, 1) := by kernel_rfl
theorem oz37 : ofZero Tryz.prog 37 = some [.v (Value.int IntKind.u8 0), .v (Value.int IntKind.i64 0), .v (Value.slice none 0 0), .v (Value.slice none 0 0), .v (Value.int IntKind.i64 0), .v (Value.slice none 0 0), .v (Value.slice none 0 0)] := by kernel_rfl
theorem sz40 : sizeT Tryz.prog 40 = some 1 := by kernel_rfl
theorem kt40 : kindT Tryz.prog 40 = some false := by kernel_rfl
theorem oz40 : ofZero Tryz.prog 40 = some [.v (Value.int IntKind.u32 0)] := by kernel_rfl
theorem sz42 : sizeT Tryz.prog 42 = some 7 := by kernel_rfl
theorem kt42 : kindT Tryz.prog 42 = some true := by kernel_rfl
theorem pl42 : placesT Tryz.prog 42 = some [(0, 1), (1, 1), (2, 1), (3, 1), (4, 1), (5, 1), (6, 1)] := by kernel_rfl
theorem fd42x0 : fieldOf Tryz.prog 42 0 = some (0, 9, 1) := by kernel_rfl
theorem fd42x1 : fieldOf Tryz.prog 42 1 = some (1, 3, 1) := by kernel_rfl
theorem fd42x2 : fieldOf Tryz.prog 42 2 = some (2, 35, 1) := by kernel_rfl
theorem fd42x3 : fieldOf Tryz.prog 42 3 = some (3, 40, 1) := by kernel_rfl
theorem fd42x4 : fieldOf Tryz.prog 42 4 = some (4, 3, 1) := by kernel_rfl
theorem fd42x5 : fieldOf Tryz.prog 42 5 = some (5, 3, 1) := by kernel_rfl
theorem fd42x6 : fieldOf Tryz.prog 42 6 = some (6, 35, 1) := by kernel_rfl
theorem oz42 : ofZero Tryz.prog 42 = some [.v (Value.string { data := #[] }), .v (Value.int IntKind.i64 0), .v (Value.slice none 0 0), .v (Value.int IntKind.u32 0), .v (Value.int IntKind.i64 0), .v (Value.int IntKind.i64 0), .v (Value.slice none 0 0)] := by kernel_rfl
theorem sz45 : sizeT Tryz.prog 45 = some 1 := by kernel_rfl
theorem kt45 : kindT Tryz.prog 45 = some false := by kernel_rfl
theorem isl45 : isSl Tryz.prog 45 = true := by kernel_rfl
theorem el45 : elT Tryz.prog 45 = some 7 := by kernel_rfl
theorem ix45 : ixT Tryz.prog 45 = some (none, 7) := by kernel_rfl
theorem ap45 : apT Tryz.prog 45 = some (37, 7, 120) := by kernel_rfl
theorem oz45 : ofZero Tryz.prog 45 = some [.v (Value.slice none 0 0)] := by kernel_rfl
theorem sz49 : sizeT Tryz.prog 49 = some 1 := by kernel_rfl
theorem kt49 : kindT Tryz.prog 49 = some false := by kernel_rfl
theorem isl49 : isSl Tryz.prog 49 = true := by kernel_rfl
theorem el49 : elT Tryz.prog 49 = some 11 := by kernel_rfl
theorem ix49 : ixT Tryz.prog 49 = some (none, 11) := by kernel_rfl
theorem ap49 : apT Tryz.prog 49 = some (51, 11, 136) := by kernel_rfl
theorem oz49 : ofZero Tryz.prog 49 = some [.v (Value.slice none 0 0)] := by kernel_rfl
theorem sz51 : sizeT Tryz.prog 51 = some 11 := by kernel_rfl
theorem kt51 : kindT Tryz.prog 51 = some true := by kernel_rfl
theorem pl51 : placesT Tryz.prog 51 = some [(0, 1), (1, 1), (2, 1), (3, 3), (6, 1), (7, 1), (8, 1), (9, 1), (10, 1)] := by kernel_rfl
theorem fd51x0 : fieldOf Tryz.prog 51 0 = some (0, 5, 1) := by kernel_rfl
theorem fd51x1 : fieldOf Tryz.prog 51 1 = some (1, 9, 1) := by kernel_rfl
theorem fd51x2 : fieldOf Tryz.prog 51 2 = some (2, 4, 1) := by kernel_rfl
theorem fd51x3 : fieldOf Tryz.prog 51 3 = some (3, 26, 3) := by kernel_rfl
theorem fd51x4 : fieldOf Tryz.prog 51 4 = some (6, 9, 1) := by kernel_rfl
theorem fd51x5 : fieldOf Tryz.prog 51 5 = some (7, 9, 1) := by kernel_rfl
theorem fd51x6 : fieldOf Tryz.prog 51 6 = some (8, 3, 1) := by kernel_rfl
theorem fd51x7 : fieldOf Tryz.prog 51 7 = some (9, 3, 1) := by kernel_rfl
theorem fd51x8 : fieldOf Tryz.prog 51 8 = some (10, 49, 1) := by kernel_rfl
theorem oz51 : ofZero Tryz.prog 51 = some [.v (Value.int IntKind.u8 0), .v (Value.string { data := #[] }), .v (Value.bool false), .v (Value.int IntKind.u8 0), .v (Value.int IntKind.i64 0), .v (Value.string { data := #[] }), .v (Value.string { data := #[] }), .v (Value.string { data := #[] }), .v (Value.int IntKind.i64 0), .v (Value.int IntKind.i64 0), .v (Value.slice none 0 0)] := by kernel_rfl
theorem sz52 : sizeT Tryz.prog 52 = some 1 := by kernel_rfl
theorem kt52 : kindT Tryz.prog 52 = some false := by kernel_rfl
theorem isl52 : isSl Tryz.prog 52 = true := by kernel_rfl
theorem el52 : elT Tryz.prog 52 = some 1 := by kernel_rfl
theorem ix52 : ixT Tryz.prog 52 = some (none, 1) := by kernel_rfl
theorem ap52 : apT Tryz.prog 52 = some (9, 1, 16) := by kernel_rfl
theorem oz52 : ofZero Tryz.prog 52 = some [.v (Value.slice none 0 0)] := by kernel_rfl
theorem sz53 : sizeT Tryz.prog 53 = some 1 := by kernel_rfl
theorem kt53 : kindT Tryz.prog 53 = some false := by kernel_rfl
theorem isl53 : isSl Tryz.prog 53 = true := by kernel_rfl
theorem el53 : elT Tryz.prog 53 = some 1 := by kernel_rfl
theorem ix53 : ixT Tryz.prog 53 = some (none, 1) := by kernel_rfl
theorem ap53 : apT Tryz.prog 53 = some (5, 1, 1) := by kernel_rfl
theorem oz53 : ofZero Tryz.prog 53 = some [.v (Value.slice none 0 0)] := by kernel_rfl
theorem sz54 : sizeT Tryz.prog 54 = some 1 := by kernel_rfl
theorem kt54 : kindT Tryz.prog 54 = some false := by kernel_rfl
theorem isl54 : isSl Tryz.prog 54 = true := by kernel_rfl
theorem el54 : elT Tryz.prog 54 = some 3 := by kernel_rfl
theorem ix54 : ixT Tryz.prog 54 = some (none, 3) := by kernel_rfl
theorem ap54 : apT Tryz.prog 54 = some (130, 3, 32) := by kernel_rfl
theorem oz54 : ofZero Tryz.prog 54 = some [.v (Value.slice none 0 0)] := by kernel_rfl
theorem sz56 : sizeT Tryz.prog 56 = some 11 := by kernel_rfl
theorem kt56 : kindT Tryz.prog 56 = some true := by kernel_rfl
theorem pl56 : placesT Tryz.prog 56 = some [(0, 1), (1, 1), (2, 1), (3, 1), (4, 1), (5, 1), (6, 1), (7, 1), (8, 1), (9, 1), (10, 1)] := by kernel_rfl
theorem fd56x0 : fieldOf Tryz.prog 56 0 = some (0, 4, 1) := by kernel_rfl
theorem fd56x1 : fieldOf Tryz.prog 56 1 = some (1, 35, 1) := by kernel_rfl
theorem fd56x2 : fieldOf Tryz.prog 56 2 = some (2, 49, 1) := by kernel_rfl
theorem fd56x3 : fieldOf Tryz.prog 56 3 = some (3, 52, 1) := by kernel_rfl
theorem fd56x4 : fieldOf Tryz.prog 56 4 = some (4, 53, 1) := by kernel_rfl
theorem fd56x5 : fieldOf Tryz.prog 56 5 = some (5, 49, 1) := by kernel_rfl
theorem fd56x6 : fieldOf Tryz.prog 56 6 = some (6, 4, 1) := by kernel_rfl
theorem fd56x7 : fieldOf Tryz.prog 56 7 = some (7, 49, 1) := by kernel_rfl
theorem fd56x8 : fieldOf Tryz.prog 56 8 = some (8, 49, 1) := by kernel_rfl
theorem fd56x9 : fieldOf Tryz.prog 56 9 = some (9, 54, 1) := by kernel_rfl
theorem fd56x10 : fieldOf Tryz.prog 56 10 = some (10, 3, 1) := by kernel_rfl
theorem oz56 : ofZero Tryz.prog 56 = some [.v (Value.bool false), .v (Value.slice none 0 0), .v (Value.slice none 0 0), .v (Value.slice none 0 0), .v (Value.slice none 0 0), .v (Value.slice none 0 0), .v (Value.bool false), .v (Value.slice none 0 0), .v (Value.slice none 0 0), .v (Value.slice none 0 0), .v (Value.int IntKind.i64 0)] := by kernel_rfl
theorem sz57 : sizeT Tryz.prog 57 = some 1 := by kernel_rfl
theorem kt57 : kindT Tryz.prog 57 = some false := by kernel_rfl
theorem isl57 : isSl Tryz.prog 57 = true := by kernel_rfl
theorem el57 : elT Tryz.prog 57 = some 1 := by kernel_rfl
theorem ix57 : ixT Tryz.prog 57 = some (none, 1) := by kernel_rfl
theorem ap57 : apT Tryz.prog 57 = some (22, 1, 24) := by kernel_rfl
theorem oz57 : ofZero Tryz.prog 57 = some [.v (Value.slice none 0 0)] := by kernel_rfl
theorem sz59 : sizeT Tryz.prog 59 = some 2 := by kernel_rfl
theorem kt59 : kindT Tryz.prog 59 = some true := by kernel_rfl
theorem pl59 : placesT Tryz.prog 59 = some [(0, 1), (1, 1)] := by kernel_rfl
theorem fd59x0 : fieldOf Tryz.prog 59 0 = some (0, 52, 1) := by kernel_rfl
theorem fd59x1 : fieldOf Tryz.prog 59 1 = some (1, 57, 1) := by kernel_rfl
theorem oz59 : ofZero Tryz.prog 59 = some [.v (Value.slice none 0 0), .v (Value.slice none 0 0)] := by kernel_rfl
theorem sz60 : sizeT Tryz.prog 60 = some 1 := by kernel_rfl
theorem kt60 : kindT Tryz.prog 60 = some false := by kernel_rfl
theorem oz60 : ofZero Tryz.prog 60 = some [.v (Value.int IntKind.i64 0)] := by kernel_rfl
theorem sz67 : sizeT Tryz.prog 67 = some 1 := by kernel_rfl
theorem kt67 : kindT Tryz.prog 67 = some false := by kernel_rfl
theorem isl67 : isSl Tryz.prog 67 = true := by kernel_rfl
theorem el67 : elT Tryz.prog 67 = some 1 := by kernel_rfl
theorem ix67 : ixT Tryz.prog 67 = some (none, 1) := by kernel_rfl
theorem ap67 : apT Tryz.prog 67 = some (71, 1, 8) := by kernel_rfl
theorem oz67 : ofZero Tryz.prog 67 = some [.v (Value.slice none 0 0)] := by kernel_rfl
theorem sz69 : sizeT Tryz.prog 69 = some 2 := by kernel_rfl
theorem kt69 : kindT Tryz.prog 69 = some true := by kernel_rfl
theorem pl69 : placesT Tryz.prog 69 = some [(0, 1), (1, 1)] := by kernel_rfl
theorem fd69x0 : fieldOf Tryz.prog 69 0 = some (0, 3, 1) := by kernel_rfl
theorem fd69x1 : fieldOf Tryz.prog 69 1 = some (1, 67, 1) := by kernel_rfl
theorem oz69 : ofZero Tryz.prog 69 = some [.v (Value.int IntKind.i64 0), .v (Value.slice none 0 0)] := by kernel_rfl
theorem sz71 : sizeT Tryz.prog 71 = some 1 := by kernel_rfl
theorem kt71 : kindT Tryz.prog 71 = some false := by kernel_rfl
theorem oz71 : ofZero Tryz.prog 71 = some [.v (Value.int IntKind.u64 0)] := by kernel_rfl
theorem sz77 : sizeT Tryz.prog 77 = some 1 := by kernel_rfl
theorem kt77 : kindT Tryz.prog 77 = some false := by kernel_rfl
theorem isl77 : isSl Tryz.prog 77 = true := by kernel_rfl
theorem el77 : elT Tryz.prog 77 = some 4 := by kernel_rfl
theorem ix77 : ixT Tryz.prog 77 = some (none, 4) := by kernel_rfl
theorem ap77 : apT Tryz.prog 77 = some (81, 4, 40) := by kernel_rfl
theorem oz77 : ofZero Tryz.prog 77 = some [.v (Value.slice none 0 0)] := by kernel_rfl
theorem sz79 : sizeT Tryz.prog 79 = some 5 := by kernel_rfl
theorem kt79 : kindT Tryz.prog 79 = some true := by kernel_rfl
theorem pl79 : placesT Tryz.prog 79 = some [(0, 1), (1, 1), (2, 1), (3, 1), (4, 1)] := by kernel_rfl
theorem fd79x0 : fieldOf Tryz.prog 79 0 = some (0, 9, 1) := by kernel_rfl
theorem fd79x1 : fieldOf Tryz.prog 79 1 = some (1, 77, 1) := by kernel_rfl
theorem fd79x2 : fieldOf Tryz.prog 79 2 = some (2, 40, 1) := by kernel_rfl
theorem fd79x3 : fieldOf Tryz.prog 79 3 = some (3, 3, 1) := by kernel_rfl
theorem fd79x4 : fieldOf Tryz.prog 79 4 = some (4, 3, 1) := by kernel_rfl
theorem oz79 : ofZero Tryz.prog 79 = some [.v (Value.string { data := #[] }), .v (Value.slice none 0 0), .v (Value.int IntKind.u32 0), .v (Value.int IntKind.i64 0), .v (Value.int IntKind.i64 0)] := by kernel_rfl
theorem sz81 : sizeT Tryz.prog 81 = some 4 := by kernel_rfl
theorem kt81 : kindT Tryz.prog 81 = some true := by kernel_rfl
theorem pl81 : placesT Tryz.prog 81 = some [(0, 1), (1, 1), (2, 1), (3, 1)] := by kernel_rfl
theorem fd81x0 : fieldOf Tryz.prog 81 0 = some (0, 9, 1) := by kernel_rfl
theorem fd81x1 : fieldOf Tryz.prog 81 1 = some (1, 5, 1) := by kernel_rfl
theorem fd81x2 : fieldOf Tryz.prog 81 2 = some (2, 3, 1) := by kernel_rfl
theorem fd81x3 : fieldOf Tryz.prog 81 3 = some (3, 3, 1) := by kernel_rfl
theorem oz81 : ofZero Tryz.prog 81 = some [.v (Value.string { data := #[] }), .v (Value.int IntKind.u8 0), .v (Value.int IntKind.i64 0), .v (Value.int IntKind.i64 0)] := by kernel_rfl
theorem sz85 : sizeT Tryz.prog 85 = some 3 := by kernel_rfl
theorem kt85 : kindT Tryz.prog 85 = some true := by kernel_rfl
theorem pl85 : placesT Tryz.prog 85 = some [(0, 1), (1, 1), (2, 1)] := by kernel_rfl
theorem fd85x0 : fieldOf Tryz.prog 85 0 = some (0, 9, 1) := by kernel_rfl
theorem fd85x1 : fieldOf Tryz.prog 85 1 = some (1, 9, 1) := by kernel_rfl
theorem fd85x2 : fieldOf Tryz.prog 85 2 = some (2, 4, 1) := by kernel_rfl
theorem oz85 : ofZero Tryz.prog 85 = some [.v (Value.string { data := #[] }), .v (Value.string { data := #[] }), .v (Value.bool false)] := by kernel_rfl
theorem sz90 : sizeT Tryz.prog 90 = some 1 := by kernel_rfl
theorem kt90 : kindT Tryz.prog 90 = some false := by kernel_rfl
theorem isl90 : isSl Tryz.prog 90 = true := by kernel_rfl
theorem el90 : elT Tryz.prog 90 = some 2 := by kernel_rfl
theorem ix90 : ixT Tryz.prog 90 = some (none, 2) := by kernel_rfl
theorem ap90 : apT Tryz.prog 90 = some (93, 2, 32) := by kernel_rfl
theorem oz90 : ofZero Tryz.prog 90 = some [.v (Value.slice none 0 0)] := by kernel_rfl
theorem sz93 : sizeT Tryz.prog 93 = some 2 := by kernel_rfl
theorem kt93 : kindT Tryz.prog 93 = some true := by kernel_rfl
theorem pl93 : placesT Tryz.prog 93 = some [(0, 1), (1, 1)] := by kernel_rfl
theorem fd93x0 : fieldOf Tryz.prog 93 0 = some (0, 57, 1) := by kernel_rfl
theorem fd93x1 : fieldOf Tryz.prog 93 1 = some (1, 4, 1) := by kernel_rfl
theorem oz93 : ofZero Tryz.prog 93 = some [.v (Value.slice none 0 0), .v (Value.bool false)] := by kernel_rfl
theorem sz102 : sizeT Tryz.prog 102 = some 1 := by kernel_rfl
theorem kt102 : kindT Tryz.prog 102 = some false := by kernel_rfl
theorem isl102 : isSl Tryz.prog 102 = true := by kernel_rfl
theorem el102 : elT Tryz.prog 102 = some 1 := by kernel_rfl
theorem ix102 : ixT Tryz.prog 102 = some (none, 1) := by kernel_rfl
theorem ap102 : apT Tryz.prog 102 = some (2, 1, 8) := by kernel_rfl
theorem oz102 : ofZero Tryz.prog 102 = some [.v (Value.slice none 0 0)] := by kernel_rfl
theorem sz116 : sizeT Tryz.prog 116 = some 1 := by kernel_rfl
theorem kt116 : kindT Tryz.prog 116 = some false := by kernel_rfl
theorem oz116 : ofZero Tryz.prog 116 = some [.v (Value.int IntKind.u64 0)] := by kernel_rfl
theorem sz118 : sizeT Tryz.prog 118 = some 1 := by kernel_rfl
theorem kt118 : kindT Tryz.prog 118 = some false := by kernel_rfl
theorem isl118 : isSl Tryz.prog 118 = true := by kernel_rfl
theorem el118 : elT Tryz.prog 118 = some 1 := by kernel_rfl
theorem ix118 : ixT Tryz.prog 118 = some (none, 1) := by kernel_rfl
theorem ap118 : apT Tryz.prog 118 = some (121, 1, 8) := by kernel_rfl
theorem oz118 : ofZero Tryz.prog 118 = some [.v (Value.slice none 0 0)] := by kernel_rfl
theorem sz121 : sizeT Tryz.prog 121 = some 1 := by kernel_rfl
theorem kt121 : kindT Tryz.prog 121 = some false := by kernel_rfl
theorem ipt121 : isPt Tryz.prog 121 = true := by kernel_rfl
theorem ips121 : isPs Tryz.prog 121 = true := by kernel_rfl
theorem oz121 : ofZero Tryz.prog 121 = some [.v (Value.pointer none)] := by kernel_rfl
theorem sz123 : sizeT Tryz.prog 123 = some 1 := by kernel_rfl
theorem kt123 : kindT Tryz.prog 123 = some true := by kernel_rfl
theorem pl123 : placesT Tryz.prog 123 = some [(0, 1)] := by kernel_rfl
theorem fd123x0 : fieldOf Tryz.prog 123 0 = some (0, 90, 1) := by kernel_rfl
theorem oz123 : ofZero Tryz.prog 123 = some [.v (Value.slice none 0 0)] := by kernel_rfl
theorem sz126 : sizeT Tryz.prog 126 = some 1 := by kernel_rfl
theorem kt126 : kindT Tryz.prog 126 = some false := by kernel_rfl
theorem sz130 : sizeT Tryz.prog 130 = some 3 := by kernel_rfl
theorem kt130 : kindT Tryz.prog 130 = some true := by kernel_rfl
theorem pl130 : placesT Tryz.prog 130 = some [(0, 1), (1, 1), (2, 1)] := by kernel_rfl
theorem fd130x0 : fieldOf Tryz.prog 130 0 = some (0, 9, 1) := by kernel_rfl
theorem fd130x1 : fieldOf Tryz.prog 130 1 = some (1, 3, 1) := by kernel_rfl
theorem fd130x2 : fieldOf Tryz.prog 130 2 = some (2, 4, 1) := by kernel_rfl
theorem oz130 : ofZero Tryz.prog 130 = some [.v (Value.string { data := #[] }), .v (Value.int IntKind.i64 0), .v (Value.bool false)] := by kernel_rfl
theorem sz132 : sizeT Tryz.prog 132 = some 1 := by kernel_rfl
theorem kt132 : kindT Tryz.prog 132 = some false := by kernel_rfl
theorem isl132 : isSl Tryz.prog 132 = true := by kernel_rfl
theorem el132 : elT Tryz.prog 132 = some 1 := by kernel_rfl
theorem ix132 : ixT Tryz.prog 132 = some (none, 1) := by kernel_rfl
theorem ap132 : apT Tryz.prog 132 = some (4, 1, 1) := by kernel_rfl
theorem oz132 : ofZero Tryz.prog 132 = some [.v (Value.slice none 0 0)] := by kernel_rfl
theorem sz134 : sizeT Tryz.prog 134 = some 2 := by kernel_rfl
theorem kt134 : kindT Tryz.prog 134 = some true := by kernel_rfl
theorem pl134 : placesT Tryz.prog 134 = some [(0, 1), (1, 1)] := by kernel_rfl
theorem fd134x0 : fieldOf Tryz.prog 134 0 = some (0, 71, 1) := by kernel_rfl
theorem fd134x1 : fieldOf Tryz.prog 134 1 = some (1, 71, 1) := by kernel_rfl
theorem oz134 : ofZero Tryz.prog 134 = some [.v (Value.int IntKind.u64 0), .v (Value.int IntKind.u64 0)] := by kernel_rfl
theorem sz141 : sizeT Tryz.prog 141 = some 4 := by kernel_rfl
theorem kt141 : kindT Tryz.prog 141 = some true := by kernel_rfl
theorem ar141 : arT Tryz.prog 141 = some (4, 49, 1) := by kernel_rfl
theorem ix141 : ixT Tryz.prog 141 = some (some 4, 1) := by kernel_rfl
theorem oz141 : ofZero Tryz.prog 141 = some [.v (Value.slice none 0 0), .v (Value.slice none 0 0), .v (Value.slice none 0 0), .v (Value.slice none 0 0)] := by kernel_rfl
theorem sz143 : sizeT Tryz.prog 143 = some 1 := by kernel_rfl
theorem kt143 : kindT Tryz.prog 143 = some false := by kernel_rfl
theorem isl143 : isSl Tryz.prog 143 = true := by kernel_rfl
theorem el143 : elT Tryz.prog 143 = some 1 := by kernel_rfl
theorem ix143 : ixT Tryz.prog 143 = some (none, 1) := by kernel_rfl
theorem ap143 : apT Tryz.prog 143 = some (35, 1, 24) := by kernel_rfl
theorem oz143 : ofZero Tryz.prog 143 = some [.v (Value.slice none 0 0)] := by kernel_rfl
theorem sz144 : sizeT Tryz.prog 144 = some 1 := by kernel_rfl
theorem kt144 : kindT Tryz.prog 144 = some false := by kernel_rfl
theorem isl144 : isSl Tryz.prog 144 = true := by kernel_rfl
theorem el144 : elT Tryz.prog 144 = some 5 := by kernel_rfl
theorem ix144 : ixT Tryz.prog 144 = some (none, 5) := by kernel_rfl
theorem ap144 : apT Tryz.prog 144 = some (184, 5, 40) := by kernel_rfl
theorem oz144 : ofZero Tryz.prog 144 = some [.v (Value.slice none 0 0)] := by kernel_rfl
theorem sz146 : sizeT Tryz.prog 146 = some 4 := by kernel_rfl
theorem kt146 : kindT Tryz.prog 146 = some true := by kernel_rfl
theorem pl146 : placesT Tryz.prog 146 = some [(0, 1), (1, 1), (2, 1), (3, 1)] := by kernel_rfl
theorem fd146x0 : fieldOf Tryz.prog 146 0 = some (0, 35, 1) := by kernel_rfl
theorem fd146x1 : fieldOf Tryz.prog 146 1 = some (1, 143, 1) := by kernel_rfl
theorem fd146x2 : fieldOf Tryz.prog 146 2 = some (2, 35, 1) := by kernel_rfl
theorem fd146x3 : fieldOf Tryz.prog 146 3 = some (3, 144, 1) := by kernel_rfl
theorem oz146 : ofZero Tryz.prog 146 = some [.v (Value.slice none 0 0), .v (Value.slice none 0 0), .v (Value.slice none 0 0), .v (Value.slice none 0 0)] := by kernel_rfl
theorem sz149 : sizeT Tryz.prog 149 = some 13 := by kernel_rfl
theorem kt149 : kindT Tryz.prog 149 = some true := by kernel_rfl
theorem pl149 : placesT Tryz.prog 149 = some [(0, 11), (11, 1), (12, 1)] := by kernel_rfl
theorem fd149x0 : fieldOf Tryz.prog 149 0 = some (0, 56, 11) := by kernel_rfl
theorem fd149x1 : fieldOf Tryz.prog 149 1 = some (11, 3, 1) := by kernel_rfl
theorem fd149x2 : fieldOf Tryz.prog 149 2 = some (12, 35, 1) := by kernel_rfl
theorem oz149 : ofZero Tryz.prog 149 = some [.v (Value.bool false), .v (Value.slice none 0 0), .v (Value.slice none 0 0), .v (Value.slice none 0 0), .v (Value.slice none 0 0), .v (Value.slice none 0 0), .v (Value.bool false), .v (Value.slice none 0 0), .v (Value.slice none 0 0), .v (Value.slice none 0 0), .v (Value.int IntKind.i64 0), .v (Value.int IntKind.i64 0), .v (Value.slice none 0 0)] := by kernel_rfl
theorem sz161 : sizeT Tryz.prog 161 = some 1 := by kernel_rfl
theorem kt161 : kindT Tryz.prog 161 = some false := by kernel_rfl
theorem oz161 : ofZero Tryz.prog 161 = some [.v (Value.int IntKind.i64 0)] := by kernel_rfl
theorem sz171 : sizeT Tryz.prog 171 = some 1 := by kernel_rfl
theorem kt171 : kindT Tryz.prog 171 = some false := by kernel_rfl
theorem sz184 : sizeT Tryz.prog 184 = some 5 := by kernel_rfl
theorem kt184 : kindT Tryz.prog 184 = some true := by kernel_rfl
theorem pl184 : placesT Tryz.prog 184 = some [(0, 1), (1, 1), (2, 1), (3, 1), (4, 1)] := by kernel_rfl
theorem oz184 : ofZero Tryz.prog 184 = some [.v (Value.int IntKind.i64 0), .v (Value.int IntKind.i64 0), .v (Value.int IntKind.i64 0), .v (Value.int IntKind.i64 0), .v (Value.int IntKind.i64 0)] := by kernel_rfl
theorem sz196 : sizeT Tryz.prog 196 = some 1 := by kernel_rfl
theorem kt196 : kindT Tryz.prog 196 = some false := by kernel_rfl
theorem oz196 : ofZero Tryz.prog 196 = some [.v (Value.int IntKind.u64 0)] := by kernel_rfl
theorem sz200 : sizeT Tryz.prog 200 = some 1 := by kernel_rfl
theorem kt200 : kindT Tryz.prog 200 = some false := by kernel_rfl
theorem ipt200 : isPt Tryz.prog 200 = true := by kernel_rfl
theorem ips200 : isPs Tryz.prog 200 = true := by kernel_rfl
theorem oz200 : ofZero Tryz.prog 200 = some [.v (Value.pointer none)] := by kernel_rfl
theorem sz203 : sizeT Tryz.prog 203 = some 1 := by kernel_rfl
theorem kt203 : kindT Tryz.prog 203 = some false := by kernel_rfl
theorem ipt203 : isPt Tryz.prog 203 = true := by kernel_rfl
theorem ips203 : isPs Tryz.prog 203 = true := by kernel_rfl
theorem oz203 : ofZero Tryz.prog 203 = some [.v (Value.pointer none)] := by kernel_rfl
theorem sz205 : sizeT Tryz.prog 205 = some 2 := by kernel_rfl
theorem kt205 : kindT Tryz.prog 205 = some true := by kernel_rfl
theorem pl205 : placesT Tryz.prog 205 = some [(0, 1), (1, 1)] := by kernel_rfl
theorem fd205x0 : fieldOf Tryz.prog 205 0 = some (0, 203, 1) := by kernel_rfl
theorem fd205x1 : fieldOf Tryz.prog 205 1 = some (1, 53, 1) := by kernel_rfl
theorem oz205 : ofZero Tryz.prog 205 = some [.v (Value.pointer none), .v (Value.slice none 0 0)] := by kernel_rfl
theorem sz207 : sizeT Tryz.prog 207 = some 1 := by kernel_rfl
theorem kt207 : kindT Tryz.prog 207 = some false := by kernel_rfl
theorem iif207 : isIf Tryz.prog 207 = true := by kernel_rfl
theorem sz212 : sizeT Tryz.prog 212 = some 32 := by kernel_rfl
theorem kt212 : kindT Tryz.prog 212 = some true := by kernel_rfl
theorem ar212 : arT Tryz.prog 212 = some (32, 5, 1) := by kernel_rfl
theorem ix212 : ixT Tryz.prog 212 = some (some 32, 1) := by kernel_rfl
theorem oz212 : ofZero Tryz.prog 212 = some [.v (Value.int IntKind.u8 0), .v (Value.int IntKind.u8 0), .v (Value.int IntKind.u8 0), .v (Value.int IntKind.u8 0), .v (Value.int IntKind.u8 0), .v (Value.int IntKind.u8 0), .v (Value.int IntKind.u8 0), .v (Value.int IntKind.u8 0), .v (Value.int IntKind.u8 0), .v (Value.int IntKind.u8 0), .v (Value.int IntKind.u8 0), .v (Value.int IntKind.u8 0), .v (Value.int IntKind.u8 0), .v (Value.int IntKind.u8 0), .v (Value.int IntKind.u8 0), .v (Value.int IntKind.u8 0), .v (Value.int IntKind.u8 0), .v (Value.int IntKind.u8 0), .v (Value.int IntKind.u8 0), .v (Value.int IntKind.u8 0), .v (Value.int IntKind.u8 0), .v (Value.int IntKind.u8 0), .v (Value.int IntKind.u8 0), .v (Value.int IntKind.u8 0), .v (Value.int IntKind.u8 0), .v (Value.int IntKind.u8 0), .v (Value.int IntKind.u8 0), .v (Value.int IntKind.u8 0), .v (Value.int IntKind.u8 0), .v (Value.int IntKind.u8 0), .v (Value.int IntKind.u8 0), .v (Value.int IntKind.u8 0)] := by kernel_rfl
theorem sz217 : sizeT Tryz.prog 217 = some 1 := by kernel_rfl
theorem kt217 : kindT Tryz.prog 217 = some false := by kernel_rfl
theorem ipt217 : isPt Tryz.prog 217 = true := by kernel_rfl
theorem ips217 : isPs Tryz.prog 217 = true := by kernel_rfl
theorem oz217 : ofZero Tryz.prog 217 = some [.v (Value.pointer none)] := by kernel_rfl
theorem sz221 : sizeT Tryz.prog 221 = some 4 := by kernel_rfl
theorem kt221 : kindT Tryz.prog 221 = some true := by kernel_rfl
theorem pl221 : placesT Tryz.prog 221 = some [(0, 3), (3, 1)] := by kernel_rfl
theorem fd221x0 : fieldOf Tryz.prog 221 0 = some (0, 26, 3) := by kernel_rfl
theorem fd221x1 : fieldOf Tryz.prog 221 1 = some (3, 4, 1) := by kernel_rfl
theorem oz221 : ofZero Tryz.prog 221 = some [.v (Value.int IntKind.u8 0), .v (Value.int IntKind.i64 0), .v (Value.string { data := #[] }), .v (Value.bool false)] := by kernel_rfl
theorem sz223 : sizeT Tryz.prog 223 = some 2 := by kernel_rfl
theorem kt223 : kindT Tryz.prog 223 = some true := by kernel_rfl
theorem pl223 : placesT Tryz.prog 223 = some [(0, 1), (1, 1)] := by kernel_rfl
theorem fd223x0 : fieldOf Tryz.prog 223 0 = some (0, 57, 1) := by kernel_rfl
theorem fd223x1 : fieldOf Tryz.prog 223 1 = some (1, 22, 1) := by kernel_rfl
theorem oz223 : ofZero Tryz.prog 223 = some [.v (Value.slice none 0 0), .v (Value.slice none 0 0)] := by kernel_rfl
theorem sz226 : sizeT Tryz.prog 226 = some 1 := by kernel_rfl
theorem kt226 : kindT Tryz.prog 226 = some false := by kernel_rfl
theorem ipt226 : isPt Tryz.prog 226 = true := by kernel_rfl
theorem ips226 : isPs Tryz.prog 226 = true := by kernel_rfl
theorem oz226 : ofZero Tryz.prog 226 = some [.v (Value.pointer none)] := by kernel_rfl
theorem sz228 : sizeT Tryz.prog 228 = some 1 := by kernel_rfl
theorem kt228 : kindT Tryz.prog 228 = some false := by kernel_rfl
theorem isl228 : isSl Tryz.prog 228 = true := by kernel_rfl
theorem el228 : elT Tryz.prog 228 = some 4 := by kernel_rfl
theorem ix228 : ixT Tryz.prog 228 = some (none, 4) := by kernel_rfl
theorem ap228 : apT Tryz.prog 228 = some (221, 4, 40) := by kernel_rfl
theorem oz228 : ofZero Tryz.prog 228 = some [.v (Value.slice none 0 0)] := by kernel_rfl
theorem sz232 : sizeT Tryz.prog 232 = some 1 := by kernel_rfl
theorem kt232 : kindT Tryz.prog 232 = some false := by kernel_rfl
theorem oz232 : ofZero Tryz.prog 232 = some [.v (Value.int IntKind.u8 0)] := by kernel_rfl
theorem sz235 : sizeT Tryz.prog 235 = some 1 := by kernel_rfl
theorem kt235 : kindT Tryz.prog 235 = some false := by kernel_rfl
theorem oz235 : ofZero Tryz.prog 235 = some [.v (Value.pointer none)] := by kernel_rfl
theorem sz259 : sizeT Tryz.prog 259 = some 1 := by kernel_rfl
theorem kt259 : kindT Tryz.prog 259 = some false := by kernel_rfl
theorem isl259 : isSl Tryz.prog 259 = true := by kernel_rfl
theorem el259 : elT Tryz.prog 259 = some 1 := by kernel_rfl
theorem ix259 : ixT Tryz.prog 259 = some (none, 1) := by kernel_rfl
theorem ap259 : apT Tryz.prog 259 = some (232, 1, 1) := by kernel_rfl
theorem oz259 : ofZero Tryz.prog 259 = some [.v (Value.slice none 0 0)] := by kernel_rfl
theorem sz269 : sizeT Tryz.prog 269 = some 256 := by kernel_rfl
theorem kt269 : kindT Tryz.prog 269 = some true := by kernel_rfl
theorem ar269 : arT Tryz.prog 269 = some (256, 5, 1) := by kernel_rfl
theorem ix269 : ixT Tryz.prog 269 = some (some 256, 1) := by kernel_rfl
theorem sz271 : sizeT Tryz.prog 271 = some 2 := by kernel_rfl
theorem kt271 : kindT Tryz.prog 271 = some true := by kernel_rfl
theorem pl271 : placesT Tryz.prog 271 = some [(0, 1), (1, 1)] := by kernel_rfl
theorem fd271x0 : fieldOf Tryz.prog 271 0 = some (0, 5, 1) := by kernel_rfl
theorem fd271x1 : fieldOf Tryz.prog 271 1 = some (1, 5, 1) := by kernel_rfl
theorem oz271 : ofZero Tryz.prog 271 = some [.v (Value.int IntKind.u8 0), .v (Value.int IntKind.u8 0)] := by kernel_rfl
theorem sz272 : sizeT Tryz.prog 272 = some 32 := by kernel_rfl
theorem kt272 : kindT Tryz.prog 272 = some true := by kernel_rfl
theorem ar272 : arT Tryz.prog 272 = some (16, 271, 2) := by kernel_rfl
theorem ix272 : ixT Tryz.prog 272 = some (some 16, 2) := by kernel_rfl
theorem oz272 : ofZero Tryz.prog 272 = some [.v (Value.int IntKind.u8 0), .v (Value.int IntKind.u8 0), .v (Value.int IntKind.u8 0), .v (Value.int IntKind.u8 0), .v (Value.int IntKind.u8 0), .v (Value.int IntKind.u8 0), .v (Value.int IntKind.u8 0), .v (Value.int IntKind.u8 0), .v (Value.int IntKind.u8 0), .v (Value.int IntKind.u8 0), .v (Value.int IntKind.u8 0), .v (Value.int IntKind.u8 0), .v (Value.int IntKind.u8 0), .v (Value.int IntKind.u8 0), .v (Value.int IntKind.u8 0), .v (Value.int IntKind.u8 0), .v (Value.int IntKind.u8 0), .v (Value.int IntKind.u8 0), .v (Value.int IntKind.u8 0), .v (Value.int IntKind.u8 0), .v (Value.int IntKind.u8 0), .v (Value.int IntKind.u8 0), .v (Value.int IntKind.u8 0), .v (Value.int IntKind.u8 0), .v (Value.int IntKind.u8 0), .v (Value.int IntKind.u8 0), .v (Value.int IntKind.u8 0), .v (Value.int IntKind.u8 0), .v (Value.int IntKind.u8 0), .v (Value.int IntKind.u8 0), .v (Value.int IntKind.u8 0), .v (Value.int IntKind.u8 0)] := by kernel_rfl
theorem fl26 : flT Tryz.prog 26 = some [(1, 0), (1, 1), (2, 2)] := by kernel_rfl
theorem fl85 : flT Tryz.prog 85 = some [(2, 0), (2, 1), (3, 2)] := by kernel_rfl
theorem fl134 : flT Tryz.prog 134 = some [(1, 0), (1, 1)] := by kernel_rfl
theorem bd5 : bodied Tryz.prog 5 = true := by kernel_rfl
theorem bd6 : bodied Tryz.prog 6 = true := by kernel_rfl
theorem bd7 : bodied Tryz.prog 7 = true := by kernel_rfl
theorem bd8 : bodied Tryz.prog 8 = true := by kernel_rfl
theorem bd9 : bodied Tryz.prog 9 = true := by kernel_rfl
theorem bd10 : bodied Tryz.prog 10 = true := by kernel_rfl
theorem bd11 : bodied Tryz.prog 11 = true := by kernel_rfl
theorem bd12 : bodied Tryz.prog 12 = true := by kernel_rfl
theorem bd13 : bodied Tryz.prog 13 = true := by kernel_rfl
theorem bd14 : bodied Tryz.prog 14 = true := by kernel_rfl
theorem bd15 : bodied Tryz.prog 15 = true := by kernel_rfl
theorem bd16 : bodied Tryz.prog 16 = true := by kernel_rfl
theorem bd17 : bodied Tryz.prog 17 = true := by kernel_rfl
theorem bd18 : bodied Tryz.prog 18 = true := by kernel_rfl
theorem bd19 : bodied Tryz.prog 19 = true := by kernel_rfl
theorem bd20 : bodied Tryz.prog 20 = true := by kernel_rfl
theorem bd21 : bodied Tryz.prog 21 = true := by kernel_rfl
theorem bd22 : bodied Tryz.prog 22 = true := by kernel_rfl
theorem bd23 : bodied Tryz.prog 23 = true := by kernel_rfl
theorem bd24 : bodied Tryz.prog 24 = true := by kernel_rfl
theorem bd25 : bodied Tryz.prog 25 = true := by kernel_rfl
theorem bd26 : bodied Tryz.prog 26 = true := by kernel_rfl
theorem bd27 : bodied Tryz.prog 27 = true := by kernel_rfl
theorem bd28 : bodied Tryz.prog 28 = true := by kernel_rfl
theorem bd29 : bodied Tryz.prog 29 = true := by kernel_rfl
theorem bd30 : bodied Tryz.prog 30 = true := by kernel_rfl
theorem bd31 : bodied Tryz.prog 31 = true := by kernel_rfl
theorem bd32 : bodied Tryz.prog 32 = true := by kernel_rfl
theorem bd33 : bodied Tryz.prog 33 = true := by kernel_rfl
theorem bd34 : bodied Tryz.prog 34 = true := by kernel_rfl
theorem bd36 : bodied Tryz.prog 36 = true := by kernel_rfl
theorem bd37 : bodied Tryz.prog 37 = true := by kernel_rfl
theorem bd38 : bodied Tryz.prog 38 = true := by kernel_rfl
theorem bd39 : bodied Tryz.prog 39 = true := by kernel_rfl
theorem bd40 : bodied Tryz.prog 40 = true := by kernel_rfl
theorem bd41 : bodied Tryz.prog 41 = true := by kernel_rfl
theorem bd42 : bodied Tryz.prog 42 = true := by kernel_rfl
theorem bd43 : bodied Tryz.prog 43 = true := by kernel_rfl
theorem bd45 : bodied Tryz.prog 45 = true := by kernel_rfl
theorem bd46 : bodied Tryz.prog 46 = true := by kernel_rfl
theorem bd47 : bodied Tryz.prog 47 = true := by kernel_rfl
theorem bd48 : bodied Tryz.prog 48 = true := by kernel_rfl
theorem bd49 : bodied Tryz.prog 49 = true := by kernel_rfl
theorem bd50 : bodied Tryz.prog 50 = true := by kernel_rfl
theorem bd51 : bodied Tryz.prog 51 = true := by kernel_rfl
theorem bd52 : bodied Tryz.prog 52 = true := by kernel_rfl
theorem bd53 : bodied Tryz.prog 53 = true := by kernel_rfl
theorem bd54 : bodied Tryz.prog 54 = true := by kernel_rfl
theorem bd55 : bodied Tryz.prog 55 = true := by kernel_rfl
theorem bd56 : bodied Tryz.prog 56 = true := by kernel_rfl
theorem bd57 : bodied Tryz.prog 57 = true := by kernel_rfl
theorem bd58 : bodied Tryz.prog 58 = true := by kernel_rfl
theorem bd59 : bodied Tryz.prog 59 = true := by kernel_rfl
theorem bd60 : bodied Tryz.prog 60 = true := by kernel_rfl
theorem bd61 : bodied Tryz.prog 61 = true := by kernel_rfl
theorem bd62 : bodied Tryz.prog 62 = true := by kernel_rfl
theorem bd63 : bodied Tryz.prog 63 = true := by kernel_rfl
theorem bd64 : bodied Tryz.prog 64 = true := by kernel_rfl
theorem bd65 : bodied Tryz.prog 65 = true := by kernel_rfl
theorem bd66 : bodied Tryz.prog 66 = true := by kernel_rfl
theorem bd67 : bodied Tryz.prog 67 = true := by kernel_rfl
theorem bd68 : bodied Tryz.prog 68 = true := by kernel_rfl
theorem bd69 : bodied Tryz.prog 69 = true := by kernel_rfl
theorem bd70 : bodied Tryz.prog 70 = true := by kernel_rfl
theorem bd71 : bodied Tryz.prog 71 = true := by kernel_rfl
theorem bd72 : bodied Tryz.prog 72 = true := by kernel_rfl
theorem bd73 : bodied Tryz.prog 73 = true := by kernel_rfl
theorem bd74 : bodied Tryz.prog 74 = true := by kernel_rfl
theorem bd75 : bodied Tryz.prog 75 = true := by kernel_rfl
theorem bd76 : bodied Tryz.prog 76 = true := by kernel_rfl
theorem bd77 : bodied Tryz.prog 77 = true := by kernel_rfl
theorem bd78 : bodied Tryz.prog 78 = true := by kernel_rfl
theorem bd79 : bodied Tryz.prog 79 = true := by kernel_rfl
theorem bd80 : bodied Tryz.prog 80 = true := by kernel_rfl
theorem bd81 : bodied Tryz.prog 81 = true := by kernel_rfl
theorem bd82 : bodied Tryz.prog 82 = true := by kernel_rfl
theorem bd84 : bodied Tryz.prog 84 = true := by kernel_rfl
theorem bd85 : bodied Tryz.prog 85 = true := by kernel_rfl
theorem bd86 : bodied Tryz.prog 86 = true := by kernel_rfl
theorem bd87 : bodied Tryz.prog 87 = true := by kernel_rfl
theorem bd88 : bodied Tryz.prog 88 = true := by kernel_rfl
theorem bd89 : bodied Tryz.prog 89 = true := by kernel_rfl
theorem bd90 : bodied Tryz.prog 90 = true := by kernel_rfl
theorem bd91 : bodied Tryz.prog 91 = true := by kernel_rfl
theorem bd92 : bodied Tryz.prog 92 = true := by kernel_rfl
theorem bd93 : bodied Tryz.prog 93 = true := by kernel_rfl
theorem bd94 : bodied Tryz.prog 94 = true := by kernel_rfl
theorem bd95 : bodied Tryz.prog 95 = true := by kernel_rfl
theorem bd96 : bodied Tryz.prog 96 = true := by kernel_rfl
theorem bd97 : bodied Tryz.prog 97 = true := by kernel_rfl
theorem bd98 : bodied Tryz.prog 98 = true := by kernel_rfl
theorem bd99 : bodied Tryz.prog 99 = true := by kernel_rfl
theorem bd100 : bodied Tryz.prog 100 = true := by kernel_rfl
theorem bd101 : bodied Tryz.prog 101 = true := by kernel_rfl
theorem bd102 : bodied Tryz.prog 102 = false := by kernel_rfl
theorem bd103 : bodied Tryz.prog 103 = false := by kernel_rfl
theorem bd104 : bodied Tryz.prog 104 = true := by kernel_rfl
theorem bd105 : bodied Tryz.prog 105 = true := by kernel_rfl
theorem bd106 : bodied Tryz.prog 106 = true := by kernel_rfl
theorem bd107 : bodied Tryz.prog 107 = true := by kernel_rfl
theorem bd108 : bodied Tryz.prog 108 = true := by kernel_rfl
theorem bd109 : bodied Tryz.prog 109 = true := by kernel_rfl
theorem bd110 : bodied Tryz.prog 110 = true := by kernel_rfl
theorem bd111 : bodied Tryz.prog 111 = true := by kernel_rfl
theorem bd112 : bodied Tryz.prog 112 = true := by kernel_rfl
theorem bd113 : bodied Tryz.prog 113 = true := by kernel_rfl
theorem bd114 : bodied Tryz.prog 114 = true := by kernel_rfl
theorem bd115 : bodied Tryz.prog 115 = true := by kernel_rfl
theorem bd116 : bodied Tryz.prog 116 = true := by kernel_rfl
theorem bd117 : bodied Tryz.prog 117 = true := by kernel_rfl
theorem bd118 : bodied Tryz.prog 118 = true := by kernel_rfl
theorem bd119 : bodied Tryz.prog 119 = true := by kernel_rfl
theorem bd120 : bodied Tryz.prog 120 = true := by kernel_rfl
theorem bd121 : bodied Tryz.prog 121 = true := by kernel_rfl
theorem bd122 : bodied Tryz.prog 122 = true := by kernel_rfl
theorem bd123 : bodied Tryz.prog 123 = true := by kernel_rfl
theorem bd124 : bodied Tryz.prog 124 = true := by kernel_rfl
theorem bd125 : bodied Tryz.prog 125 = true := by kernel_rfl
theorem bd126 : bodied Tryz.prog 126 = true := by kernel_rfl
theorem bd127 : bodied Tryz.prog 127 = true := by kernel_rfl
theorem bd128 : bodied Tryz.prog 128 = true := by kernel_rfl
theorem bd129 : bodied Tryz.prog 129 = true := by kernel_rfl
theorem bd130 : bodied Tryz.prog 130 = true := by kernel_rfl
theorem bd131 : bodied Tryz.prog 131 = true := by kernel_rfl
theorem bd132 : bodied Tryz.prog 132 = true := by kernel_rfl
theorem bd133 : bodied Tryz.prog 133 = true := by kernel_rfl
theorem bd134 : bodied Tryz.prog 134 = true := by kernel_rfl
theorem bd135 : bodied Tryz.prog 135 = true := by kernel_rfl
theorem bd136 : bodied Tryz.prog 136 = true := by kernel_rfl
theorem bd137 : bodied Tryz.prog 137 = true := by kernel_rfl
theorem bd138 : bodied Tryz.prog 138 = true := by kernel_rfl
theorem bd139 : bodied Tryz.prog 139 = true := by kernel_rfl
theorem bd140 : bodied Tryz.prog 140 = true := by kernel_rfl
theorem bd141 : bodied Tryz.prog 141 = true := by kernel_rfl
theorem bd142 : bodied Tryz.prog 142 = true := by kernel_rfl
theorem bd143 : bodied Tryz.prog 143 = true := by kernel_rfl
theorem bd144 : bodied Tryz.prog 144 = true := by kernel_rfl
theorem bd145 : bodied Tryz.prog 145 = false := by kernel_rfl
theorem bd146 : bodied Tryz.prog 146 = true := by kernel_rfl
theorem bd147 : bodied Tryz.prog 147 = true := by kernel_rfl
theorem bd148 : bodied Tryz.prog 148 = true := by kernel_rfl
theorem bd149 : bodied Tryz.prog 149 = true := by kernel_rfl
theorem bd150 : bodied Tryz.prog 150 = true := by kernel_rfl
theorem bd151 : bodied Tryz.prog 151 = true := by kernel_rfl
theorem bd152 : bodied Tryz.prog 152 = true := by kernel_rfl
theorem bd153 : bodied Tryz.prog 153 = true := by kernel_rfl
theorem bd154 : bodied Tryz.prog 154 = true := by kernel_rfl
theorem bd155 : bodied Tryz.prog 155 = true := by kernel_rfl
theorem bd156 : bodied Tryz.prog 156 = true := by kernel_rfl
theorem bd157 : bodied Tryz.prog 157 = true := by kernel_rfl
theorem bd158 : bodied Tryz.prog 158 = true := by kernel_rfl
theorem bd159 : bodied Tryz.prog 159 = true := by kernel_rfl
theorem bd160 : bodied Tryz.prog 160 = true := by kernel_rfl
theorem bd161 : bodied Tryz.prog 161 = true := by kernel_rfl
theorem bd162 : bodied Tryz.prog 162 = true := by kernel_rfl
theorem bd163 : bodied Tryz.prog 163 = true := by kernel_rfl
theorem bd164 : bodied Tryz.prog 164 = true := by kernel_rfl
theorem bd165 : bodied Tryz.prog 165 = true := by kernel_rfl
theorem bd166 : bodied Tryz.prog 166 = true := by kernel_rfl
theorem bd167 : bodied Tryz.prog 167 = true := by kernel_rfl
theorem bd168 : bodied Tryz.prog 168 = true := by kernel_rfl
theorem bd169 : bodied Tryz.prog 169 = true := by kernel_rfl
theorem bd170 : bodied Tryz.prog 170 = true := by kernel_rfl
theorem bd171 : bodied Tryz.prog 171 = true := by kernel_rfl
theorem bd172 : bodied Tryz.prog 172 = true := by kernel_rfl
theorem bd173 : bodied Tryz.prog 173 = true := by kernel_rfl
theorem bd174 : bodied Tryz.prog 174 = true := by kernel_rfl
theorem bd175 : bodied Tryz.prog 175 = true := by kernel_rfl
theorem bd176 : bodied Tryz.prog 176 = true := by kernel_rfl
theorem bd177 : bodied Tryz.prog 177 = true := by kernel_rfl
theorem bd178 : bodied Tryz.prog 178 = true := by kernel_rfl
theorem bd179 : bodied Tryz.prog 179 = true := by kernel_rfl
theorem bd180 : bodied Tryz.prog 180 = true := by kernel_rfl
theorem bd181 : bodied Tryz.prog 181 = true := by kernel_rfl
theorem bd182 : bodied Tryz.prog 182 = false := by kernel_rfl
theorem bd183 : bodied Tryz.prog 183 = true := by kernel_rfl
theorem bd184 : bodied Tryz.prog 184 = true := by kernel_rfl
theorem bd185 : bodied Tryz.prog 185 = true := by kernel_rfl
theorem bd186 : bodied Tryz.prog 186 = true := by kernel_rfl
theorem bd187 : bodied Tryz.prog 187 = true := by kernel_rfl
theorem bd188 : bodied Tryz.prog 188 = true := by kernel_rfl
theorem bd189 : bodied Tryz.prog 189 = true := by kernel_rfl
theorem bd190 : bodied Tryz.prog 190 = true := by kernel_rfl
theorem bd191 : bodied Tryz.prog 191 = false := by kernel_rfl
theorem bd192 : bodied Tryz.prog 192 = true := by kernel_rfl
theorem bd193 : bodied Tryz.prog 193 = false := by kernel_rfl
theorem bd194 : bodied Tryz.prog 194 = true := by kernel_rfl
theorem bd195 : bodied Tryz.prog 195 = true := by kernel_rfl
theorem bd196 : bodied Tryz.prog 196 = true := by kernel_rfl
theorem bd197 : bodied Tryz.prog 197 = false := by kernel_rfl
theorem bd198 : bodied Tryz.prog 198 = true := by kernel_rfl
theorem cv2x5 (k : IntKind) (n : Int) : cvt Tryz.prog 2 5 (.int k n) = some (.int IntKind.u8 (IntKind.u8.wrap n)) := cvt_int (by kernel_rfl) (by kernel_rfl) k n
theorem cv2x71 (k : IntKind) (n : Int) : cvt Tryz.prog 2 71 (.int k n) = some (.int IntKind.u64 (IntKind.u64.wrap n)) := cvt_int (by kernel_rfl) (by kernel_rfl) k n
theorem cv3x116 (k : IntKind) (n : Int) : cvt Tryz.prog 3 116 (.int k n) = some (.int IntKind.u64 (IntKind.u64.wrap n)) := cvt_int (by kernel_rfl) (by kernel_rfl) k n
theorem cv3x196 (k : IntKind) (n : Int) : cvt Tryz.prog 3 196 (.int k n) = some (.int IntKind.u64 (IntKind.u64.wrap n)) := cvt_int (by kernel_rfl) (by kernel_rfl) k n
theorem cv5x3 (k : IntKind) (n : Int) : cvt Tryz.prog 5 3 (.int k n) = some (.int IntKind.i64 (IntKind.i64.wrap n)) := cvt_int (by kernel_rfl) (by kernel_rfl) k n
theorem cv5x21 (k : IntKind) (n : Int) : cvt Tryz.prog 5 21 (.int k n) = some (.int IntKind.i32 (IntKind.i32.wrap n)) := cvt_int (by kernel_rfl) (by kernel_rfl) k n
theorem cv5x40 (k : IntKind) (n : Int) : cvt Tryz.prog 5 40 (.int k n) = some (.int IntKind.u32 (IntKind.u32.wrap n)) := cvt_int (by kernel_rfl) (by kernel_rfl) k n
theorem cv40x5 (k : IntKind) (n : Int) : cvt Tryz.prog 40 5 (.int k n) = some (.int IntKind.u8 (IntKind.u8.wrap n)) := cvt_int (by kernel_rfl) (by kernel_rfl) k n
theorem cv71x2 (k : IntKind) (n : Int) : cvt Tryz.prog 71 2 (.int k n) = some (.int IntKind.i64 (IntKind.i64.wrap n)) := cvt_int (by kernel_rfl) (by kernel_rfl) k n
theorem cv71x5 (k : IntKind) (n : Int) : cvt Tryz.prog 71 5 (.int k n) = some (.int IntKind.u8 (IntKind.u8.wrap n)) := cvt_int (by kernel_rfl) (by kernel_rfl) k n
theorem cv116x3 (k : IntKind) (n : Int) : cvt Tryz.prog 116 3 (.int k n) = some (.int IntKind.i64 (IntKind.i64.wrap n)) := cvt_int (by kernel_rfl) (by kernel_rfl) k n
theorem cv116x40 (k : IntKind) (n : Int) : cvt Tryz.prog 116 40 (.int k n) = some (.int IntKind.u32 (IntKind.u32.wrap n)) := cvt_int (by kernel_rfl) (by kernel_rfl) k n
attribute [go_sem] sz2 kt2 oz2 sz3 kt3 oz3 sz4 kt4 un4 oz4 sz5 kt5 oz5 sz9 kt9 isr9 oz9 sz20 kt20 iif20 sz21 kt21 oz21 sz22 kt22 isl22 el22 ix22 ap22 oz22 sz26 kt26 pl26 fd26x0 fd26x1 fd26x2 oz26 sz30 kt30 isl30 el30 ix30 ap30 oz30 sz31 kt31 isl31 el31 ix31 ap31 oz31 sz33 kt33 pl33 fd33x0 fd33x1 oz33 sz34 kt34 isl34 el34 ix34 ap34 oz34 sz35 kt35 isl35 el35 ix35 ap35 oz35 sz37 kt37 pl37 fd37x0 fd37x1 fd37x2 fd37x3 fd37x4 fd37x5 fd37x6 oz37 sz40 kt40 oz40 sz42 kt42 pl42 fd42x0 fd42x1 fd42x2 fd42x3 fd42x4 fd42x5 fd42x6 oz42 sz45 kt45 isl45 el45 ix45 ap45 oz45 sz49 kt49 isl49 el49 ix49 ap49 oz49 sz51 kt51 pl51 fd51x0 fd51x1 fd51x2 fd51x3 fd51x4 fd51x5 fd51x6 fd51x7 fd51x8 oz51 sz52 kt52 isl52 el52 ix52 ap52 oz52 sz53 kt53 isl53 el53 ix53 ap53 oz53 sz54 kt54 isl54 el54 ix54 ap54 oz54 sz56 kt56 pl56 fd56x0 fd56x1 fd56x2 fd56x3 fd56x4 fd56x5 fd56x6 fd56x7 fd56x8 fd56x9 fd56x10 oz56 sz57 kt57 isl57 el57 ix57 ap57 oz57 sz59 kt59 pl59 fd59x0 fd59x1 oz59 sz60 kt60 oz60 sz67 kt67 isl67 el67 ix67 ap67 oz67 sz69 kt69 pl69 fd69x0 fd69x1 oz69 sz71 kt71 oz71 sz77 kt77 isl77 el77 ix77 ap77 oz77 sz79 kt79 pl79 fd79x0 fd79x1 fd79x2 fd79x3 fd79x4 oz79 sz81 kt81 pl81 fd81x0 fd81x1 fd81x2 fd81x3 oz81 sz85 kt85 pl85 fd85x0 fd85x1 fd85x2 oz85 sz90 kt90 isl90 el90 ix90 ap90 oz90 sz93 kt93 pl93 fd93x0 fd93x1 oz93 sz102 kt102 isl102 el102 ix102 ap102 oz102 sz116 kt116 oz116 sz118 kt118 isl118 el118 ix118 ap118 oz118 sz121 kt121 ipt121 ips121 oz121 sz123 kt123 pl123 fd123x0 oz123 sz126 kt126 sz130 kt130 pl130 fd130x0 fd130x1 fd130x2 oz130 sz132 kt132 isl132 el132 ix132 ap132 oz132 sz134 kt134 pl134 fd134x0 fd134x1 oz134 sz141 kt141 ar141 ix141 oz141 sz143 kt143 isl143 el143 ix143 ap143 oz143 sz144 kt144 isl144 el144 ix144 ap144 oz144 sz146 kt146 pl146 fd146x0 fd146x1 fd146x2 fd146x3 oz146 sz149 kt149 pl149 fd149x0 fd149x1 fd149x2 oz149 sz161 kt161 oz161 sz171 kt171 sz184 kt184 pl184 oz184 sz196 kt196 oz196 sz200 kt200 ipt200 ips200 oz200 sz203 kt203 ipt203 ips203 oz203 sz205 kt205 pl205 fd205x0 fd205x1 oz205 sz207 kt207 iif207 sz212 kt212 ar212 ix212 oz212 sz217 kt217 ipt217 ips217 oz217 sz221 kt221 pl221 fd221x0 fd221x1 oz221 sz223 kt223 pl223 fd223x0 fd223x1 oz223 sz226 kt226 ipt226 ips226 oz226 sz228 kt228 isl228 el228 ix228 ap228 oz228 sz232 kt232 oz232 sz235 kt235 oz235 sz259 kt259 isl259 el259 ix259 ap259 oz259 sz269 kt269 ar269 ix269 sz271 kt271 pl271 fd271x0 fd271x1 oz271 sz272 kt272 ar272 ix272 oz272 fl26 fl85 fl134 bd5 bd6 bd7 bd8 bd9 bd10 bd11 bd12 bd13 bd14 bd15 bd16 bd17 bd18 bd19 bd20 bd21 bd22 bd23 bd24 bd25 bd26 bd27 bd28 bd29 bd30 bd31 bd32 bd33 bd34 bd36 bd37 bd38 bd39 bd40 bd41 bd42 bd43 bd45 bd46 bd47 bd48 bd49 bd50 bd51 bd52 bd53 bd54 bd55 bd56 bd57 bd58 bd59 bd60 bd61 bd62 bd63 bd64 bd65 bd66 bd67 bd68 bd69 bd70 bd71 bd72 bd73 bd74 bd75 bd76 bd77 bd78 bd79 bd80 bd81 bd82 bd84 bd85 bd86 bd87 bd88 bd89 bd90 bd91 bd92 bd93 bd94 bd95 bd96 bd97 bd98 bd99 bd100 bd101 bd102 bd103 bd104 bd105 bd106 bd107 bd108 bd109 bd110 bd111 bd112 bd113 bd114 bd115 bd116 bd117 bd118 bd119 bd120 bd121 bd122 bd123 bd124 bd125 bd126 bd127 bd128 bd129 bd130 bd131 bd132 bd133 bd134 bd135 bd136 bd137 bd138 bd139 bd140 bd141 bd142 bd143 bd144 bd145 bd146 bd147 bd148 bd149 bd150 bd151 bd152 bd153 bd154 bd155 bd156 bd157 bd158 bd159 bd160 bd161 bd162 bd163 bd164 bd165 bd166 bd167 bd168 bd169 bd170 bd171 bd172 bd173 bd174 bd175 bd176 bd177 bd178 bd179 bd180 bd181 bd182 bd183 bd184 bd185 bd186 bd187 bd188 bd189 bd190 bd191 bd192 bd193 bd194 bd195 bd196 bd197 bd198 cv2x5 cv2x71 cv3x116 cv3x196 cv5x3 cv5x21 cv5x40 cv40x5 cv71x2 cv71x5 cv116x3 cv116x40
end Go.Proofs.YtenhflbjipeopaaGreatDoor
