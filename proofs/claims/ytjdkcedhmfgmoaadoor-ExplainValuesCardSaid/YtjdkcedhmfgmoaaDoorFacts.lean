/- What the texts ask of the program's types, to rewrite with (printed). -/
import Derived.Test.YtjdkcedhmfgmoaaDoorFlat
import Derived.Test.YtjdkcedhmfgmoaaDoorProg
namespace Go.Proofs.YtjdkcedhmfgmoaaDoor
open Go Go.Eng Go.Proofs
set_option linter.unusedVariables false
set_option linter.unusedSimpArgs false

theorem sz2 : sizeT Tryd.prog 2 = some 1 := by kernel_rfl
theorem kt2 : kindT Tryd.prog 2 = some false := by kernel_rfl
theorem oz2 : ofZero Tryd.prog 2 = some [.v (Value.int IntKind.i64 0)] := by kernel_rfl
theorem sz3 : sizeT Tryd.prog 3 = some 1 := by kernel_rfl
theorem kt3 : kindT Tryd.prog 3 = some false := by kernel_rfl
theorem oz3 : ofZero Tryd.prog 3 = some [.v (Value.int IntKind.i64 0)] := by kernel_rfl
theorem sz4 : sizeT Tryd.prog 4 = some 1 := by kernel_rfl
theorem kt4 : kindT Tryd.prog 4 = some false := by kernel_rfl
theorem un4 : Tryd.prog.underlying 4 = some .bool := by kernel_rfl
theorem oz4 : ofZero Tryd.prog 4 = some [.v (Value.bool false)] := by kernel_rfl
theorem sz5 : sizeT Tryd.prog 5 = some 1 := by kernel_rfl
theorem kt5 : kindT Tryd.prog 5 = some false := by kernel_rfl
theorem oz5 : ofZero Tryd.prog 5 = some [.v (Value.int IntKind.u8 0)] := by kernel_rfl
theorem sz9 : sizeT Tryd.prog 9 = some 1 := by kernel_rfl
theorem kt9 : kindT Tryd.prog 9 = some false := by kernel_rfl
theorem isr9 : isStr Tryd.prog 9 = true := by kernel_rfl
theorem oz9 : ofZero Tryd.prog 9 = some [.v (Value.string { data := #[] })] := by kernel_rfl
theorem sz20 : sizeT Tryd.prog 20 = some 1 := by kernel_rfl
theorem kt20 : kindT Tryd.prog 20 = some false := by kernel_rfl
theorem iif20 : isIf Tryd.prog 20 = true := by kernel_rfl
theorem sz21 : sizeT Tryd.prog 21 = some 1 := by kernel_rfl
theorem kt21 : kindT Tryd.prog 21 = some false := by kernel_rfl
theorem oz21 : ofZero Tryd.prog 21 = some [.v (Value.int IntKind.i32 0)] := by kernel_rfl
theorem sz22 : sizeT Tryd.prog 22 = some 1 := by kernel_rfl
theorem kt22 : kindT Tryd.prog 22 = some false := by kernel_rfl
theorem isl22 : isSl Tryd.prog 22 = true := by kernel_rfl
theorem el22 : elT Tryd.prog 22 = some 5 := by kernel_rfl
theorem ix22 : ixT Tryd.prog 22 = some (none, 5) := by kernel_rfl
theorem ap22 : apT Tryd.prog 22 = some (72, 5, 64) := by kernel_rfl
theorem oz22 : ofZero Tryd.prog 22 = some [.v (Value.slice none 0 0)] := by kernel_rfl
theorem sz23 : sizeT Tryd.prog 23 = some 1 := by kernel_rfl
theorem kt23 : kindT Tryd.prog 23 = some false := by kernel_rfl
theorem isl23 : isSl Tryd.prog 23 = true := by kernel_rfl
theorem el23 : elT Tryd.prog 23 = some 7 := by kernel_rfl
theorem ix23 : ixT Tryd.prog 23 = some (none, 7) := by kernel_rfl
theorem ap23 : apT Tryd.prog 23 = some (76, 7, 96) := by kernel_rfl
theorem oz23 : ofZero Tryd.prog 23 = some [.v (Value.slice none 0 0)] := by kernel_rfl
theorem sz25 : sizeT Tryd.prog 25 = some 2 := by kernel_rfl
theorem kt25 : kindT Tryd.prog 25 = some true := by kernel_rfl
theorem pl25 : placesT Tryd.prog 25 = some [(0, 1), (1, 1)] := by kernel_rfl
theorem fd25x0 : fieldOf Tryd.prog 25 0 = some (0, 22, 1) := by kernel_rfl
theorem fd25x1 : fieldOf Tryd.prog 25 1 = some (1, 23, 1) := by kernel_rfl
theorem oz25 : ofZero Tryd.prog 25 = some [.v (Value.slice none 0 0), .v (Value.slice none 0 0)] := by kernel_rfl
theorem sz26 : sizeT Tryd.prog 26 = some 1 := by kernel_rfl
theorem kt26 : kindT Tryd.prog 26 = some false := by kernel_rfl
theorem isl26 : isSl Tryd.prog 26 = true := by kernel_rfl
theorem el26 : elT Tryd.prog 26 = some 1 := by kernel_rfl
theorem ix26 : ixT Tryd.prog 26 = some (none, 1) := by kernel_rfl
theorem ap26 : apT Tryd.prog 26 = some (3, 1, 8) := by kernel_rfl
theorem oz26 : ofZero Tryd.prog 26 = some [.v (Value.slice none 0 0)] := by kernel_rfl
theorem sz27 : sizeT Tryd.prog 27 = some 1 := by kernel_rfl
theorem kt27 : kindT Tryd.prog 27 = some false := by kernel_rfl
theorem isl27 : isSl Tryd.prog 27 = true := by kernel_rfl
theorem el27 : elT Tryd.prog 27 = some 11 := by kernel_rfl
theorem ix27 : ixT Tryd.prog 27 = some (none, 11) := by kernel_rfl
theorem ap27 : apT Tryd.prog 27 = some (178, 11, 136) := by kernel_rfl
theorem oz27 : ofZero Tryd.prog 27 = some [.v (Value.slice none 0 0)] := by kernel_rfl
theorem sz28 : sizeT Tryd.prog 28 = some 1 := by kernel_rfl
theorem kt28 : kindT Tryd.prog 28 = some false := by kernel_rfl
theorem isl28 : isSl Tryd.prog 28 = true := by kernel_rfl
theorem el28 : elT Tryd.prog 28 = some 1 := by kernel_rfl
theorem ix28 : ixT Tryd.prog 28 = some (none, 1) := by kernel_rfl
theorem ap28 : apT Tryd.prog 28 = some (9, 1, 16) := by kernel_rfl
theorem oz28 : ofZero Tryd.prog 28 = some [.v (Value.slice none 0 0)] := by kernel_rfl
theorem sz29 : sizeT Tryd.prog 29 = some 1 := by kernel_rfl
theorem kt29 : kindT Tryd.prog 29 = some false := by kernel_rfl
theorem isl29 : isSl Tryd.prog 29 = true := by kernel_rfl
theorem el29 : elT Tryd.prog 29 = some 1 := by kernel_rfl
theorem ix29 : ixT Tryd.prog 29 = some (none, 1) := by kernel_rfl
theorem ap29 : apT Tryd.prog 29 = some (5, 1, 1) := by kernel_rfl
theorem oz29 : ofZero Tryd.prog 29 = some [.v (Value.slice none 0 0)] := by kernel_rfl
theorem sz30 : sizeT Tryd.prog 30 = some 1 := by kernel_rfl
theorem kt30 : kindT Tryd.prog 30 = some false := by kernel_rfl
theorem isl30 : isSl Tryd.prog 30 = true := by kernel_rfl
theorem el30 : elT Tryd.prog 30 = some 3 := by kernel_rfl
theorem ix30 : ixT Tryd.prog 30 = some (none, 3) := by kernel_rfl
theorem ap30 : apT Tryd.prog 30 = some (180, 3, 32) := by kernel_rfl
theorem oz30 : ofZero Tryd.prog 30 = some [.v (Value.slice none 0 0)] := by kernel_rfl
theorem sz32 : sizeT Tryd.prog 32 = some 11 := by kernel_rfl
theorem kt32 : kindT Tryd.prog 32 = some true := by kernel_rfl
theorem pl32 : placesT Tryd.prog 32 = some [(0, 1), (1, 1), (2, 1), (3, 1), (4, 1), (5, 1), (6, 1), (7, 1), (8, 1), (9, 1), (10, 1)] := by kernel_rfl
theorem fd32x0 : fieldOf Tryd.prog 32 0 = some (0, 4, 1) := by kernel_rfl
theorem fd32x1 : fieldOf Tryd.prog 32 1 = some (1, 26, 1) := by kernel_rfl
theorem fd32x2 : fieldOf Tryd.prog 32 2 = some (2, 27, 1) := by kernel_rfl
theorem fd32x3 : fieldOf Tryd.prog 32 3 = some (3, 28, 1) := by kernel_rfl
theorem fd32x4 : fieldOf Tryd.prog 32 4 = some (4, 29, 1) := by kernel_rfl
theorem fd32x5 : fieldOf Tryd.prog 32 5 = some (5, 27, 1) := by kernel_rfl
theorem fd32x6 : fieldOf Tryd.prog 32 6 = some (6, 4, 1) := by kernel_rfl
theorem fd32x7 : fieldOf Tryd.prog 32 7 = some (7, 27, 1) := by kernel_rfl
theorem fd32x8 : fieldOf Tryd.prog 32 8 = some (8, 27, 1) := by kernel_rfl
theorem fd32x9 : fieldOf Tryd.prog 32 9 = some (9, 30, 1) := by kernel_rfl
theorem fd32x10 : fieldOf Tryd.prog 32 10 = some (10, 3, 1) := by kernel_rfl
theorem oz32 : ofZero Tryd.prog 32 = some [.v (Value.bool false), .v (Value.slice none 0 0), .v (Value.slice none 0 0), .v (Value.slice none 0 0), .v (Value.slice none 0 0), .v (Value.slice none 0 0), .v (Value.bool false), .v (Value.slice none 0 0), .v (Value.slice none 0 0), .v (Value.slice none 0 0), .v (Value.int IntKind.i64 0)] := by kernel_rfl
theorem sz33 : sizeT Tryd.prog 33 = some 1 := by kernel_rfl
theorem kt33 : kindT Tryd.prog 33 = some false := by kernel_rfl
theorem isl33 : isSl Tryd.prog 33 = true := by kernel_rfl
theorem el33 : elT Tryd.prog 33 = some 11 := by kernel_rfl
theorem ix33 : ixT Tryd.prog 33 = some (none, 11) := by kernel_rfl
theorem ap33 : apT Tryd.prog 33 = some (81, 11, 152) := by kernel_rfl
theorem oz33 : ofZero Tryd.prog 33 = some [.v (Value.slice none 0 0)] := by kernel_rfl
theorem sz35 : sizeT Tryd.prog 35 = some 2 := by kernel_rfl
theorem kt35 : kindT Tryd.prog 35 = some true := by kernel_rfl
theorem pl35 : placesT Tryd.prog 35 = some [(0, 1), (1, 1)] := by kernel_rfl
theorem fd35x0 : fieldOf Tryd.prog 35 0 = some (0, 33, 1) := by kernel_rfl
theorem fd35x1 : fieldOf Tryd.prog 35 1 = some (1, 4, 1) := by kernel_rfl
theorem oz35 : ofZero Tryd.prog 35 = some [.v (Value.slice none 0 0), .v (Value.bool false)] := by kernel_rfl
theorem sz40 : sizeT Tryd.prog 40 = some 1 := by kernel_rfl
theorem kt40 : kindT Tryd.prog 40 = some false := by kernel_rfl
theorem isl40 : isSl Tryd.prog 40 = true := by kernel_rfl
theorem el40 : elT Tryd.prog 40 = some 1 := by kernel_rfl
theorem ix40 : ixT Tryd.prog 40 = some (none, 1) := by kernel_rfl
theorem ap40 : apT Tryd.prog 40 = some (49, 1, 24) := by kernel_rfl
theorem oz40 : ofZero Tryd.prog 40 = some [.v (Value.slice none 0 0)] := by kernel_rfl
theorem sz42 : sizeT Tryd.prog 42 = some 2 := by kernel_rfl
theorem kt42 : kindT Tryd.prog 42 = some true := by kernel_rfl
theorem pl42 : placesT Tryd.prog 42 = some [(0, 1), (1, 1)] := by kernel_rfl
theorem fd42x0 : fieldOf Tryd.prog 42 0 = some (0, 28, 1) := by kernel_rfl
theorem fd42x1 : fieldOf Tryd.prog 42 1 = some (1, 40, 1) := by kernel_rfl
theorem oz42 : ofZero Tryd.prog 42 = some [.v (Value.slice none 0 0), .v (Value.slice none 0 0)] := by kernel_rfl
theorem sz44 : sizeT Tryd.prog 44 = some 1 := by kernel_rfl
theorem kt44 : kindT Tryd.prog 44 = some false := by kernel_rfl
theorem isl44 : isSl Tryd.prog 44 = true := by kernel_rfl
theorem el44 : elT Tryd.prog 44 = some 1 := by kernel_rfl
theorem ix44 : ixT Tryd.prog 44 = some (none, 1) := by kernel_rfl
theorem ap44 : apT Tryd.prog 44 = some (40, 1, 24) := by kernel_rfl
theorem oz44 : ofZero Tryd.prog 44 = some [.v (Value.slice none 0 0)] := by kernel_rfl
theorem sz46 : sizeT Tryd.prog 46 = some 3 := by kernel_rfl
theorem kt46 : kindT Tryd.prog 46 = some true := by kernel_rfl
theorem pl46 : placesT Tryd.prog 46 = some [(0, 1), (1, 1), (2, 1)] := by kernel_rfl
theorem fd46x0 : fieldOf Tryd.prog 46 0 = some (0, 22, 1) := by kernel_rfl
theorem fd46x1 : fieldOf Tryd.prog 46 1 = some (1, 23, 1) := by kernel_rfl
theorem fd46x2 : fieldOf Tryd.prog 46 2 = some (2, 44, 1) := by kernel_rfl
theorem oz46 : ofZero Tryd.prog 46 = some [.v (Value.slice none 0 0), .v (Value.slice none 0 0), .v (Value.slice none 0 0)] := by kernel_rfl
theorem sz49 : sizeT Tryd.prog 49 = some 1 := by kernel_rfl
theorem kt49 : kindT Tryd.prog 49 = some false := by kernel_rfl
theorem isl49 : isSl Tryd.prog 49 = true := by kernel_rfl
theorem el49 : elT Tryd.prog 49 = some 3 := by kernel_rfl
theorem ix49 : ixT Tryd.prog 49 = some (none, 3) := by kernel_rfl
theorem ap49 : apT Tryd.prog 49 = some (55, 3, 32) := by kernel_rfl
theorem oz49 : ofZero Tryd.prog 49 = some [.v (Value.slice none 0 0)] := by kernel_rfl
theorem sz55 : sizeT Tryd.prog 55 = some 3 := by kernel_rfl
theorem kt55 : kindT Tryd.prog 55 = some true := by kernel_rfl
theorem pl55 : placesT Tryd.prog 55 = some [(0, 1), (1, 1), (2, 1)] := by kernel_rfl
theorem fd55x0 : fieldOf Tryd.prog 55 0 = some (0, 5, 1) := by kernel_rfl
theorem fd55x1 : fieldOf Tryd.prog 55 1 = some (1, 2, 1) := by kernel_rfl
theorem fd55x2 : fieldOf Tryd.prog 55 2 = some (2, 9, 1) := by kernel_rfl
theorem oz55 : ofZero Tryd.prog 55 = some [.v (Value.int IntKind.u8 0), .v (Value.int IntKind.i64 0), .v (Value.string { data := #[] })] := by kernel_rfl
theorem sz65 : sizeT Tryd.prog 65 = some 1 := by kernel_rfl
theorem kt65 : kindT Tryd.prog 65 = some false := by kernel_rfl
theorem isl65 : isSl Tryd.prog 65 = true := by kernel_rfl
theorem el65 : elT Tryd.prog 65 = some 1 := by kernel_rfl
theorem ix65 : ixT Tryd.prog 65 = some (none, 1) := by kernel_rfl
theorem ap65 : apT Tryd.prog 65 = some (4, 1, 1) := by kernel_rfl
theorem oz65 : ofZero Tryd.prog 65 = some [.v (Value.slice none 0 0)] := by kernel_rfl
theorem sz69 : sizeT Tryd.prog 69 = some 1 := by kernel_rfl
theorem kt69 : kindT Tryd.prog 69 = some false := by kernel_rfl
theorem isl69 : isSl Tryd.prog 69 = true := by kernel_rfl
theorem el69 : elT Tryd.prog 69 = some 4 := by kernel_rfl
theorem ix69 : ixT Tryd.prog 69 = some (none, 4) := by kernel_rfl
theorem ap69 : apT Tryd.prog 69 = some (74, 4, 40) := by kernel_rfl
theorem oz69 : ofZero Tryd.prog 69 = some [.v (Value.slice none 0 0)] := by kernel_rfl
theorem sz70 : sizeT Tryd.prog 70 = some 1 := by kernel_rfl
theorem kt70 : kindT Tryd.prog 70 = some false := by kernel_rfl
theorem oz70 : ofZero Tryd.prog 70 = some [.v (Value.int IntKind.u32 0)] := by kernel_rfl
theorem sz72 : sizeT Tryd.prog 72 = some 5 := by kernel_rfl
theorem kt72 : kindT Tryd.prog 72 = some true := by kernel_rfl
theorem pl72 : placesT Tryd.prog 72 = some [(0, 1), (1, 1), (2, 1), (3, 1), (4, 1)] := by kernel_rfl
theorem fd72x0 : fieldOf Tryd.prog 72 0 = some (0, 9, 1) := by kernel_rfl
theorem fd72x1 : fieldOf Tryd.prog 72 1 = some (1, 69, 1) := by kernel_rfl
theorem fd72x2 : fieldOf Tryd.prog 72 2 = some (2, 70, 1) := by kernel_rfl
theorem fd72x3 : fieldOf Tryd.prog 72 3 = some (3, 3, 1) := by kernel_rfl
theorem fd72x4 : fieldOf Tryd.prog 72 4 = some (4, 3, 1) := by kernel_rfl
theorem oz72 : ofZero Tryd.prog 72 = some [.v (Value.string { data := #[] }), .v (Value.slice none 0 0), .v (Value.int IntKind.u32 0), .v (Value.int IntKind.i64 0), .v (Value.int IntKind.i64 0)] := by kernel_rfl
theorem sz74 : sizeT Tryd.prog 74 = some 4 := by kernel_rfl
theorem kt74 : kindT Tryd.prog 74 = some true := by kernel_rfl
theorem pl74 : placesT Tryd.prog 74 = some [(0, 1), (1, 1), (2, 1), (3, 1)] := by kernel_rfl
theorem fd74x0 : fieldOf Tryd.prog 74 0 = some (0, 9, 1) := by kernel_rfl
theorem fd74x1 : fieldOf Tryd.prog 74 1 = some (1, 5, 1) := by kernel_rfl
theorem fd74x2 : fieldOf Tryd.prog 74 2 = some (2, 3, 1) := by kernel_rfl
theorem fd74x3 : fieldOf Tryd.prog 74 3 = some (3, 3, 1) := by kernel_rfl
theorem oz74 : ofZero Tryd.prog 74 = some [.v (Value.string { data := #[] }), .v (Value.int IntKind.u8 0), .v (Value.int IntKind.i64 0), .v (Value.int IntKind.i64 0)] := by kernel_rfl
theorem sz76 : sizeT Tryd.prog 76 = some 7 := by kernel_rfl
theorem kt76 : kindT Tryd.prog 76 = some true := by kernel_rfl
theorem pl76 : placesT Tryd.prog 76 = some [(0, 1), (1, 1), (2, 1), (3, 1), (4, 1), (5, 1), (6, 1)] := by kernel_rfl
theorem fd76x0 : fieldOf Tryd.prog 76 0 = some (0, 9, 1) := by kernel_rfl
theorem fd76x1 : fieldOf Tryd.prog 76 1 = some (1, 3, 1) := by kernel_rfl
theorem fd76x2 : fieldOf Tryd.prog 76 2 = some (2, 26, 1) := by kernel_rfl
theorem fd76x3 : fieldOf Tryd.prog 76 3 = some (3, 70, 1) := by kernel_rfl
theorem fd76x4 : fieldOf Tryd.prog 76 4 = some (4, 3, 1) := by kernel_rfl
theorem fd76x5 : fieldOf Tryd.prog 76 5 = some (5, 3, 1) := by kernel_rfl
theorem fd76x6 : fieldOf Tryd.prog 76 6 = some (6, 26, 1) := by kernel_rfl
theorem oz76 : ofZero Tryd.prog 76 = some [.v (Value.string { data := #[] }), .v (Value.int IntKind.i64 0), .v (Value.slice none 0 0), .v (Value.int IntKind.u32 0), .v (Value.int IntKind.i64 0), .v (Value.int IntKind.i64 0), .v (Value.slice none 0 0)] := by kernel_rfl
theorem sz77 : sizeT Tryd.prog 77 = some 1 := by kernel_rfl
theorem kt77 : kindT Tryd.prog 77 = some false := by kernel_rfl
theorem isl77 : isSl Tryd.prog 77 = true := by kernel_rfl
theorem el77 : elT Tryd.prog 77 = some 3 := by kernel_rfl
theorem ix77 : ixT Tryd.prog 77 = some (none, 3) := by kernel_rfl
theorem ap77 : apT Tryd.prog 77 = some (182, 3, 40) := by kernel_rfl
theorem oz77 : ofZero Tryd.prog 77 = some [.v (Value.slice none 0 0)] := by kernel_rfl
theorem sz79 : sizeT Tryd.prog 79 = some 7 := by kernel_rfl
theorem kt79 : kindT Tryd.prog 79 = some true := by kernel_rfl
theorem pl79 : placesT Tryd.prog 79 = some [(0, 1), (1, 1), (2, 1), (3, 1), (4, 1), (5, 1), (6, 1)] := by kernel_rfl
theorem fd79x0 : fieldOf Tryd.prog 79 0 = some (0, 5, 1) := by kernel_rfl
theorem fd79x1 : fieldOf Tryd.prog 79 1 = some (1, 3, 1) := by kernel_rfl
theorem fd79x2 : fieldOf Tryd.prog 79 2 = some (2, 77, 1) := by kernel_rfl
theorem fd79x3 : fieldOf Tryd.prog 79 3 = some (3, 26, 1) := by kernel_rfl
theorem fd79x4 : fieldOf Tryd.prog 79 4 = some (4, 3, 1) := by kernel_rfl
theorem fd79x5 : fieldOf Tryd.prog 79 5 = some (5, 77, 1) := by kernel_rfl
theorem fd79x6 : fieldOf Tryd.prog 79 6 = some (6, 26, 1) := by kernel_rfl
theorem oz79 : ofZero Tryd.prog 79 = some [.v (Value.int IntKind.u8 0), .v (Value.int IntKind.i64 0), .v (Value.slice none 0 0), .v (Value.slice none 0 0), .v (Value.int IntKind.i64 0), .v (Value.slice none 0 0), .v (Value.slice none 0 0)] := by kernel_rfl
theorem sz81 : sizeT Tryd.prog 81 = some 11 := by kernel_rfl
theorem kt81 : kindT Tryd.prog 81 = some true := by kernel_rfl
theorem pl81 : placesT Tryd.prog 81 = some [(0, 1), (1, 1), (2, 7), (9, 1), (10, 1)] := by kernel_rfl
theorem fd81x0 : fieldOf Tryd.prog 81 0 = some (0, 3, 1) := by kernel_rfl
theorem fd81x1 : fieldOf Tryd.prog 81 1 = some (1, 5, 1) := by kernel_rfl
theorem fd81x2 : fieldOf Tryd.prog 81 2 = some (2, 79, 7) := by kernel_rfl
theorem fd81x3 : fieldOf Tryd.prog 81 3 = some (9, 3, 1) := by kernel_rfl
theorem fd81x4 : fieldOf Tryd.prog 81 4 = some (10, 3, 1) := by kernel_rfl
theorem oz81 : ofZero Tryd.prog 81 = some [.v (Value.int IntKind.i64 0), .v (Value.int IntKind.u8 0), .v (Value.int IntKind.u8 0), .v (Value.int IntKind.i64 0), .v (Value.slice none 0 0), .v (Value.slice none 0 0), .v (Value.int IntKind.i64 0), .v (Value.slice none 0 0), .v (Value.slice none 0 0), .v (Value.int IntKind.i64 0), .v (Value.int IntKind.i64 0)] := by kernel_rfl
theorem sz82 : sizeT Tryd.prog 82 = some 1 := by kernel_rfl
theorem kt82 : kindT Tryd.prog 82 = some false := by kernel_rfl
theorem ipt82 : isPt Tryd.prog 82 = true := by kernel_rfl
theorem ips82 : isPs Tryd.prog 82 = true := by kernel_rfl
theorem oz82 : ofZero Tryd.prog 82 = some [.v (Value.pointer none)] := by kernel_rfl
theorem sz84 : sizeT Tryd.prog 84 = some 2 := by kernel_rfl
theorem kt84 : kindT Tryd.prog 84 = some true := by kernel_rfl
theorem pl84 : placesT Tryd.prog 84 = some [(0, 1), (1, 1)] := by kernel_rfl
theorem fd84x0 : fieldOf Tryd.prog 84 0 = some (0, 82, 1) := by kernel_rfl
theorem fd84x1 : fieldOf Tryd.prog 84 1 = some (1, 29, 1) := by kernel_rfl
theorem oz84 : ofZero Tryd.prog 84 = some [.v (Value.pointer none), .v (Value.slice none 0 0)] := by kernel_rfl
theorem sz86 : sizeT Tryd.prog 86 = some 1 := by kernel_rfl
theorem kt86 : kindT Tryd.prog 86 = some false := by kernel_rfl
theorem iif86 : isIf Tryd.prog 86 = true := by kernel_rfl
theorem sz115 : sizeT Tryd.prog 115 = some 1 := by kernel_rfl
theorem kt115 : kindT Tryd.prog 115 = some false := by kernel_rfl
theorem ipt115 : isPt Tryd.prog 115 = true := by kernel_rfl
theorem ips115 : isPs Tryd.prog 115 = true := by kernel_rfl
theorem oz115 : ofZero Tryd.prog 115 = some [.v (Value.pointer none)] := by kernel_rfl
theorem sz124 : sizeT Tryd.prog 124 = some 1 := by kernel_rfl
theorem kt124 : kindT Tryd.prog 124 = some false := by kernel_rfl
theorem oz124 : ofZero Tryd.prog 124 = some [.v (Value.pointer none)] := by kernel_rfl
theorem sz126 : sizeT Tryd.prog 126 = some 24 := by kernel_rfl
theorem kt126 : kindT Tryd.prog 126 = some true := by kernel_rfl
theorem ar126 : arT Tryd.prog 126 = some (24, 5, 1) := by kernel_rfl
theorem ix126 : ixT Tryd.prog 126 = some (some 24, 1) := by kernel_rfl
theorem oz126 : ofZero Tryd.prog 126 = some [.v (Value.int IntKind.u8 0), .v (Value.int IntKind.u8 0), .v (Value.int IntKind.u8 0), .v (Value.int IntKind.u8 0), .v (Value.int IntKind.u8 0), .v (Value.int IntKind.u8 0), .v (Value.int IntKind.u8 0), .v (Value.int IntKind.u8 0), .v (Value.int IntKind.u8 0), .v (Value.int IntKind.u8 0), .v (Value.int IntKind.u8 0), .v (Value.int IntKind.u8 0), .v (Value.int IntKind.u8 0), .v (Value.int IntKind.u8 0), .v (Value.int IntKind.u8 0), .v (Value.int IntKind.u8 0), .v (Value.int IntKind.u8 0), .v (Value.int IntKind.u8 0), .v (Value.int IntKind.u8 0), .v (Value.int IntKind.u8 0), .v (Value.int IntKind.u8 0), .v (Value.int IntKind.u8 0), .v (Value.int IntKind.u8 0), .v (Value.int IntKind.u8 0)] := by kernel_rfl
theorem sz127 : sizeT Tryd.prog 127 = some 1 := by kernel_rfl
theorem kt127 : kindT Tryd.prog 127 = some false := by kernel_rfl
theorem oz127 : ofZero Tryd.prog 127 = some [.v (Value.int IntKind.u64 0)] := by kernel_rfl
theorem sz137 : sizeT Tryd.prog 137 = some 1 := by kernel_rfl
theorem kt137 : kindT Tryd.prog 137 = some false := by kernel_rfl
theorem oz137 : ofZero Tryd.prog 137 = some [.v (Value.int IntKind.u64 0)] := by kernel_rfl
theorem sz138 : sizeT Tryd.prog 138 = some 1 := by kernel_rfl
theorem kt138 : kindT Tryd.prog 138 = some false := by kernel_rfl
theorem ipt138 : isPt Tryd.prog 138 = true := by kernel_rfl
theorem ips138 : isPs Tryd.prog 138 = true := by kernel_rfl
theorem oz138 : ofZero Tryd.prog 138 = some [.v (Value.pointer none)] := by kernel_rfl
theorem sz145 : sizeT Tryd.prog 145 = some 20 := by kernel_rfl
theorem kt145 : kindT Tryd.prog 145 = some true := by kernel_rfl
theorem ar145 : arT Tryd.prog 145 = some (20, 127, 1) := by kernel_rfl
theorem ix145 : ixT Tryd.prog 145 = some (some 20, 1) := by kernel_rfl
theorem oz145 : ofZero Tryd.prog 145 = some [.v (Value.int IntKind.u64 0), .v (Value.int IntKind.u64 0), .v (Value.int IntKind.u64 0), .v (Value.int IntKind.u64 0), .v (Value.int IntKind.u64 0), .v (Value.int IntKind.u64 0), .v (Value.int IntKind.u64 0), .v (Value.int IntKind.u64 0), .v (Value.int IntKind.u64 0), .v (Value.int IntKind.u64 0), .v (Value.int IntKind.u64 0), .v (Value.int IntKind.u64 0), .v (Value.int IntKind.u64 0), .v (Value.int IntKind.u64 0), .v (Value.int IntKind.u64 0), .v (Value.int IntKind.u64 0), .v (Value.int IntKind.u64 0), .v (Value.int IntKind.u64 0), .v (Value.int IntKind.u64 0), .v (Value.int IntKind.u64 0)] := by kernel_rfl
theorem sz146 : sizeT Tryd.prog 146 = some 65 := by kernel_rfl
theorem kt146 : kindT Tryd.prog 146 = some true := by kernel_rfl
theorem ar146 : arT Tryd.prog 146 = some (65, 5, 1) := by kernel_rfl
theorem ix146 : ixT Tryd.prog 146 = some (some 65, 1) := by kernel_rfl
theorem sz150 : sizeT Tryd.prog 150 = some 3 := by kernel_rfl
theorem kt150 : kindT Tryd.prog 150 = some true := by kernel_rfl
theorem pl150 : placesT Tryd.prog 150 = some [(0, 1), (1, 1), (2, 1)] := by kernel_rfl
theorem sz155 : sizeT Tryd.prog 155 = some 256 := by kernel_rfl
theorem kt155 : kindT Tryd.prog 155 = some true := by kernel_rfl
theorem ar155 : arT Tryd.prog 155 = some (256, 5, 1) := by kernel_rfl
theorem ix155 : ixT Tryd.prog 155 = some (some 256, 1) := by kernel_rfl
theorem sz157 : sizeT Tryd.prog 157 = some 2 := by kernel_rfl
theorem kt157 : kindT Tryd.prog 157 = some true := by kernel_rfl
theorem pl157 : placesT Tryd.prog 157 = some [(0, 1), (1, 1)] := by kernel_rfl
theorem fd157x0 : fieldOf Tryd.prog 157 0 = some (0, 5, 1) := by kernel_rfl
theorem fd157x1 : fieldOf Tryd.prog 157 1 = some (1, 5, 1) := by kernel_rfl
theorem oz157 : ofZero Tryd.prog 157 = some [.v (Value.int IntKind.u8 0), .v (Value.int IntKind.u8 0)] := by kernel_rfl
theorem sz158 : sizeT Tryd.prog 158 = some 32 := by kernel_rfl
theorem kt158 : kindT Tryd.prog 158 = some true := by kernel_rfl
theorem ar158 : arT Tryd.prog 158 = some (16, 157, 2) := by kernel_rfl
theorem ix158 : ixT Tryd.prog 158 = some (some 16, 2) := by kernel_rfl
theorem oz158 : ofZero Tryd.prog 158 = some [.v (Value.int IntKind.u8 0), .v (Value.int IntKind.u8 0), .v (Value.int IntKind.u8 0), .v (Value.int IntKind.u8 0), .v (Value.int IntKind.u8 0), .v (Value.int IntKind.u8 0), .v (Value.int IntKind.u8 0), .v (Value.int IntKind.u8 0), .v (Value.int IntKind.u8 0), .v (Value.int IntKind.u8 0), .v (Value.int IntKind.u8 0), .v (Value.int IntKind.u8 0), .v (Value.int IntKind.u8 0), .v (Value.int IntKind.u8 0), .v (Value.int IntKind.u8 0), .v (Value.int IntKind.u8 0), .v (Value.int IntKind.u8 0), .v (Value.int IntKind.u8 0), .v (Value.int IntKind.u8 0), .v (Value.int IntKind.u8 0), .v (Value.int IntKind.u8 0), .v (Value.int IntKind.u8 0), .v (Value.int IntKind.u8 0), .v (Value.int IntKind.u8 0), .v (Value.int IntKind.u8 0), .v (Value.int IntKind.u8 0), .v (Value.int IntKind.u8 0), .v (Value.int IntKind.u8 0), .v (Value.int IntKind.u8 0), .v (Value.int IntKind.u8 0), .v (Value.int IntKind.u8 0), .v (Value.int IntKind.u8 0)] := by kernel_rfl
theorem sz159 : sizeT Tryd.prog 159 = some 1 := by kernel_rfl
theorem kt159 : kindT Tryd.prog 159 = some false := by kernel_rfl
theorem ipt159 : isPt Tryd.prog 159 = true := by kernel_rfl
theorem ips159 : isPs Tryd.prog 159 = true := by kernel_rfl
theorem oz159 : ofZero Tryd.prog 159 = some [.v (Value.pointer none)] := by kernel_rfl
theorem sz161 : sizeT Tryd.prog 161 = some 1 := by kernel_rfl
theorem kt161 : kindT Tryd.prog 161 = some true := by kernel_rfl
theorem pl161 : placesT Tryd.prog 161 = some [(0, 1)] := by kernel_rfl
theorem oz161 : ofZero Tryd.prog 161 = some [.v (Value.string { data := #[] })] := by kernel_rfl
theorem sz162 : sizeT Tryd.prog 162 = some 32 := by kernel_rfl
theorem kt162 : kindT Tryd.prog 162 = some true := by kernel_rfl
theorem ar162 : arT Tryd.prog 162 = some (32, 5, 1) := by kernel_rfl
theorem ix162 : ixT Tryd.prog 162 = some (some 32, 1) := by kernel_rfl
theorem oz162 : ofZero Tryd.prog 162 = some [.v (Value.int IntKind.u8 0), .v (Value.int IntKind.u8 0), .v (Value.int IntKind.u8 0), .v (Value.int IntKind.u8 0), .v (Value.int IntKind.u8 0), .v (Value.int IntKind.u8 0), .v (Value.int IntKind.u8 0), .v (Value.int IntKind.u8 0), .v (Value.int IntKind.u8 0), .v (Value.int IntKind.u8 0), .v (Value.int IntKind.u8 0), .v (Value.int IntKind.u8 0), .v (Value.int IntKind.u8 0), .v (Value.int IntKind.u8 0), .v (Value.int IntKind.u8 0), .v (Value.int IntKind.u8 0), .v (Value.int IntKind.u8 0), .v (Value.int IntKind.u8 0), .v (Value.int IntKind.u8 0), .v (Value.int IntKind.u8 0), .v (Value.int IntKind.u8 0), .v (Value.int IntKind.u8 0), .v (Value.int IntKind.u8 0), .v (Value.int IntKind.u8 0), .v (Value.int IntKind.u8 0), .v (Value.int IntKind.u8 0), .v (Value.int IntKind.u8 0), .v (Value.int IntKind.u8 0), .v (Value.int IntKind.u8 0), .v (Value.int IntKind.u8 0), .v (Value.int IntKind.u8 0), .v (Value.int IntKind.u8 0)] := by kernel_rfl
theorem sz163 : sizeT Tryd.prog 163 = some 64 := by kernel_rfl
theorem kt163 : kindT Tryd.prog 163 = some true := by kernel_rfl
theorem ar163 : arT Tryd.prog 163 = some (64, 5, 1) := by kernel_rfl
theorem ix163 : ixT Tryd.prog 163 = some (some 64, 1) := by kernel_rfl
theorem oz163 : ofZero Tryd.prog 163 = some [.v (Value.int IntKind.u8 0), .v (Value.int IntKind.u8 0), .v (Value.int IntKind.u8 0), .v (Value.int IntKind.u8 0), .v (Value.int IntKind.u8 0), .v (Value.int IntKind.u8 0), .v (Value.int IntKind.u8 0), .v (Value.int IntKind.u8 0), .v (Value.int IntKind.u8 0), .v (Value.int IntKind.u8 0), .v (Value.int IntKind.u8 0), .v (Value.int IntKind.u8 0), .v (Value.int IntKind.u8 0), .v (Value.int IntKind.u8 0), .v (Value.int IntKind.u8 0), .v (Value.int IntKind.u8 0), .v (Value.int IntKind.u8 0), .v (Value.int IntKind.u8 0), .v (Value.int IntKind.u8 0), .v (Value.int IntKind.u8 0), .v (Value.int IntKind.u8 0), .v (Value.int IntKind.u8 0), .v (Value.int IntKind.u8 0), .v (Value.int IntKind.u8 0), .v (Value.int IntKind.u8 0), .v (Value.int IntKind.u8 0), .v (Value.int IntKind.u8 0), .v (Value.int IntKind.u8 0), .v (Value.int IntKind.u8 0), .v (Value.int IntKind.u8 0), .v (Value.int IntKind.u8 0), .v (Value.int IntKind.u8 0), .v (Value.int IntKind.u8 0), .v (Value.int IntKind.u8 0), .v (Value.int IntKind.u8 0), .v (Value.int IntKind.u8 0), .v (Value.int IntKind.u8 0), .v (Value.int IntKind.u8 0), .v (Value.int IntKind.u8 0), .v (Value.int IntKind.u8 0), .v (Value.int IntKind.u8 0), .v (Value.int IntKind.u8 0), .v (Value.int IntKind.u8 0), .v (Value.int IntKind.u8 0), .v (Value.int IntKind.u8 0), .v (Value.int IntKind.u8 0), .v (Value.int IntKind.u8 0), .v (Value.int IntKind.u8 0), .v (Value.int IntKind.u8 0), .v (Value.int IntKind.u8 0), .v (Value.int IntKind.u8 0), .v (Value.int IntKind.u8 0), .v (Value.int IntKind.u8 0), .v (Value.int IntKind.u8 0), .v (Value.int IntKind.u8 0), .v (Value.int IntKind.u8 0), .v (Value.int IntKind.u8 0), .v (Value.int IntKind.u8 0), .v (Value.int IntKind.u8 0), .v (Value.int IntKind.u8 0), .v (Value.int IntKind.u8 0), .v (Value.int IntKind.u8 0), .v (Value.int IntKind.u8 0), .v (Value.int IntKind.u8 0)] := by kernel_rfl
theorem sz178 : sizeT Tryd.prog 178 = some 11 := by kernel_rfl
theorem kt178 : kindT Tryd.prog 178 = some true := by kernel_rfl
theorem pl178 : placesT Tryd.prog 178 = some [(0, 1), (1, 1), (2, 1), (3, 3), (6, 1), (7, 1), (8, 1), (9, 1), (10, 1)] := by kernel_rfl
theorem oz178 : ofZero Tryd.prog 178 = some [.v (Value.int IntKind.u8 0), .v (Value.string { data := #[] }), .v (Value.bool false), .v (Value.int IntKind.u8 0), .v (Value.int IntKind.i64 0), .v (Value.string { data := #[] }), .v (Value.string { data := #[] }), .v (Value.string { data := #[] }), .v (Value.int IntKind.i64 0), .v (Value.int IntKind.i64 0), .v (Value.slice none 0 0)] := by kernel_rfl
theorem sz180 : sizeT Tryd.prog 180 = some 3 := by kernel_rfl
theorem kt180 : kindT Tryd.prog 180 = some true := by kernel_rfl
theorem pl180 : placesT Tryd.prog 180 = some [(0, 1), (1, 1), (2, 1)] := by kernel_rfl
theorem oz180 : ofZero Tryd.prog 180 = some [.v (Value.string { data := #[] }), .v (Value.int IntKind.i64 0), .v (Value.bool false)] := by kernel_rfl
theorem sz182 : sizeT Tryd.prog 182 = some 3 := by kernel_rfl
theorem kt182 : kindT Tryd.prog 182 = some true := by kernel_rfl
theorem pl182 : placesT Tryd.prog 182 = some [(0, 1), (1, 1), (2, 1)] := by kernel_rfl
theorem oz182 : ofZero Tryd.prog 182 = some [.v (Value.string { data := #[] }), .v (Value.string { data := #[] }), .v (Value.bool false)] := by kernel_rfl
theorem fl55 : flT Tryd.prog 55 = some [(1, 0), (1, 1), (2, 2)] := by kernel_rfl
theorem bd11 : bodied Tryd.prog 11 = true := by kernel_rfl
theorem bd12 : bodied Tryd.prog 12 = true := by kernel_rfl
theorem bd13 : bodied Tryd.prog 13 = true := by kernel_rfl
theorem bd14 : bodied Tryd.prog 14 = true := by kernel_rfl
theorem bd15 : bodied Tryd.prog 15 = true := by kernel_rfl
theorem bd16 : bodied Tryd.prog 16 = true := by kernel_rfl
theorem bd17 : bodied Tryd.prog 17 = true := by kernel_rfl
theorem bd18 : bodied Tryd.prog 18 = true := by kernel_rfl
theorem bd19 : bodied Tryd.prog 19 = true := by kernel_rfl
theorem bd20 : bodied Tryd.prog 20 = true := by kernel_rfl
theorem bd21 : bodied Tryd.prog 21 = true := by kernel_rfl
theorem bd22 : bodied Tryd.prog 22 = true := by kernel_rfl
theorem bd23 : bodied Tryd.prog 23 = true := by kernel_rfl
theorem bd24 : bodied Tryd.prog 24 = true := by kernel_rfl
theorem bd25 : bodied Tryd.prog 25 = true := by kernel_rfl
theorem bd26 : bodied Tryd.prog 26 = true := by kernel_rfl
theorem bd27 : bodied Tryd.prog 27 = true := by kernel_rfl
theorem bd28 : bodied Tryd.prog 28 = true := by kernel_rfl
theorem bd29 : bodied Tryd.prog 29 = true := by kernel_rfl
theorem bd30 : bodied Tryd.prog 30 = true := by kernel_rfl
theorem bd31 : bodied Tryd.prog 31 = true := by kernel_rfl
theorem bd32 : bodied Tryd.prog 32 = true := by kernel_rfl
theorem bd33 : bodied Tryd.prog 33 = true := by kernel_rfl
theorem bd34 : bodied Tryd.prog 34 = true := by kernel_rfl
theorem bd35 : bodied Tryd.prog 35 = true := by kernel_rfl
theorem bd36 : bodied Tryd.prog 36 = true := by kernel_rfl
theorem bd37 : bodied Tryd.prog 37 = true := by kernel_rfl
theorem bd38 : bodied Tryd.prog 38 = true := by kernel_rfl
theorem bd39 : bodied Tryd.prog 39 = true := by kernel_rfl
theorem bd40 : bodied Tryd.prog 40 = true := by kernel_rfl
theorem bd41 : bodied Tryd.prog 41 = true := by kernel_rfl
theorem bd42 : bodied Tryd.prog 42 = true := by kernel_rfl
theorem bd43 : bodied Tryd.prog 43 = true := by kernel_rfl
theorem bd44 : bodied Tryd.prog 44 = true := by kernel_rfl
theorem bd45 : bodied Tryd.prog 45 = true := by kernel_rfl
theorem bd46 : bodied Tryd.prog 46 = true := by kernel_rfl
theorem bd47 : bodied Tryd.prog 47 = true := by kernel_rfl
theorem bd48 : bodied Tryd.prog 48 = true := by kernel_rfl
theorem bd49 : bodied Tryd.prog 49 = true := by kernel_rfl
theorem bd50 : bodied Tryd.prog 50 = true := by kernel_rfl
theorem bd51 : bodied Tryd.prog 51 = true := by kernel_rfl
theorem bd52 : bodied Tryd.prog 52 = true := by kernel_rfl
theorem bd53 : bodied Tryd.prog 53 = true := by kernel_rfl
theorem bd54 : bodied Tryd.prog 54 = true := by kernel_rfl
theorem bd55 : bodied Tryd.prog 55 = true := by kernel_rfl
theorem bd56 : bodied Tryd.prog 56 = true := by kernel_rfl
theorem bd57 : bodied Tryd.prog 57 = true := by kernel_rfl
theorem bd58 : bodied Tryd.prog 58 = true := by kernel_rfl
theorem bd59 : bodied Tryd.prog 59 = true := by kernel_rfl
theorem bd60 : bodied Tryd.prog 60 = true := by kernel_rfl
theorem bd61 : bodied Tryd.prog 61 = true := by kernel_rfl
theorem bd62 : bodied Tryd.prog 62 = true := by kernel_rfl
theorem bd63 : bodied Tryd.prog 63 = true := by kernel_rfl
theorem bd64 : bodied Tryd.prog 64 = true := by kernel_rfl
theorem bd65 : bodied Tryd.prog 65 = true := by kernel_rfl
theorem bd66 : bodied Tryd.prog 66 = true := by kernel_rfl
theorem bd67 : bodied Tryd.prog 67 = true := by kernel_rfl
theorem bd68 : bodied Tryd.prog 68 = true := by kernel_rfl
theorem bd69 : bodied Tryd.prog 69 = true := by kernel_rfl
theorem bd70 : bodied Tryd.prog 70 = true := by kernel_rfl
theorem bd71 : bodied Tryd.prog 71 = true := by kernel_rfl
theorem bd72 : bodied Tryd.prog 72 = true := by kernel_rfl
theorem bd73 : bodied Tryd.prog 73 = true := by kernel_rfl
theorem bd74 : bodied Tryd.prog 74 = true := by kernel_rfl
theorem bd75 : bodied Tryd.prog 75 = true := by kernel_rfl
theorem bd76 : bodied Tryd.prog 76 = true := by kernel_rfl
theorem bd77 : bodied Tryd.prog 77 = true := by kernel_rfl
theorem bd78 : bodied Tryd.prog 78 = false := by kernel_rfl
theorem bd79 : bodied Tryd.prog 79 = true := by kernel_rfl
theorem bd80 : bodied Tryd.prog 80 = true := by kernel_rfl
theorem bd81 : bodied Tryd.prog 81 = true := by kernel_rfl
theorem bd82 : bodied Tryd.prog 82 = false := by kernel_rfl
theorem bd83 : bodied Tryd.prog 83 = true := by kernel_rfl
theorem bd84 : bodied Tryd.prog 84 = true := by kernel_rfl
theorem bd85 : bodied Tryd.prog 85 = true := by kernel_rfl
theorem bd86 : bodied Tryd.prog 86 = true := by kernel_rfl
theorem bd87 : bodied Tryd.prog 87 = true := by kernel_rfl
theorem bd88 : bodied Tryd.prog 88 = true := by kernel_rfl
theorem bd89 : bodied Tryd.prog 89 = true := by kernel_rfl
theorem bd90 : bodied Tryd.prog 90 = true := by kernel_rfl
theorem bd91 : bodied Tryd.prog 91 = true := by kernel_rfl
theorem bd92 : bodied Tryd.prog 92 = true := by kernel_rfl
theorem bd93 : bodied Tryd.prog 93 = true := by kernel_rfl
theorem bd94 : bodied Tryd.prog 94 = false := by kernel_rfl
theorem bd95 : bodied Tryd.prog 95 = true := by kernel_rfl
theorem bd96 : bodied Tryd.prog 96 = false := by kernel_rfl
theorem bd97 : bodied Tryd.prog 97 = true := by kernel_rfl
theorem bd98 : bodied Tryd.prog 98 = true := by kernel_rfl
theorem bd99 : bodied Tryd.prog 99 = true := by kernel_rfl
theorem bd100 : bodied Tryd.prog 100 = true := by kernel_rfl
theorem bd101 : bodied Tryd.prog 101 = true := by kernel_rfl
theorem bd102 : bodied Tryd.prog 102 = true := by kernel_rfl
theorem bd103 : bodied Tryd.prog 103 = true := by kernel_rfl
theorem bd104 : bodied Tryd.prog 104 = true := by kernel_rfl
theorem bd105 : bodied Tryd.prog 105 = false := by kernel_rfl
theorem bd106 : bodied Tryd.prog 106 = true := by kernel_rfl
theorem bd107 : bodied Tryd.prog 107 = true := by kernel_rfl
theorem bd108 : bodied Tryd.prog 108 = true := by kernel_rfl
theorem bd109 : bodied Tryd.prog 109 = true := by kernel_rfl
theorem bd110 : bodied Tryd.prog 110 = true := by kernel_rfl
theorem bd111 : bodied Tryd.prog 111 = false := by kernel_rfl
theorem bd112 : bodied Tryd.prog 112 = true := by kernel_rfl
theorem bd113 : bodied Tryd.prog 113 = true := by kernel_rfl
theorem bd114 : bodied Tryd.prog 114 = true := by kernel_rfl
theorem cv2x127 (k : IntKind) (n : Int) : cvt Tryd.prog 2 127 (.int k n) = some (.int IntKind.u64 (IntKind.u64.wrap n)) := cvt_int (by kernel_rfl) (by kernel_rfl) k n
theorem cv3x5 (k : IntKind) (n : Int) : cvt Tryd.prog 3 5 (.int k n) = some (.int IntKind.u8 (IntKind.u8.wrap n)) := cvt_int (by kernel_rfl) (by kernel_rfl) k n
theorem cv3x127 (k : IntKind) (n : Int) : cvt Tryd.prog 3 127 (.int k n) = some (.int IntKind.u64 (IntKind.u64.wrap n)) := cvt_int (by kernel_rfl) (by kernel_rfl) k n
theorem cv3x137 (k : IntKind) (n : Int) : cvt Tryd.prog 3 137 (.int k n) = some (.int IntKind.u64 (IntKind.u64.wrap n)) := cvt_int (by kernel_rfl) (by kernel_rfl) k n
theorem cv5x2 (k : IntKind) (n : Int) : cvt Tryd.prog 5 2 (.int k n) = some (.int IntKind.i64 (IntKind.i64.wrap n)) := cvt_int (by kernel_rfl) (by kernel_rfl) k n
theorem cv5x3 (k : IntKind) (n : Int) : cvt Tryd.prog 5 3 (.int k n) = some (.int IntKind.i64 (IntKind.i64.wrap n)) := cvt_int (by kernel_rfl) (by kernel_rfl) k n
theorem cv5x21 (k : IntKind) (n : Int) : cvt Tryd.prog 5 21 (.int k n) = some (.int IntKind.i32 (IntKind.i32.wrap n)) := cvt_int (by kernel_rfl) (by kernel_rfl) k n
theorem cv5x70 (k : IntKind) (n : Int) : cvt Tryd.prog 5 70 (.int k n) = some (.int IntKind.u32 (IntKind.u32.wrap n)) := cvt_int (by kernel_rfl) (by kernel_rfl) k n
theorem cv5x127 (k : IntKind) (n : Int) : cvt Tryd.prog 5 127 (.int k n) = some (.int IntKind.u64 (IntKind.u64.wrap n)) := cvt_int (by kernel_rfl) (by kernel_rfl) k n
theorem cv70x5 (k : IntKind) (n : Int) : cvt Tryd.prog 70 5 (.int k n) = some (.int IntKind.u8 (IntKind.u8.wrap n)) := cvt_int (by kernel_rfl) (by kernel_rfl) k n
theorem cv127x2 (k : IntKind) (n : Int) : cvt Tryd.prog 127 2 (.int k n) = some (.int IntKind.i64 (IntKind.i64.wrap n)) := cvt_int (by kernel_rfl) (by kernel_rfl) k n
theorem cv127x5 (k : IntKind) (n : Int) : cvt Tryd.prog 127 5 (.int k n) = some (.int IntKind.u8 (IntKind.u8.wrap n)) := cvt_int (by kernel_rfl) (by kernel_rfl) k n
theorem cv127x70 (k : IntKind) (n : Int) : cvt Tryd.prog 127 70 (.int k n) = some (.int IntKind.u32 (IntKind.u32.wrap n)) := cvt_int (by kernel_rfl) (by kernel_rfl) k n
theorem cv137x70 (k : IntKind) (n : Int) : cvt Tryd.prog 137 70 (.int k n) = some (.int IntKind.u32 (IntKind.u32.wrap n)) := cvt_int (by kernel_rfl) (by kernel_rfl) k n
attribute [go_sem] sz2 kt2 oz2 sz3 kt3 oz3 sz4 kt4 un4 oz4 sz5 kt5 oz5 sz9 kt9 isr9 oz9 sz20 kt20 iif20 sz21 kt21 oz21 sz22 kt22 isl22 el22 ix22 ap22 oz22 sz23 kt23 isl23 el23 ix23 ap23 oz23 sz25 kt25 pl25 fd25x0 fd25x1 oz25 sz26 kt26 isl26 el26 ix26 ap26 oz26 sz27 kt27 isl27 el27 ix27 ap27 oz27 sz28 kt28 isl28 el28 ix28 ap28 oz28 sz29 kt29 isl29 el29 ix29 ap29 oz29 sz30 kt30 isl30 el30 ix30 ap30 oz30 sz32 kt32 pl32 fd32x0 fd32x1 fd32x2 fd32x3 fd32x4 fd32x5 fd32x6 fd32x7 fd32x8 fd32x9 fd32x10 oz32 sz33 kt33 isl33 el33 ix33 ap33 oz33 sz35 kt35 pl35 fd35x0 fd35x1 oz35 sz40 kt40 isl40 el40 ix40 ap40 oz40 sz42 kt42 pl42 fd42x0 fd42x1 oz42 sz44 kt44 isl44 el44 ix44 ap44 oz44 sz46 kt46 pl46 fd46x0 fd46x1 fd46x2 oz46 sz49 kt49 isl49 el49 ix49 ap49 oz49 sz55 kt55 pl55 fd55x0 fd55x1 fd55x2 oz55 sz65 kt65 isl65 el65 ix65 ap65 oz65 sz69 kt69 isl69 el69 ix69 ap69 oz69 sz70 kt70 oz70 sz72 kt72 pl72 fd72x0 fd72x1 fd72x2 fd72x3 fd72x4 oz72 sz74 kt74 pl74 fd74x0 fd74x1 fd74x2 fd74x3 oz74 sz76 kt76 pl76 fd76x0 fd76x1 fd76x2 fd76x3 fd76x4 fd76x5 fd76x6 oz76 sz77 kt77 isl77 el77 ix77 ap77 oz77 sz79 kt79 pl79 fd79x0 fd79x1 fd79x2 fd79x3 fd79x4 fd79x5 fd79x6 oz79 sz81 kt81 pl81 fd81x0 fd81x1 fd81x2 fd81x3 fd81x4 oz81 sz82 kt82 ipt82 ips82 oz82 sz84 kt84 pl84 fd84x0 fd84x1 oz84 sz86 kt86 iif86 sz115 kt115 ipt115 ips115 oz115 sz124 kt124 oz124 sz126 kt126 ar126 ix126 oz126 sz127 kt127 oz127 sz137 kt137 oz137 sz138 kt138 ipt138 ips138 oz138 sz145 kt145 ar145 ix145 oz145 sz146 kt146 ar146 ix146 sz150 kt150 pl150 sz155 kt155 ar155 ix155 sz157 kt157 pl157 fd157x0 fd157x1 oz157 sz158 kt158 ar158 ix158 oz158 sz159 kt159 ipt159 ips159 oz159 sz161 kt161 pl161 oz161 sz162 kt162 ar162 ix162 oz162 sz163 kt163 ar163 ix163 oz163 sz178 kt178 pl178 oz178 sz180 kt180 pl180 oz180 sz182 kt182 pl182 oz182 fl55 bd11 bd12 bd13 bd14 bd15 bd16 bd17 bd18 bd19 bd20 bd21 bd22 bd23 bd24 bd25 bd26 bd27 bd28 bd29 bd30 bd31 bd32 bd33 bd34 bd35 bd36 bd37 bd38 bd39 bd40 bd41 bd42 bd43 bd44 bd45 bd46 bd47 bd48 bd49 bd50 bd51 bd52 bd53 bd54 bd55 bd56 bd57 bd58 bd59 bd60 bd61 bd62 bd63 bd64 bd65 bd66 bd67 bd68 bd69 bd70 bd71 bd72 bd73 bd74 bd75 bd76 bd77 bd78 bd79 bd80 bd81 bd82 bd83 bd84 bd85 bd86 bd87 bd88 bd89 bd90 bd91 bd92 bd93 bd94 bd95 bd96 bd97 bd98 bd99 bd100 bd101 bd102 bd103 bd104 bd105 bd106 bd107 bd108 bd109 bd110 bd111 bd112 bd113 bd114 cv2x127 cv3x5 cv3x127 cv3x137 cv5x2 cv5x3 cv5x21 cv5x70 cv5x127 cv70x5 cv127x2 cv127x5 cv127x70 cv137x70
end Go.Proofs.YtjdkcedhmfgmoaaDoor
