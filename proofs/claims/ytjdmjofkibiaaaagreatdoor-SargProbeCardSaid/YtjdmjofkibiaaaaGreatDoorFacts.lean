/- What the texts ask of the program's types, to rewrite with (printed). -/
import Derived.Test.YtjdmjofkibiaaaaGreatDoorFlat
import Derived.Test.YtjdmjofkibiaaaaGreatDoorProg
namespace Go.Proofs.YtjdmjofkibiaaaaGreatDoor
open Go Go.Eng Go.Proofs
set_option linter.unusedVariables false
set_option linter.unusedSimpArgs false

theorem sz2 : sizeT Tryz.prog 2 = some 1 := by kernel_rfl
theorem kt2 : kindT Tryz.prog 2 = some false := by kernel_rfl
theorem oz2 : ofZero Tryz.prog 2 = some [.v (Value.int IntKind.i64 0)] := by kernel_rfl
theorem sz3 : sizeT Tryz.prog 3 = some 1 := by kernel_rfl
theorem kt3 : kindT Tryz.prog 3 = some false := by kernel_rfl
theorem oz3 : ofZero Tryz.prog 3 = some [.v (Value.int IntKind.i64 0)] := by kernel_rfl
theorem sz4 : sizeT Tryz.prog 4 = some 1 := by kernel_rfl
theorem kt4 : kindT Tryz.prog 4 = some false := by kernel_rfl
theorem un4 : Tryz.prog.underlying 4 = some .bool := by kernel_rfl
theorem oz4 : ofZero Tryz.prog 4 = some [.v (Value.bool false)] := by kernel_rfl
theorem sz5 : sizeT Tryz.prog 5 = some 1 := by kernel_rfl
theorem kt5 : kindT Tryz.prog 5 = some false := by kernel_rfl
theorem oz5 : ofZero Tryz.prog 5 = some [.v (Value.int IntKind.u8 0)] := by kernel_rfl
theorem sz9 : sizeT Tryz.prog 9 = some 1 := by kernel_rfl
theorem kt9 : kindT Tryz.prog 9 = some false := by kernel_rfl
theorem isr9 : isStr Tryz.prog 9 = true := by kernel_rfl
theorem oz9 : ofZero Tryz.prog 9 = some [.v (Value.string { data := #[] })] := by kernel_rfl
theorem sz20 : sizeT Tryz.prog 20 = some 1 := by kernel_rfl
theorem kt20 : kindT Tryz.prog 20 = some false := by kernel_rfl
theorem iif20 : isIf Tryz.prog 20 = true := by kernel_rfl
theorem sz21 : sizeT Tryz.prog 21 = some 1 := by kernel_rfl
theorem kt21 : kindT Tryz.prog 21 = some false := by kernel_rfl
theorem oz21 : ofZero Tryz.prog 21 = some [.v (Value.int IntKind.i32 0)] := by kernel_rfl
theorem sz23 : sizeT Tryz.prog 23 = some 3 := by kernel_rfl
theorem kt23 : kindT Tryz.prog 23 = some true := by kernel_rfl
theorem pl23 : placesT Tryz.prog 23 = some [(0, 1), (1, 1), (2, 1)] := by kernel_rfl
theorem fd23x0 : fieldOf Tryz.prog 23 0 = some (0, 5, 1) := by kernel_rfl
theorem fd23x1 : fieldOf Tryz.prog 23 1 = some (1, 2, 1) := by kernel_rfl
theorem fd23x2 : fieldOf Tryz.prog 23 2 = some (2, 9, 1) := by kernel_rfl
theorem oz23 : ofZero Tryz.prog 23 = some [.v (Value.int IntKind.u8 0), .v (Value.int IntKind.i64 0), .v (Value.string { data := #[] })] := by kernel_rfl
theorem sz24 : sizeT Tryz.prog 24 = some 1 := by kernel_rfl
theorem kt24 : kindT Tryz.prog 24 = some false := by kernel_rfl
theorem isl24 : isSl Tryz.prog 24 = true := by kernel_rfl
theorem el24 : elT Tryz.prog 24 = some 11 := by kernel_rfl
theorem ix24 : ixT Tryz.prog 24 = some (none, 11) := by kernel_rfl
theorem ap24 : apT Tryz.prog 24 = some (26, 11, 136) := by kernel_rfl
theorem oz24 : ofZero Tryz.prog 24 = some [.v (Value.slice none 0 0)] := by kernel_rfl
theorem sz26 : sizeT Tryz.prog 26 = some 11 := by kernel_rfl
theorem kt26 : kindT Tryz.prog 26 = some true := by kernel_rfl
theorem pl26 : placesT Tryz.prog 26 = some [(0, 1), (1, 1), (2, 1), (3, 3), (6, 1), (7, 1), (8, 1), (9, 1), (10, 1)] := by kernel_rfl
theorem fd26x0 : fieldOf Tryz.prog 26 0 = some (0, 5, 1) := by kernel_rfl
theorem fd26x1 : fieldOf Tryz.prog 26 1 = some (1, 9, 1) := by kernel_rfl
theorem fd26x2 : fieldOf Tryz.prog 26 2 = some (2, 4, 1) := by kernel_rfl
theorem fd26x3 : fieldOf Tryz.prog 26 3 = some (3, 23, 3) := by kernel_rfl
theorem fd26x4 : fieldOf Tryz.prog 26 4 = some (6, 9, 1) := by kernel_rfl
theorem fd26x5 : fieldOf Tryz.prog 26 5 = some (7, 9, 1) := by kernel_rfl
theorem fd26x6 : fieldOf Tryz.prog 26 6 = some (8, 3, 1) := by kernel_rfl
theorem fd26x7 : fieldOf Tryz.prog 26 7 = some (9, 3, 1) := by kernel_rfl
theorem fd26x8 : fieldOf Tryz.prog 26 8 = some (10, 24, 1) := by kernel_rfl
theorem oz26 : ofZero Tryz.prog 26 = some [.v (Value.int IntKind.u8 0), .v (Value.string { data := #[] }), .v (Value.bool false), .v (Value.int IntKind.u8 0), .v (Value.int IntKind.i64 0), .v (Value.string { data := #[] }), .v (Value.string { data := #[] }), .v (Value.string { data := #[] }), .v (Value.int IntKind.i64 0), .v (Value.int IntKind.i64 0), .v (Value.slice none 0 0)] := by kernel_rfl
theorem sz29 : sizeT Tryz.prog 29 = some 1 := by kernel_rfl
theorem kt29 : kindT Tryz.prog 29 = some false := by kernel_rfl
theorem isl29 : isSl Tryz.prog 29 = true := by kernel_rfl
theorem el29 : elT Tryz.prog 29 = some 3 := by kernel_rfl
theorem ix29 : ixT Tryz.prog 29 = some (none, 3) := by kernel_rfl
theorem ap29 : apT Tryz.prog 29 = some (23, 3, 32) := by kernel_rfl
theorem oz29 : ofZero Tryz.prog 29 = some [.v (Value.slice none 0 0)] := by kernel_rfl
theorem sz39 : sizeT Tryz.prog 39 = some 3 := by kernel_rfl
theorem kt39 : kindT Tryz.prog 39 = some true := by kernel_rfl
theorem pl39 : placesT Tryz.prog 39 = some [(0, 1), (1, 1), (2, 1)] := by kernel_rfl
theorem fd39x0 : fieldOf Tryz.prog 39 0 = some (0, 9, 1) := by kernel_rfl
theorem fd39x1 : fieldOf Tryz.prog 39 1 = some (1, 9, 1) := by kernel_rfl
theorem fd39x2 : fieldOf Tryz.prog 39 2 = some (2, 4, 1) := by kernel_rfl
theorem oz39 : ofZero Tryz.prog 39 = some [.v (Value.string { data := #[] }), .v (Value.string { data := #[] }), .v (Value.bool false)] := by kernel_rfl
theorem sz46 : sizeT Tryz.prog 46 = some 1 := by kernel_rfl
theorem kt46 : kindT Tryz.prog 46 = some false := by kernel_rfl
theorem isl46 : isSl Tryz.prog 46 = true := by kernel_rfl
theorem el46 : elT Tryz.prog 46 = some 3 := by kernel_rfl
theorem ix46 : ixT Tryz.prog 46 = some (none, 3) := by kernel_rfl
theorem ap46 : apT Tryz.prog 46 = some (39, 3, 40) := by kernel_rfl
theorem oz46 : ofZero Tryz.prog 46 = some [.v (Value.slice none 0 0)] := by kernel_rfl
theorem sz49 : sizeT Tryz.prog 49 = some 4 := by kernel_rfl
theorem kt49 : kindT Tryz.prog 49 = some true := by kernel_rfl
theorem pl49 : placesT Tryz.prog 49 = some [(0, 1), (1, 1), (2, 1), (3, 1)] := by kernel_rfl
theorem fd49x0 : fieldOf Tryz.prog 49 0 = some (0, 9, 1) := by kernel_rfl
theorem fd49x1 : fieldOf Tryz.prog 49 1 = some (1, 5, 1) := by kernel_rfl
theorem fd49x2 : fieldOf Tryz.prog 49 2 = some (2, 3, 1) := by kernel_rfl
theorem fd49x3 : fieldOf Tryz.prog 49 3 = some (3, 3, 1) := by kernel_rfl
theorem oz49 : ofZero Tryz.prog 49 = some [.v (Value.string { data := #[] }), .v (Value.int IntKind.u8 0), .v (Value.int IntKind.i64 0), .v (Value.int IntKind.i64 0)] := by kernel_rfl
theorem sz50 : sizeT Tryz.prog 50 = some 1 := by kernel_rfl
theorem kt50 : kindT Tryz.prog 50 = some false := by kernel_rfl
theorem isl50 : isSl Tryz.prog 50 = true := by kernel_rfl
theorem el50 : elT Tryz.prog 50 = some 4 := by kernel_rfl
theorem ix50 : ixT Tryz.prog 50 = some (none, 4) := by kernel_rfl
theorem ap50 : apT Tryz.prog 50 = some (49, 4, 40) := by kernel_rfl
theorem oz50 : ofZero Tryz.prog 50 = some [.v (Value.slice none 0 0)] := by kernel_rfl
theorem sz51 : sizeT Tryz.prog 51 = some 1 := by kernel_rfl
theorem kt51 : kindT Tryz.prog 51 = some false := by kernel_rfl
theorem oz51 : ofZero Tryz.prog 51 = some [.v (Value.int IntKind.u32 0)] := by kernel_rfl
theorem sz53 : sizeT Tryz.prog 53 = some 5 := by kernel_rfl
theorem kt53 : kindT Tryz.prog 53 = some true := by kernel_rfl
theorem pl53 : placesT Tryz.prog 53 = some [(0, 1), (1, 1), (2, 1), (3, 1), (4, 1)] := by kernel_rfl
theorem fd53x0 : fieldOf Tryz.prog 53 0 = some (0, 9, 1) := by kernel_rfl
theorem fd53x1 : fieldOf Tryz.prog 53 1 = some (1, 50, 1) := by kernel_rfl
theorem fd53x2 : fieldOf Tryz.prog 53 2 = some (2, 51, 1) := by kernel_rfl
theorem fd53x3 : fieldOf Tryz.prog 53 3 = some (3, 3, 1) := by kernel_rfl
theorem fd53x4 : fieldOf Tryz.prog 53 4 = some (4, 3, 1) := by kernel_rfl
theorem oz53 : ofZero Tryz.prog 53 = some [.v (Value.string { data := #[] }), .v (Value.slice none 0 0), .v (Value.int IntKind.u32 0), .v (Value.int IntKind.i64 0), .v (Value.int IntKind.i64 0)] := by kernel_rfl
theorem sz54 : sizeT Tryz.prog 54 = some 1 := by kernel_rfl
theorem kt54 : kindT Tryz.prog 54 = some false := by kernel_rfl
theorem isl54 : isSl Tryz.prog 54 = true := by kernel_rfl
theorem el54 : elT Tryz.prog 54 = some 5 := by kernel_rfl
theorem ix54 : ixT Tryz.prog 54 = some (none, 5) := by kernel_rfl
theorem ap54 : apT Tryz.prog 54 = some (53, 5, 64) := by kernel_rfl
theorem oz54 : ofZero Tryz.prog 54 = some [.v (Value.slice none 0 0)] := by kernel_rfl
theorem sz55 : sizeT Tryz.prog 55 = some 1 := by kernel_rfl
theorem kt55 : kindT Tryz.prog 55 = some false := by kernel_rfl
theorem isl55 : isSl Tryz.prog 55 = true := by kernel_rfl
theorem el55 : elT Tryz.prog 55 = some 1 := by kernel_rfl
theorem ix55 : ixT Tryz.prog 55 = some (none, 1) := by kernel_rfl
theorem ap55 : apT Tryz.prog 55 = some (3, 1, 8) := by kernel_rfl
theorem oz55 : ofZero Tryz.prog 55 = some [.v (Value.slice none 0 0)] := by kernel_rfl
theorem sz57 : sizeT Tryz.prog 57 = some 7 := by kernel_rfl
theorem kt57 : kindT Tryz.prog 57 = some true := by kernel_rfl
theorem pl57 : placesT Tryz.prog 57 = some [(0, 1), (1, 1), (2, 1), (3, 1), (4, 1), (5, 1), (6, 1)] := by kernel_rfl
theorem fd57x0 : fieldOf Tryz.prog 57 0 = some (0, 9, 1) := by kernel_rfl
theorem fd57x1 : fieldOf Tryz.prog 57 1 = some (1, 3, 1) := by kernel_rfl
theorem fd57x2 : fieldOf Tryz.prog 57 2 = some (2, 55, 1) := by kernel_rfl
theorem fd57x3 : fieldOf Tryz.prog 57 3 = some (3, 51, 1) := by kernel_rfl
theorem fd57x4 : fieldOf Tryz.prog 57 4 = some (4, 3, 1) := by kernel_rfl
theorem fd57x5 : fieldOf Tryz.prog 57 5 = some (5, 3, 1) := by kernel_rfl
theorem fd57x6 : fieldOf Tryz.prog 57 6 = some (6, 55, 1) := by kernel_rfl
theorem oz57 : ofZero Tryz.prog 57 = some [.v (Value.string { data := #[] }), .v (Value.int IntKind.i64 0), .v (Value.slice none 0 0), .v (Value.int IntKind.u32 0), .v (Value.int IntKind.i64 0), .v (Value.int IntKind.i64 0), .v (Value.slice none 0 0)] := by kernel_rfl
theorem sz58 : sizeT Tryz.prog 58 = some 1 := by kernel_rfl
theorem kt58 : kindT Tryz.prog 58 = some false := by kernel_rfl
theorem isl58 : isSl Tryz.prog 58 = true := by kernel_rfl
theorem el58 : elT Tryz.prog 58 = some 7 := by kernel_rfl
theorem ix58 : ixT Tryz.prog 58 = some (none, 7) := by kernel_rfl
theorem ap58 : apT Tryz.prog 58 = some (57, 7, 96) := by kernel_rfl
theorem oz58 : ofZero Tryz.prog 58 = some [.v (Value.slice none 0 0)] := by kernel_rfl
theorem sz60 : sizeT Tryz.prog 60 = some 2 := by kernel_rfl
theorem kt60 : kindT Tryz.prog 60 = some true := by kernel_rfl
theorem pl60 : placesT Tryz.prog 60 = some [(0, 1), (1, 1)] := by kernel_rfl
theorem fd60x0 : fieldOf Tryz.prog 60 0 = some (0, 54, 1) := by kernel_rfl
theorem fd60x1 : fieldOf Tryz.prog 60 1 = some (1, 58, 1) := by kernel_rfl
theorem oz60 : ofZero Tryz.prog 60 = some [.v (Value.slice none 0 0), .v (Value.slice none 0 0)] := by kernel_rfl
theorem sz61 : sizeT Tryz.prog 61 = some 1 := by kernel_rfl
theorem kt61 : kindT Tryz.prog 61 = some false := by kernel_rfl
theorem isl61 : isSl Tryz.prog 61 = true := by kernel_rfl
theorem el61 : elT Tryz.prog 61 = some 12 := by kernel_rfl
theorem ix61 : ixT Tryz.prog 61 = some (none, 12) := by kernel_rfl
theorem ap61 : apT Tryz.prog 61 = some (104, 12, 152) := by kernel_rfl
theorem oz61 : ofZero Tryz.prog 61 = some [.v (Value.slice none 0 0)] := by kernel_rfl
theorem sz62 : sizeT Tryz.prog 62 = some 1 := by kernel_rfl
theorem kt62 : kindT Tryz.prog 62 = some false := by kernel_rfl
theorem isl62 : isSl Tryz.prog 62 = true := by kernel_rfl
theorem el62 : elT Tryz.prog 62 = some 2 := by kernel_rfl
theorem ix62 : ixT Tryz.prog 62 = some (none, 2) := by kernel_rfl
theorem ap62 : apT Tryz.prog 62 = some (164, 2, 32) := by kernel_rfl
theorem oz62 : ofZero Tryz.prog 62 = some [.v (Value.slice none 0 0)] := by kernel_rfl
theorem sz63 : sizeT Tryz.prog 63 = some 1 := by kernel_rfl
theorem kt63 : kindT Tryz.prog 63 = some false := by kernel_rfl
theorem ipt63 : isPt Tryz.prog 63 = true := by kernel_rfl
theorem ips63 : isPs Tryz.prog 63 = true := by kernel_rfl
theorem oz63 : ofZero Tryz.prog 63 = some [.v (Value.pointer none)] := by kernel_rfl
theorem sz64 : sizeT Tryz.prog 64 = some 1 := by kernel_rfl
theorem kt64 : kindT Tryz.prog 64 = some false := by kernel_rfl
theorem isl64 : isSl Tryz.prog 64 = true := by kernel_rfl
theorem el64 : elT Tryz.prog 64 = some 3 := by kernel_rfl
theorem ix64 : ixT Tryz.prog 64 = some (none, 3) := by kernel_rfl
theorem ap64 : apT Tryz.prog 64 = some (107, 3, 32) := by kernel_rfl
theorem oz64 : ofZero Tryz.prog 64 = some [.v (Value.slice none 0 0)] := by kernel_rfl
theorem sz66 : sizeT Tryz.prog 66 = some 8 := by kernel_rfl
theorem kt66 : kindT Tryz.prog 66 = some true := by kernel_rfl
theorem pl66 : placesT Tryz.prog 66 = some [(0, 1), (1, 1), (2, 1), (3, 1), (4, 1), (5, 1), (6, 1), (7, 1)] := by kernel_rfl
theorem fd66x0 : fieldOf Tryz.prog 66 0 = some (0, 4, 1) := by kernel_rfl
theorem fd66x1 : fieldOf Tryz.prog 66 1 = some (1, 4, 1) := by kernel_rfl
theorem fd66x2 : fieldOf Tryz.prog 66 2 = some (2, 61, 1) := by kernel_rfl
theorem fd66x3 : fieldOf Tryz.prog 66 3 = some (3, 62, 1) := by kernel_rfl
theorem fd66x4 : fieldOf Tryz.prog 66 4 = some (4, 63, 1) := by kernel_rfl
theorem fd66x5 : fieldOf Tryz.prog 66 5 = some (5, 24, 1) := by kernel_rfl
theorem fd66x6 : fieldOf Tryz.prog 66 6 = some (6, 64, 1) := by kernel_rfl
theorem fd66x7 : fieldOf Tryz.prog 66 7 = some (7, 3, 1) := by kernel_rfl
theorem oz66 : ofZero Tryz.prog 66 = some [.v (Value.bool false), .v (Value.bool false), .v (Value.slice none 0 0), .v (Value.slice none 0 0), .v (Value.pointer none), .v (Value.slice none 0 0), .v (Value.slice none 0 0), .v (Value.int IntKind.i64 0)] := by kernel_rfl
theorem sz69 : sizeT Tryz.prog 69 = some 1 := by kernel_rfl
theorem kt69 : kindT Tryz.prog 69 = some false := by kernel_rfl
theorem isl69 : isSl Tryz.prog 69 = true := by kernel_rfl
theorem el69 : elT Tryz.prog 69 = some 1 := by kernel_rfl
theorem ix69 : ixT Tryz.prog 69 = some (none, 1) := by kernel_rfl
theorem ap69 : apT Tryz.prog 69 = some (9, 1, 16) := by kernel_rfl
theorem oz69 : ofZero Tryz.prog 69 = some [.v (Value.slice none 0 0)] := by kernel_rfl
theorem sz70 : sizeT Tryz.prog 70 = some 1 := by kernel_rfl
theorem kt70 : kindT Tryz.prog 70 = some false := by kernel_rfl
theorem isl70 : isSl Tryz.prog 70 = true := by kernel_rfl
theorem el70 : elT Tryz.prog 70 = some 1 := by kernel_rfl
theorem ix70 : ixT Tryz.prog 70 = some (none, 1) := by kernel_rfl
theorem ap70 : apT Tryz.prog 70 = some (5, 1, 1) := by kernel_rfl
theorem oz70 : ofZero Tryz.prog 70 = some [.v (Value.slice none 0 0)] := by kernel_rfl
theorem sz72 : sizeT Tryz.prog 72 = some 11 := by kernel_rfl
theorem kt72 : kindT Tryz.prog 72 = some true := by kernel_rfl
theorem pl72 : placesT Tryz.prog 72 = some [(0, 1), (1, 1), (2, 1), (3, 1), (4, 1), (5, 1), (6, 1), (7, 1), (8, 1), (9, 1), (10, 1)] := by kernel_rfl
theorem fd72x0 : fieldOf Tryz.prog 72 0 = some (0, 4, 1) := by kernel_rfl
theorem fd72x1 : fieldOf Tryz.prog 72 1 = some (1, 55, 1) := by kernel_rfl
theorem fd72x2 : fieldOf Tryz.prog 72 2 = some (2, 24, 1) := by kernel_rfl
theorem fd72x3 : fieldOf Tryz.prog 72 3 = some (3, 69, 1) := by kernel_rfl
theorem fd72x4 : fieldOf Tryz.prog 72 4 = some (4, 70, 1) := by kernel_rfl
theorem fd72x5 : fieldOf Tryz.prog 72 5 = some (5, 24, 1) := by kernel_rfl
theorem fd72x6 : fieldOf Tryz.prog 72 6 = some (6, 4, 1) := by kernel_rfl
theorem fd72x7 : fieldOf Tryz.prog 72 7 = some (7, 24, 1) := by kernel_rfl
theorem fd72x8 : fieldOf Tryz.prog 72 8 = some (8, 24, 1) := by kernel_rfl
theorem fd72x9 : fieldOf Tryz.prog 72 9 = some (9, 64, 1) := by kernel_rfl
theorem fd72x10 : fieldOf Tryz.prog 72 10 = some (10, 3, 1) := by kernel_rfl
theorem oz72 : ofZero Tryz.prog 72 = some [.v (Value.bool false), .v (Value.slice none 0 0), .v (Value.slice none 0 0), .v (Value.slice none 0 0), .v (Value.slice none 0 0), .v (Value.slice none 0 0), .v (Value.bool false), .v (Value.slice none 0 0), .v (Value.slice none 0 0), .v (Value.slice none 0 0), .v (Value.int IntKind.i64 0)] := by kernel_rfl
theorem sz87 : sizeT Tryz.prog 87 = some 1 := by kernel_rfl
theorem kt87 : kindT Tryz.prog 87 = some false := by kernel_rfl
theorem isl87 : isSl Tryz.prog 87 = true := by kernel_rfl
theorem el87 : elT Tryz.prog 87 = some 3 := by kernel_rfl
theorem ix87 : ixT Tryz.prog 87 = some (none, 3) := by kernel_rfl
theorem ap87 : apT Tryz.prog 87 = some (142, 3, 32) := by kernel_rfl
theorem oz87 : ofZero Tryz.prog 87 = some [.v (Value.slice none 0 0)] := by kernel_rfl
theorem sz91 : sizeT Tryz.prog 91 = some 4 := by kernel_rfl
theorem kt91 : kindT Tryz.prog 91 = some true := by kernel_rfl
theorem pl91 : placesT Tryz.prog 91 = some [(0, 1), (1, 1), (2, 1), (3, 1)] := by kernel_rfl
theorem fd91x0 : fieldOf Tryz.prog 91 0 = some (0, 87, 1) := by kernel_rfl
theorem fd91x1 : fieldOf Tryz.prog 91 1 = some (1, 3, 1) := by kernel_rfl
theorem fd91x2 : fieldOf Tryz.prog 91 2 = some (2, 3, 1) := by kernel_rfl
theorem fd91x3 : fieldOf Tryz.prog 91 3 = some (3, 3, 1) := by kernel_rfl
theorem oz91 : ofZero Tryz.prog 91 = some [.v (Value.slice none 0 0), .v (Value.int IntKind.i64 0), .v (Value.int IntKind.i64 0), .v (Value.int IntKind.i64 0)] := by kernel_rfl
theorem sz97 : sizeT Tryz.prog 97 = some 4 := by kernel_rfl
theorem kt97 : kindT Tryz.prog 97 = some true := by kernel_rfl
theorem pl97 : placesT Tryz.prog 97 = some [(0, 2), (2, 1), (3, 1)] := by kernel_rfl
theorem fd97x0 : fieldOf Tryz.prog 97 0 = some (0, 60, 2) := by kernel_rfl
theorem fd97x1 : fieldOf Tryz.prog 97 1 = some (2, 62, 1) := by kernel_rfl
theorem fd97x2 : fieldOf Tryz.prog 97 2 = some (3, 55, 1) := by kernel_rfl
theorem oz97 : ofZero Tryz.prog 97 = some [.v (Value.slice none 0 0), .v (Value.slice none 0 0), .v (Value.slice none 0 0), .v (Value.slice none 0 0)] := by kernel_rfl
theorem sz104 : sizeT Tryz.prog 104 = some 12 := by kernel_rfl
theorem kt104 : kindT Tryz.prog 104 = some true := by kernel_rfl
theorem pl104 : placesT Tryz.prog 104 = some [(0, 11), (11, 1)] := by kernel_rfl
theorem fd104x0 : fieldOf Tryz.prog 104 0 = some (0, 26, 11) := by kernel_rfl
theorem fd104x1 : fieldOf Tryz.prog 104 1 = some (11, 9, 1) := by kernel_rfl
theorem oz104 : ofZero Tryz.prog 104 = some [.v (Value.int IntKind.u8 0), .v (Value.string { data := #[] }), .v (Value.bool false), .v (Value.int IntKind.u8 0), .v (Value.int IntKind.i64 0), .v (Value.string { data := #[] }), .v (Value.string { data := #[] }), .v (Value.string { data := #[] }), .v (Value.int IntKind.i64 0), .v (Value.int IntKind.i64 0), .v (Value.slice none 0 0), .v (Value.string { data := #[] })] := by kernel_rfl
theorem sz107 : sizeT Tryz.prog 107 = some 3 := by kernel_rfl
theorem kt107 : kindT Tryz.prog 107 = some true := by kernel_rfl
theorem pl107 : placesT Tryz.prog 107 = some [(0, 1), (1, 1), (2, 1)] := by kernel_rfl
theorem fd107x0 : fieldOf Tryz.prog 107 0 = some (0, 9, 1) := by kernel_rfl
theorem fd107x1 : fieldOf Tryz.prog 107 1 = some (1, 3, 1) := by kernel_rfl
theorem fd107x2 : fieldOf Tryz.prog 107 2 = some (2, 4, 1) := by kernel_rfl
theorem oz107 : ofZero Tryz.prog 107 = some [.v (Value.string { data := #[] }), .v (Value.int IntKind.i64 0), .v (Value.bool false)] := by kernel_rfl
theorem sz110 : sizeT Tryz.prog 110 = some 1 := by kernel_rfl
theorem kt110 : kindT Tryz.prog 110 = some false := by kernel_rfl
theorem isl110 : isSl Tryz.prog 110 = true := by kernel_rfl
theorem el110 : elT Tryz.prog 110 = some 1 := by kernel_rfl
theorem ix110 : ixT Tryz.prog 110 = some (none, 1) := by kernel_rfl
theorem ap110 : apT Tryz.prog 110 = some (55, 1, 24) := by kernel_rfl
theorem oz110 : ofZero Tryz.prog 110 = some [.v (Value.slice none 0 0)] := by kernel_rfl
theorem sz111 : sizeT Tryz.prog 111 = some 1 := by kernel_rfl
theorem kt111 : kindT Tryz.prog 111 = some false := by kernel_rfl
theorem isl111 : isSl Tryz.prog 111 = true := by kernel_rfl
theorem el111 : elT Tryz.prog 111 = some 5 := by kernel_rfl
theorem ix111 : ixT Tryz.prog 111 = some (none, 5) := by kernel_rfl
theorem ap111 : apT Tryz.prog 111 = some (175, 5, 40) := by kernel_rfl
theorem oz111 : ofZero Tryz.prog 111 = some [.v (Value.slice none 0 0)] := by kernel_rfl
theorem sz113 : sizeT Tryz.prog 113 = some 4 := by kernel_rfl
theorem kt113 : kindT Tryz.prog 113 = some true := by kernel_rfl
theorem pl113 : placesT Tryz.prog 113 = some [(0, 1), (1, 1), (2, 1), (3, 1)] := by kernel_rfl
theorem fd113x0 : fieldOf Tryz.prog 113 0 = some (0, 55, 1) := by kernel_rfl
theorem fd113x1 : fieldOf Tryz.prog 113 1 = some (1, 110, 1) := by kernel_rfl
theorem fd113x2 : fieldOf Tryz.prog 113 2 = some (2, 55, 1) := by kernel_rfl
theorem fd113x3 : fieldOf Tryz.prog 113 3 = some (3, 111, 1) := by kernel_rfl
theorem oz113 : ofZero Tryz.prog 113 = some [.v (Value.slice none 0 0), .v (Value.slice none 0 0), .v (Value.slice none 0 0), .v (Value.slice none 0 0)] := by kernel_rfl
theorem sz116 : sizeT Tryz.prog 116 = some 13 := by kernel_rfl
theorem kt116 : kindT Tryz.prog 116 = some true := by kernel_rfl
theorem pl116 : placesT Tryz.prog 116 = some [(0, 11), (11, 1), (12, 1)] := by kernel_rfl
theorem fd116x0 : fieldOf Tryz.prog 116 0 = some (0, 72, 11) := by kernel_rfl
theorem fd116x1 : fieldOf Tryz.prog 116 1 = some (11, 3, 1) := by kernel_rfl
theorem fd116x2 : fieldOf Tryz.prog 116 2 = some (12, 55, 1) := by kernel_rfl
theorem oz116 : ofZero Tryz.prog 116 = some [.v (Value.bool false), .v (Value.slice none 0 0), .v (Value.slice none 0 0), .v (Value.slice none 0 0), .v (Value.slice none 0 0), .v (Value.slice none 0 0), .v (Value.bool false), .v (Value.slice none 0 0), .v (Value.slice none 0 0), .v (Value.slice none 0 0), .v (Value.int IntKind.i64 0), .v (Value.int IntKind.i64 0), .v (Value.slice none 0 0)] := by kernel_rfl
theorem sz126 : sizeT Tryz.prog 126 = some 1 := by kernel_rfl
theorem kt126 : kindT Tryz.prog 126 = some false := by kernel_rfl
theorem oz126 : ofZero Tryz.prog 126 = some [.v (Value.int IntKind.u64 0)] := by kernel_rfl
theorem sz136 : sizeT Tryz.prog 136 = some 1 := by kernel_rfl
theorem kt136 : kindT Tryz.prog 136 = some false := by kernel_rfl
theorem oz136 : ofZero Tryz.prog 136 = some [.v (Value.int IntKind.i64 0)] := by kernel_rfl
theorem sz139 : sizeT Tryz.prog 139 = some 1 := by kernel_rfl
theorem kt139 : kindT Tryz.prog 139 = some false := by kernel_rfl
theorem oz139 : ofZero Tryz.prog 139 = some [.v (Value.int IntKind.u64 0)] := by kernel_rfl
theorem sz142 : sizeT Tryz.prog 142 = some 3 := by kernel_rfl
theorem kt142 : kindT Tryz.prog 142 = some true := by kernel_rfl
theorem pl142 : placesT Tryz.prog 142 = some [(0, 1), (1, 1), (2, 1)] := by kernel_rfl
theorem fd142x0 : fieldOf Tryz.prog 142 0 = some (0, 5, 1) := by kernel_rfl
theorem fd142x1 : fieldOf Tryz.prog 142 1 = some (1, 9, 1) := by kernel_rfl
theorem fd142x2 : fieldOf Tryz.prog 142 2 = some (2, 3, 1) := by kernel_rfl
theorem oz142 : ofZero Tryz.prog 142 = some [.v (Value.int IntKind.u8 0), .v (Value.string { data := #[] }), .v (Value.int IntKind.i64 0)] := by kernel_rfl
theorem sz164 : sizeT Tryz.prog 164 = some 2 := by kernel_rfl
theorem kt164 : kindT Tryz.prog 164 = some true := by kernel_rfl
theorem pl164 : placesT Tryz.prog 164 = some [(0, 1), (1, 1)] := by kernel_rfl
theorem fd164x0 : fieldOf Tryz.prog 164 0 = some (0, 9, 1) := by kernel_rfl
theorem fd164x1 : fieldOf Tryz.prog 164 1 = some (1, 9, 1) := by kernel_rfl
theorem oz164 : ofZero Tryz.prog 164 = some [.v (Value.string { data := #[] }), .v (Value.string { data := #[] })] := by kernel_rfl
theorem sz175 : sizeT Tryz.prog 175 = some 5 := by kernel_rfl
theorem kt175 : kindT Tryz.prog 175 = some true := by kernel_rfl
theorem pl175 : placesT Tryz.prog 175 = some [(0, 1), (1, 1), (2, 1), (3, 1), (4, 1)] := by kernel_rfl
theorem oz175 : ofZero Tryz.prog 175 = some [.v (Value.int IntKind.i64 0), .v (Value.int IntKind.i64 0), .v (Value.int IntKind.i64 0), .v (Value.int IntKind.i64 0), .v (Value.int IntKind.i64 0)] := by kernel_rfl
theorem sz183 : sizeT Tryz.prog 183 = some 1 := by kernel_rfl
theorem kt183 : kindT Tryz.prog 183 = some false := by kernel_rfl
theorem oz183 : ofZero Tryz.prog 183 = some [.v (Value.int IntKind.i64 0)] := by kernel_rfl
theorem sz195 : sizeT Tryz.prog 195 = some 4 := by kernel_rfl
theorem kt195 : kindT Tryz.prog 195 = some true := by kernel_rfl
theorem pl195 : placesT Tryz.prog 195 = some [(0, 3), (3, 1)] := by kernel_rfl
theorem fd195x0 : fieldOf Tryz.prog 195 0 = some (0, 23, 3) := by kernel_rfl
theorem fd195x1 : fieldOf Tryz.prog 195 1 = some (3, 4, 1) := by kernel_rfl
theorem oz195 : ofZero Tryz.prog 195 = some [.v (Value.int IntKind.u8 0), .v (Value.int IntKind.i64 0), .v (Value.string { data := #[] }), .v (Value.bool false)] := by kernel_rfl
theorem sz197 : sizeT Tryz.prog 197 = some 1 := by kernel_rfl
theorem kt197 : kindT Tryz.prog 197 = some false := by kernel_rfl
theorem isl197 : isSl Tryz.prog 197 = true := by kernel_rfl
theorem el197 : elT Tryz.prog 197 = some 1 := by kernel_rfl
theorem ix197 : ixT Tryz.prog 197 = some (none, 1) := by kernel_rfl
theorem ap197 : apT Tryz.prog 197 = some (29, 1, 24) := by kernel_rfl
theorem oz197 : ofZero Tryz.prog 197 = some [.v (Value.slice none 0 0)] := by kernel_rfl
theorem sz199 : sizeT Tryz.prog 199 = some 1 := by kernel_rfl
theorem kt199 : kindT Tryz.prog 199 = some false := by kernel_rfl
theorem ipt199 : isPt Tryz.prog 199 = true := by kernel_rfl
theorem ips199 : isPs Tryz.prog 199 = true := by kernel_rfl
theorem oz199 : ofZero Tryz.prog 199 = some [.v (Value.pointer none)] := by kernel_rfl
theorem sz201 : sizeT Tryz.prog 201 = some 2 := by kernel_rfl
theorem kt201 : kindT Tryz.prog 201 = some true := by kernel_rfl
theorem pl201 : placesT Tryz.prog 201 = some [(0, 1), (1, 1)] := by kernel_rfl
theorem fd201x0 : fieldOf Tryz.prog 201 0 = some (0, 199, 1) := by kernel_rfl
theorem fd201x1 : fieldOf Tryz.prog 201 1 = some (1, 70, 1) := by kernel_rfl
theorem oz201 : ofZero Tryz.prog 201 = some [.v (Value.pointer none), .v (Value.slice none 0 0)] := by kernel_rfl
theorem sz203 : sizeT Tryz.prog 203 = some 1 := by kernel_rfl
theorem kt203 : kindT Tryz.prog 203 = some false := by kernel_rfl
theorem iif203 : isIf Tryz.prog 203 = true := by kernel_rfl
theorem sz216 : sizeT Tryz.prog 216 = some 32 := by kernel_rfl
theorem kt216 : kindT Tryz.prog 216 = some true := by kernel_rfl
theorem ar216 : arT Tryz.prog 216 = some (32, 5, 1) := by kernel_rfl
theorem ix216 : ixT Tryz.prog 216 = some (some 32, 1) := by kernel_rfl
theorem oz216 : ofZero Tryz.prog 216 = some [.v (Value.int IntKind.u8 0), .v (Value.int IntKind.u8 0), .v (Value.int IntKind.u8 0), .v (Value.int IntKind.u8 0), .v (Value.int IntKind.u8 0), .v (Value.int IntKind.u8 0), .v (Value.int IntKind.u8 0), .v (Value.int IntKind.u8 0), .v (Value.int IntKind.u8 0), .v (Value.int IntKind.u8 0), .v (Value.int IntKind.u8 0), .v (Value.int IntKind.u8 0), .v (Value.int IntKind.u8 0), .v (Value.int IntKind.u8 0), .v (Value.int IntKind.u8 0), .v (Value.int IntKind.u8 0), .v (Value.int IntKind.u8 0), .v (Value.int IntKind.u8 0), .v (Value.int IntKind.u8 0), .v (Value.int IntKind.u8 0), .v (Value.int IntKind.u8 0), .v (Value.int IntKind.u8 0), .v (Value.int IntKind.u8 0), .v (Value.int IntKind.u8 0), .v (Value.int IntKind.u8 0), .v (Value.int IntKind.u8 0), .v (Value.int IntKind.u8 0), .v (Value.int IntKind.u8 0), .v (Value.int IntKind.u8 0), .v (Value.int IntKind.u8 0), .v (Value.int IntKind.u8 0), .v (Value.int IntKind.u8 0)] := by kernel_rfl
theorem sz223 : sizeT Tryz.prog 223 = some 1 := by kernel_rfl
theorem kt223 : kindT Tryz.prog 223 = some false := by kernel_rfl
theorem oz223 : ofZero Tryz.prog 223 = some [.v (Value.int IntKind.u64 0)] := by kernel_rfl
theorem sz227 : sizeT Tryz.prog 227 = some 1 := by kernel_rfl
theorem kt227 : kindT Tryz.prog 227 = some false := by kernel_rfl
theorem ipt227 : isPt Tryz.prog 227 = true := by kernel_rfl
theorem ips227 : isPs Tryz.prog 227 = true := by kernel_rfl
theorem oz227 : ofZero Tryz.prog 227 = some [.v (Value.pointer none)] := by kernel_rfl
theorem sz230 : sizeT Tryz.prog 230 = some 1 := by kernel_rfl
theorem kt230 : kindT Tryz.prog 230 = some false := by kernel_rfl
theorem isl230 : isSl Tryz.prog 230 = true := by kernel_rfl
theorem el230 : elT Tryz.prog 230 = some 4 := by kernel_rfl
theorem ix230 : ixT Tryz.prog 230 = some (none, 4) := by kernel_rfl
theorem ap230 : apT Tryz.prog 230 = some (195, 4, 40) := by kernel_rfl
theorem oz230 : ofZero Tryz.prog 230 = some [.v (Value.slice none 0 0)] := by kernel_rfl
theorem sz237 : sizeT Tryz.prog 237 = some 4 := by kernel_rfl
theorem kt237 : kindT Tryz.prog 237 = some true := by kernel_rfl
theorem pl237 : placesT Tryz.prog 237 = some [(0, 3), (3, 1)] := by kernel_rfl
theorem fd237x0 : fieldOf Tryz.prog 237 0 = some (0, 23, 3) := by kernel_rfl
theorem fd237x1 : fieldOf Tryz.prog 237 1 = some (3, 4, 1) := by kernel_rfl
theorem oz237 : ofZero Tryz.prog 237 = some [.v (Value.int IntKind.u8 0), .v (Value.int IntKind.i64 0), .v (Value.string { data := #[] }), .v (Value.bool false)] := by kernel_rfl
theorem sz239 : sizeT Tryz.prog 239 = some 2 := by kernel_rfl
theorem kt239 : kindT Tryz.prog 239 = some true := by kernel_rfl
theorem pl239 : placesT Tryz.prog 239 = some [(0, 1), (1, 1)] := by kernel_rfl
theorem fd239x0 : fieldOf Tryz.prog 239 0 = some (0, 197, 1) := by kernel_rfl
theorem fd239x1 : fieldOf Tryz.prog 239 1 = some (1, 29, 1) := by kernel_rfl
theorem oz239 : ofZero Tryz.prog 239 = some [.v (Value.slice none 0 0), .v (Value.slice none 0 0)] := by kernel_rfl
theorem sz242 : sizeT Tryz.prog 242 = some 1 := by kernel_rfl
theorem kt242 : kindT Tryz.prog 242 = some false := by kernel_rfl
theorem ipt242 : isPt Tryz.prog 242 = true := by kernel_rfl
theorem ips242 : isPs Tryz.prog 242 = true := by kernel_rfl
theorem oz242 : ofZero Tryz.prog 242 = some [.v (Value.pointer none)] := by kernel_rfl
theorem sz247 : sizeT Tryz.prog 247 = some 1 := by kernel_rfl
theorem kt247 : kindT Tryz.prog 247 = some false := by kernel_rfl
theorem ipt247 : isPt Tryz.prog 247 = true := by kernel_rfl
theorem ips247 : isPs Tryz.prog 247 = true := by kernel_rfl
theorem oz247 : ofZero Tryz.prog 247 = some [.v (Value.pointer none)] := by kernel_rfl
theorem sz254 : sizeT Tryz.prog 254 = some 1 := by kernel_rfl
theorem kt254 : kindT Tryz.prog 254 = some false := by kernel_rfl
theorem isl254 : isSl Tryz.prog 254 = true := by kernel_rfl
theorem el254 : elT Tryz.prog 254 = some 1 := by kernel_rfl
theorem ix254 : ixT Tryz.prog 254 = some (none, 1) := by kernel_rfl
theorem ap254 : apT Tryz.prog 254 = some (139, 1, 8) := by kernel_rfl
theorem oz254 : ofZero Tryz.prog 254 = some [.v (Value.slice none 0 0)] := by kernel_rfl
theorem sz256 : sizeT Tryz.prog 256 = some 2 := by kernel_rfl
theorem kt256 : kindT Tryz.prog 256 = some true := by kernel_rfl
theorem pl256 : placesT Tryz.prog 256 = some [(0, 1), (1, 1)] := by kernel_rfl
theorem fd256x0 : fieldOf Tryz.prog 256 0 = some (0, 3, 1) := by kernel_rfl
theorem fd256x1 : fieldOf Tryz.prog 256 1 = some (1, 254, 1) := by kernel_rfl
theorem oz256 : ofZero Tryz.prog 256 = some [.v (Value.int IntKind.i64 0), .v (Value.slice none 0 0)] := by kernel_rfl
theorem sz265 : sizeT Tryz.prog 265 = some 1 := by kernel_rfl
theorem kt265 : kindT Tryz.prog 265 = some false := by kernel_rfl
theorem isl265 : isSl Tryz.prog 265 = true := by kernel_rfl
theorem el265 : elT Tryz.prog 265 = some 4 := by kernel_rfl
theorem ix265 : ixT Tryz.prog 265 = some (none, 4) := by kernel_rfl
theorem ap265 : apT Tryz.prog 265 = some (237, 4, 40) := by kernel_rfl
theorem oz265 : ofZero Tryz.prog 265 = some [.v (Value.slice none 0 0)] := by kernel_rfl
theorem sz269 : sizeT Tryz.prog 269 = some 1 := by kernel_rfl
theorem kt269 : kindT Tryz.prog 269 = some false := by kernel_rfl
theorem oz269 : ofZero Tryz.prog 269 = some [.v (Value.int IntKind.u8 0)] := by kernel_rfl
theorem sz272 : sizeT Tryz.prog 272 = some 1 := by kernel_rfl
theorem kt272 : kindT Tryz.prog 272 = some false := by kernel_rfl
theorem oz272 : ofZero Tryz.prog 272 = some [.v (Value.pointer none)] := by kernel_rfl
theorem sz295 : sizeT Tryz.prog 295 = some 2 := by kernel_rfl
theorem kt295 : kindT Tryz.prog 295 = some true := by kernel_rfl
theorem pl295 : placesT Tryz.prog 295 = some [(0, 1), (1, 1)] := by kernel_rfl
theorem fd295x0 : fieldOf Tryz.prog 295 0 = some (0, 139, 1) := by kernel_rfl
theorem fd295x1 : fieldOf Tryz.prog 295 1 = some (1, 139, 1) := by kernel_rfl
theorem oz295 : ofZero Tryz.prog 295 = some [.v (Value.int IntKind.u64 0), .v (Value.int IntKind.u64 0)] := by kernel_rfl
theorem sz299 : sizeT Tryz.prog 299 = some 1 := by kernel_rfl
theorem kt299 : kindT Tryz.prog 299 = some false := by kernel_rfl
theorem isl299 : isSl Tryz.prog 299 = true := by kernel_rfl
theorem el299 : elT Tryz.prog 299 = some 1 := by kernel_rfl
theorem ix299 : ixT Tryz.prog 299 = some (none, 1) := by kernel_rfl
theorem ap299 : apT Tryz.prog 299 = some (269, 1, 1) := by kernel_rfl
theorem oz299 : ofZero Tryz.prog 299 = some [.v (Value.slice none 0 0)] := by kernel_rfl
theorem sz307 : sizeT Tryz.prog 307 = some 256 := by kernel_rfl
theorem kt307 : kindT Tryz.prog 307 = some true := by kernel_rfl
theorem ar307 : arT Tryz.prog 307 = some (256, 5, 1) := by kernel_rfl
theorem ix307 : ixT Tryz.prog 307 = some (some 256, 1) := by kernel_rfl
theorem sz309 : sizeT Tryz.prog 309 = some 2 := by kernel_rfl
theorem kt309 : kindT Tryz.prog 309 = some true := by kernel_rfl
theorem pl309 : placesT Tryz.prog 309 = some [(0, 1), (1, 1)] := by kernel_rfl
theorem fd309x0 : fieldOf Tryz.prog 309 0 = some (0, 5, 1) := by kernel_rfl
theorem fd309x1 : fieldOf Tryz.prog 309 1 = some (1, 5, 1) := by kernel_rfl
theorem oz309 : ofZero Tryz.prog 309 = some [.v (Value.int IntKind.u8 0), .v (Value.int IntKind.u8 0)] := by kernel_rfl
theorem sz310 : sizeT Tryz.prog 310 = some 32 := by kernel_rfl
theorem kt310 : kindT Tryz.prog 310 = some true := by kernel_rfl
theorem ar310 : arT Tryz.prog 310 = some (16, 309, 2) := by kernel_rfl
theorem ix310 : ixT Tryz.prog 310 = some (some 16, 2) := by kernel_rfl
theorem oz310 : ofZero Tryz.prog 310 = some [.v (Value.int IntKind.u8 0), .v (Value.int IntKind.u8 0), .v (Value.int IntKind.u8 0), .v (Value.int IntKind.u8 0), .v (Value.int IntKind.u8 0), .v (Value.int IntKind.u8 0), .v (Value.int IntKind.u8 0), .v (Value.int IntKind.u8 0), .v (Value.int IntKind.u8 0), .v (Value.int IntKind.u8 0), .v (Value.int IntKind.u8 0), .v (Value.int IntKind.u8 0), .v (Value.int IntKind.u8 0), .v (Value.int IntKind.u8 0), .v (Value.int IntKind.u8 0), .v (Value.int IntKind.u8 0), .v (Value.int IntKind.u8 0), .v (Value.int IntKind.u8 0), .v (Value.int IntKind.u8 0), .v (Value.int IntKind.u8 0), .v (Value.int IntKind.u8 0), .v (Value.int IntKind.u8 0), .v (Value.int IntKind.u8 0), .v (Value.int IntKind.u8 0), .v (Value.int IntKind.u8 0), .v (Value.int IntKind.u8 0), .v (Value.int IntKind.u8 0), .v (Value.int IntKind.u8 0), .v (Value.int IntKind.u8 0), .v (Value.int IntKind.u8 0), .v (Value.int IntKind.u8 0), .v (Value.int IntKind.u8 0)] := by kernel_rfl
theorem fl23 : flT Tryz.prog 23 = some [(1, 0), (1, 1), (2, 2)] := by kernel_rfl
theorem fl39 : flT Tryz.prog 39 = some [(2, 0), (2, 1), (3, 2)] := by kernel_rfl
theorem fl295 : flT Tryz.prog 295 = some [(1, 0), (1, 1)] := by kernel_rfl
theorem bd5 : bodied Tryz.prog 5 = true := by kernel_rfl
theorem bd6 : bodied Tryz.prog 6 = true := by kernel_rfl
theorem bd7 : bodied Tryz.prog 7 = true := by kernel_rfl
theorem bd8 : bodied Tryz.prog 8 = true := by kernel_rfl
theorem bd9 : bodied Tryz.prog 9 = true := by kernel_rfl
theorem bd10 : bodied Tryz.prog 10 = true := by kernel_rfl
theorem bd11 : bodied Tryz.prog 11 = true := by kernel_rfl
theorem bd12 : bodied Tryz.prog 12 = true := by kernel_rfl
theorem bd13 : bodied Tryz.prog 13 = true := by kernel_rfl
theorem bd14 : bodied Tryz.prog 14 = true := by kernel_rfl
theorem bd15 : bodied Tryz.prog 15 = true := by kernel_rfl
theorem bd16 : bodied Tryz.prog 16 = true := by kernel_rfl
theorem bd17 : bodied Tryz.prog 17 = true := by kernel_rfl
theorem bd18 : bodied Tryz.prog 18 = true := by kernel_rfl
theorem bd19 : bodied Tryz.prog 19 = true := by kernel_rfl
theorem bd20 : bodied Tryz.prog 20 = true := by kernel_rfl
theorem bd21 : bodied Tryz.prog 21 = true := by kernel_rfl
theorem bd22 : bodied Tryz.prog 22 = true := by kernel_rfl
theorem bd23 : bodied Tryz.prog 23 = true := by kernel_rfl
theorem bd24 : bodied Tryz.prog 24 = true := by kernel_rfl
theorem bd25 : bodied Tryz.prog 25 = true := by kernel_rfl
theorem bd26 : bodied Tryz.prog 26 = true := by kernel_rfl
theorem bd27 : bodied Tryz.prog 27 = true := by kernel_rfl
theorem bd28 : bodied Tryz.prog 28 = true := by kernel_rfl
theorem bd29 : bodied Tryz.prog 29 = true := by kernel_rfl
theorem bd30 : bodied Tryz.prog 30 = true := by kernel_rfl
theorem bd31 : bodied Tryz.prog 31 = true := by kernel_rfl
theorem bd32 : bodied Tryz.prog 32 = true := by kernel_rfl
theorem bd33 : bodied Tryz.prog 33 = true := by kernel_rfl
theorem bd34 : bodied Tryz.prog 34 = true := by kernel_rfl
theorem bd36 : bodied Tryz.prog 36 = true := by kernel_rfl
theorem bd37 : bodied Tryz.prog 37 = true := by kernel_rfl
theorem bd38 : bodied Tryz.prog 38 = true := by kernel_rfl
theorem bd39 : bodied Tryz.prog 39 = true := by kernel_rfl
theorem bd40 : bodied Tryz.prog 40 = true := by kernel_rfl
theorem bd41 : bodied Tryz.prog 41 = true := by kernel_rfl
theorem bd42 : bodied Tryz.prog 42 = true := by kernel_rfl
theorem bd43 : bodied Tryz.prog 43 = true := by kernel_rfl
theorem bd44 : bodied Tryz.prog 44 = true := by kernel_rfl
theorem bd45 : bodied Tryz.prog 45 = true := by kernel_rfl
theorem bd46 : bodied Tryz.prog 46 = true := by kernel_rfl
theorem bd47 : bodied Tryz.prog 47 = true := by kernel_rfl
theorem bd48 : bodied Tryz.prog 48 = true := by kernel_rfl
theorem bd49 : bodied Tryz.prog 49 = true := by kernel_rfl
theorem bd50 : bodied Tryz.prog 50 = true := by kernel_rfl
theorem bd51 : bodied Tryz.prog 51 = true := by kernel_rfl
theorem bd52 : bodied Tryz.prog 52 = true := by kernel_rfl
theorem bd53 : bodied Tryz.prog 53 = true := by kernel_rfl
theorem bd54 : bodied Tryz.prog 54 = true := by kernel_rfl
theorem bd55 : bodied Tryz.prog 55 = true := by kernel_rfl
theorem bd56 : bodied Tryz.prog 56 = true := by kernel_rfl
theorem bd57 : bodied Tryz.prog 57 = true := by kernel_rfl
theorem bd58 : bodied Tryz.prog 58 = true := by kernel_rfl
theorem bd59 : bodied Tryz.prog 59 = true := by kernel_rfl
theorem bd60 : bodied Tryz.prog 60 = true := by kernel_rfl
theorem bd61 : bodied Tryz.prog 61 = true := by kernel_rfl
theorem bd62 : bodied Tryz.prog 62 = true := by kernel_rfl
theorem bd63 : bodied Tryz.prog 63 = true := by kernel_rfl
theorem bd64 : bodied Tryz.prog 64 = true := by kernel_rfl
theorem bd65 : bodied Tryz.prog 65 = true := by kernel_rfl
theorem bd66 : bodied Tryz.prog 66 = true := by kernel_rfl
theorem bd67 : bodied Tryz.prog 67 = true := by kernel_rfl
theorem bd68 : bodied Tryz.prog 68 = true := by kernel_rfl
theorem bd69 : bodied Tryz.prog 69 = true := by kernel_rfl
theorem bd70 : bodied Tryz.prog 70 = true := by kernel_rfl
theorem bd71 : bodied Tryz.prog 71 = true := by kernel_rfl
theorem bd72 : bodied Tryz.prog 72 = true := by kernel_rfl
theorem bd73 : bodied Tryz.prog 73 = true := by kernel_rfl
theorem bd74 : bodied Tryz.prog 74 = true := by kernel_rfl
theorem bd75 : bodied Tryz.prog 75 = true := by kernel_rfl
theorem bd76 : bodied Tryz.prog 76 = true := by kernel_rfl
theorem bd77 : bodied Tryz.prog 77 = true := by kernel_rfl
theorem bd78 : bodied Tryz.prog 78 = true := by kernel_rfl
theorem bd79 : bodied Tryz.prog 79 = true := by kernel_rfl
theorem bd80 : bodied Tryz.prog 80 = true := by kernel_rfl
theorem bd81 : bodied Tryz.prog 81 = true := by kernel_rfl
theorem bd82 : bodied Tryz.prog 82 = true := by kernel_rfl
theorem bd83 : bodied Tryz.prog 83 = true := by kernel_rfl
theorem bd84 : bodied Tryz.prog 84 = true := by kernel_rfl
theorem bd85 : bodied Tryz.prog 85 = true := by kernel_rfl
theorem bd86 : bodied Tryz.prog 86 = true := by kernel_rfl
theorem bd87 : bodied Tryz.prog 87 = true := by kernel_rfl
theorem bd88 : bodied Tryz.prog 88 = true := by kernel_rfl
theorem bd89 : bodied Tryz.prog 89 = true := by kernel_rfl
theorem bd90 : bodied Tryz.prog 90 = true := by kernel_rfl
theorem bd91 : bodied Tryz.prog 91 = true := by kernel_rfl
theorem bd92 : bodied Tryz.prog 92 = true := by kernel_rfl
theorem bd93 : bodied Tryz.prog 93 = true := by kernel_rfl
theorem bd94 : bodied Tryz.prog 94 = true := by kernel_rfl
theorem bd95 : bodied Tryz.prog 95 = true := by kernel_rfl
theorem bd96 : bodied Tryz.prog 96 = true := by kernel_rfl
theorem bd97 : bodied Tryz.prog 97 = true := by kernel_rfl
theorem bd98 : bodied Tryz.prog 98 = true := by kernel_rfl
theorem bd99 : bodied Tryz.prog 99 = true := by kernel_rfl
theorem bd100 : bodied Tryz.prog 100 = true := by kernel_rfl
theorem bd101 : bodied Tryz.prog 101 = true := by kernel_rfl
theorem bd102 : bodied Tryz.prog 102 = true := by kernel_rfl
theorem bd103 : bodied Tryz.prog 103 = true := by kernel_rfl
theorem bd104 : bodied Tryz.prog 104 = true := by kernel_rfl
theorem bd105 : bodied Tryz.prog 105 = true := by kernel_rfl
theorem bd106 : bodied Tryz.prog 106 = true := by kernel_rfl
theorem bd107 : bodied Tryz.prog 107 = true := by kernel_rfl
theorem bd108 : bodied Tryz.prog 108 = true := by kernel_rfl
theorem bd109 : bodied Tryz.prog 109 = true := by kernel_rfl
theorem bd110 : bodied Tryz.prog 110 = true := by kernel_rfl
theorem bd111 : bodied Tryz.prog 111 = true := by kernel_rfl
theorem bd112 : bodied Tryz.prog 112 = true := by kernel_rfl
theorem bd113 : bodied Tryz.prog 113 = true := by kernel_rfl
theorem bd114 : bodied Tryz.prog 114 = true := by kernel_rfl
theorem bd115 : bodied Tryz.prog 115 = true := by kernel_rfl
theorem bd116 : bodied Tryz.prog 116 = true := by kernel_rfl
theorem bd117 : bodied Tryz.prog 117 = true := by kernel_rfl
theorem bd118 : bodied Tryz.prog 118 = true := by kernel_rfl
theorem bd119 : bodied Tryz.prog 119 = true := by kernel_rfl
theorem bd120 : bodied Tryz.prog 120 = true := by kernel_rfl
theorem bd121 : bodied Tryz.prog 121 = true := by kernel_rfl
theorem bd122 : bodied Tryz.prog 122 = true := by kernel_rfl
theorem bd123 : bodied Tryz.prog 123 = true := by kernel_rfl
theorem bd124 : bodied Tryz.prog 124 = true := by kernel_rfl
theorem bd125 : bodied Tryz.prog 125 = true := by kernel_rfl
theorem bd126 : bodied Tryz.prog 126 = true := by kernel_rfl
theorem bd127 : bodied Tryz.prog 127 = true := by kernel_rfl
theorem bd128 : bodied Tryz.prog 128 = true := by kernel_rfl
theorem bd129 : bodied Tryz.prog 129 = true := by kernel_rfl
theorem bd130 : bodied Tryz.prog 130 = true := by kernel_rfl
theorem bd131 : bodied Tryz.prog 131 = true := by kernel_rfl
theorem bd132 : bodied Tryz.prog 132 = true := by kernel_rfl
theorem bd133 : bodied Tryz.prog 133 = true := by kernel_rfl
theorem bd134 : bodied Tryz.prog 134 = true := by kernel_rfl
theorem bd135 : bodied Tryz.prog 135 = true := by kernel_rfl
theorem bd136 : bodied Tryz.prog 136 = true := by kernel_rfl
theorem bd137 : bodied Tryz.prog 137 = true := by kernel_rfl
theorem bd138 : bodied Tryz.prog 138 = true := by kernel_rfl
theorem bd139 : bodied Tryz.prog 139 = true := by kernel_rfl
theorem bd140 : bodied Tryz.prog 140 = true := by kernel_rfl
theorem bd141 : bodied Tryz.prog 141 = true := by kernel_rfl
theorem bd142 : bodied Tryz.prog 142 = true := by kernel_rfl
theorem bd143 : bodied Tryz.prog 143 = true := by kernel_rfl
theorem bd144 : bodied Tryz.prog 144 = true := by kernel_rfl
theorem bd145 : bodied Tryz.prog 145 = false := by kernel_rfl
theorem bd146 : bodied Tryz.prog 146 = true := by kernel_rfl
theorem bd147 : bodied Tryz.prog 147 = true := by kernel_rfl
theorem bd148 : bodied Tryz.prog 148 = true := by kernel_rfl
theorem bd149 : bodied Tryz.prog 149 = true := by kernel_rfl
theorem bd150 : bodied Tryz.prog 150 = true := by kernel_rfl
theorem bd151 : bodied Tryz.prog 151 = true := by kernel_rfl
theorem bd152 : bodied Tryz.prog 152 = true := by kernel_rfl
theorem bd153 : bodied Tryz.prog 153 = true := by kernel_rfl
theorem bd154 : bodied Tryz.prog 154 = true := by kernel_rfl
theorem bd155 : bodied Tryz.prog 155 = true := by kernel_rfl
theorem bd156 : bodied Tryz.prog 156 = true := by kernel_rfl
theorem bd157 : bodied Tryz.prog 157 = true := by kernel_rfl
theorem bd158 : bodied Tryz.prog 158 = true := by kernel_rfl
theorem bd159 : bodied Tryz.prog 159 = true := by kernel_rfl
theorem bd160 : bodied Tryz.prog 160 = true := by kernel_rfl
theorem bd161 : bodied Tryz.prog 161 = true := by kernel_rfl
theorem bd162 : bodied Tryz.prog 162 = true := by kernel_rfl
theorem bd163 : bodied Tryz.prog 163 = true := by kernel_rfl
theorem bd164 : bodied Tryz.prog 164 = true := by kernel_rfl
theorem bd165 : bodied Tryz.prog 165 = true := by kernel_rfl
theorem bd166 : bodied Tryz.prog 166 = true := by kernel_rfl
theorem bd167 : bodied Tryz.prog 167 = true := by kernel_rfl
theorem bd168 : bodied Tryz.prog 168 = true := by kernel_rfl
theorem bd169 : bodied Tryz.prog 169 = true := by kernel_rfl
theorem bd170 : bodied Tryz.prog 170 = true := by kernel_rfl
theorem bd171 : bodied Tryz.prog 171 = true := by kernel_rfl
theorem bd172 : bodied Tryz.prog 172 = true := by kernel_rfl
theorem bd173 : bodied Tryz.prog 173 = true := by kernel_rfl
theorem bd174 : bodied Tryz.prog 174 = true := by kernel_rfl
theorem bd175 : bodied Tryz.prog 175 = true := by kernel_rfl
theorem bd176 : bodied Tryz.prog 176 = true := by kernel_rfl
theorem bd177 : bodied Tryz.prog 177 = true := by kernel_rfl
theorem bd178 : bodied Tryz.prog 178 = true := by kernel_rfl
theorem bd179 : bodied Tryz.prog 179 = true := by kernel_rfl
theorem bd180 : bodied Tryz.prog 180 = true := by kernel_rfl
theorem bd181 : bodied Tryz.prog 181 = false := by kernel_rfl
theorem bd182 : bodied Tryz.prog 182 = true := by kernel_rfl
theorem bd183 : bodied Tryz.prog 183 = true := by kernel_rfl
theorem bd184 : bodied Tryz.prog 184 = true := by kernel_rfl
theorem bd185 : bodied Tryz.prog 185 = true := by kernel_rfl
theorem bd186 : bodied Tryz.prog 186 = true := by kernel_rfl
theorem bd187 : bodied Tryz.prog 187 = true := by kernel_rfl
theorem bd188 : bodied Tryz.prog 188 = true := by kernel_rfl
theorem bd189 : bodied Tryz.prog 189 = true := by kernel_rfl
theorem bd190 : bodied Tryz.prog 190 = true := by kernel_rfl
theorem bd191 : bodied Tryz.prog 191 = true := by kernel_rfl
theorem bd192 : bodied Tryz.prog 192 = true := by kernel_rfl
theorem bd193 : bodied Tryz.prog 193 = true := by kernel_rfl
theorem bd194 : bodied Tryz.prog 194 = true := by kernel_rfl
theorem bd195 : bodied Tryz.prog 195 = true := by kernel_rfl
theorem bd196 : bodied Tryz.prog 196 = true := by kernel_rfl
theorem bd197 : bodied Tryz.prog 197 = true := by kernel_rfl
theorem bd198 : bodied Tryz.prog 198 = true := by kernel_rfl
theorem bd199 : bodied Tryz.prog 199 = true := by kernel_rfl
theorem bd200 : bodied Tryz.prog 200 = true := by kernel_rfl
theorem bd201 : bodied Tryz.prog 201 = true := by kernel_rfl
theorem bd202 : bodied Tryz.prog 202 = true := by kernel_rfl
theorem bd203 : bodied Tryz.prog 203 = true := by kernel_rfl
theorem bd204 : bodied Tryz.prog 204 = true := by kernel_rfl
theorem bd205 : bodied Tryz.prog 205 = true := by kernel_rfl
theorem bd206 : bodied Tryz.prog 206 = true := by kernel_rfl
theorem bd207 : bodied Tryz.prog 207 = true := by kernel_rfl
theorem bd208 : bodied Tryz.prog 208 = true := by kernel_rfl
theorem bd209 : bodied Tryz.prog 209 = true := by kernel_rfl
theorem bd210 : bodied Tryz.prog 210 = true := by kernel_rfl
theorem bd211 : bodied Tryz.prog 211 = true := by kernel_rfl
theorem bd212 : bodied Tryz.prog 212 = true := by kernel_rfl
theorem bd213 : bodied Tryz.prog 213 = true := by kernel_rfl
theorem bd214 : bodied Tryz.prog 214 = true := by kernel_rfl
theorem bd215 : bodied Tryz.prog 215 = true := by kernel_rfl
theorem bd216 : bodied Tryz.prog 216 = true := by kernel_rfl
theorem bd217 : bodied Tryz.prog 217 = true := by kernel_rfl
theorem bd218 : bodied Tryz.prog 218 = true := by kernel_rfl
theorem bd219 : bodied Tryz.prog 219 = true := by kernel_rfl
theorem bd220 : bodied Tryz.prog 220 = false := by kernel_rfl
theorem bd221 : bodied Tryz.prog 221 = true := by kernel_rfl
theorem bd222 : bodied Tryz.prog 222 = true := by kernel_rfl
theorem bd223 : bodied Tryz.prog 223 = true := by kernel_rfl
theorem bd224 : bodied Tryz.prog 224 = true := by kernel_rfl
theorem bd225 : bodied Tryz.prog 225 = true := by kernel_rfl
theorem bd226 : bodied Tryz.prog 226 = true := by kernel_rfl
theorem bd227 : bodied Tryz.prog 227 = true := by kernel_rfl
theorem bd228 : bodied Tryz.prog 228 = false := by kernel_rfl
theorem bd229 : bodied Tryz.prog 229 = true := by kernel_rfl
theorem bd230 : bodied Tryz.prog 230 = false := by kernel_rfl
theorem bd231 : bodied Tryz.prog 231 = true := by kernel_rfl
theorem bd232 : bodied Tryz.prog 232 = true := by kernel_rfl
theorem bd233 : bodied Tryz.prog 233 = true := by kernel_rfl
theorem bd234 : bodied Tryz.prog 234 = false := by kernel_rfl
theorem bd235 : bodied Tryz.prog 235 = false := by kernel_rfl
theorem bd236 : bodied Tryz.prog 236 = true := by kernel_rfl
theorem bd237 : bodied Tryz.prog 237 = true := by kernel_rfl
theorem bd238 : bodied Tryz.prog 238 = true := by kernel_rfl
theorem cv2x5 (k : IntKind) (n : Int) : cvt Tryz.prog 2 5 (.int k n) = some (.int IntKind.u8 (IntKind.u8.wrap n)) := cvt_int (by kernel_rfl) (by kernel_rfl) k n
theorem cv2x139 (k : IntKind) (n : Int) : cvt Tryz.prog 2 139 (.int k n) = some (.int IntKind.u64 (IntKind.u64.wrap n)) := cvt_int (by kernel_rfl) (by kernel_rfl) k n
theorem cv3x126 (k : IntKind) (n : Int) : cvt Tryz.prog 3 126 (.int k n) = some (.int IntKind.u64 (IntKind.u64.wrap n)) := cvt_int (by kernel_rfl) (by kernel_rfl) k n
theorem cv3x223 (k : IntKind) (n : Int) : cvt Tryz.prog 3 223 (.int k n) = some (.int IntKind.u64 (IntKind.u64.wrap n)) := cvt_int (by kernel_rfl) (by kernel_rfl) k n
theorem cv5x2 (k : IntKind) (n : Int) : cvt Tryz.prog 5 2 (.int k n) = some (.int IntKind.i64 (IntKind.i64.wrap n)) := cvt_int (by kernel_rfl) (by kernel_rfl) k n
theorem cv5x3 (k : IntKind) (n : Int) : cvt Tryz.prog 5 3 (.int k n) = some (.int IntKind.i64 (IntKind.i64.wrap n)) := cvt_int (by kernel_rfl) (by kernel_rfl) k n
theorem cv5x21 (k : IntKind) (n : Int) : cvt Tryz.prog 5 21 (.int k n) = some (.int IntKind.i32 (IntKind.i32.wrap n)) := cvt_int (by kernel_rfl) (by kernel_rfl) k n
theorem cv5x51 (k : IntKind) (n : Int) : cvt Tryz.prog 5 51 (.int k n) = some (.int IntKind.u32 (IntKind.u32.wrap n)) := cvt_int (by kernel_rfl) (by kernel_rfl) k n
theorem cv5x139 (k : IntKind) (n : Int) : cvt Tryz.prog 5 139 (.int k n) = some (.int IntKind.u64 (IntKind.u64.wrap n)) := cvt_int (by kernel_rfl) (by kernel_rfl) k n
theorem cb9x70 (hint : Bool) (d : Nat) (β : Nat → Option (List D)) (b : ByteArray) : cvK Tryz.prog hint (some d) β 9 70 (.v (.string b)) = if room b.size 1 = true then some (byE hint (some d) 5 b) else none := cvK_by (by kernel_rfl) (by kernel_rfl) hint d β b
theorem cv51x5 (k : IntKind) (n : Int) : cvt Tryz.prog 51 5 (.int k n) = some (.int IntKind.u8 (IntKind.u8.wrap n)) := cvt_int (by kernel_rfl) (by kernel_rfl) k n
theorem bt70x9 : b2s Tryz.prog 70 9 = true := by kernel_rfl
theorem cv126x3 (k : IntKind) (n : Int) : cvt Tryz.prog 126 3 (.int k n) = some (.int IntKind.i64 (IntKind.i64.wrap n)) := cvt_int (by kernel_rfl) (by kernel_rfl) k n
theorem cv126x51 (k : IntKind) (n : Int) : cvt Tryz.prog 126 51 (.int k n) = some (.int IntKind.u32 (IntKind.u32.wrap n)) := cvt_int (by kernel_rfl) (by kernel_rfl) k n
theorem cv139x2 (k : IntKind) (n : Int) : cvt Tryz.prog 139 2 (.int k n) = some (.int IntKind.i64 (IntKind.i64.wrap n)) := cvt_int (by kernel_rfl) (by kernel_rfl) k n
theorem cv139x5 (k : IntKind) (n : Int) : cvt Tryz.prog 139 5 (.int k n) = some (.int IntKind.u8 (IntKind.u8.wrap n)) := cvt_int (by kernel_rfl) (by kernel_rfl) k n
attribute [go_sem] sz2 kt2 oz2 sz3 kt3 oz3 sz4 kt4 un4 oz4 sz5 kt5 oz5 sz9 kt9 isr9 oz9 sz20 kt20 iif20 sz21 kt21 oz21 sz23 kt23 pl23 fd23x0 fd23x1 fd23x2 oz23 sz24 kt24 isl24 el24 ix24 ap24 oz24 sz26 kt26 pl26 fd26x0 fd26x1 fd26x2 fd26x3 fd26x4 fd26x5 fd26x6 fd26x7 fd26x8 oz26 sz29 kt29 isl29 el29 ix29 ap29 oz29 sz39 kt39 pl39 fd39x0 fd39x1 fd39x2 oz39 sz46 kt46 isl46 el46 ix46 ap46 oz46 sz49 kt49 pl49 fd49x0 fd49x1 fd49x2 fd49x3 oz49 sz50 kt50 isl50 el50 ix50 ap50 oz50 sz51 kt51 oz51 sz53 kt53 pl53 fd53x0 fd53x1 fd53x2 fd53x3 fd53x4 oz53 sz54 kt54 isl54 el54 ix54 ap54 oz54 sz55 kt55 isl55 el55 ix55 ap55 oz55 sz57 kt57 pl57 fd57x0 fd57x1 fd57x2 fd57x3 fd57x4 fd57x5 fd57x6 oz57 sz58 kt58 isl58 el58 ix58 ap58 oz58 sz60 kt60 pl60 fd60x0 fd60x1 oz60 sz61 kt61 isl61 el61 ix61 ap61 oz61 sz62 kt62 isl62 el62 ix62 ap62 oz62 sz63 kt63 ipt63 ips63 oz63 sz64 kt64 isl64 el64 ix64 ap64 oz64 sz66 kt66 pl66 fd66x0 fd66x1 fd66x2 fd66x3 fd66x4 fd66x5 fd66x6 fd66x7 oz66 sz69 kt69 isl69 el69 ix69 ap69 oz69 sz70 kt70 isl70 el70 ix70 ap70 oz70 sz72 kt72 pl72 fd72x0 fd72x1 fd72x2 fd72x3 fd72x4 fd72x5 fd72x6 fd72x7 fd72x8 fd72x9 fd72x10 oz72 sz87 kt87 isl87 el87 ix87 ap87 oz87 sz91 kt91 pl91 fd91x0 fd91x1 fd91x2 fd91x3 oz91 sz97 kt97 pl97 fd97x0 fd97x1 fd97x2 oz97 sz104 kt104 pl104 fd104x0 fd104x1 oz104 sz107 kt107 pl107 fd107x0 fd107x1 fd107x2 oz107 sz110 kt110 isl110 el110 ix110 ap110 oz110 sz111 kt111 isl111 el111 ix111 ap111 oz111 sz113 kt113 pl113 fd113x0 fd113x1 fd113x2 fd113x3 oz113 sz116 kt116 pl116 fd116x0 fd116x1 fd116x2 oz116 sz126 kt126 oz126 sz136 kt136 oz136 sz139 kt139 oz139 sz142 kt142 pl142 fd142x0 fd142x1 fd142x2 oz142 sz164 kt164 pl164 fd164x0 fd164x1 oz164 sz175 kt175 pl175 oz175 sz183 kt183 oz183 sz195 kt195 pl195 fd195x0 fd195x1 oz195 sz197 kt197 isl197 el197 ix197 ap197 oz197 sz199 kt199 ipt199 ips199 oz199 sz201 kt201 pl201 fd201x0 fd201x1 oz201 sz203 kt203 iif203 sz216 kt216 ar216 ix216 oz216 sz223 kt223 oz223 sz227 kt227 ipt227 ips227 oz227 sz230 kt230 isl230 el230 ix230 ap230 oz230 sz237 kt237 pl237 fd237x0 fd237x1 oz237 sz239 kt239 pl239 fd239x0 fd239x1 oz239 sz242 kt242 ipt242 ips242 oz242 sz247 kt247 ipt247 ips247 oz247 sz254 kt254 isl254 el254 ix254 ap254 oz254 sz256 kt256 pl256 fd256x0 fd256x1 oz256 sz265 kt265 isl265 el265 ix265 ap265 oz265 sz269 kt269 oz269 sz272 kt272 oz272 sz295 kt295 pl295 fd295x0 fd295x1 oz295 sz299 kt299 isl299 el299 ix299 ap299 oz299 sz307 kt307 ar307 ix307 sz309 kt309 pl309 fd309x0 fd309x1 oz309 sz310 kt310 ar310 ix310 oz310 fl23 fl39 fl295 bd5 bd6 bd7 bd8 bd9 bd10 bd11 bd12 bd13 bd14 bd15 bd16 bd17 bd18 bd19 bd20 bd21 bd22 bd23 bd24 bd25 bd26 bd27 bd28 bd29 bd30 bd31 bd32 bd33 bd34 bd36 bd37 bd38 bd39 bd40 bd41 bd42 bd43 bd44 bd45 bd46 bd47 bd48 bd49 bd50 bd51 bd52 bd53 bd54 bd55 bd56 bd57 bd58 bd59 bd60 bd61 bd62 bd63 bd64 bd65 bd66 bd67 bd68 bd69 bd70 bd71 bd72 bd73 bd74 bd75 bd76 bd77 bd78 bd79 bd80 bd81 bd82 bd83 bd84 bd85 bd86 bd87 bd88 bd89 bd90 bd91 bd92 bd93 bd94 bd95 bd96 bd97 bd98 bd99 bd100 bd101 bd102 bd103 bd104 bd105 bd106 bd107 bd108 bd109 bd110 bd111 bd112 bd113 bd114 bd115 bd116 bd117 bd118 bd119 bd120 bd121 bd122 bd123 bd124 bd125 bd126 bd127 bd128 bd129 bd130 bd131 bd132 bd133 bd134 bd135 bd136 bd137 bd138 bd139 bd140 bd141 bd142 bd143 bd144 bd145 bd146 bd147 bd148 bd149 bd150 bd151 bd152 bd153 bd154 bd155 bd156 bd157 bd158 bd159 bd160 bd161 bd162 bd163 bd164 bd165 bd166 bd167 bd168 bd169 bd170 bd171 bd172 bd173 bd174 bd175 bd176 bd177 bd178 bd179 bd180 bd181 bd182 bd183 bd184 bd185 bd186 bd187 bd188 bd189 bd190 bd191 bd192 bd193 bd194 bd195 bd196 bd197 bd198 bd199 bd200 bd201 bd202 bd203 bd204 bd205 bd206 bd207 bd208 bd209 bd210 bd211 bd212 bd213 bd214 bd215 bd216 bd217 bd218 bd219 bd220 bd221 bd222 bd223 bd224 bd225 bd226 bd227 bd228 bd229 bd230 bd231 bd232 bd233 bd234 bd235 bd236 bd237 bd238 cv2x5 cv2x139 cv3x126 cv3x223 cv5x2 cv5x3 cv5x21 cv5x51 cv5x139 cb9x70 cv51x5 bt70x9 cv126x3 cv126x51 cv139x2 cv139x5
end Go.Proofs.YtjdmjofkibiaaaaGreatDoor
