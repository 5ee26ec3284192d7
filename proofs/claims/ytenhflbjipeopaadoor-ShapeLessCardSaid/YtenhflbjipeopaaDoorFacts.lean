/- What the texts ask of the program's types, to rewrite with (printed). -/
import Derived.Test.YtenhflbjipeopaaDoorFlat
import Derived.Test.YtenhflbjipeopaaDoorProg
namespace Go.Proofs.YtenhflbjipeopaaDoor
open Go Go.Eng Go.Proofs
set_option linter.unusedVariables false
set_option linter.unusedSimpArgs false

theorem sz2 : sizeT Tryd.prog 2 = some 1 := by kernel_rfl
theorem kt2 : kindT Tryd.prog 2 = some false := by kernel_rfl
theorem oz2 : ofZero Tryd.prog 2 = some [.v (Value.int IntKind.i64 0)] := by kernel_rfl
theorem sz3 : sizeT Tryd.prog 3 = some 1 := by kernel_rfl
theorem kt3 : kindT Tryd.prog 3 = some false := by kernel_rfl
theorem oz3 : ofZero Tryd.prog 3 = some [.v (Value.int IntKind.i64 0)] := by kernel_rfl
theorem sz4 : sizeT Tryd.prog 4 = some 1 := by kernel_rfl
theorem kt4 : kindT Tryd.prog 4 = some false := by kernel_rfl
theorem un4 : Tryd.prog.underlying 4 = some .bool := by kernel_rfl
theorem oz4 : ofZero Tryd.prog 4 = some [.v (Value.bool false)] := by kernel_rfl
theorem sz5 : sizeT Tryd.prog 5 = some 1 := by kernel_rfl
theorem kt5 : kindT Tryd.prog 5 = some false := by kernel_rfl
theorem oz5 : ofZero Tryd.prog 5 = some [.v (Value.int IntKind.u8 0)] := by kernel_rfl
theorem sz9 : sizeT Tryd.prog 9 = some 1 := by kernel_rfl
theorem kt9 : kindT Tryd.prog 9 = some false := by kernel_rfl
theorem isr9 : isStr Tryd.prog 9 = true := by kernel_rfl
theorem oz9 : ofZero Tryd.prog 9 = some [.v (Value.string { data := #[] })] := by kernel_rfl
theorem sz20 : sizeT Tryd.prog 20 = some 1 := by kernel_rfl
theorem kt20 : kindT Tryd.prog 20 = some false := by kernel_rfl
theorem iif20 : isIf Tryd.prog 20 = true := by kernel_rfl
theorem sz21 : sizeT Tryd.prog 21 = some 1 := by kernel_rfl
theorem kt21 : kindT Tryd.prog 21 = some false := by kernel_rfl
theorem oz21 : ofZero Tryd.prog 21 = some [.v (Value.int IntKind.i32 0)] := by kernel_rfl
theorem sz22 : sizeT Tryd.prog 22 = some 1 := by kernel_rfl
theorem kt22 : kindT Tryd.prog 22 = some false := by kernel_rfl
theorem isl22 : isSl Tryd.prog 22 = true := by kernel_rfl
theorem el22 : elT Tryd.prog 22 = some 3 := by kernel_rfl
theorem ix22 : ixT Tryd.prog 22 = some (none, 3) := by kernel_rfl
theorem ap22 : apT Tryd.prog 22 = some (46, 3, 32) := by kernel_rfl
theorem oz22 : ofZero Tryd.prog 22 = some [.v (Value.slice none 0 0)] := by kernel_rfl
theorem sz23 : sizeT Tryd.prog 23 = some 1 := by kernel_rfl
theorem kt23 : kindT Tryd.prog 23 = some false := by kernel_rfl
theorem isl23 : isSl Tryd.prog 23 = true := by kernel_rfl
theorem el23 : elT Tryd.prog 23 = some 3 := by kernel_rfl
theorem ix23 : ixT Tryd.prog 23 = some (none, 3) := by kernel_rfl
theorem ap23 : apT Tryd.prog 23 = some (35, 3, 32) := by kernel_rfl
theorem oz23 : ofZero Tryd.prog 23 = some [.v (Value.slice none 0 0)] := by kernel_rfl
theorem sz26 : sizeT Tryd.prog 26 = some 1 := by kernel_rfl
theorem kt26 : kindT Tryd.prog 26 = some false := by kernel_rfl
theorem isl26 : isSl Tryd.prog 26 = true := by kernel_rfl
theorem el26 : elT Tryd.prog 26 = some 1 := by kernel_rfl
theorem ix26 : ixT Tryd.prog 26 = some (none, 1) := by kernel_rfl
theorem ap26 : apT Tryd.prog 26 = some (3, 1, 8) := by kernel_rfl
theorem oz26 : ofZero Tryd.prog 26 = some [.v (Value.slice none 0 0)] := by kernel_rfl
theorem sz27 : sizeT Tryd.prog 27 = some 1 := by kernel_rfl
theorem kt27 : kindT Tryd.prog 27 = some false := by kernel_rfl
theorem isl27 : isSl Tryd.prog 27 = true := by kernel_rfl
theorem el27 : elT Tryd.prog 27 = some 11 := by kernel_rfl
theorem ix27 : ixT Tryd.prog 27 = some (none, 11) := by kernel_rfl
theorem ap27 : apT Tryd.prog 27 = some (37, 11, 136) := by kernel_rfl
theorem oz27 : ofZero Tryd.prog 27 = some [.v (Value.slice none 0 0)] := by kernel_rfl
theorem sz28 : sizeT Tryd.prog 28 = some 1 := by kernel_rfl
theorem kt28 : kindT Tryd.prog 28 = some false := by kernel_rfl
theorem isl28 : isSl Tryd.prog 28 = true := by kernel_rfl
theorem el28 : elT Tryd.prog 28 = some 1 := by kernel_rfl
theorem ix28 : ixT Tryd.prog 28 = some (none, 1) := by kernel_rfl
theorem ap28 : apT Tryd.prog 28 = some (9, 1, 16) := by kernel_rfl
theorem oz28 : ofZero Tryd.prog 28 = some [.v (Value.slice none 0 0)] := by kernel_rfl
theorem sz29 : sizeT Tryd.prog 29 = some 1 := by kernel_rfl
theorem kt29 : kindT Tryd.prog 29 = some false := by kernel_rfl
theorem isl29 : isSl Tryd.prog 29 = true := by kernel_rfl
theorem el29 : elT Tryd.prog 29 = some 1 := by kernel_rfl
theorem ix29 : ixT Tryd.prog 29 = some (none, 1) := by kernel_rfl
theorem ap29 : apT Tryd.prog 29 = some (5, 1, 1) := by kernel_rfl
theorem oz29 : ofZero Tryd.prog 29 = some [.v (Value.slice none 0 0)] := by kernel_rfl
theorem sz31 : sizeT Tryd.prog 31 = some 11 := by kernel_rfl
theorem kt31 : kindT Tryd.prog 31 = some true := by kernel_rfl
theorem pl31 : placesT Tryd.prog 31 = some [(0, 1), (1, 1), (2, 1), (3, 1), (4, 1), (5, 1), (6, 1), (7, 1), (8, 1), (9, 1), (10, 1)] := by kernel_rfl
theorem fd31x0 : fieldOf Tryd.prog 31 0 = some (0, 4, 1) := by kernel_rfl
theorem fd31x1 : fieldOf Tryd.prog 31 1 = some (1, 26, 1) := by kernel_rfl
theorem fd31x2 : fieldOf Tryd.prog 31 2 = some (2, 27, 1) := by kernel_rfl
theorem fd31x3 : fieldOf Tryd.prog 31 3 = some (3, 28, 1) := by kernel_rfl
theorem fd31x4 : fieldOf Tryd.prog 31 4 = some (4, 29, 1) := by kernel_rfl
theorem fd31x5 : fieldOf Tryd.prog 31 5 = some (5, 27, 1) := by kernel_rfl
theorem fd31x6 : fieldOf Tryd.prog 31 6 = some (6, 4, 1) := by kernel_rfl
theorem fd31x7 : fieldOf Tryd.prog 31 7 = some (7, 27, 1) := by kernel_rfl
theorem fd31x8 : fieldOf Tryd.prog 31 8 = some (8, 27, 1) := by kernel_rfl
theorem fd31x9 : fieldOf Tryd.prog 31 9 = some (9, 22, 1) := by kernel_rfl
theorem fd31x10 : fieldOf Tryd.prog 31 10 = some (10, 3, 1) := by kernel_rfl
theorem oz31 : ofZero Tryd.prog 31 = some [.v (Value.bool false), .v (Value.slice none 0 0), .v (Value.slice none 0 0), .v (Value.slice none 0 0), .v (Value.slice none 0 0), .v (Value.slice none 0 0), .v (Value.bool false), .v (Value.slice none 0 0), .v (Value.slice none 0 0), .v (Value.slice none 0 0), .v (Value.int IntKind.i64 0)] := by kernel_rfl
theorem sz35 : sizeT Tryd.prog 35 = some 3 := by kernel_rfl
theorem kt35 : kindT Tryd.prog 35 = some true := by kernel_rfl
theorem pl35 : placesT Tryd.prog 35 = some [(0, 1), (1, 1), (2, 1)] := by kernel_rfl
theorem fd35x0 : fieldOf Tryd.prog 35 0 = some (0, 5, 1) := by kernel_rfl
theorem fd35x1 : fieldOf Tryd.prog 35 1 = some (1, 2, 1) := by kernel_rfl
theorem fd35x2 : fieldOf Tryd.prog 35 2 = some (2, 9, 1) := by kernel_rfl
theorem oz35 : ofZero Tryd.prog 35 = some [.v (Value.int IntKind.u8 0), .v (Value.int IntKind.i64 0), .v (Value.string { data := #[] })] := by kernel_rfl
theorem sz37 : sizeT Tryd.prog 37 = some 11 := by kernel_rfl
theorem kt37 : kindT Tryd.prog 37 = some true := by kernel_rfl
theorem pl37 : placesT Tryd.prog 37 = some [(0, 1), (1, 1), (2, 1), (3, 3), (6, 1), (7, 1), (8, 1), (9, 1), (10, 1)] := by kernel_rfl
theorem fd37x0 : fieldOf Tryd.prog 37 0 = some (0, 5, 1) := by kernel_rfl
theorem fd37x1 : fieldOf Tryd.prog 37 1 = some (1, 9, 1) := by kernel_rfl
theorem fd37x2 : fieldOf Tryd.prog 37 2 = some (2, 4, 1) := by kernel_rfl
theorem fd37x3 : fieldOf Tryd.prog 37 3 = some (3, 35, 3) := by kernel_rfl
theorem fd37x4 : fieldOf Tryd.prog 37 4 = some (6, 9, 1) := by kernel_rfl
theorem fd37x5 : fieldOf Tryd.prog 37 5 = some (7, 9, 1) := by kernel_rfl
theorem fd37x6 : fieldOf Tryd.prog 37 6 = some (8, 3, 1) := by kernel_rfl
theorem fd37x7 : fieldOf Tryd.prog 37 7 = some (9, 3, 1) := by kernel_rfl
theorem fd37x8 : fieldOf Tryd.prog 37 8 = some (10, 27, 1) := by kernel_rfl
theorem oz37 : ofZero Tryd.prog 37 = some [.v (Value.int IntKind.u8 0), .v (Value.string { data := #[] }), .v (Value.bool false), .v (Value.int IntKind.u8 0), .v (Value.int IntKind.i64 0), .v (Value.string { data := #[] }), .v (Value.string { data := #[] }), .v (Value.string { data := #[] }), .v (Value.int IntKind.i64 0), .v (Value.int IntKind.i64 0), .v (Value.slice none 0 0)] := by kernel_rfl
theorem sz38 : sizeT Tryd.prog 38 = some 1 := by kernel_rfl
theorem kt38 : kindT Tryd.prog 38 = some false := by kernel_rfl
theorem isl38 : isSl Tryd.prog 38 = true := by kernel_rfl
theorem el38 : elT Tryd.prog 38 = some 1 := by kernel_rfl
theorem ix38 : ixT Tryd.prog 38 = some (none, 1) := by kernel_rfl
theorem ap38 : apT Tryd.prog 38 = some (23, 1, 24) := by kernel_rfl
theorem oz38 : ofZero Tryd.prog 38 = some [.v (Value.slice none 0 0)] := by kernel_rfl
theorem sz40 : sizeT Tryd.prog 40 = some 2 := by kernel_rfl
theorem kt40 : kindT Tryd.prog 40 = some true := by kernel_rfl
theorem pl40 : placesT Tryd.prog 40 = some [(0, 1), (1, 1)] := by kernel_rfl
theorem fd40x0 : fieldOf Tryd.prog 40 0 = some (0, 28, 1) := by kernel_rfl
theorem fd40x1 : fieldOf Tryd.prog 40 1 = some (1, 38, 1) := by kernel_rfl
theorem oz40 : ofZero Tryd.prog 40 = some [.v (Value.slice none 0 0), .v (Value.slice none 0 0)] := by kernel_rfl
theorem sz41 : sizeT Tryd.prog 41 = some 1 := by kernel_rfl
theorem kt41 : kindT Tryd.prog 41 = some false := by kernel_rfl
theorem oz41 : ofZero Tryd.prog 41 = some [.v (Value.int IntKind.i64 0)] := by kernel_rfl
theorem sz46 : sizeT Tryd.prog 46 = some 3 := by kernel_rfl
theorem kt46 : kindT Tryd.prog 46 = some true := by kernel_rfl
theorem pl46 : placesT Tryd.prog 46 = some [(0, 1), (1, 1), (2, 1)] := by kernel_rfl
theorem fd46x0 : fieldOf Tryd.prog 46 0 = some (0, 9, 1) := by kernel_rfl
theorem fd46x1 : fieldOf Tryd.prog 46 1 = some (1, 3, 1) := by kernel_rfl
theorem fd46x2 : fieldOf Tryd.prog 46 2 = some (2, 4, 1) := by kernel_rfl
theorem oz46 : ofZero Tryd.prog 46 = some [.v (Value.string { data := #[] }), .v (Value.int IntKind.i64 0), .v (Value.bool false)] := by kernel_rfl
theorem sz48 : sizeT Tryd.prog 48 = some 1 := by kernel_rfl
theorem kt48 : kindT Tryd.prog 48 = some false := by kernel_rfl
theorem isl48 : isSl Tryd.prog 48 = true := by kernel_rfl
theorem el48 : elT Tryd.prog 48 = some 2 := by kernel_rfl
theorem ix48 : ixT Tryd.prog 48 = some (none, 2) := by kernel_rfl
theorem ap48 : apT Tryd.prog 48 = some (51, 2, 32) := by kernel_rfl
theorem oz48 : ofZero Tryd.prog 48 = some [.v (Value.slice none 0 0)] := by kernel_rfl
theorem sz51 : sizeT Tryd.prog 51 = some 2 := by kernel_rfl
theorem kt51 : kindT Tryd.prog 51 = some true := by kernel_rfl
theorem pl51 : placesT Tryd.prog 51 = some [(0, 1), (1, 1)] := by kernel_rfl
theorem fd51x0 : fieldOf Tryd.prog 51 0 = some (0, 38, 1) := by kernel_rfl
theorem fd51x1 : fieldOf Tryd.prog 51 1 = some (1, 4, 1) := by kernel_rfl
theorem oz51 : ofZero Tryd.prog 51 = some [.v (Value.slice none 0 0), .v (Value.bool false)] := by kernel_rfl
theorem sz60 : sizeT Tryd.prog 60 = some 1 := by kernel_rfl
theorem kt60 : kindT Tryd.prog 60 = some false := by kernel_rfl
theorem isl60 : isSl Tryd.prog 60 = true := by kernel_rfl
theorem el60 : elT Tryd.prog 60 = some 1 := by kernel_rfl
theorem ix60 : ixT Tryd.prog 60 = some (none, 1) := by kernel_rfl
theorem ap60 : apT Tryd.prog 60 = some (4, 1, 1) := by kernel_rfl
theorem oz60 : ofZero Tryd.prog 60 = some [.v (Value.slice none 0 0)] := by kernel_rfl
theorem sz62 : sizeT Tryd.prog 62 = some 1 := by kernel_rfl
theorem kt62 : kindT Tryd.prog 62 = some false := by kernel_rfl
theorem isl62 : isSl Tryd.prog 62 = true := by kernel_rfl
theorem el62 : elT Tryd.prog 62 = some 1 := by kernel_rfl
theorem ix62 : ixT Tryd.prog 62 = some (none, 1) := by kernel_rfl
theorem ap62 : apT Tryd.prog 62 = some (65, 1, 8) := by kernel_rfl
theorem oz62 : ofZero Tryd.prog 62 = some [.v (Value.slice none 0 0)] := by kernel_rfl
theorem sz65 : sizeT Tryd.prog 65 = some 1 := by kernel_rfl
theorem kt65 : kindT Tryd.prog 65 = some false := by kernel_rfl
theorem ipt65 : isPt Tryd.prog 65 = true := by kernel_rfl
theorem ips65 : isPs Tryd.prog 65 = true := by kernel_rfl
theorem oz65 : ofZero Tryd.prog 65 = some [.v (Value.pointer none)] := by kernel_rfl
theorem sz67 : sizeT Tryd.prog 67 = some 1 := by kernel_rfl
theorem kt67 : kindT Tryd.prog 67 = some true := by kernel_rfl
theorem pl67 : placesT Tryd.prog 67 = some [(0, 1)] := by kernel_rfl
theorem fd67x0 : fieldOf Tryd.prog 67 0 = some (0, 48, 1) := by kernel_rfl
theorem oz67 : ofZero Tryd.prog 67 = some [.v (Value.slice none 0 0)] := by kernel_rfl
theorem sz70 : sizeT Tryd.prog 70 = some 1 := by kernel_rfl
theorem kt70 : kindT Tryd.prog 70 = some false := by kernel_rfl
theorem sz75 : sizeT Tryd.prog 75 = some 1 := by kernel_rfl
theorem kt75 : kindT Tryd.prog 75 = some false := by kernel_rfl
theorem sz90 : sizeT Tryd.prog 90 = some 1 := by kernel_rfl
theorem kt90 : kindT Tryd.prog 90 = some false := by kernel_rfl
theorem ipt90 : isPt Tryd.prog 90 = true := by kernel_rfl
theorem ips90 : isPs Tryd.prog 90 = true := by kernel_rfl
theorem oz90 : ofZero Tryd.prog 90 = some [.v (Value.pointer none)] := by kernel_rfl
theorem sz92 : sizeT Tryd.prog 92 = some 2 := by kernel_rfl
theorem kt92 : kindT Tryd.prog 92 = some true := by kernel_rfl
theorem pl92 : placesT Tryd.prog 92 = some [(0, 1), (1, 1)] := by kernel_rfl
theorem fd92x0 : fieldOf Tryd.prog 92 0 = some (0, 90, 1) := by kernel_rfl
theorem fd92x1 : fieldOf Tryd.prog 92 1 = some (1, 29, 1) := by kernel_rfl
theorem oz92 : ofZero Tryd.prog 92 = some [.v (Value.pointer none), .v (Value.slice none 0 0)] := by kernel_rfl
theorem sz95 : sizeT Tryd.prog 95 = some 1 := by kernel_rfl
theorem kt95 : kindT Tryd.prog 95 = some false := by kernel_rfl
theorem iif95 : isIf Tryd.prog 95 = true := by kernel_rfl
theorem sz100 : sizeT Tryd.prog 100 = some 1 := by kernel_rfl
theorem kt100 : kindT Tryd.prog 100 = some false := by kernel_rfl
theorem oz100 : ofZero Tryd.prog 100 = some [.v (Value.int IntKind.u64 0)] := by kernel_rfl
theorem sz104 : sizeT Tryd.prog 104 = some 4 := by kernel_rfl
theorem kt104 : kindT Tryd.prog 104 = some true := by kernel_rfl
theorem pl104 : placesT Tryd.prog 104 = some [(0, 3), (3, 1)] := by kernel_rfl
theorem fd104x0 : fieldOf Tryd.prog 104 0 = some (0, 35, 3) := by kernel_rfl
theorem fd104x1 : fieldOf Tryd.prog 104 1 = some (3, 4, 1) := by kernel_rfl
theorem oz104 : ofZero Tryd.prog 104 = some [.v (Value.int IntKind.u8 0), .v (Value.int IntKind.i64 0), .v (Value.string { data := #[] }), .v (Value.bool false)] := by kernel_rfl
theorem sz106 : sizeT Tryd.prog 106 = some 2 := by kernel_rfl
theorem kt106 : kindT Tryd.prog 106 = some true := by kernel_rfl
theorem pl106 : placesT Tryd.prog 106 = some [(0, 1), (1, 1)] := by kernel_rfl
theorem fd106x0 : fieldOf Tryd.prog 106 0 = some (0, 38, 1) := by kernel_rfl
theorem fd106x1 : fieldOf Tryd.prog 106 1 = some (1, 23, 1) := by kernel_rfl
theorem oz106 : ofZero Tryd.prog 106 = some [.v (Value.slice none 0 0), .v (Value.slice none 0 0)] := by kernel_rfl
theorem sz111 : sizeT Tryd.prog 111 = some 1 := by kernel_rfl
theorem kt111 : kindT Tryd.prog 111 = some false := by kernel_rfl
theorem oz111 : ofZero Tryd.prog 111 = some [.v (Value.int IntKind.u64 0)] := by kernel_rfl
theorem sz113 : sizeT Tryd.prog 113 = some 1 := by kernel_rfl
theorem kt113 : kindT Tryd.prog 113 = some false := by kernel_rfl
theorem ipt113 : isPt Tryd.prog 113 = true := by kernel_rfl
theorem ips113 : isPs Tryd.prog 113 = true := by kernel_rfl
theorem oz113 : ofZero Tryd.prog 113 = some [.v (Value.pointer none)] := by kernel_rfl
theorem sz114 : sizeT Tryd.prog 114 = some 1 := by kernel_rfl
theorem kt114 : kindT Tryd.prog 114 = some false := by kernel_rfl
theorem isl114 : isSl Tryd.prog 114 = true := by kernel_rfl
theorem el114 : elT Tryd.prog 114 = some 4 := by kernel_rfl
theorem ix114 : ixT Tryd.prog 114 = some (none, 4) := by kernel_rfl
theorem ap114 : apT Tryd.prog 114 = some (104, 4, 40) := by kernel_rfl
theorem oz114 : ofZero Tryd.prog 114 = some [.v (Value.slice none 0 0)] := by kernel_rfl
theorem sz118 : sizeT Tryd.prog 118 = some 1 := by kernel_rfl
theorem kt118 : kindT Tryd.prog 118 = some false := by kernel_rfl
theorem oz118 : ofZero Tryd.prog 118 = some [.v (Value.int IntKind.u8 0)] := by kernel_rfl
theorem sz121 : sizeT Tryd.prog 121 = some 1 := by kernel_rfl
theorem kt121 : kindT Tryd.prog 121 = some false := by kernel_rfl
theorem isl121 : isSl Tryd.prog 121 = true := by kernel_rfl
theorem el121 : elT Tryd.prog 121 = some 1 := by kernel_rfl
theorem ix121 : ixT Tryd.prog 121 = some (none, 1) := by kernel_rfl
theorem ap121 : apT Tryd.prog 121 = some (2, 1, 8) := by kernel_rfl
theorem oz121 : ofZero Tryd.prog 121 = some [.v (Value.slice none 0 0)] := by kernel_rfl
theorem sz124 : sizeT Tryd.prog 124 = some 1 := by kernel_rfl
theorem kt124 : kindT Tryd.prog 124 = some false := by kernel_rfl
theorem oz124 : ofZero Tryd.prog 124 = some [.v (Value.pointer none)] := by kernel_rfl
theorem sz135 : sizeT Tryd.prog 135 = some 2 := by kernel_rfl
theorem kt135 : kindT Tryd.prog 135 = some true := by kernel_rfl
theorem pl135 : placesT Tryd.prog 135 = some [(0, 1), (1, 1)] := by kernel_rfl
theorem fd135x0 : fieldOf Tryd.prog 135 0 = some (0, 111, 1) := by kernel_rfl
theorem fd135x1 : fieldOf Tryd.prog 135 1 = some (1, 111, 1) := by kernel_rfl
theorem oz135 : ofZero Tryd.prog 135 = some [.v (Value.int IntKind.u64 0), .v (Value.int IntKind.u64 0)] := by kernel_rfl
theorem sz144 : sizeT Tryd.prog 144 = some 1 := by kernel_rfl
theorem kt144 : kindT Tryd.prog 144 = some false := by kernel_rfl
theorem isl144 : isSl Tryd.prog 144 = true := by kernel_rfl
theorem el144 : elT Tryd.prog 144 = some 1 := by kernel_rfl
theorem ix144 : ixT Tryd.prog 144 = some (none, 1) := by kernel_rfl
theorem ap144 : apT Tryd.prog 144 = some (118, 1, 1) := by kernel_rfl
theorem oz144 : ofZero Tryd.prog 144 = some [.v (Value.slice none 0 0)] := by kernel_rfl
theorem sz154 : sizeT Tryd.prog 154 = some 256 := by kernel_rfl
theorem kt154 : kindT Tryd.prog 154 = some true := by kernel_rfl
theorem ar154 : arT Tryd.prog 154 = some (256, 5, 1) := by kernel_rfl
theorem ix154 : ixT Tryd.prog 154 = some (some 256, 1) := by kernel_rfl
theorem sz156 : sizeT Tryd.prog 156 = some 2 := by kernel_rfl
theorem kt156 : kindT Tryd.prog 156 = some true := by kernel_rfl
theorem pl156 : placesT Tryd.prog 156 = some [(0, 1), (1, 1)] := by kernel_rfl
theorem fd156x0 : fieldOf Tryd.prog 156 0 = some (0, 5, 1) := by kernel_rfl
theorem fd156x1 : fieldOf Tryd.prog 156 1 = some (1, 5, 1) := by kernel_rfl
theorem oz156 : ofZero Tryd.prog 156 = some [.v (Value.int IntKind.u8 0), .v (Value.int IntKind.u8 0)] := by kernel_rfl
theorem sz157 : sizeT Tryd.prog 157 = some 32 := by kernel_rfl
theorem kt157 : kindT Tryd.prog 157 = some true := by kernel_rfl
theorem ar157 : arT Tryd.prog 157 = some (16, 156, 2) := by kernel_rfl
theorem ix157 : ixT Tryd.prog 157 = some (some 16, 2) := by kernel_rfl
theorem oz157 : ofZero Tryd.prog 157 = some [.v (Value.int IntKind.u8 0), .v (Value.int IntKind.u8 0), .v (Value.int IntKind.u8 0), .v (Value.int IntKind.u8 0), .v (Value.int IntKind.u8 0), .v (Value.int IntKind.u8 0), .v (Value.int IntKind.u8 0), .v (Value.int IntKind.u8 0), .v (Value.int IntKind.u8 0), .v (Value.int IntKind.u8 0), .v (Value.int IntKind.u8 0), .v (Value.int IntKind.u8 0), .v (Value.int IntKind.u8 0), .v (Value.int IntKind.u8 0), .v (Value.int IntKind.u8 0), .v (Value.int IntKind.u8 0), .v (Value.int IntKind.u8 0), .v (Value.int IntKind.u8 0), .v (Value.int IntKind.u8 0), .v (Value.int IntKind.u8 0), .v (Value.int IntKind.u8 0), .v (Value.int IntKind.u8 0), .v (Value.int IntKind.u8 0), .v (Value.int IntKind.u8 0), .v (Value.int IntKind.u8 0), .v (Value.int IntKind.u8 0), .v (Value.int IntKind.u8 0), .v (Value.int IntKind.u8 0), .v (Value.int IntKind.u8 0), .v (Value.int IntKind.u8 0), .v (Value.int IntKind.u8 0), .v (Value.int IntKind.u8 0)] := by kernel_rfl
theorem sz158 : sizeT Tryd.prog 158 = some 1 := by kernel_rfl
theorem kt158 : kindT Tryd.prog 158 = some false := by kernel_rfl
theorem oz158 : ofZero Tryd.prog 158 = some [.v (Value.int IntKind.u32 0)] := by kernel_rfl
theorem fl35 : flT Tryd.prog 35 = some [(1, 0), (1, 1), (2, 2)] := by kernel_rfl
theorem fl135 : flT Tryd.prog 135 = some [(1, 0), (1, 1)] := by kernel_rfl
theorem bd4 : bodied Tryd.prog 4 = true := by kernel_rfl
theorem bd5 : bodied Tryd.prog 5 = true := by kernel_rfl
theorem bd6 : bodied Tryd.prog 6 = true := by kernel_rfl
theorem bd7 : bodied Tryd.prog 7 = true := by kernel_rfl
theorem bd8 : bodied Tryd.prog 8 = true := by kernel_rfl
theorem bd9 : bodied Tryd.prog 9 = true := by kernel_rfl
theorem bd10 : bodied Tryd.prog 10 = true := by kernel_rfl
theorem bd11 : bodied Tryd.prog 11 = true := by kernel_rfl
theorem bd12 : bodied Tryd.prog 12 = true := by kernel_rfl
theorem bd13 : bodied Tryd.prog 13 = true := by kernel_rfl
theorem bd14 : bodied Tryd.prog 14 = true := by kernel_rfl
theorem bd15 : bodied Tryd.prog 15 = true := by kernel_rfl
theorem bd17 : bodied Tryd.prog 17 = true := by kernel_rfl
theorem bd18 : bodied Tryd.prog 18 = true := by kernel_rfl
theorem bd19 : bodied Tryd.prog 19 = true := by kernel_rfl
theorem bd20 : bodied Tryd.prog 20 = true := by kernel_rfl
theorem bd21 : bodied Tryd.prog 21 = true := by kernel_rfl
theorem bd22 : bodied Tryd.prog 22 = true := by kernel_rfl
theorem bd23 : bodied Tryd.prog 23 = true := by kernel_rfl
theorem bd24 : bodied Tryd.prog 24 = true := by kernel_rfl
theorem bd25 : bodied Tryd.prog 25 = true := by kernel_rfl
theorem bd26 : bodied Tryd.prog 26 = true := by kernel_rfl
theorem bd27 : bodied Tryd.prog 27 = true := by kernel_rfl
theorem bd28 : bodied Tryd.prog 28 = true := by kernel_rfl
theorem bd29 : bodied Tryd.prog 29 = true := by kernel_rfl
theorem bd30 : bodied Tryd.prog 30 = true := by kernel_rfl
theorem bd31 : bodied Tryd.prog 31 = true := by kernel_rfl
theorem bd32 : bodied Tryd.prog 32 = true := by kernel_rfl
theorem bd33 : bodied Tryd.prog 33 = true := by kernel_rfl
theorem bd34 : bodied Tryd.prog 34 = true := by kernel_rfl
theorem bd35 : bodied Tryd.prog 35 = true := by kernel_rfl
theorem bd36 : bodied Tryd.prog 36 = true := by kernel_rfl
theorem bd37 : bodied Tryd.prog 37 = true := by kernel_rfl
theorem bd38 : bodied Tryd.prog 38 = true := by kernel_rfl
theorem bd39 : bodied Tryd.prog 39 = true := by kernel_rfl
theorem bd40 : bodied Tryd.prog 40 = true := by kernel_rfl
theorem bd41 : bodied Tryd.prog 41 = true := by kernel_rfl
theorem bd42 : bodied Tryd.prog 42 = true := by kernel_rfl
theorem bd43 : bodied Tryd.prog 43 = true := by kernel_rfl
theorem bd44 : bodied Tryd.prog 44 = true := by kernel_rfl
theorem bd45 : bodied Tryd.prog 45 = true := by kernel_rfl
theorem bd46 : bodied Tryd.prog 46 = true := by kernel_rfl
theorem bd47 : bodied Tryd.prog 47 = true := by kernel_rfl
theorem bd48 : bodied Tryd.prog 48 = true := by kernel_rfl
theorem bd49 : bodied Tryd.prog 49 = true := by kernel_rfl
theorem bd50 : bodied Tryd.prog 50 = true := by kernel_rfl
theorem bd51 : bodied Tryd.prog 51 = true := by kernel_rfl
theorem bd52 : bodied Tryd.prog 52 = true := by kernel_rfl
theorem bd53 : bodied Tryd.prog 53 = true := by kernel_rfl
theorem bd54 : bodied Tryd.prog 54 = true := by kernel_rfl
theorem bd55 : bodied Tryd.prog 55 = false := by kernel_rfl
theorem bd56 : bodied Tryd.prog 56 = true := by kernel_rfl
theorem bd57 : bodied Tryd.prog 57 = true := by kernel_rfl
theorem bd58 : bodied Tryd.prog 58 = true := by kernel_rfl
theorem bd59 : bodied Tryd.prog 59 = true := by kernel_rfl
theorem bd60 : bodied Tryd.prog 60 = true := by kernel_rfl
theorem bd61 : bodied Tryd.prog 61 = true := by kernel_rfl
theorem bd62 : bodied Tryd.prog 62 = false := by kernel_rfl
theorem bd63 : bodied Tryd.prog 63 = true := by kernel_rfl
theorem bd64 : bodied Tryd.prog 64 = true := by kernel_rfl
theorem bd65 : bodied Tryd.prog 65 = true := by kernel_rfl
theorem bd66 : bodied Tryd.prog 66 = true := by kernel_rfl
theorem bd67 : bodied Tryd.prog 67 = true := by kernel_rfl
theorem bd68 : bodied Tryd.prog 68 = true := by kernel_rfl
theorem bd69 : bodied Tryd.prog 69 = true := by kernel_rfl
theorem bd70 : bodied Tryd.prog 70 = true := by kernel_rfl
theorem bd71 : bodied Tryd.prog 71 = true := by kernel_rfl
theorem bd72 : bodied Tryd.prog 72 = true := by kernel_rfl
theorem bd73 : bodied Tryd.prog 73 = true := by kernel_rfl
theorem bd74 : bodied Tryd.prog 74 = true := by kernel_rfl
theorem bd75 : bodied Tryd.prog 75 = true := by kernel_rfl
theorem bd76 : bodied Tryd.prog 76 = true := by kernel_rfl
theorem bd77 : bodied Tryd.prog 77 = true := by kernel_rfl
theorem bd78 : bodied Tryd.prog 78 = true := by kernel_rfl
theorem bd79 : bodied Tryd.prog 79 = true := by kernel_rfl
theorem bd80 : bodied Tryd.prog 80 = true := by kernel_rfl
theorem bd81 : bodied Tryd.prog 81 = true := by kernel_rfl
theorem bd82 : bodied Tryd.prog 82 = true := by kernel_rfl
theorem bd83 : bodied Tryd.prog 83 = true := by kernel_rfl
theorem bd84 : bodied Tryd.prog 84 = true := by kernel_rfl
theorem bd85 : bodied Tryd.prog 85 = true := by kernel_rfl
theorem bd86 : bodied Tryd.prog 86 = false := by kernel_rfl
theorem bd87 : bodied Tryd.prog 87 = true := by kernel_rfl
theorem bd88 : bodied Tryd.prog 88 = false := by kernel_rfl
theorem bd89 : bodied Tryd.prog 89 = true := by kernel_rfl
theorem bd90 : bodied Tryd.prog 90 = true := by kernel_rfl
theorem bd91 : bodied Tryd.prog 91 = true := by kernel_rfl
theorem bd92 : bodied Tryd.prog 92 = true := by kernel_rfl
theorem bd93 : bodied Tryd.prog 93 = true := by kernel_rfl
theorem bd94 : bodied Tryd.prog 94 = false := by kernel_rfl
theorem bd95 : bodied Tryd.prog 95 = true := by kernel_rfl
theorem bd96 : bodied Tryd.prog 96 = false := by kernel_rfl
theorem bd97 : bodied Tryd.prog 97 = true := by kernel_rfl
theorem bd98 : bodied Tryd.prog 98 = true := by kernel_rfl
theorem bd99 : bodied Tryd.prog 99 = false := by kernel_rfl
theorem bd100 : bodied Tryd.prog 100 = true := by kernel_rfl
theorem cv2x5 (k : IntKind) (n : Int) : cvt Tryd.prog 2 5 (.int k n) = some (.int IntKind.u8 (IntKind.u8.wrap n)) := cvt_int (by kernel_rfl) (by kernel_rfl) k n
theorem cv2x111 (k : IntKind) (n : Int) : cvt Tryd.prog 2 111 (.int k n) = some (.int IntKind.u64 (IntKind.u64.wrap n)) := cvt_int (by kernel_rfl) (by kernel_rfl) k n
theorem cv3x100 (k : IntKind) (n : Int) : cvt Tryd.prog 3 100 (.int k n) = some (.int IntKind.u64 (IntKind.u64.wrap n)) := cvt_int (by kernel_rfl) (by kernel_rfl) k n
theorem cv5x3 (k : IntKind) (n : Int) : cvt Tryd.prog 5 3 (.int k n) = some (.int IntKind.i64 (IntKind.i64.wrap n)) := cvt_int (by kernel_rfl) (by kernel_rfl) k n
theorem cv5x21 (k : IntKind) (n : Int) : cvt Tryd.prog 5 21 (.int k n) = some (.int IntKind.i32 (IntKind.i32.wrap n)) := cvt_int (by kernel_rfl) (by kernel_rfl) k n
theorem cv5x158 (k : IntKind) (n : Int) : cvt Tryd.prog 5 158 (.int k n) = some (.int IntKind.u32 (IntKind.u32.wrap n)) := cvt_int (by kernel_rfl) (by kernel_rfl) k n
theorem cv100x3 (k : IntKind) (n : Int) : cvt Tryd.prog 100 3 (.int k n) = some (.int IntKind.i64 (IntKind.i64.wrap n)) := cvt_int (by kernel_rfl) (by kernel_rfl) k n
theorem cv111x2 (k : IntKind) (n : Int) : cvt Tryd.prog 111 2 (.int k n) = some (.int IntKind.i64 (IntKind.i64.wrap n)) := cvt_int (by kernel_rfl) (by kernel_rfl) k n
theorem cv111x5 (k : IntKind) (n : Int) : cvt Tryd.prog 111 5 (.int k n) = some (.int IntKind.u8 (IntKind.u8.wrap n)) := cvt_int (by kernel_rfl) (by kernel_rfl) k n
attribute [go_sem] sz2 kt2 oz2 sz3 kt3 oz3 sz4 kt4 un4 oz4 sz5 kt5 oz5 sz9 kt9 isr9 oz9 sz20 kt20 iif20 sz21 kt21 oz21 sz22 kt22 isl22 el22 ix22 ap22 oz22 sz23 kt23 isl23 el23 ix23 ap23 oz23 sz26 kt26 isl26 el26 ix26 ap26 oz26 sz27 kt27 isl27 el27 ix27 ap27 oz27 sz28 kt28 isl28 el28 ix28 ap28 oz28 sz29 kt29 isl29 el29 ix29 ap29 oz29 sz31 kt31 pl31 fd31x0 fd31x1 fd31x2 fd31x3 fd31x4 fd31x5 fd31x6 fd31x7 fd31x8 fd31x9 fd31x10 oz31 sz35 kt35 pl35 fd35x0 fd35x1 fd35x2 oz35 sz37 kt37 pl37 fd37x0 fd37x1 fd37x2 fd37x3 fd37x4 fd37x5 fd37x6 fd37x7 fd37x8 oz37 sz38 kt38 isl38 el38 ix38 ap38 oz38 sz40 kt40 pl40 fd40x0 fd40x1 oz40 sz41 kt41 oz41 sz46 kt46 pl46 fd46x0 fd46x1 fd46x2 oz46 sz48 kt48 isl48 el48 ix48 ap48 oz48 sz51 kt51 pl51 fd51x0 fd51x1 oz51 sz60 kt60 isl60 el60 ix60 ap60 oz60 sz62 kt62 isl62 el62 ix62 ap62 oz62 sz65 kt65 ipt65 ips65 oz65 sz67 kt67 pl67 fd67x0 oz67 sz70 kt70 sz75 kt75 sz90 kt90 ipt90 ips90 oz90 sz92 kt92 pl92 fd92x0 fd92x1 oz92 sz95 kt95 iif95 sz100 kt100 oz100 sz104 kt104 pl104 fd104x0 fd104x1 oz104 sz106 kt106 pl106 fd106x0 fd106x1 oz106 sz111 kt111 oz111 sz113 kt113 ipt113 ips113 oz113 sz114 kt114 isl114 el114 ix114 ap114 oz114 sz118 kt118 oz118 sz121 kt121 isl121 el121 ix121 ap121 oz121 sz124 kt124 oz124 sz135 kt135 pl135 fd135x0 fd135x1 oz135 sz144 kt144 isl144 el144 ix144 ap144 oz144 sz154 kt154 ar154 ix154 sz156 kt156 pl156 fd156x0 fd156x1 oz156 sz157 kt157 ar157 ix157 oz157 sz158 kt158 oz158 fl35 fl135 bd4 bd5 bd6 bd7 bd8 bd9 bd10 bd11 bd12 bd13 bd14 bd15 bd17 bd18 bd19 bd20 bd21 bd22 bd23 bd24 bd25 bd26 bd27 bd28 bd29 bd30 bd31 bd32 bd33 bd34 bd35 bd36 bd37 bd38 bd39 bd40 bd41 bd42 bd43 bd44 bd45 bd46 bd47 bd48 bd49 bd50 bd51 bd52 bd53 bd54 bd55 bd56 bd57 bd58 bd59 bd60 bd61 bd62 bd63 bd64 bd65 bd66 bd67 bd68 bd69 bd70 bd71 bd72 bd73 bd74 bd75 bd76 bd77 bd78 bd79 bd80 bd81 bd82 bd83 bd84 bd85 bd86 bd87 bd88 bd89 bd90 bd91 bd92 bd93 bd94 bd95 bd96 bd97 bd98 bd99 bd100 cv2x5 cv2x111 cv3x100 cv5x3 cv5x21 cv5x158 cv100x3 cv111x2 cv111x5
end Go.Proofs.YtenhflbjipeopaaDoor
