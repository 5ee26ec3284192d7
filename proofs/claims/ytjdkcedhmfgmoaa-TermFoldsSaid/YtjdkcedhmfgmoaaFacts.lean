/- What the texts ask of the program's types, to rewrite with (printed). -/
import Derived.Test.YtjdkcedhmfgmoaaFlat
import Derived.Test.YtjdkcedhmfgmoaaProg
namespace Go.Proofs.Ytjdkcedhmfgmoaa
open Go Go.Eng Go.Proofs
set_option linter.unusedVariables false
set_option linter.unusedSimpArgs false

theorem sz2 : sizeT Try.prog 2 = some 1 := by kernel_rfl
theorem kt2 : kindT Try.prog 2 = some false := by kernel_rfl
theorem oz2 : ofZero Try.prog 2 = some [.v (Value.int IntKind.i64 0)] := by kernel_rfl
theorem sz3 : sizeT Try.prog 3 = some 1 := by kernel_rfl
theorem kt3 : kindT Try.prog 3 = some false := by kernel_rfl
theorem oz3 : ofZero Try.prog 3 = some [.v (Value.int IntKind.i64 0)] := by kernel_rfl
theorem sz4 : sizeT Try.prog 4 = some 1 := by kernel_rfl
theorem kt4 : kindT Try.prog 4 = some false := by kernel_rfl
theorem un4 : Try.prog.underlying 4 = some .bool := by kernel_rfl
theorem oz4 : ofZero Try.prog 4 = some [.v (Value.bool false)] := by kernel_rfl
theorem sz5 : sizeT Try.prog 5 = some 1 := by kernel_rfl
theorem kt5 : kindT Try.prog 5 = some false := by kernel_rfl
theorem oz5 : ofZero Try.prog 5 = some [.v (Value.int IntKind.u8 0)] := by kernel_rfl
theorem sz9 : sizeT Try.prog 9 = some 1 := by kernel_rfl
theorem kt9 : kindT Try.prog 9 = some false := by kernel_rfl
theorem isr9 : isStr Try.prog 9 = true := by kernel_rfl
theorem oz9 : ofZero Try.prog 9 = some [.v (Value.string { data := #[] })] := by kernel_rfl
theorem sz22 : sizeT Try.prog 22 = some 1 := by kernel_rfl
theorem kt22 : kindT Try.prog 22 = some false := by kernel_rfl
theorem isl22 : isSl Try.prog 22 = true := by kernel_rfl
theorem el22 : elT Try.prog 22 = some 11 := by kernel_rfl
theorem ix22 : ixT Try.prog 22 = some (none, 11) := by kernel_rfl
theorem ap22 : apT Try.prog 22 = some (29, 11, 136) := by kernel_rfl
theorem oz22 : ofZero Try.prog 22 = some [.v (Value.slice none 0 0)] := by kernel_rfl
theorem sz23 : sizeT Try.prog 23 = some 1 := by kernel_rfl
theorem kt23 : kindT Try.prog 23 = some false := by kernel_rfl
theorem isl23 : isSl Try.prog 23 = true := by kernel_rfl
theorem el23 : elT Try.prog 23 = some 1 := by kernel_rfl
theorem ix23 : ixT Try.prog 23 = some (none, 1) := by kernel_rfl
theorem ap23 : apT Try.prog 23 = some (35, 1, 24) := by kernel_rfl
theorem oz23 : ofZero Try.prog 23 = some [.v (Value.slice none 0 0)] := by kernel_rfl
theorem sz27 : sizeT Try.prog 27 = some 3 := by kernel_rfl
theorem kt27 : kindT Try.prog 27 = some true := by kernel_rfl
theorem pl27 : placesT Try.prog 27 = some [(0, 1), (1, 1), (2, 1)] := by kernel_rfl
theorem fd27x0 : fieldOf Try.prog 27 0 = some (0, 5, 1) := by kernel_rfl
theorem fd27x1 : fieldOf Try.prog 27 1 = some (1, 2, 1) := by kernel_rfl
theorem fd27x2 : fieldOf Try.prog 27 2 = some (2, 9, 1) := by kernel_rfl
theorem oz27 : ofZero Try.prog 27 = some [.v (Value.int IntKind.u8 0), .v (Value.int IntKind.i64 0), .v (Value.string { data := #[] })] := by kernel_rfl
theorem sz29 : sizeT Try.prog 29 = some 11 := by kernel_rfl
theorem kt29 : kindT Try.prog 29 = some true := by kernel_rfl
theorem pl29 : placesT Try.prog 29 = some [(0, 1), (1, 1), (2, 1), (3, 3), (6, 1), (7, 1), (8, 1), (9, 1), (10, 1)] := by kernel_rfl
theorem fd29x0 : fieldOf Try.prog 29 0 = some (0, 5, 1) := by kernel_rfl
theorem fd29x1 : fieldOf Try.prog 29 1 = some (1, 9, 1) := by kernel_rfl
theorem fd29x2 : fieldOf Try.prog 29 2 = some (2, 4, 1) := by kernel_rfl
theorem fd29x3 : fieldOf Try.prog 29 3 = some (3, 27, 3) := by kernel_rfl
theorem fd29x4 : fieldOf Try.prog 29 4 = some (6, 9, 1) := by kernel_rfl
theorem fd29x5 : fieldOf Try.prog 29 5 = some (7, 9, 1) := by kernel_rfl
theorem fd29x6 : fieldOf Try.prog 29 6 = some (8, 3, 1) := by kernel_rfl
theorem fd29x7 : fieldOf Try.prog 29 7 = some (9, 3, 1) := by kernel_rfl
theorem fd29x8 : fieldOf Try.prog 29 8 = some (10, 22, 1) := by kernel_rfl
theorem oz29 : ofZero Try.prog 29 = some [.v (Value.int IntKind.u8 0), .v (Value.string { data := #[] }), .v (Value.bool false), .v (Value.int IntKind.u8 0), .v (Value.int IntKind.i64 0), .v (Value.string { data := #[] }), .v (Value.string { data := #[] }), .v (Value.string { data := #[] }), .v (Value.int IntKind.i64 0), .v (Value.int IntKind.i64 0), .v (Value.slice none 0 0)] := by kernel_rfl
theorem sz31 : sizeT Try.prog 31 = some 1 := by kernel_rfl
theorem kt31 : kindT Try.prog 31 = some false := by kernel_rfl
theorem oz31 : ofZero Try.prog 31 = some [.v (Value.int IntKind.u8 0)] := by kernel_rfl
theorem sz35 : sizeT Try.prog 35 = some 1 := by kernel_rfl
theorem kt35 : kindT Try.prog 35 = some false := by kernel_rfl
theorem isl35 : isSl Try.prog 35 = true := by kernel_rfl
theorem el35 : elT Try.prog 35 = some 3 := by kernel_rfl
theorem ix35 : ixT Try.prog 35 = some (none, 3) := by kernel_rfl
theorem ap35 : apT Try.prog 35 = some (27, 3, 32) := by kernel_rfl
theorem oz35 : ofZero Try.prog 35 = some [.v (Value.slice none 0 0)] := by kernel_rfl
theorem sz40 : sizeT Try.prog 40 = some 4 := by kernel_rfl
theorem kt40 : kindT Try.prog 40 = some true := by kernel_rfl
theorem pl40 : placesT Try.prog 40 = some [(0, 3), (3, 1)] := by kernel_rfl
theorem fd40x0 : fieldOf Try.prog 40 0 = some (0, 27, 3) := by kernel_rfl
theorem fd40x1 : fieldOf Try.prog 40 1 = some (3, 4, 1) := by kernel_rfl
theorem oz40 : ofZero Try.prog 40 = some [.v (Value.int IntKind.u8 0), .v (Value.int IntKind.i64 0), .v (Value.string { data := #[] }), .v (Value.bool false)] := by kernel_rfl
theorem sz48 : sizeT Try.prog 48 = some 1 := by kernel_rfl
theorem kt48 : kindT Try.prog 48 = some false := by kernel_rfl
theorem oz48 : ofZero Try.prog 48 = some [.v (Value.int IntKind.u64 0)] := by kernel_rfl
theorem sz52 : sizeT Try.prog 52 = some 1 := by kernel_rfl
theorem kt52 : kindT Try.prog 52 = some false := by kernel_rfl
theorem isl52 : isSl Try.prog 52 = true := by kernel_rfl
theorem el52 : elT Try.prog 52 = some 1 := by kernel_rfl
theorem ix52 : ixT Try.prog 52 = some (none, 1) := by kernel_rfl
theorem ap52 : apT Try.prog 52 = some (3, 1, 8) := by kernel_rfl
theorem oz52 : ofZero Try.prog 52 = some [.v (Value.slice none 0 0)] := by kernel_rfl
theorem sz55 : sizeT Try.prog 55 = some 4 := by kernel_rfl
theorem kt55 : kindT Try.prog 55 = some true := by kernel_rfl
theorem pl55 : placesT Try.prog 55 = some [(0, 3), (3, 1)] := by kernel_rfl
theorem fd55x0 : fieldOf Try.prog 55 0 = some (0, 27, 3) := by kernel_rfl
theorem fd55x1 : fieldOf Try.prog 55 1 = some (3, 4, 1) := by kernel_rfl
theorem oz55 : ofZero Try.prog 55 = some [.v (Value.int IntKind.u8 0), .v (Value.int IntKind.i64 0), .v (Value.string { data := #[] }), .v (Value.bool false)] := by kernel_rfl
theorem sz57 : sizeT Try.prog 57 = some 2 := by kernel_rfl
theorem kt57 : kindT Try.prog 57 = some true := by kernel_rfl
theorem pl57 : placesT Try.prog 57 = some [(0, 1), (1, 1)] := by kernel_rfl
theorem fd57x0 : fieldOf Try.prog 57 0 = some (0, 23, 1) := by kernel_rfl
theorem fd57x1 : fieldOf Try.prog 57 1 = some (1, 35, 1) := by kernel_rfl
theorem oz57 : ofZero Try.prog 57 = some [.v (Value.slice none 0 0), .v (Value.slice none 0 0)] := by kernel_rfl
theorem sz60 : sizeT Try.prog 60 = some 1 := by kernel_rfl
theorem kt60 : kindT Try.prog 60 = some false := by kernel_rfl
theorem isl60 : isSl Try.prog 60 = true := by kernel_rfl
theorem el60 : elT Try.prog 60 = some 4 := by kernel_rfl
theorem ix60 : ixT Try.prog 60 = some (none, 4) := by kernel_rfl
theorem ap60 : apT Try.prog 60 = some (40, 4, 40) := by kernel_rfl
theorem oz60 : ofZero Try.prog 60 = some [.v (Value.slice none 0 0)] := by kernel_rfl
theorem sz70 : sizeT Try.prog 70 = some 4 := by kernel_rfl
theorem kt70 : kindT Try.prog 70 = some true := by kernel_rfl
theorem pl70 : placesT Try.prog 70 = some [(0, 1), (1, 1), (2, 1), (3, 1)] := by kernel_rfl
theorem fd70x0 : fieldOf Try.prog 70 0 = some (0, 9, 1) := by kernel_rfl
theorem fd70x1 : fieldOf Try.prog 70 1 = some (1, 5, 1) := by kernel_rfl
theorem fd70x2 : fieldOf Try.prog 70 2 = some (2, 3, 1) := by kernel_rfl
theorem fd70x3 : fieldOf Try.prog 70 3 = some (3, 3, 1) := by kernel_rfl
theorem oz70 : ofZero Try.prog 70 = some [.v (Value.string { data := #[] }), .v (Value.int IntKind.u8 0), .v (Value.int IntKind.i64 0), .v (Value.int IntKind.i64 0)] := by kernel_rfl
theorem sz71 : sizeT Try.prog 71 = some 1 := by kernel_rfl
theorem kt71 : kindT Try.prog 71 = some false := by kernel_rfl
theorem isl71 : isSl Try.prog 71 = true := by kernel_rfl
theorem el71 : elT Try.prog 71 = some 4 := by kernel_rfl
theorem ix71 : ixT Try.prog 71 = some (none, 4) := by kernel_rfl
theorem ap71 : apT Try.prog 71 = some (70, 4, 40) := by kernel_rfl
theorem oz71 : ofZero Try.prog 71 = some [.v (Value.slice none 0 0)] := by kernel_rfl
theorem sz72 : sizeT Try.prog 72 = some 1 := by kernel_rfl
theorem kt72 : kindT Try.prog 72 = some false := by kernel_rfl
theorem oz72 : ofZero Try.prog 72 = some [.v (Value.int IntKind.u32 0)] := by kernel_rfl
theorem sz74 : sizeT Try.prog 74 = some 5 := by kernel_rfl
theorem kt74 : kindT Try.prog 74 = some true := by kernel_rfl
theorem pl74 : placesT Try.prog 74 = some [(0, 1), (1, 1), (2, 1), (3, 1), (4, 1)] := by kernel_rfl
theorem fd74x0 : fieldOf Try.prog 74 0 = some (0, 9, 1) := by kernel_rfl
theorem fd74x1 : fieldOf Try.prog 74 1 = some (1, 71, 1) := by kernel_rfl
theorem fd74x2 : fieldOf Try.prog 74 2 = some (2, 72, 1) := by kernel_rfl
theorem fd74x3 : fieldOf Try.prog 74 3 = some (3, 3, 1) := by kernel_rfl
theorem fd74x4 : fieldOf Try.prog 74 4 = some (4, 3, 1) := by kernel_rfl
theorem oz74 : ofZero Try.prog 74 = some [.v (Value.string { data := #[] }), .v (Value.slice none 0 0), .v (Value.int IntKind.u32 0), .v (Value.int IntKind.i64 0), .v (Value.int IntKind.i64 0)] := by kernel_rfl
theorem sz75 : sizeT Try.prog 75 = some 1 := by kernel_rfl
theorem kt75 : kindT Try.prog 75 = some false := by kernel_rfl
theorem isl75 : isSl Try.prog 75 = true := by kernel_rfl
theorem el75 : elT Try.prog 75 = some 5 := by kernel_rfl
theorem ix75 : ixT Try.prog 75 = some (none, 5) := by kernel_rfl
theorem ap75 : apT Try.prog 75 = some (74, 5, 64) := by kernel_rfl
theorem oz75 : ofZero Try.prog 75 = some [.v (Value.slice none 0 0)] := by kernel_rfl
theorem sz76 : sizeT Try.prog 76 = some 1 := by kernel_rfl
theorem kt76 : kindT Try.prog 76 = some false := by kernel_rfl
theorem isl76 : isSl Try.prog 76 = true := by kernel_rfl
theorem el76 : elT Try.prog 76 = some 7 := by kernel_rfl
theorem ix76 : ixT Try.prog 76 = some (none, 7) := by kernel_rfl
theorem ap76 : apT Try.prog 76 = some (172, 7, 96) := by kernel_rfl
theorem oz76 : ofZero Try.prog 76 = some [.v (Value.slice none 0 0)] := by kernel_rfl
theorem sz78 : sizeT Try.prog 78 = some 2 := by kernel_rfl
theorem kt78 : kindT Try.prog 78 = some true := by kernel_rfl
theorem pl78 : placesT Try.prog 78 = some [(0, 1), (1, 1)] := by kernel_rfl
theorem fd78x0 : fieldOf Try.prog 78 0 = some (0, 75, 1) := by kernel_rfl
theorem fd78x1 : fieldOf Try.prog 78 1 = some (1, 76, 1) := by kernel_rfl
theorem oz78 : ofZero Try.prog 78 = some [.v (Value.slice none 0 0), .v (Value.slice none 0 0)] := by kernel_rfl
theorem sz80 : sizeT Try.prog 80 = some 1 := by kernel_rfl
theorem kt80 : kindT Try.prog 80 = some false := by kernel_rfl
theorem isl80 : isSl Try.prog 80 = true := by kernel_rfl
theorem el80 : elT Try.prog 80 = some 1 := by kernel_rfl
theorem ix80 : ixT Try.prog 80 = some (none, 1) := by kernel_rfl
theorem ap80 : apT Try.prog 80 = some (9, 1, 16) := by kernel_rfl
theorem oz80 : ofZero Try.prog 80 = some [.v (Value.slice none 0 0)] := by kernel_rfl
theorem sz81 : sizeT Try.prog 81 = some 1 := by kernel_rfl
theorem kt81 : kindT Try.prog 81 = some false := by kernel_rfl
theorem isl81 : isSl Try.prog 81 = true := by kernel_rfl
theorem el81 : elT Try.prog 81 = some 1 := by kernel_rfl
theorem ix81 : ixT Try.prog 81 = some (none, 1) := by kernel_rfl
theorem ap81 : apT Try.prog 81 = some (5, 1, 1) := by kernel_rfl
theorem oz81 : ofZero Try.prog 81 = some [.v (Value.slice none 0 0)] := by kernel_rfl
theorem sz82 : sizeT Try.prog 82 = some 1 := by kernel_rfl
theorem kt82 : kindT Try.prog 82 = some false := by kernel_rfl
theorem isl82 : isSl Try.prog 82 = true := by kernel_rfl
theorem el82 : elT Try.prog 82 = some 3 := by kernel_rfl
theorem ix82 : ixT Try.prog 82 = some (none, 3) := by kernel_rfl
theorem ap82 : apT Try.prog 82 = some (174, 3, 32) := by kernel_rfl
theorem oz82 : ofZero Try.prog 82 = some [.v (Value.slice none 0 0)] := by kernel_rfl
theorem sz84 : sizeT Try.prog 84 = some 11 := by kernel_rfl
theorem kt84 : kindT Try.prog 84 = some true := by kernel_rfl
theorem pl84 : placesT Try.prog 84 = some [(0, 1), (1, 1), (2, 1), (3, 1), (4, 1), (5, 1), (6, 1), (7, 1), (8, 1), (9, 1), (10, 1)] := by kernel_rfl
theorem fd84x0 : fieldOf Try.prog 84 0 = some (0, 4, 1) := by kernel_rfl
theorem fd84x1 : fieldOf Try.prog 84 1 = some (1, 52, 1) := by kernel_rfl
theorem fd84x2 : fieldOf Try.prog 84 2 = some (2, 22, 1) := by kernel_rfl
theorem fd84x3 : fieldOf Try.prog 84 3 = some (3, 80, 1) := by kernel_rfl
theorem fd84x4 : fieldOf Try.prog 84 4 = some (4, 81, 1) := by kernel_rfl
theorem fd84x5 : fieldOf Try.prog 84 5 = some (5, 22, 1) := by kernel_rfl
theorem fd84x6 : fieldOf Try.prog 84 6 = some (6, 4, 1) := by kernel_rfl
theorem fd84x7 : fieldOf Try.prog 84 7 = some (7, 22, 1) := by kernel_rfl
theorem fd84x8 : fieldOf Try.prog 84 8 = some (8, 22, 1) := by kernel_rfl
theorem fd84x9 : fieldOf Try.prog 84 9 = some (9, 82, 1) := by kernel_rfl
theorem fd84x10 : fieldOf Try.prog 84 10 = some (10, 3, 1) := by kernel_rfl
theorem oz84 : ofZero Try.prog 84 = some [.v (Value.bool false), .v (Value.slice none 0 0), .v (Value.slice none 0 0), .v (Value.slice none 0 0), .v (Value.slice none 0 0), .v (Value.slice none 0 0), .v (Value.bool false), .v (Value.slice none 0 0), .v (Value.slice none 0 0), .v (Value.slice none 0 0), .v (Value.int IntKind.i64 0)] := by kernel_rfl
theorem sz88 : sizeT Try.prog 88 = some 1 := by kernel_rfl
theorem kt88 : kindT Try.prog 88 = some false := by kernel_rfl
theorem isl88 : isSl Try.prog 88 = true := by kernel_rfl
theorem el88 : elT Try.prog 88 = some 1 := by kernel_rfl
theorem ix88 : ixT Try.prog 88 = some (none, 1) := by kernel_rfl
theorem ap88 : apT Try.prog 88 = some (48, 1, 8) := by kernel_rfl
theorem oz88 : ofZero Try.prog 88 = some [.v (Value.slice none 0 0)] := by kernel_rfl
theorem sz90 : sizeT Try.prog 90 = some 2 := by kernel_rfl
theorem kt90 : kindT Try.prog 90 = some true := by kernel_rfl
theorem pl90 : placesT Try.prog 90 = some [(0, 1), (1, 1)] := by kernel_rfl
theorem fd90x0 : fieldOf Try.prog 90 0 = some (0, 3, 1) := by kernel_rfl
theorem fd90x1 : fieldOf Try.prog 90 1 = some (1, 88, 1) := by kernel_rfl
theorem oz90 : ofZero Try.prog 90 = some [.v (Value.int IntKind.i64 0), .v (Value.slice none 0 0)] := by kernel_rfl
theorem sz94 : sizeT Try.prog 94 = some 1 := by kernel_rfl
theorem kt94 : kindT Try.prog 94 = some false := by kernel_rfl
theorem isl94 : isSl Try.prog 94 = true := by kernel_rfl
theorem el94 : elT Try.prog 94 = some 1 := by kernel_rfl
theorem ix94 : ixT Try.prog 94 = some (none, 1) := by kernel_rfl
theorem ap94 : apT Try.prog 94 = some (31, 1, 1) := by kernel_rfl
theorem oz94 : ofZero Try.prog 94 = some [.v (Value.slice none 0 0)] := by kernel_rfl
theorem sz97 : sizeT Try.prog 97 = some 1 := by kernel_rfl
theorem kt97 : kindT Try.prog 97 = some false := by kernel_rfl
theorem isl97 : isSl Try.prog 97 = true := by kernel_rfl
theorem el97 : elT Try.prog 97 = some 4 := by kernel_rfl
theorem ix97 : ixT Try.prog 97 = some (none, 4) := by kernel_rfl
theorem ap97 : apT Try.prog 97 = some (55, 4, 40) := by kernel_rfl
theorem oz97 : ofZero Try.prog 97 = some [.v (Value.slice none 0 0)] := by kernel_rfl
theorem sz115 : sizeT Try.prog 115 = some 3 := by kernel_rfl
theorem kt115 : kindT Try.prog 115 = some true := by kernel_rfl
theorem pl115 : placesT Try.prog 115 = some [(0, 2), (2, 1)] := by kernel_rfl
theorem fd115x0 : fieldOf Try.prog 115 0 = some (0, 78, 2) := by kernel_rfl
theorem fd115x1 : fieldOf Try.prog 115 1 = some (2, 52, 1) := by kernel_rfl
theorem oz115 : ofZero Try.prog 115 = some [.v (Value.slice none 0 0), .v (Value.slice none 0 0), .v (Value.slice none 0 0)] := by kernel_rfl
theorem sz127 : sizeT Try.prog 127 = some 2 := by kernel_rfl
theorem kt127 : kindT Try.prog 127 = some true := by kernel_rfl
theorem pl127 : placesT Try.prog 127 = some [(0, 1), (1, 1)] := by kernel_rfl
theorem fd127x0 : fieldOf Try.prog 127 0 = some (0, 48, 1) := by kernel_rfl
theorem fd127x1 : fieldOf Try.prog 127 1 = some (1, 48, 1) := by kernel_rfl
theorem oz127 : ofZero Try.prog 127 = some [.v (Value.int IntKind.u64 0), .v (Value.int IntKind.u64 0)] := by kernel_rfl
theorem sz130 : sizeT Try.prog 130 = some 1 := by kernel_rfl
theorem kt130 : kindT Try.prog 130 = some false := by kernel_rfl
theorem oz130 : ofZero Try.prog 130 = some [.v (Value.int IntKind.u64 0)] := by kernel_rfl
theorem sz132 : sizeT Try.prog 132 = some 1 := by kernel_rfl
theorem kt132 : kindT Try.prog 132 = some false := by kernel_rfl
theorem sz135 : sizeT Try.prog 135 = some 2 := by kernel_rfl
theorem kt135 : kindT Try.prog 135 = some true := by kernel_rfl
theorem pl135 : placesT Try.prog 135 = some [(0, 1), (1, 1)] := by kernel_rfl
theorem fd135x0 : fieldOf Try.prog 135 0 = some (0, 48, 1) := by kernel_rfl
theorem fd135x1 : fieldOf Try.prog 135 1 = some (1, 48, 1) := by kernel_rfl
theorem oz135 : ofZero Try.prog 135 = some [.v (Value.int IntKind.u64 0), .v (Value.int IntKind.u64 0)] := by kernel_rfl
theorem sz172 : sizeT Try.prog 172 = some 7 := by kernel_rfl
theorem kt172 : kindT Try.prog 172 = some true := by kernel_rfl
theorem pl172 : placesT Try.prog 172 = some [(0, 1), (1, 1), (2, 1), (3, 1), (4, 1), (5, 1), (6, 1)] := by kernel_rfl
theorem oz172 : ofZero Try.prog 172 = some [.v (Value.string { data := #[] }), .v (Value.int IntKind.i64 0), .v (Value.slice none 0 0), .v (Value.int IntKind.u32 0), .v (Value.int IntKind.i64 0), .v (Value.int IntKind.i64 0), .v (Value.slice none 0 0)] := by kernel_rfl
theorem sz174 : sizeT Try.prog 174 = some 3 := by kernel_rfl
theorem kt174 : kindT Try.prog 174 = some true := by kernel_rfl
theorem pl174 : placesT Try.prog 174 = some [(0, 1), (1, 1), (2, 1)] := by kernel_rfl
theorem oz174 : ofZero Try.prog 174 = some [.v (Value.string { data := #[] }), .v (Value.int IntKind.i64 0), .v (Value.bool false)] := by kernel_rfl
theorem fl27 : flT Try.prog 27 = some [(1, 0), (1, 1), (2, 2)] := by kernel_rfl
theorem fl135 : flT Try.prog 135 = some [(1, 0), (1, 1)] := by kernel_rfl
theorem bd7 : bodied Try.prog 7 = true := by kernel_rfl
theorem bd8 : bodied Try.prog 8 = true := by kernel_rfl
theorem bd9 : bodied Try.prog 9 = true := by kernel_rfl
theorem bd10 : bodied Try.prog 10 = true := by kernel_rfl
theorem bd11 : bodied Try.prog 11 = true := by kernel_rfl
theorem bd12 : bodied Try.prog 12 = true := by kernel_rfl
theorem bd13 : bodied Try.prog 13 = true := by kernel_rfl
theorem bd14 : bodied Try.prog 14 = true := by kernel_rfl
theorem bd15 : bodied Try.prog 15 = true := by kernel_rfl
theorem bd16 : bodied Try.prog 16 = true := by kernel_rfl
theorem bd17 : bodied Try.prog 17 = true := by kernel_rfl
theorem bd18 : bodied Try.prog 18 = true := by kernel_rfl
theorem bd19 : bodied Try.prog 19 = true := by kernel_rfl
theorem bd20 : bodied Try.prog 20 = true := by kernel_rfl
theorem bd21 : bodied Try.prog 21 = true := by kernel_rfl
theorem bd22 : bodied Try.prog 22 = true := by kernel_rfl
theorem bd23 : bodied Try.prog 23 = true := by kernel_rfl
theorem bd24 : bodied Try.prog 24 = true := by kernel_rfl
theorem bd25 : bodied Try.prog 25 = true := by kernel_rfl
theorem bd26 : bodied Try.prog 26 = true := by kernel_rfl
theorem bd27 : bodied Try.prog 27 = true := by kernel_rfl
theorem bd28 : bodied Try.prog 28 = true := by kernel_rfl
theorem bd29 : bodied Try.prog 29 = true := by kernel_rfl
theorem bd30 : bodied Try.prog 30 = true := by kernel_rfl
theorem bd31 : bodied Try.prog 31 = true := by kernel_rfl
theorem bd32 : bodied Try.prog 32 = true := by kernel_rfl
theorem bd33 : bodied Try.prog 33 = true := by kernel_rfl
theorem bd34 : bodied Try.prog 34 = true := by kernel_rfl
theorem bd35 : bodied Try.prog 35 = true := by kernel_rfl
theorem bd36 : bodied Try.prog 36 = true := by kernel_rfl
theorem bd37 : bodied Try.prog 37 = true := by kernel_rfl
theorem bd38 : bodied Try.prog 38 = true := by kernel_rfl
theorem bd39 : bodied Try.prog 39 = true := by kernel_rfl
theorem bd40 : bodied Try.prog 40 = true := by kernel_rfl
theorem bd41 : bodied Try.prog 41 = false := by kernel_rfl
theorem bd42 : bodied Try.prog 42 = true := by kernel_rfl
theorem bd43 : bodied Try.prog 43 = true := by kernel_rfl
theorem bd44 : bodied Try.prog 44 = true := by kernel_rfl
theorem bd45 : bodied Try.prog 45 = true := by kernel_rfl
theorem bd46 : bodied Try.prog 46 = true := by kernel_rfl
theorem bd47 : bodied Try.prog 47 = true := by kernel_rfl
theorem bd48 : bodied Try.prog 48 = true := by kernel_rfl
theorem bd49 : bodied Try.prog 49 = true := by kernel_rfl
theorem bd50 : bodied Try.prog 50 = true := by kernel_rfl
theorem bd51 : bodied Try.prog 51 = true := by kernel_rfl
theorem bd52 : bodied Try.prog 52 = true := by kernel_rfl
theorem bd53 : bodied Try.prog 53 = true := by kernel_rfl
theorem bd54 : bodied Try.prog 54 = true := by kernel_rfl
theorem bd55 : bodied Try.prog 55 = true := by kernel_rfl
theorem bd56 : bodied Try.prog 56 = true := by kernel_rfl
theorem bd57 : bodied Try.prog 57 = true := by kernel_rfl
theorem bd58 : bodied Try.prog 58 = true := by kernel_rfl
theorem bd59 : bodied Try.prog 59 = true := by kernel_rfl
theorem bd60 : bodied Try.prog 60 = true := by kernel_rfl
theorem bd61 : bodied Try.prog 61 = true := by kernel_rfl
theorem bd62 : bodied Try.prog 62 = true := by kernel_rfl
theorem bd63 : bodied Try.prog 63 = true := by kernel_rfl
theorem bd64 : bodied Try.prog 64 = true := by kernel_rfl
theorem bd65 : bodied Try.prog 65 = true := by kernel_rfl
theorem bd66 : bodied Try.prog 66 = true := by kernel_rfl
theorem bd67 : bodied Try.prog 67 = true := by kernel_rfl
theorem bd68 : bodied Try.prog 68 = true := by kernel_rfl
theorem bd69 : bodied Try.prog 69 = true := by kernel_rfl
theorem bd70 : bodied Try.prog 70 = true := by kernel_rfl
theorem bd71 : bodied Try.prog 71 = true := by kernel_rfl
theorem bd72 : bodied Try.prog 72 = true := by kernel_rfl
theorem bd73 : bodied Try.prog 73 = true := by kernel_rfl
theorem bd74 : bodied Try.prog 74 = true := by kernel_rfl
theorem bd75 : bodied Try.prog 75 = true := by kernel_rfl
theorem bd76 : bodied Try.prog 76 = true := by kernel_rfl
theorem bd77 : bodied Try.prog 77 = true := by kernel_rfl
theorem bd78 : bodied Try.prog 78 = true := by kernel_rfl
theorem bd79 : bodied Try.prog 79 = true := by kernel_rfl
theorem bd80 : bodied Try.prog 80 = true := by kernel_rfl
theorem bd81 : bodied Try.prog 81 = true := by kernel_rfl
theorem bd82 : bodied Try.prog 82 = true := by kernel_rfl
theorem bd83 : bodied Try.prog 83 = true := by kernel_rfl
theorem bd84 : bodied Try.prog 84 = true := by kernel_rfl
theorem bd85 : bodied Try.prog 85 = true := by kernel_rfl
theorem bd86 : bodied Try.prog 86 = true := by kernel_rfl
theorem bd87 : bodied Try.prog 87 = true := by kernel_rfl
theorem bd88 : bodied Try.prog 88 = true := by kernel_rfl
theorem bd89 : bodied Try.prog 89 = true := by kernel_rfl
theorem bd90 : bodied Try.prog 90 = true := by kernel_rfl
theorem bd91 : bodied Try.prog 91 = true := by kernel_rfl
theorem bd92 : bodied Try.prog 92 = true := by kernel_rfl
theorem bd93 : bodied Try.prog 93 = true := by kernel_rfl
theorem bd94 : bodied Try.prog 94 = true := by kernel_rfl
theorem bd95 : bodied Try.prog 95 = true := by kernel_rfl
theorem bd96 : bodied Try.prog 96 = true := by kernel_rfl
theorem bd97 : bodied Try.prog 97 = true := by kernel_rfl
theorem bd98 : bodied Try.prog 98 = true := by kernel_rfl
theorem bd99 : bodied Try.prog 99 = true := by kernel_rfl
theorem bd100 : bodied Try.prog 100 = true := by kernel_rfl
theorem bd101 : bodied Try.prog 101 = true := by kernel_rfl
theorem bd102 : bodied Try.prog 102 = true := by kernel_rfl
theorem bd103 : bodied Try.prog 103 = true := by kernel_rfl
theorem bd104 : bodied Try.prog 104 = true := by kernel_rfl
theorem bd105 : bodied Try.prog 105 = true := by kernel_rfl
theorem bd106 : bodied Try.prog 106 = true := by kernel_rfl
theorem bd107 : bodied Try.prog 107 = true := by kernel_rfl
theorem bd108 : bodied Try.prog 108 = true := by kernel_rfl
theorem bd109 : bodied Try.prog 109 = true := by kernel_rfl
theorem bd110 : bodied Try.prog 110 = true := by kernel_rfl
theorem bd111 : bodied Try.prog 111 = true := by kernel_rfl
theorem bd112 : bodied Try.prog 112 = false := by kernel_rfl
theorem cv2x48 (k : IntKind) (n : Int) : cvt Try.prog 2 48 (.int k n) = some (.int IntKind.u64 (IntKind.u64.wrap n)) := cvt_int (by kernel_rfl) (by kernel_rfl) k n
theorem cv3x48 (k : IntKind) (n : Int) : cvt Try.prog 3 48 (.int k n) = some (.int IntKind.u64 (IntKind.u64.wrap n)) := cvt_int (by kernel_rfl) (by kernel_rfl) k n
theorem cv3x130 (k : IntKind) (n : Int) : cvt Try.prog 3 130 (.int k n) = some (.int IntKind.u64 (IntKind.u64.wrap n)) := cvt_int (by kernel_rfl) (by kernel_rfl) k n
theorem cv5x3 (k : IntKind) (n : Int) : cvt Try.prog 5 3 (.int k n) = some (.int IntKind.i64 (IntKind.i64.wrap n)) := cvt_int (by kernel_rfl) (by kernel_rfl) k n
theorem cv31x3 (k : IntKind) (n : Int) : cvt Try.prog 31 3 (.int k n) = some (.int IntKind.i64 (IntKind.i64.wrap n)) := cvt_int (by kernel_rfl) (by kernel_rfl) k n
theorem cv48x2 (k : IntKind) (n : Int) : cvt Try.prog 48 2 (.int k n) = some (.int IntKind.i64 (IntKind.i64.wrap n)) := cvt_int (by kernel_rfl) (by kernel_rfl) k n
theorem cv48x5 (k : IntKind) (n : Int) : cvt Try.prog 48 5 (.int k n) = some (.int IntKind.u8 (IntKind.u8.wrap n)) := cvt_int (by kernel_rfl) (by kernel_rfl) k n
attribute [go_sem] sz2 kt2 oz2 sz3 kt3 oz3 sz4 kt4 un4 oz4 sz5 kt5 oz5 sz9 kt9 isr9 oz9 sz22 kt22 isl22 el22 ix22 ap22 oz22 sz23 kt23 isl23 el23 ix23 ap23 oz23 sz27 kt27 pl27 fd27x0 fd27x1 fd27x2 oz27 sz29 kt29 pl29 fd29x0 fd29x1 fd29x2 fd29x3 fd29x4 fd29x5 fd29x6 fd29x7 fd29x8 oz29 sz31 kt31 oz31 sz35 kt35 isl35 el35 ix35 ap35 oz35 sz40 kt40 pl40 fd40x0 fd40x1 oz40 sz48 kt48 oz48 sz52 kt52 isl52 el52 ix52 ap52 oz52 sz55 kt55 pl55 fd55x0 fd55x1 oz55 sz57 kt57 pl57 fd57x0 fd57x1 oz57 sz60 kt60 isl60 el60 ix60 ap60 oz60 sz70 kt70 pl70 fd70x0 fd70x1 fd70x2 fd70x3 oz70 sz71 kt71 isl71 el71 ix71 ap71 oz71 sz72 kt72 oz72 sz74 kt74 pl74 fd74x0 fd74x1 fd74x2 fd74x3 fd74x4 oz74 sz75 kt75 isl75 el75 ix75 ap75 oz75 sz76 kt76 isl76 el76 ix76 ap76 oz76 sz78 kt78 pl78 fd78x0 fd78x1 oz78 sz80 kt80 isl80 el80 ix80 ap80 oz80 sz81 kt81 isl81 el81 ix81 ap81 oz81 sz82 kt82 isl82 el82 ix82 ap82 oz82 sz84 kt84 pl84 fd84x0 fd84x1 fd84x2 fd84x3 fd84x4 fd84x5 fd84x6 fd84x7 fd84x8 fd84x9 fd84x10 oz84 sz88 kt88 isl88 el88 ix88 ap88 oz88 sz90 kt90 pl90 fd90x0 fd90x1 oz90 sz94 kt94 isl94 el94 ix94 ap94 oz94 sz97 kt97 isl97 el97 ix97 ap97 oz97 sz115 kt115 pl115 fd115x0 fd115x1 oz115 sz127 kt127 pl127 fd127x0 fd127x1 oz127 sz130 kt130 oz130 sz132 kt132 sz135 kt135 pl135 fd135x0 fd135x1 oz135 sz172 kt172 pl172 oz172 sz174 kt174 pl174 oz174 fl27 fl135 bd7 bd8 bd9 bd10 bd11 bd12 bd13 bd14 bd15 bd16 bd17 bd18 bd19 bd20 bd21 bd22 bd23 bd24 bd25 bd26 bd27 bd28 bd29 bd30 bd31 bd32 bd33 bd34 bd35 bd36 bd37 bd38 bd39 bd40 bd41 bd42 bd43 bd44 bd45 bd46 bd47 bd48 bd49 bd50 bd51 bd52 bd53 bd54 bd55 bd56 bd57 bd58 bd59 bd60 bd61 bd62 bd63 bd64 bd65 bd66 bd67 bd68 bd69 bd70 bd71 bd72 bd73 bd74 bd75 bd76 bd77 bd78 bd79 bd80 bd81 bd82 bd83 bd84 bd85 bd86 bd87 bd88 bd89 bd90 bd91 bd92 bd93 bd94 bd95 bd96 bd97 bd98 bd99 bd100 bd101 bd102 bd103 bd104 bd105 bd106 bd107 bd108 bd109 bd110 bd111 bd112 cv2x48 cv3x48 cv3x130 cv5x3 cv31x3 cv48x2 cv48x5
end Go.Proofs.Ytjdkcedhmfgmoaa
