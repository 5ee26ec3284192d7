/- What the texts ask of the program's types, to rewrite with (printed). -/
import Derived.Test.YtcdeidljcmlfdaaDoorFlat
import Derived.Test.YtcdeidljcmlfdaaDoorProg
namespace Go.Proofs.YtcdeidljcmlfdaaDoor
open Go Go.Eng Go.Proofs
set_option linter.unusedVariables false
set_option linter.unusedSimpArgs false

theorem sz2 : sizeT Tryd.prog 2 = some 1 := by kernel_rfl
theorem kt2 : kindT Tryd.prog 2 = some false := by kernel_rfl
theorem oz2 : ofZero Tryd.prog 2 = some [.v (Value.int IntKind.i64 0)] := by kernel_rfl
theorem sz3 : sizeT Tryd.prog 3 = some 1 := by kernel_rfl
theorem kt3 : kindT Tryd.prog 3 = some false := by kernel_rfl
theorem oz3 : ofZero Tryd.prog 3 = some [.v (Value.int IntKind.i64 0)] := by kernel_rfl
theorem sz4 : sizeT Tryd.prog 4 = some 1 := by kernel_rfl
theorem kt4 : kindT Tryd.prog 4 = some false := by kernel_rfl
theorem un4 : Tryd.prog.underlying 4 = some .bool := by kernel_rfl
theorem oz4 : ofZero Tryd.prog 4 = some [.v (Value.bool false)] := by kernel_rfl
theorem sz5 : sizeT Tryd.prog 5 = some 1 := by kernel_rfl
theorem kt5 : kindT Tryd.prog 5 = some false := by kernel_rfl
theorem oz5 : ofZero Tryd.prog 5 = some [.v (Value.int IntKind.u8 0)] := by kernel_rfl
theorem sz9 : sizeT Tryd.prog 9 = some 1 := by kernel_rfl
theorem kt9 : kindT Tryd.prog 9 = some false := by kernel_rfl
theorem isr9 : isStr Tryd.prog 9 = true := by kernel_rfl
theorem oz9 : ofZero Tryd.prog 9 = some [.v (Value.string { data := #[] })] := by kernel_rfl
theorem sz20 : sizeT Tryd.prog 20 = some 1 := by kernel_rfl
theorem kt20 : kindT Tryd.prog 20 = some false := by kernel_rfl
theorem iif20 : isIf Tryd.prog 20 = true := by kernel_rfl
theorem sz21 : sizeT Tryd.prog 21 = some 1 := by kernel_rfl
theorem kt21 : kindT Tryd.prog 21 = some false := by kernel_rfl
theorem oz21 : ofZero Tryd.prog 21 = some [.v (Value.int IntKind.i32 0)] := by kernel_rfl
theorem sz22 : sizeT Tryd.prog 22 = some 1 := by kernel_rfl
theorem kt22 : kindT Tryd.prog 22 = some false := by kernel_rfl
theorem isl22 : isSl Tryd.prog 22 = true := by kernel_rfl
theorem el22 : elT Tryd.prog 22 = some 1 := by kernel_rfl
theorem ix22 : ixT Tryd.prog 22 = some (none, 1) := by kernel_rfl
theorem ap22 : apT Tryd.prog 22 = some (5, 1, 1) := by kernel_rfl
theorem oz22 : ofZero Tryd.prog 22 = some [.v (Value.slice none 0 0)] := by kernel_rfl
theorem sz24 : sizeT Tryd.prog 24 = some 1 := by kernel_rfl
theorem kt24 : kindT Tryd.prog 24 = some false := by kernel_rfl
theorem isl24 : isSl Tryd.prog 24 = true := by kernel_rfl
theorem el24 : elT Tryd.prog 24 = some 3 := by kernel_rfl
theorem ix24 : ixT Tryd.prog 24 = some (none, 3) := by kernel_rfl
theorem ap24 : apT Tryd.prog 24 = some (29, 3, 32) := by kernel_rfl
theorem oz24 : ofZero Tryd.prog 24 = some [.v (Value.slice none 0 0)] := by kernel_rfl
theorem sz25 : sizeT Tryd.prog 25 = some 1 := by kernel_rfl
theorem kt25 : kindT Tryd.prog 25 = some false := by kernel_rfl
theorem oz25 : ofZero Tryd.prog 25 = some [.v (Value.int IntKind.i64 0)] := by kernel_rfl
theorem sz29 : sizeT Tryd.prog 29 = some 3 := by kernel_rfl
theorem kt29 : kindT Tryd.prog 29 = some true := by kernel_rfl
theorem pl29 : placesT Tryd.prog 29 = some [(0, 1), (1, 1), (2, 1)] := by kernel_rfl
theorem fd29x0 : fieldOf Tryd.prog 29 0 = some (0, 5, 1) := by kernel_rfl
theorem fd29x1 : fieldOf Tryd.prog 29 1 = some (1, 9, 1) := by kernel_rfl
theorem fd29x2 : fieldOf Tryd.prog 29 2 = some (2, 3, 1) := by kernel_rfl
theorem oz29 : ofZero Tryd.prog 29 = some [.v (Value.int IntKind.u8 0), .v (Value.string { data := #[] }), .v (Value.int IntKind.i64 0)] := by kernel_rfl
theorem sz30 : sizeT Tryd.prog 30 = some 1 := by kernel_rfl
theorem kt30 : kindT Tryd.prog 30 = some false := by kernel_rfl
theorem isl30 : isSl Tryd.prog 30 = true := by kernel_rfl
theorem el30 : elT Tryd.prog 30 = some 1 := by kernel_rfl
theorem ix30 : ixT Tryd.prog 30 = some (none, 1) := by kernel_rfl
theorem ap30 : apT Tryd.prog 30 = some (9, 1, 16) := by kernel_rfl
theorem oz30 : ofZero Tryd.prog 30 = some [.v (Value.slice none 0 0)] := by kernel_rfl
theorem sz32 : sizeT Tryd.prog 32 = some 1 := by kernel_rfl
theorem kt32 : kindT Tryd.prog 32 = some false := by kernel_rfl
theorem oz32 : ofZero Tryd.prog 32 = some [.v (Value.int IntKind.u16 0)] := by kernel_rfl
theorem sz46 : sizeT Tryd.prog 46 = some 256 := by kernel_rfl
theorem kt46 : kindT Tryd.prog 46 = some true := by kernel_rfl
theorem ar46 : arT Tryd.prog 46 = some (256, 4, 1) := by kernel_rfl
theorem ix46 : ixT Tryd.prog 46 = some (some 256, 1) := by kernel_rfl
theorem sz50 : sizeT Tryd.prog 50 = some 1 := by kernel_rfl
theorem kt50 : kindT Tryd.prog 50 = some false := by kernel_rfl
theorem ipt50 : isPt Tryd.prog 50 = true := by kernel_rfl
theorem ips50 : isPs Tryd.prog 50 = true := by kernel_rfl
theorem oz50 : ofZero Tryd.prog 50 = some [.v (Value.pointer none)] := by kernel_rfl
theorem sz64 : sizeT Tryd.prog 64 = some 1 := by kernel_rfl
theorem kt64 : kindT Tryd.prog 64 = some false := by kernel_rfl
theorem iif64 : isIf Tryd.prog 64 = true := by kernel_rfl
theorem sz67 : sizeT Tryd.prog 67 = some 3 := by kernel_rfl
theorem kt67 : kindT Tryd.prog 67 = some true := by kernel_rfl
theorem ar67 : arT Tryd.prog 67 = some (3, 9, 1) := by kernel_rfl
theorem ix67 : ixT Tryd.prog 67 = some (some 3, 1) := by kernel_rfl
theorem oz67 : ofZero Tryd.prog 67 = some [.v (Value.string { data := #[] }), .v (Value.string { data := #[] }), .v (Value.string { data := #[] })] := by kernel_rfl
theorem sz72 : sizeT Tryd.prog 72 = some 1 := by kernel_rfl
theorem kt72 : kindT Tryd.prog 72 = some false := by kernel_rfl
theorem oz72 : ofZero Tryd.prog 72 = some [.v (Value.int IntKind.u64 0)] := by kernel_rfl
theorem sz77 : sizeT Tryd.prog 77 = some 1 := by kernel_rfl
theorem kt77 : kindT Tryd.prog 77 = some false := by kernel_rfl
theorem oz77 : ofZero Tryd.prog 77 = some [.v (Value.int IntKind.i64 0)] := by kernel_rfl
theorem sz85 : sizeT Tryd.prog 85 = some 1 := by kernel_rfl
theorem kt85 : kindT Tryd.prog 85 = some false := by kernel_rfl
theorem oz85 : ofZero Tryd.prog 85 = some [.v (Value.int IntKind.u32 0)] := by kernel_rfl
theorem sz87 : sizeT Tryd.prog 87 = some 1 := by kernel_rfl
theorem kt87 : kindT Tryd.prog 87 = some false := by kernel_rfl
theorem oz87 : ofZero Tryd.prog 87 = some [.v (Value.int IntKind.u64 0)] := by kernel_rfl
theorem sz88 : sizeT Tryd.prog 88 = some 256 := by kernel_rfl
theorem kt88 : kindT Tryd.prog 88 = some true := by kernel_rfl
theorem ar88 : arT Tryd.prog 88 = some (256, 5, 1) := by kernel_rfl
theorem ix88 : ixT Tryd.prog 88 = some (some 256, 1) := by kernel_rfl
theorem sz90 : sizeT Tryd.prog 90 = some 2 := by kernel_rfl
theorem kt90 : kindT Tryd.prog 90 = some true := by kernel_rfl
theorem pl90 : placesT Tryd.prog 90 = some [(0, 1), (1, 1)] := by kernel_rfl
theorem fd90x0 : fieldOf Tryd.prog 90 0 = some (0, 5, 1) := by kernel_rfl
theorem fd90x1 : fieldOf Tryd.prog 90 1 = some (1, 5, 1) := by kernel_rfl
theorem oz90 : ofZero Tryd.prog 90 = some [.v (Value.int IntKind.u8 0), .v (Value.int IntKind.u8 0)] := by kernel_rfl
theorem sz91 : sizeT Tryd.prog 91 = some 32 := by kernel_rfl
theorem kt91 : kindT Tryd.prog 91 = some true := by kernel_rfl
theorem ar91 : arT Tryd.prog 91 = some (16, 90, 2) := by kernel_rfl
theorem ix91 : ixT Tryd.prog 91 = some (some 16, 2) := by kernel_rfl
theorem oz91 : ofZero Tryd.prog 91 = some [.v (Value.int IntKind.u8 0), .v (Value.int IntKind.u8 0), .v (Value.int IntKind.u8 0), .v (Value.int IntKind.u8 0), .v (Value.int IntKind.u8 0), .v (Value.int IntKind.u8 0), .v (Value.int IntKind.u8 0), .v (Value.int IntKind.u8 0), .v (Value.int IntKind.u8 0), .v (Value.int IntKind.u8 0), .v (Value.int IntKind.u8 0), .v (Value.int IntKind.u8 0), .v (Value.int IntKind.u8 0), .v (Value.int IntKind.u8 0), .v (Value.int IntKind.u8 0), .v (Value.int IntKind.u8 0), .v (Value.int IntKind.u8 0), .v (Value.int IntKind.u8 0), .v (Value.int IntKind.u8 0), .v (Value.int IntKind.u8 0), .v (Value.int IntKind.u8 0), .v (Value.int IntKind.u8 0), .v (Value.int IntKind.u8 0), .v (Value.int IntKind.u8 0), .v (Value.int IntKind.u8 0), .v (Value.int IntKind.u8 0), .v (Value.int IntKind.u8 0), .v (Value.int IntKind.u8 0), .v (Value.int IntKind.u8 0), .v (Value.int IntKind.u8 0), .v (Value.int IntKind.u8 0), .v (Value.int IntKind.u8 0)] := by kernel_rfl
theorem sz97 : sizeT Tryd.prog 97 = some 1 := by kernel_rfl
theorem kt97 : kindT Tryd.prog 97 = some false := by kernel_rfl
theorem ipt97 : isPt Tryd.prog 97 = true := by kernel_rfl
theorem ips97 : isPs Tryd.prog 97 = true := by kernel_rfl
theorem oz97 : ofZero Tryd.prog 97 = some [.v (Value.pointer none)] := by kernel_rfl
theorem sz100 : sizeT Tryd.prog 100 = some 1 := by kernel_rfl
theorem kt100 : kindT Tryd.prog 100 = some false := by kernel_rfl
theorem oz100 : ofZero Tryd.prog 100 = some [.v (Value.int IntKind.u64 0)] := by kernel_rfl
theorem sz104 : sizeT Tryd.prog 104 = some 1 := by kernel_rfl
theorem kt104 : kindT Tryd.prog 104 = some false := by kernel_rfl
theorem ipt104 : isPt Tryd.prog 104 = true := by kernel_rfl
theorem ips104 : isPs Tryd.prog 104 = true := by kernel_rfl
theorem oz104 : ofZero Tryd.prog 104 = some [.v (Value.pointer none)] := by kernel_rfl
theorem sz109 : sizeT Tryd.prog 109 = some 3 := by kernel_rfl
theorem kt109 : kindT Tryd.prog 109 = some true := by kernel_rfl
theorem pl109 : placesT Tryd.prog 109 = some [(0, 1), (1, 1), (2, 1)] := by kernel_rfl
theorem sz112 : sizeT Tryd.prog 112 = some 1 := by kernel_rfl
theorem kt112 : kindT Tryd.prog 112 = some false := by kernel_rfl
theorem ipt112 : isPt Tryd.prog 112 = true := by kernel_rfl
theorem ips112 : isPs Tryd.prog 112 = true := by kernel_rfl
theorem oz112 : ofZero Tryd.prog 112 = some [.v (Value.pointer none)] := by kernel_rfl
theorem sz117 : sizeT Tryd.prog 117 = some 1 := by kernel_rfl
theorem kt117 : kindT Tryd.prog 117 = some false := by kernel_rfl
theorem ipt117 : isPt Tryd.prog 117 = true := by kernel_rfl
theorem ips117 : isPs Tryd.prog 117 = true := by kernel_rfl
theorem oz117 : ofZero Tryd.prog 117 = some [.v (Value.pointer none)] := by kernel_rfl
theorem sz118 : sizeT Tryd.prog 118 = some 1 := by kernel_rfl
theorem kt118 : kindT Tryd.prog 118 = some false := by kernel_rfl
theorem ipt118 : isPt Tryd.prog 118 = true := by kernel_rfl
theorem ips118 : isPs Tryd.prog 118 = true := by kernel_rfl
theorem oz118 : ofZero Tryd.prog 118 = some [.v (Value.pointer none)] := by kernel_rfl
theorem sz120 : sizeT Tryd.prog 120 = some 1 := by kernel_rfl
theorem kt120 : kindT Tryd.prog 120 = some true := by kernel_rfl
theorem pl120 : placesT Tryd.prog 120 = some [(0, 1)] := by kernel_rfl
theorem oz120 : ofZero Tryd.prog 120 = some [.v (Value.string { data := #[] })] := by kernel_rfl
theorem sz122 : sizeT Tryd.prog 122 = some 24 := by kernel_rfl
theorem kt122 : kindT Tryd.prog 122 = some true := by kernel_rfl
theorem ar122 : arT Tryd.prog 122 = some (24, 5, 1) := by kernel_rfl
theorem ix122 : ixT Tryd.prog 122 = some (some 24, 1) := by kernel_rfl
theorem oz122 : ofZero Tryd.prog 122 = some [.v (Value.int IntKind.u8 0), .v (Value.int IntKind.u8 0), .v (Value.int IntKind.u8 0), .v (Value.int IntKind.u8 0), .v (Value.int IntKind.u8 0), .v (Value.int IntKind.u8 0), .v (Value.int IntKind.u8 0), .v (Value.int IntKind.u8 0), .v (Value.int IntKind.u8 0), .v (Value.int IntKind.u8 0), .v (Value.int IntKind.u8 0), .v (Value.int IntKind.u8 0), .v (Value.int IntKind.u8 0), .v (Value.int IntKind.u8 0), .v (Value.int IntKind.u8 0), .v (Value.int IntKind.u8 0), .v (Value.int IntKind.u8 0), .v (Value.int IntKind.u8 0), .v (Value.int IntKind.u8 0), .v (Value.int IntKind.u8 0), .v (Value.int IntKind.u8 0), .v (Value.int IntKind.u8 0), .v (Value.int IntKind.u8 0), .v (Value.int IntKind.u8 0)] := by kernel_rfl
theorem sz127 : sizeT Tryd.prog 127 = some 20 := by kernel_rfl
theorem kt127 : kindT Tryd.prog 127 = some true := by kernel_rfl
theorem ar127 : arT Tryd.prog 127 = some (20, 87, 1) := by kernel_rfl
theorem ix127 : ixT Tryd.prog 127 = some (some 20, 1) := by kernel_rfl
theorem oz127 : ofZero Tryd.prog 127 = some [.v (Value.int IntKind.u64 0), .v (Value.int IntKind.u64 0), .v (Value.int IntKind.u64 0), .v (Value.int IntKind.u64 0), .v (Value.int IntKind.u64 0), .v (Value.int IntKind.u64 0), .v (Value.int IntKind.u64 0), .v (Value.int IntKind.u64 0), .v (Value.int IntKind.u64 0), .v (Value.int IntKind.u64 0), .v (Value.int IntKind.u64 0), .v (Value.int IntKind.u64 0), .v (Value.int IntKind.u64 0), .v (Value.int IntKind.u64 0), .v (Value.int IntKind.u64 0), .v (Value.int IntKind.u64 0), .v (Value.int IntKind.u64 0), .v (Value.int IntKind.u64 0), .v (Value.int IntKind.u64 0), .v (Value.int IntKind.u64 0)] := by kernel_rfl
theorem sz128 : sizeT Tryd.prog 128 = some 65 := by kernel_rfl
theorem kt128 : kindT Tryd.prog 128 = some true := by kernel_rfl
theorem ar128 : arT Tryd.prog 128 = some (65, 5, 1) := by kernel_rfl
theorem ix128 : ixT Tryd.prog 128 = some (some 65, 1) := by kernel_rfl
theorem sz130 : sizeT Tryd.prog 130 = some 32 := by kernel_rfl
theorem kt130 : kindT Tryd.prog 130 = some true := by kernel_rfl
theorem ar130 : arT Tryd.prog 130 = some (32, 5, 1) := by kernel_rfl
theorem ix130 : ixT Tryd.prog 130 = some (some 32, 1) := by kernel_rfl
theorem oz130 : ofZero Tryd.prog 130 = some [.v (Value.int IntKind.u8 0), .v (Value.int IntKind.u8 0), .v (Value.int IntKind.u8 0), .v (Value.int IntKind.u8 0), .v (Value.int IntKind.u8 0), .v (Value.int IntKind.u8 0), .v (Value.int IntKind.u8 0), .v (Value.int IntKind.u8 0), .v (Value.int IntKind.u8 0), .v (Value.int IntKind.u8 0), .v (Value.int IntKind.u8 0), .v (Value.int IntKind.u8 0), .v (Value.int IntKind.u8 0), .v (Value.int IntKind.u8 0), .v (Value.int IntKind.u8 0), .v (Value.int IntKind.u8 0), .v (Value.int IntKind.u8 0), .v (Value.int IntKind.u8 0), .v (Value.int IntKind.u8 0), .v (Value.int IntKind.u8 0), .v (Value.int IntKind.u8 0), .v (Value.int IntKind.u8 0), .v (Value.int IntKind.u8 0), .v (Value.int IntKind.u8 0), .v (Value.int IntKind.u8 0), .v (Value.int IntKind.u8 0), .v (Value.int IntKind.u8 0), .v (Value.int IntKind.u8 0), .v (Value.int IntKind.u8 0), .v (Value.int IntKind.u8 0), .v (Value.int IntKind.u8 0), .v (Value.int IntKind.u8 0)] := by kernel_rfl
theorem sz131 : sizeT Tryd.prog 131 = some 64 := by kernel_rfl
theorem kt131 : kindT Tryd.prog 131 = some true := by kernel_rfl
theorem ar131 : arT Tryd.prog 131 = some (64, 5, 1) := by kernel_rfl
theorem ix131 : ixT Tryd.prog 131 = some (some 64, 1) := by kernel_rfl
theorem oz131 : ofZero Tryd.prog 131 = some [.v (Value.int IntKind.u8 0), .v (Value.int IntKind.u8 0), .v (Value.int IntKind.u8 0), .v (Value.int IntKind.u8 0), .v (Value.int IntKind.u8 0), .v (Value.int IntKind.u8 0), .v (Value.int IntKind.u8 0), .v (Value.int IntKind.u8 0), .v (Value.int IntKind.u8 0), .v (Value.int IntKind.u8 0), .v (Value.int IntKind.u8 0), .v (Value.int IntKind.u8 0), .v (Value.int IntKind.u8 0), .v (Value.int IntKind.u8 0), .v (Value.int IntKind.u8 0), .v (Value.int IntKind.u8 0), .v (Value.int IntKind.u8 0), .v (Value.int IntKind.u8 0), .v (Value.int IntKind.u8 0), .v (Value.int IntKind.u8 0), .v (Value.int IntKind.u8 0), .v (Value.int IntKind.u8 0), .v (Value.int IntKind.u8 0), .v (Value.int IntKind.u8 0), .v (Value.int IntKind.u8 0), .v (Value.int IntKind.u8 0), .v (Value.int IntKind.u8 0), .v (Value.int IntKind.u8 0), .v (Value.int IntKind.u8 0), .v (Value.int IntKind.u8 0), .v (Value.int IntKind.u8 0), .v (Value.int IntKind.u8 0), .v (Value.int IntKind.u8 0), .v (Value.int IntKind.u8 0), .v (Value.int IntKind.u8 0), .v (Value.int IntKind.u8 0), .v (Value.int IntKind.u8 0), .v (Value.int IntKind.u8 0), .v (Value.int IntKind.u8 0), .v (Value.int IntKind.u8 0), .v (Value.int IntKind.u8 0), .v (Value.int IntKind.u8 0), .v (Value.int IntKind.u8 0), .v (Value.int IntKind.u8 0), .v (Value.int IntKind.u8 0), .v (Value.int IntKind.u8 0), .v (Value.int IntKind.u8 0), .v (Value.int IntKind.u8 0), .v (Value.int IntKind.u8 0), .v (Value.int IntKind.u8 0), .v (Value.int IntKind.u8 0), .v (Value.int IntKind.u8 0), .v (Value.int IntKind.u8 0), .v (Value.int IntKind.u8 0), .v (Value.int IntKind.u8 0), .v (Value.int IntKind.u8 0), .v (Value.int IntKind.u8 0), .v (Value.int IntKind.u8 0), .v (Value.int IntKind.u8 0), .v (Value.int IntKind.u8 0), .v (Value.int IntKind.u8 0), .v (Value.int IntKind.u8 0), .v (Value.int IntKind.u8 0), .v (Value.int IntKind.u8 0)] := by kernel_rfl
theorem fl29 : flT Tryd.prog 29 = some [(1, 0), (2, 1), (1, 2)] := by kernel_rfl
theorem bd7 : bodied Tryd.prog 7 = true := by kernel_rfl
theorem bd8 : bodied Tryd.prog 8 = true := by kernel_rfl
theorem bd9 : bodied Tryd.prog 9 = true := by kernel_rfl
theorem bd10 : bodied Tryd.prog 10 = true := by kernel_rfl
theorem bd11 : bodied Tryd.prog 11 = true := by kernel_rfl
theorem bd12 : bodied Tryd.prog 12 = true := by kernel_rfl
theorem bd13 : bodied Tryd.prog 13 = true := by kernel_rfl
theorem bd14 : bodied Tryd.prog 14 = true := by kernel_rfl
theorem bd15 : bodied Tryd.prog 15 = true := by kernel_rfl
theorem bd16 : bodied Tryd.prog 16 = true := by kernel_rfl
theorem bd17 : bodied Tryd.prog 17 = true := by kernel_rfl
theorem bd18 : bodied Tryd.prog 18 = true := by kernel_rfl
theorem bd19 : bodied Tryd.prog 19 = true := by kernel_rfl
theorem bd20 : bodied Tryd.prog 20 = true := by kernel_rfl
theorem bd21 : bodied Tryd.prog 21 = true := by kernel_rfl
theorem bd22 : bodied Tryd.prog 22 = true := by kernel_rfl
theorem bd23 : bodied Tryd.prog 23 = true := by kernel_rfl
theorem bd24 : bodied Tryd.prog 24 = true := by kernel_rfl
theorem bd25 : bodied Tryd.prog 25 = true := by kernel_rfl
theorem bd26 : bodied Tryd.prog 26 = true := by kernel_rfl
theorem bd27 : bodied Tryd.prog 27 = true := by kernel_rfl
theorem bd28 : bodied Tryd.prog 28 = true := by kernel_rfl
theorem bd29 : bodied Tryd.prog 29 = true := by kernel_rfl
theorem bd30 : bodied Tryd.prog 30 = true := by kernel_rfl
theorem bd31 : bodied Tryd.prog 31 = true := by kernel_rfl
theorem bd32 : bodied Tryd.prog 32 = true := by kernel_rfl
theorem bd33 : bodied Tryd.prog 33 = true := by kernel_rfl
theorem bd34 : bodied Tryd.prog 34 = true := by kernel_rfl
theorem bd35 : bodied Tryd.prog 35 = true := by kernel_rfl
theorem bd36 : bodied Tryd.prog 36 = true := by kernel_rfl
theorem bd37 : bodied Tryd.prog 37 = true := by kernel_rfl
theorem bd38 : bodied Tryd.prog 38 = true := by kernel_rfl
theorem bd40 : bodied Tryd.prog 40 = true := by kernel_rfl
theorem bd41 : bodied Tryd.prog 41 = true := by kernel_rfl
theorem bd42 : bodied Tryd.prog 42 = true := by kernel_rfl
theorem bd43 : bodied Tryd.prog 43 = true := by kernel_rfl
theorem bd44 : bodied Tryd.prog 44 = true := by kernel_rfl
theorem bd45 : bodied Tryd.prog 45 = true := by kernel_rfl
theorem bd46 : bodied Tryd.prog 46 = true := by kernel_rfl
theorem bd47 : bodied Tryd.prog 47 = true := by kernel_rfl
theorem bd48 : bodied Tryd.prog 48 = true := by kernel_rfl
theorem bd49 : bodied Tryd.prog 49 = true := by kernel_rfl
theorem bd50 : bodied Tryd.prog 50 = true := by kernel_rfl
theorem bd51 : bodied Tryd.prog 51 = true := by kernel_rfl
theorem bd52 : bodied Tryd.prog 52 = true := by kernel_rfl
theorem bd53 : bodied Tryd.prog 53 = true := by kernel_rfl
theorem bd54 : bodied Tryd.prog 54 = true := by kernel_rfl
theorem bd55 : bodied Tryd.prog 55 = true := by kernel_rfl
theorem bd56 : bodied Tryd.prog 56 = true := by kernel_rfl
theorem bd57 : bodied Tryd.prog 57 = true := by kernel_rfl
theorem bd58 : bodied Tryd.prog 58 = true := by kernel_rfl
theorem bd59 : bodied Tryd.prog 59 = true := by kernel_rfl
theorem bd60 : bodied Tryd.prog 60 = true := by kernel_rfl
theorem bd61 : bodied Tryd.prog 61 = false := by kernel_rfl
theorem bd62 : bodied Tryd.prog 62 = true := by kernel_rfl
theorem bd63 : bodied Tryd.prog 63 = true := by kernel_rfl
theorem bd64 : bodied Tryd.prog 64 = true := by kernel_rfl
theorem bd65 : bodied Tryd.prog 65 = true := by kernel_rfl
theorem bd66 : bodied Tryd.prog 66 = true := by kernel_rfl
theorem bd67 : bodied Tryd.prog 67 = false := by kernel_rfl
theorem bd68 : bodied Tryd.prog 68 = true := by kernel_rfl
theorem bd69 : bodied Tryd.prog 69 = true := by kernel_rfl
theorem bd70 : bodied Tryd.prog 70 = true := by kernel_rfl
theorem bd71 : bodied Tryd.prog 71 = true := by kernel_rfl
theorem bd72 : bodied Tryd.prog 72 = true := by kernel_rfl
theorem bd73 : bodied Tryd.prog 73 = true := by kernel_rfl
theorem bd74 : bodied Tryd.prog 74 = true := by kernel_rfl
theorem bd75 : bodied Tryd.prog 75 = true := by kernel_rfl
theorem bd76 : bodied Tryd.prog 76 = true := by kernel_rfl
theorem bd77 : bodied Tryd.prog 77 = true := by kernel_rfl
theorem bd78 : bodied Tryd.prog 78 = true := by kernel_rfl
theorem bd79 : bodied Tryd.prog 79 = true := by kernel_rfl
theorem bd80 : bodied Tryd.prog 80 = true := by kernel_rfl
theorem bd81 : bodied Tryd.prog 81 = true := by kernel_rfl
theorem bd82 : bodied Tryd.prog 82 = true := by kernel_rfl
theorem bd83 : bodied Tryd.prog 83 = true := by kernel_rfl
theorem bd84 : bodied Tryd.prog 84 = true := by kernel_rfl
theorem bd85 : bodied Tryd.prog 85 = true := by kernel_rfl
theorem bd86 : bodied Tryd.prog 86 = true := by kernel_rfl
theorem bd87 : bodied Tryd.prog 87 = true := by kernel_rfl
theorem bd88 : bodied Tryd.prog 88 = true := by kernel_rfl
theorem bd89 : bodied Tryd.prog 89 = true := by kernel_rfl
theorem bd90 : bodied Tryd.prog 90 = true := by kernel_rfl
theorem bd91 : bodied Tryd.prog 91 = true := by kernel_rfl
theorem bd92 : bodied Tryd.prog 92 = true := by kernel_rfl
theorem bd93 : bodied Tryd.prog 93 = true := by kernel_rfl
theorem cv2x87 (k : IntKind) (n : Int) : cvt Tryd.prog 2 87 (.int k n) = some (.int IntKind.u64 (IntKind.u64.wrap n)) := cvt_int (by kernel_rfl) (by kernel_rfl) k n
theorem cv3x5 (k : IntKind) (n : Int) : cvt Tryd.prog 3 5 (.int k n) = some (.int IntKind.u8 (IntKind.u8.wrap n)) := cvt_int (by kernel_rfl) (by kernel_rfl) k n
theorem cv3x72 (k : IntKind) (n : Int) : cvt Tryd.prog 3 72 (.int k n) = some (.int IntKind.u64 (IntKind.u64.wrap n)) := cvt_int (by kernel_rfl) (by kernel_rfl) k n
theorem cv3x87 (k : IntKind) (n : Int) : cvt Tryd.prog 3 87 (.int k n) = some (.int IntKind.u64 (IntKind.u64.wrap n)) := cvt_int (by kernel_rfl) (by kernel_rfl) k n
theorem cv3x100 (k : IntKind) (n : Int) : cvt Tryd.prog 3 100 (.int k n) = some (.int IntKind.u64 (IntKind.u64.wrap n)) := cvt_int (by kernel_rfl) (by kernel_rfl) k n
theorem cv5x3 (k : IntKind) (n : Int) : cvt Tryd.prog 5 3 (.int k n) = some (.int IntKind.i64 (IntKind.i64.wrap n)) := cvt_int (by kernel_rfl) (by kernel_rfl) k n
theorem cv5x21 (k : IntKind) (n : Int) : cvt Tryd.prog 5 21 (.int k n) = some (.int IntKind.i32 (IntKind.i32.wrap n)) := cvt_int (by kernel_rfl) (by kernel_rfl) k n
theorem cv5x85 (k : IntKind) (n : Int) : cvt Tryd.prog 5 85 (.int k n) = some (.int IntKind.u32 (IntKind.u32.wrap n)) := cvt_int (by kernel_rfl) (by kernel_rfl) k n
theorem cv5x87 (k : IntKind) (n : Int) : cvt Tryd.prog 5 87 (.int k n) = some (.int IntKind.u64 (IntKind.u64.wrap n)) := cvt_int (by kernel_rfl) (by kernel_rfl) k n
theorem cb9x22 (hint : Bool) (d : Nat) (β : Nat → Option (List D)) (b : ByteArray) : cvK Tryd.prog hint (some d) β 9 22 (.v (.string b)) = if room b.size 1 = true then some (byE hint (some d) 5 b) else none := cvK_by (by kernel_rfl) (by kernel_rfl) hint d β b
theorem cv21x5 (k : IntKind) (n : Int) : cvt Tryd.prog 21 5 (.int k n) = some (.int IntKind.u8 (IntKind.u8.wrap n)) := cvt_int (by kernel_rfl) (by kernel_rfl) k n
theorem bt22x9 : b2s Tryd.prog 22 9 = true := by kernel_rfl
theorem cv32x3 (k : IntKind) (n : Int) : cvt Tryd.prog 32 3 (.int k n) = some (.int IntKind.i64 (IntKind.i64.wrap n)) := cvt_int (by kernel_rfl) (by kernel_rfl) k n
theorem cv72x3 (k : IntKind) (n : Int) : cvt Tryd.prog 72 3 (.int k n) = some (.int IntKind.i64 (IntKind.i64.wrap n)) := cvt_int (by kernel_rfl) (by kernel_rfl) k n
theorem cv72x85 (k : IntKind) (n : Int) : cvt Tryd.prog 72 85 (.int k n) = some (.int IntKind.u32 (IntKind.u32.wrap n)) := cvt_int (by kernel_rfl) (by kernel_rfl) k n
theorem cv85x5 (k : IntKind) (n : Int) : cvt Tryd.prog 85 5 (.int k n) = some (.int IntKind.u8 (IntKind.u8.wrap n)) := cvt_int (by kernel_rfl) (by kernel_rfl) k n
theorem cv87x2 (k : IntKind) (n : Int) : cvt Tryd.prog 87 2 (.int k n) = some (.int IntKind.i64 (IntKind.i64.wrap n)) := cvt_int (by kernel_rfl) (by kernel_rfl) k n
theorem cv87x5 (k : IntKind) (n : Int) : cvt Tryd.prog 87 5 (.int k n) = some (.int IntKind.u8 (IntKind.u8.wrap n)) := cvt_int (by kernel_rfl) (by kernel_rfl) k n
theorem cv87x85 (k : IntKind) (n : Int) : cvt Tryd.prog 87 85 (.int k n) = some (.int IntKind.u32 (IntKind.u32.wrap n)) := cvt_int (by kernel_rfl) (by kernel_rfl) k n
attribute [go_sem] sz2 kt2 oz2 sz3 kt3 oz3 sz4 kt4 un4 oz4 sz5 kt5 oz5 sz9 kt9 isr9 oz9 sz20 kt20 iif20 sz21 kt21 oz21 sz22 kt22 isl22 el22 ix22 ap22 oz22 sz24 kt24 isl24 el24 ix24 ap24 oz24 sz25 kt25 oz25 sz29 kt29 pl29 fd29x0 fd29x1 fd29x2 oz29 sz30 kt30 isl30 el30 ix30 ap30 oz30 sz32 kt32 oz32 sz46 kt46 ar46 ix46 sz50 kt50 ipt50 ips50 oz50 sz64 kt64 iif64 sz67 kt67 ar67 ix67 oz67 sz72 kt72 oz72 sz77 kt77 oz77 sz85 kt85 oz85 sz87 kt87 oz87 sz88 kt88 ar88 ix88 sz90 kt90 pl90 fd90x0 fd90x1 oz90 sz91 kt91 ar91 ix91 oz91 sz97 kt97 ipt97 ips97 oz97 sz100 kt100 oz100 sz104 kt104 ipt104 ips104 oz104 sz109 kt109 pl109 sz112 kt112 ipt112 ips112 oz112 sz117 kt117 ipt117 ips117 oz117 sz118 kt118 ipt118 ips118 oz118 sz120 kt120 pl120 oz120 sz122 kt122 ar122 ix122 oz122 sz127 kt127 ar127 ix127 oz127 sz128 kt128 ar128 ix128 sz130 kt130 ar130 ix130 oz130 sz131 kt131 ar131 ix131 oz131 fl29 bd7 bd8 bd9 bd10 bd11 bd12 bd13 bd14 bd15 bd16 bd17 bd18 bd19 bd20 bd21 bd22 bd23 bd24 bd25 bd26 bd27 bd28 bd29 bd30 bd31 bd32 bd33 bd34 bd35 bd36 bd37 bd38 bd40 bd41 bd42 bd43 bd44 bd45 bd46 bd47 bd48 bd49 bd50 bd51 bd52 bd53 bd54 bd55 bd56 bd57 bd58 bd59 bd60 bd61 bd62 bd63 bd64 bd65 bd66 bd67 bd68 bd69 bd70 bd71 bd72 bd73 bd74 bd75 bd76 bd77 bd78 bd79 bd80 bd81 bd82 bd83 bd84 bd85 bd86 bd87 bd88 bd89 bd90 bd91 bd92 bd93 cv2x87 cv3x5 cv3x72 cv3x87 cv3x100 cv5x3 cv5x21 cv5x85 cv5x87 cb9x22 cv21x5 bt22x9 cv32x3 cv72x3 cv72x85 cv85x5 cv87x2 cv87x5 cv87x85
end Go.Proofs.YtcdeidljcmlfdaaDoor
