/-
 Types of the program and their rows.
-/
import Derived.Test.YtbndcpjklngfhaaGreatDoorTriY
import Derived.Test.YtbndcpjklngfhaaGreatDoorPLex5
import Derived.Test.YtbndcpjklngfhaaGreatDoorProg
namespace Go.Tri
open Go.Proofs.Tryz
open Go.Proofs Go.RowKit
theorem mo:prog.follows .mixedOrders=true:=by kernel_rfl
theorem ti2:TI prog 2 1 8 (.int .i64 0):=CY (by kernel_rfl)
theorem I2:TI prog 3 1 8 (.int .i64 0):=CY (by kernel_rfl)
theorem NL:TI prog 4 1 1 (.bool false):=CY (by kernel_rfl)
theorem ti5:TI prog 5 1 1 (.int .u8 0):=CY (by kernel_rfl)
theorem Co:TI prog 9 1 16 (Au []):=CY (by kernel_rfl)
theorem Mf:TI prog 22 1 24 (.slice none 0 0):=CY (by kernel_rfl)
theorem Gs:TI prog 23 1 24 (.slice none 0 0):=CY (by kernel_rfl)
theorem ATQ:TI prog 25 4 96 (.agg #[.slice none 0 0,.slice none 0 0,.slice none 0 0,.slice none 0 0]):=CY (by kernel_rfl)
theorem AgO:TI prog 28 1 8 (.pointer none):=CY (by kernel_rfl)
theorem ASc:TI prog 30 1 8 (.int .i64 0):=CY (by kernel_rfl)
theorem AiB:TI prog 35 1 8 (.agg #[.pointer none]):=CY (by kernel_rfl)
theorem AAA:TI prog 38 1 8 (.pointer none):=CY (by kernel_rfl)
theorem AAo:TI prog 39 1 8 (.pointer none):=CY (by kernel_rfl)
theorem ACd:TI prog 41 7 112 (.agg #[.pointer none,.slice none 0 0,.pointer none,.int .i64 0,.slice none 0 0,.slice none 0 0,Au []]):=CY (by kernel_rfl)
theorem DY:TI prog 46 5 40 (.agg #[Au [],Au [],.bool false,.bool false,.bool false]):=CY (by kernel_rfl)
theorem AkK:TI prog 49 2 48 (.agg #[.slice none 0 0,.slice none 0 0]):=CY (by kernel_rfl)
theorem AhQ:TI prog 58 1 16 (.nilIface):=CY (by kernel_rfl)
theorem Adx:TI prog 68 1 24 (.slice none 0 0):=CY (by kernel_rfl)
theorem XP:TI prog 71 1 24 (.slice none 0 0):=CY (by kernel_rfl)
theorem ZS:TI prog 79 3 24 (.agg #[Au [],.bool false,.bool false]):=CY (by kernel_rfl)
theorem Wo:TI prog 81 4 32 (.agg #[Au [],.bool false,.bool false,.bool false]):=CY (by kernel_rfl)
theorem ASb:TI prog 85 1 24 (.slice none 0 0):=CY (by kernel_rfl)
theorem Ij:TI prog 87 8 104 (.agg #[.int .i64 0,.int .i64 0,.int .i64 0,.int .i64 0,.int .i64 0,Au [],.slice none 0 0,.slice none 0 0]):=CY (by kernel_rfl)
theorem AfX:TI prog 88 1 24 (.slice none 0 0):=CY (by kernel_rfl)
theorem AhW:TI prog 90 1 24 (.agg #[.slice none 0 0]):=CY (by kernel_rfl)
theorem XA:TI prog 96 1 24 (.slice none 0 0):=CY (by kernel_rfl)
theorem Adt:TI prog 101 3 40 (.agg #[.nilIface,Au [],.int .i64 0]):=CY (by kernel_rfl)
theorem Qy:TI prog 105 4 32 (.agg #[Au [],.bool false,.bool false,.bool false]):=CY (by kernel_rfl)
theorem Adf:TI prog 106 1 8 (.pointer none):=CY (by kernel_rfl)
theorem Aef:TI prog 108 5 56 (.agg #[.slice none 0 0,.slice none 0 0,.bool false,.bool false,.bool false]):=CY (by kernel_rfl)
theorem Cn:TI prog 113 2 2 (.agg #[.int .u8 0,.bool false]):=CY (by kernel_rfl)
theorem AWX:TI prog 118 1 8 (.pointer none):=CY (by kernel_rfl)
theorem AWn:TI prog 119 1 24 (.slice none 0 0):=CY (by kernel_rfl)
theorem AIT:TI prog 121 2 32 (.agg #[.pointer none,.slice none 0 0]):=CY (by kernel_rfl)
theorem AcW:TI prog 136 1 8 (.agg #[.int .i64 0]):=CY (by kernel_rfl)
theorem BU:TI prog 147 5 72 (.agg #[.int .i64 0,Au [],Au [],.slice none 0 0,.bool false]):=CY (by kernel_rfl)
theorem MD:TI prog 162 1 24 (.slice none 0 0):=CY (by kernel_rfl)
theorem AfQ:TI prog 164 4 56 (.agg #[Au [],.int .i64 0,.int .i64 0,.slice none 0 0]):=CY (by kernel_rfl)
theorem It:TI prog 176 3 24 (.agg #[.int .i64 0,.int .i64 0,.int .i64 0]):=CY (by kernel_rfl)
theorem AIv:TI prog 186 1 24 (.slice none 0 0):=CY (by kernel_rfl)
theorem O2:TI prog 190 2 24 (.agg #[Au [],.int .i64 0]):=CY (by kernel_rfl)
theorem QG:TI prog 237 1 8 (.pointer none):=CY (by kernel_rfl)
theorem AdZ:TI prog 242 2 48 (.agg #[.slice none 0 0,.slice none 0 0]):=CY (by kernel_rfl)
theorem AcN:TI prog 250 1 24 (.slice none 0 0):=CY (by kernel_rfl)
theorem AcB:TI prog 253 5 88 (.agg #[.slice none 0 0,.int .i64 0,.slice none 0 0,.slice none 0 0,.int .i64 0]):=CY (by kernel_rfl)
theorem JQ:TI prog 255 3 32 (.agg #[Au [],.int .i64 0,.bool false]):=CY (by kernel_rfl)
theorem ANp:TI prog 261 2 16 (.agg #[.int .i64 0,.int .i64 0]):=CY (by kernel_rfl)
theorem AfH:TI prog 263 4 40 (.agg #[Au [],.int .i64 0,.int .i64 0,.int .i64 0]):=CY (by kernel_rfl)
theorem ANu:TI prog 268 1 24 (.slice none 0 0):=CY (by kernel_rfl)
theorem AWi:TI prog 270 4 64 (.agg #[Au [],Au [],.int .i64 0,.slice none 0 0]):=CY (by kernel_rfl)
theorem ANq:TI prog 272 1 24 (.slice none 0 0):=CY (by kernel_rfl)
theorem Ie:TI prog 275 3 32 (.agg #[Au [],.int .i64 0,.int .i64 0]):=CY (by kernel_rfl)
theorem Adq:TI prog 280 8 96 (.agg #[.slice none 0 0,Au [],.int .i64 0,.int .i64 0,Au [],.int .i64 0,.int .i64 0,.int .i64 0]):=CY (by kernel_rfl)
theorem Xm:TI prog 328 3 24 (.agg #[Au [],.int .u8 0,.int .u8 0]):=CY (by kernel_rfl)
def plT:Nat->List (Nat×Nat)
 |25=>[(0,1),(1,1),(2,1),(3,1)]
 |35=>[(0,1)]
 |41=>[(0,1),(1,1),(2,1),(3,1),(4,1),(5,1),(6,1)]
 |46=>[(0,1),(1,1),(2,1),(3,1),(4,1)]
 |49=>[(0,1),(1,1)]
 |79=>[(0,1),(1,1),(2,1)]
 |81=>[(0,3),(3,1)]
 |87=>[(0,1),(1,1),(2,1),(3,1),(4,1),(5,1),(6,1),(7,1)]
 |90=>[(0,1)]
 |101=>[(0,1),(1,1),(2,1)]
 |105=>[(0,3),(3,1)]
 |108=>[(0,1),(1,1),(2,1),(3,1),(4,1)]
 |113=>[(0,1),(1,1)]
 |121=>[(0,1),(1,1)]
 |136=>[(0,1)]
 |147=>[(0,1),(1,1),(2,1),(3,1),(4,1)]
 |164=>[(0,1),(1,1),(2,1),(3,1)]
 |176=>[(0,1),(1,1),(2,1)]
 |190=>[(0,1),(1,1)]
 |242=>[(0,1),(1,1)]
 |253=>[(0,1),(1,1),(2,1),(3,1),(4,1)]
 |255=>[(0,1),(1,1),(2,1)]
 |261=>[(0,1),(1,1)]
 |263=>[(0,1),(1,1),(2,2)]
 |270=>[(0,1),(1,1),(2,1),(3,1)]
 |275=>[(0,1),(1,1),(2,1)]
 |280=>[(0,1),(1,3),(4,3),(7,1)]
 |328=>[(0,1),(1,1),(2,1)]
 |333=>[(0,1),(1,1)]
 |_=>[]
instance:FO prog:=⟨plT,fun t=>by
 unfold plT
 split
 ·exact .inr ⟨_,underlying25,⟨O,⟨_,_,Mf⟩,⟨O,⟨_,_,Gs⟩,⟨O,⟨_,_,Gs⟩,⟨O,⟨_,_,Gs⟩,trivial⟩⟩⟩⟩⟩
 ·exact .inr ⟨_,underlying35,⟨O,⟨_,_,AgO⟩,trivial⟩⟩
 ·exact .inr ⟨_,underlying41,⟨O,⟨_,_,AAA⟩,⟨O,⟨_,_,Mf⟩,⟨O,⟨_,_,AAo⟩,⟨O,⟨_,_,I2⟩,⟨O,⟨_,_,Gs⟩,⟨O,⟨_,_,Gs⟩,⟨O,⟨_,_,Co⟩,trivial⟩⟩⟩⟩⟩⟩⟩⟩
 ·exact .inr ⟨_,underlying46,⟨O,⟨_,_,Co⟩,⟨O,⟨_,_,Co⟩,⟨O,⟨_,_,NL⟩,⟨O,⟨_,_,NL⟩,⟨O,⟨_,_,NL⟩,trivial⟩⟩⟩⟩⟩⟩
 ·exact .inr ⟨_,underlying49,⟨O,⟨_,_,Mf⟩,⟨O,⟨_,_,Gs⟩,trivial⟩⟩⟩
 ·exact .inr ⟨_,underlying79,⟨O,⟨_,_,Co⟩,⟨O,⟨_,_,NL⟩,⟨O,⟨_,_,NL⟩,trivial⟩⟩⟩⟩
 ·exact .inr ⟨_,underlying81,⟨O,⟨_,_,ZS⟩,⟨O,⟨_,_,NL⟩,trivial⟩⟩⟩
 ·exact .inr ⟨_,underlying87,⟨O,⟨_,_,I2⟩,⟨O,⟨_,_,I2⟩,⟨O,⟨_,_,I2⟩,⟨O,⟨_,_,I2⟩,⟨O,⟨_,_,I2⟩,⟨O,⟨_,_,Co⟩,⟨O,⟨_,_,Gs⟩,⟨O,⟨_,_,ASb⟩,trivial⟩⟩⟩⟩⟩⟩⟩⟩⟩
 ·exact .inr ⟨_,underlying90,⟨O,⟨_,_,AfX⟩,trivial⟩⟩
 ·exact .inr ⟨_,underlying101,⟨O,⟨_,_,AhQ⟩,⟨O,⟨_,_,Co⟩,⟨O,⟨_,_,ASc⟩,trivial⟩⟩⟩⟩
 ·exact .inr ⟨_,underlying105,⟨O,⟨_,_,ZS⟩,⟨O,⟨_,_,NL⟩,trivial⟩⟩⟩
 ·exact .inr ⟨_,underlying108,⟨O,⟨_,_,Adx⟩,⟨O,⟨_,_,XP⟩,⟨O,⟨_,_,NL⟩,⟨O,⟨_,_,NL⟩,⟨O,⟨_,_,NL⟩,trivial⟩⟩⟩⟩⟩⟩
 ·exact .inr ⟨_,underlying113,⟨O,⟨_,_,ti5⟩,⟨O,⟨_,_,NL⟩,trivial⟩⟩⟩
 ·exact .inr ⟨_,underlying121,⟨O,⟨_,_,AWX⟩,⟨O,⟨_,_,AWn⟩,trivial⟩⟩⟩
 ·exact .inr ⟨_,underlying136,⟨O,⟨_,_,I2⟩,trivial⟩⟩
 ·exact .inr ⟨_,underlying147,⟨O,⟨_,_,I2⟩,⟨O,⟨_,_,Co⟩,⟨O,⟨_,_,Co⟩,⟨O,⟨_,_,XA⟩,⟨O,⟨_,_,NL⟩,trivial⟩⟩⟩⟩⟩⟩
 ·exact .inr ⟨_,underlying164,⟨O,⟨_,_,Co⟩,⟨O,⟨_,_,I2⟩,⟨O,⟨_,_,I2⟩,⟨O,⟨_,_,MD⟩,trivial⟩⟩⟩⟩⟩
 ·exact .inr ⟨_,underlying176,⟨O,⟨_,_,I2⟩,⟨O,⟨_,_,I2⟩,⟨O,⟨_,_,I2⟩,trivial⟩⟩⟩⟩
 ·exact .inr ⟨_,underlying190,⟨O,⟨_,_,Co⟩,⟨O,⟨_,_,ti2⟩,trivial⟩⟩⟩
 ·exact .inr ⟨_,underlying242,⟨O,⟨_,_,Mf⟩,⟨O,⟨_,_,AIv⟩,trivial⟩⟩⟩
 ·exact .inr ⟨_,underlying253,⟨O,⟨_,_,AcN⟩,⟨O,⟨_,_,I2⟩,⟨O,⟨_,_,Mf⟩,⟨O,⟨_,_,AIv⟩,⟨O,⟨_,_,I2⟩,trivial⟩⟩⟩⟩⟩⟩
 ·exact .inr ⟨_,underlying255,⟨O,⟨_,_,Co⟩,⟨O,⟨_,_,ti2⟩,⟨O,⟨_,_,NL⟩,trivial⟩⟩⟩⟩
 ·exact .inr ⟨_,underlying261,⟨O,⟨_,_,I2⟩,⟨O,⟨_,_,ASc⟩,trivial⟩⟩⟩
 ·exact .inr ⟨_,underlying263,⟨O,⟨_,_,Co⟩,⟨O,⟨_,_,I2⟩,⟨O,⟨_,_,ANp⟩,trivial⟩⟩⟩⟩
 ·exact .inr ⟨_,underlying270,⟨O,⟨_,_,Co⟩,⟨O,⟨_,_,Co⟩,⟨O,⟨_,_,ti2⟩,⟨O,⟨_,_,ANu⟩,trivial⟩⟩⟩⟩⟩
 ·exact .inr ⟨_,underlying275,⟨O,⟨_,_,Co⟩,⟨O,⟨_,_,ti2⟩,⟨O,⟨_,_,I2⟩,trivial⟩⟩⟩⟩
 ·exact .inr ⟨_,underlying280,⟨O,⟨_,_,ANq⟩,⟨O,⟨_,_,Ie⟩,⟨O,⟨_,_,Ie⟩,⟨O,⟨_,_,ASc⟩,trivial⟩⟩⟩⟩⟩
 ·exact .inr ⟨_,underlying328,⟨O,⟨_,_,Co⟩,⟨O,⟨_,_,ti5⟩,⟨O,⟨_,_,ti5⟩,trivial⟩⟩⟩⟩
 ·exact .inr ⟨_,underlying333,⟨O,⟨_,_,ti5⟩,⟨O,⟨_,_,ti5⟩,trivial⟩⟩⟩
 exact .inl O⟩
instance:LT prog 2:=⟨_,underlying2,rfl⟩
instance:LT prog 3:=⟨_,underlying3,rfl⟩
instance:LT prog 4:=⟨_,underlying4,rfl⟩
instance:LT prog 5:=⟨_,underlying5,rfl⟩
instance:LT prog 9:=⟨_,underlying9,rfl⟩
instance:LT prog 22:=⟨_,underlying22,rfl⟩
instance:LT prog 23:=⟨_,underlying23,rfl⟩
instance:LT prog 28:=⟨_,underlying28,rfl⟩
instance:LT prog 30:=⟨_,underlying30,rfl⟩
instance:LT prog 38:=⟨_,underlying38,rfl⟩
instance:LT prog 39:=⟨_,underlying39,rfl⟩
instance:LT prog 58:=⟨_,underlying58,rfl⟩
instance:LT prog 59:=⟨_,underlying59,rfl⟩
instance:LT prog 67:=⟨_,underlying67,rfl⟩
instance:LT prog 68:=⟨_,underlying68,rfl⟩
instance:LT prog 71:=⟨_,underlying71,rfl⟩
instance:LT prog 85:=⟨_,underlying85,rfl⟩
instance:LT prog 88:=⟨_,underlying88,rfl⟩
instance:LT prog 96:=⟨_,underlying96,rfl⟩
instance:LT prog 106:=⟨_,underlying106,rfl⟩
instance:LT prog 118:=⟨_,underlying118,rfl⟩
instance:LT prog 119:=⟨_,underlying119,rfl⟩
instance:LT prog 162:=⟨_,underlying162,rfl⟩
instance:LT prog 186:=⟨_,underlying186,rfl⟩
instance:LT prog 237:=⟨_,underlying237,rfl⟩
instance:LT prog 250:=⟨_,underlying250,rfl⟩
instance:LT prog 268:=⟨_,underlying268,rfl⟩
instance:LT prog 272:=⟨_,underlying272,rfl⟩
instance:Im prog 6:=⟨_,func6,by kernel_rfl,rfl⟩
instance:Im prog 12:=⟨_,func12,by kernel_rfl,rfl⟩
instance:Im prog 13:=⟨_,func13,by kernel_rfl,rfl⟩
instance:Im prog 14:=⟨_,func14,by kernel_rfl,rfl⟩
instance:Im prog 15:=⟨_,func15,by kernel_rfl,rfl⟩
instance:Im prog 27:=⟨_,func27,by kernel_rfl,rfl⟩
instance:Im prog 47:=⟨_,func47,by kernel_rfl,rfl⟩
instance:Im prog 60:=⟨_,func60,by kernel_rfl,rfl⟩
instance:Im prog 70:=⟨_,func70,by kernel_rfl,rfl⟩
instance:Im prog 83:=⟨_,func83,by kernel_rfl,rfl⟩
instance:Im prog 84:=⟨_,func84,by kernel_rfl,rfl⟩
instance:Im prog 87:=⟨_,func87,by kernel_rfl,rfl⟩
instance:Im prog 94:=⟨_,func94,by kernel_rfl,rfl⟩
instance:Im prog 95:=⟨_,func95,by kernel_rfl,rfl⟩
instance:Im prog 96:=⟨_,func96,by kernel_rfl,rfl⟩
instance:Im prog 104:=⟨_,func104,by kernel_rfl,rfl⟩
instance:Im prog 105:=⟨_,func105,by kernel_rfl,rfl⟩
instance:Im prog 109:=⟨_,func109,by kernel_rfl,rfl⟩
instance:Im prog 110:=⟨_,func110,by kernel_rfl,rfl⟩
instance:Im prog 111:=⟨_,func111,by kernel_rfl,rfl⟩
instance:Im prog 112:=⟨_,func112,by kernel_rfl,rfl⟩
instance:Im prog 115:=⟨_,func115,by kernel_rfl,rfl⟩
instance:Im prog 116:=⟨_,func116,by kernel_rfl,rfl⟩
abbrev un2:=underlying2
abbrev un3:=underlying3
abbrev un4:=underlying4
abbrev un5:=underlying5
abbrev BX:=underlying9
abbrev AfE:=underlying12
abbrev Dn:=underlying22
abbrev BT:=underlying23
abbrev AYi:=underlying25
abbrev XO:=underlying30
abbrev ABQ:=underlying33
abbrev ACD:=underlying41
abbrev Ov:=underlying46
abbrev AYF:=underlying47
abbrev AhF:=underlying49
abbrev AAk:=underlying59
abbrev AUc:=underlying67
abbrev Tr:=underlying68
abbrev DU:=underlying71
abbrev QF:=underlying75
abbrev AUU:=underlying79
abbrev NU:=underlying85
abbrev AVY:=underlying87
abbrev Jt:=underlying88
abbrev Fw:=underlying96
abbrev APo:=underlying105
abbrev Ng:=underlying113
abbrev AQu:=underlying118
abbrev O8:=underlying119
abbrev DG:=underlying147
abbrev AeS:=underlying151
abbrev E5:=underlying162
abbrev AWv:=underlying172
abbrev JO:=underlying176
abbrev Rg:=underlying186
abbrev APF:=underlying190
abbrev Xg:=underlying250
abbrev RY:=underlying255
abbrev AVo:=underlying258
abbrev TL:=underlying268
abbrev Aeq:=underlying270
abbrev APB:=underlying272
abbrev PC:=underlying275
abbrev AQW:=underlying328
instance:TC prog 2 1 8 (.int .i64 0):=⟨ti2⟩
instance:TC prog 3 1 8 (.int .i64 0):=⟨I2⟩
instance:TC prog 4 1 1 (.bool false):=⟨NL⟩
instance:TC prog 5 1 1 (.int .u8 0):=⟨ti5⟩
instance:TC prog 9 1 16 (Au []):=⟨Co⟩
instance:TC prog 22 1 24 (.slice none 0 0):=⟨Mf⟩
instance:TC prog 23 1 24 (.slice none 0 0):=⟨Gs⟩
instance:TC prog 25 4 96 (.agg #[.slice none 0 0,.slice none 0 0,.slice none 0 0,.slice none 0 0]):=⟨ATQ⟩
instance:TC prog 30 1 8 (.int .i64 0):=⟨ASc⟩
instance:TC prog 35 1 8 (.agg #[.pointer none]):=⟨AiB⟩
instance:TC prog 46 5 40 (.agg #[Au [],Au [],.bool false,.bool false,.bool false]):=⟨DY⟩
instance:TC prog 71 1 24 (.slice none 0 0):=⟨XP⟩
instance:TC prog 79 3 24 (.agg #[Au [],.bool false,.bool false]):=⟨ZS⟩
instance:TC prog 81 4 32 (.agg #[Au [],.bool false,.bool false,.bool false]):=⟨Wo⟩
instance:TC prog 87 8 104 (.agg #[.int .i64 0,.int .i64 0,.int .i64 0,.int .i64 0,.int .i64 0,Au [],.slice none 0 0,.slice none 0 0]):=⟨Ij⟩
instance:TC prog 88 1 24 (.slice none 0 0):=⟨AfX⟩
instance:TC prog 90 1 24 (.agg #[.slice none 0 0]):=⟨AhW⟩
instance:TC prog 96 1 24 (.slice none 0 0):=⟨XA⟩
instance:TC prog 101 3 40 (.agg #[.nilIface,Au [],.int .i64 0]):=⟨Adt⟩
instance:TC prog 105 4 32 (.agg #[Au [],.bool false,.bool false,.bool false]):=⟨Qy⟩
instance:TC prog 106 1 8 (.pointer none):=⟨Adf⟩
instance:TC prog 108 5 56 (.agg #[.slice none 0 0,.slice none 0 0,.bool false,.bool false,.bool false]):=⟨Aef⟩
instance:TC prog 113 2 2 (.agg #[.int .u8 0,.bool false]):=⟨Cn⟩
instance:TC prog 118 1 8 (.pointer none):=⟨AWX⟩
instance:TC prog 119 1 24 (.slice none 0 0):=⟨AWn⟩
instance:TC prog 121 2 32 (.agg #[.pointer none,.slice none 0 0]):=⟨AIT⟩
instance:TC prog 136 1 8 (.agg #[.int .i64 0]):=⟨AcW⟩
instance:TC prog 147 5 72 (.agg #[.int .i64 0,Au [],Au [],.slice none 0 0,.bool false]):=⟨BU⟩
instance:TC prog 164 4 56 (.agg #[Au [],.int .i64 0,.int .i64 0,.slice none 0 0]):=⟨AfQ⟩
instance:TC prog 176 3 24 (.agg #[.int .i64 0,.int .i64 0,.int .i64 0]):=⟨It⟩
instance:TC prog 186 1 24 (.slice none 0 0):=⟨AIv⟩
instance:TC prog 190 2 24 (.agg #[Au [],.int .i64 0]):=⟨O2⟩
instance:TC prog 237 1 8 (.pointer none):=⟨QG⟩
instance:TC prog 242 2 48 (.agg #[.slice none 0 0,.slice none 0 0]):=⟨AdZ⟩
instance:TC prog 253 5 88 (.agg #[.slice none 0 0,.int .i64 0,.slice none 0 0,.slice none 0 0,.int .i64 0]):=⟨AcB⟩
instance:TC prog 255 3 32 (.agg #[Au [],.int .i64 0,.bool false]):=⟨JQ⟩
instance:TC prog 261 2 16 (.agg #[.int .i64 0,.int .i64 0]):=⟨ANp⟩
instance:TC prog 263 4 40 (.agg #[Au [],.int .i64 0,.int .i64 0,.int .i64 0]):=⟨AfH⟩
instance:TC prog 268 1 24 (.slice none 0 0):=⟨ANu⟩
instance:TC prog 270 4 64 (.agg #[Au [],Au [],.int .i64 0,.slice none 0 0]):=⟨AWi⟩
instance:TC prog 272 1 24 (.slice none 0 0):=⟨ANq⟩
instance:TC prog 275 3 32 (.agg #[Au [],.int .i64 0,.int .i64 0]):=⟨Ie⟩
instance:TC prog 280 8 96 (.agg #[.slice none 0 0,Au [],.int .i64 0,.int .i64 0,Au [],.int .i64 0,.int .i64 0,.int .i64 0]):=⟨Adq⟩
instance:TC prog 328 3 24 (.agg #[Au [],.int .u8 0,.int .u8 0]):=⟨Xm⟩
instance:SlT prog 22 46:=⟨underlying22⟩
instance:SlT prog 23 9:=⟨underlying23⟩
instance:SlT prog 59 105:=⟨underlying59⟩
instance:SlT prog 67 79:=⟨underlying67⟩
instance:SlT prog 68 71:=⟨underlying68⟩
instance:SlT prog 71 113:=⟨underlying71⟩
instance:SlT prog 75 81:=⟨underlying75⟩
instance:SlT prog 88 87:=⟨underlying88⟩
instance:SlT prog 96 147:=⟨underlying96⟩
instance:SlT prog 119 5:=⟨underlying119⟩
instance:SlT prog 186 190:=⟨underlying186⟩
instance:SlT prog 250 255:=⟨underlying250⟩
instance:SlT prog 268 237:=⟨underlying268⟩
instance:SlT prog 272 275:=⟨underlying272⟩
end Go.Tri
