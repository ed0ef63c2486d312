/- Laws on walking typed knowledge through code, and contracts. -/
import Derived.Test.YthfaleobmefibaaGreatM2
import Derived.Test.YthfaleobmefibaaGreatChecked
import Derived.KernelRfl
import Derived.Laws.CopyRow

/- The program's types and functions, as our laws ask for them. (Printed by seat.py.) -/
namespace Go.Fl
open Go Go.Proofs

instance:D6 Tryz.prog 3:=D6.mk' Tryz.underlying3 rfl
instance:o9 Tryz.prog 3 1 8 (.int .i64 0):=o9.mk' (by kernel_rfl)
instance:GC Tryz.prog 3 .i64:=⟨Tryz.underlying3⟩
instance:D7 Tryz.prog 3 [j4 (.int .i64 0)]:=D7.mk' (z:=.int .i64 0) (by kernel_rfl) (fun _=>by simp[n8,j4,Value.cells])
instance:D6 Tryz.prog 4:=D6.mk' Tryz.underlying4 rfl
instance:o9 Tryz.prog 4 1 1 (.bool false):=o9.mk' (by kernel_rfl)
instance:PZ Tryz.prog 4:=⟨Tryz.underlying4⟩
instance:D6 Tryz.prog 22:=D6.mk' Tryz.underlying22 rfl
instance:o9 Tryz.prog 22 1 24 (.slice none 0 0):=o9.mk' (by kernel_rfl)
instance:A8 Tryz.prog 22 3:=⟨Tryz.underlying22⟩
instance:B9 Tryz.prog 24:=B9.mk' Tryz.underlying24 rfl
instance:o9 Tryz.prog 24 4 48 (.agg #[.slice none 0 0,.int .i64 0,.int .i64 0,.int .i64 0]):=o9.mk' (by kernel_rfl)
instance:D7 Tryz.prog 24 [j4 (.slice none 0 0),j4 (.int .i64 0),j4 (.int .i64 0),j4 (.int .i64 0)]:=D7.mk' (z:=.agg #[.slice none 0 0,.int .i64 0,.int .i64 0,.int .i64 0]) (by kernel_rfl) (fun _=>by simp[n8,j4,Value.cells])
instance:s5 Tryz.prog 24 0 0:=s5.mk' Tryz.underlying24 rfl rfl (by kernel_rfl)
instance:s5 Tryz.prog 24 1 1:=s5.mk' Tryz.underlying24 rfl rfl (by kernel_rfl)
instance:s5 Tryz.prog 24 2 2:=s5.mk' Tryz.underlying24 rfl rfl (by kernel_rfl)
instance:s5 Tryz.prog 24 3 3:=s5.mk' Tryz.underlying24 rfl rfl (by kernel_rfl)
instance:BT Tryz.prog 24 [(0,1),(1,1),(2,1),(3,1)]:=⟨_,Tryz.underlying24,by kernel_rfl⟩
instance:D6 Tryz.prog 25:=D6.mk' Tryz.underlying25 rfl
instance:o9 Tryz.prog 25 1 24 (.slice none 0 0):=o9.mk' (by kernel_rfl)
instance:A8 Tryz.prog 25 30:=⟨Tryz.underlying25⟩
instance:B9 Tryz.prog 27:=B9.mk' Tryz.underlying27 rfl
instance:o9 Tryz.prog 27 7 120 (.agg #[.slice none 0 0,.int .i64 0,.int .i64 0,.int .i64 0,.slice none 0 0,.slice none 0 0,.slice none 0 0]):=o9.mk' (by kernel_rfl)
instance:D7 Tryz.prog 27 [j4 (.slice none 0 0),j4 (.int .i64 0),j4 (.int .i64 0),j4 (.int .i64 0),j4 (.slice none 0 0),j4 (.slice none 0 0),j4 (.slice none 0 0)]:=D7.mk' (z:=.agg #[.slice none 0 0,.int .i64 0,.int .i64 0,.int .i64 0,.slice none 0 0,.slice none 0 0,.slice none 0 0]) (by kernel_rfl) (fun _=>by simp[n8,j4,Value.cells])
instance:s5 Tryz.prog 27 0 0:=s5.mk' Tryz.underlying27 rfl rfl (by kernel_rfl)
instance:s5 Tryz.prog 27 1 4:=s5.mk' Tryz.underlying27 rfl rfl (by kernel_rfl)
instance:s5 Tryz.prog 27 2 5:=s5.mk' Tryz.underlying27 rfl rfl (by kernel_rfl)
instance:s5 Tryz.prog 27 3 6:=s5.mk' Tryz.underlying27 rfl rfl (by kernel_rfl)
instance:BT Tryz.prog 27 [(0,4),(4,1),(5,1),(6,1)]:=⟨_,Tryz.underlying27,by kernel_rfl⟩
instance:D6 Tryz.prog 28:=D6.mk' Tryz.underlying28 rfl
instance:o9 Tryz.prog 28 1 24 (.slice none 0 0):=o9.mk' (by kernel_rfl)
instance:A8 Tryz.prog 28 22:=⟨Tryz.underlying28⟩
instance:B9 Tryz.prog 30:=B9.mk' Tryz.underlying30 rfl
instance:o9 Tryz.prog 30 2 48 (.agg #[.slice none 0 0,.slice none 0 0]):=o9.mk' (by kernel_rfl)
instance:D7 Tryz.prog 30 [j4 (.slice none 0 0),j4 (.slice none 0 0)]:=D7.mk' (z:=.agg #[.slice none 0 0,.slice none 0 0]) (by kernel_rfl) (fun _=>by simp[n8,j4,Value.cells])
instance:s5 Tryz.prog 30 0 0:=s5.mk' Tryz.underlying30 rfl rfl (by kernel_rfl)
instance:s5 Tryz.prog 30 1 1:=s5.mk' Tryz.underlying30 rfl rfl (by kernel_rfl)
instance:BT Tryz.prog 30 [(0,1),(1,1)]:=⟨_,Tryz.underlying30,by kernel_rfl⟩
instance:B9 Tryz.prog 88:=B9.mk' Tryz.underlying88 rfl
instance:o9 Tryz.prog 88 2 48 (.agg #[.slice none 0 0,.slice none 0 0]):=o9.mk' (by kernel_rfl)
instance:D7 Tryz.prog 88 [j4 (.slice none 0 0),j4 (.slice none 0 0)]:=D7.mk' (z:=.agg #[.slice none 0 0,.slice none 0 0]) (by kernel_rfl) (fun _=>by simp[n8,j4,Value.cells])
instance:s5 Tryz.prog 88 0 0:=s5.mk' Tryz.underlying88 rfl rfl (by kernel_rfl)
instance:s5 Tryz.prog 88 1 1:=s5.mk' Tryz.underlying88 rfl rfl (by kernel_rfl)
instance:BT Tryz.prog 88 [(0,1),(1,1)]:=⟨_,Tryz.underlying88,by kernel_rfl⟩
instance:D6 Tryz.prog 112:=D6.mk' Tryz.underlying112 rfl
instance:D7 Tryz.prog 114 [j4 (.pointer none),j4 (.slice none 0 0),j4 (.slice none 0 0),j4 (.slice none 0 0),j4 (.slice none 0 0),j4 (.slice none 0 0),j4 (.slice none 0 0),j4 (.slice none 0 0),j4 (.slice none 0 0)]:=D7.mk' (z:=.agg #[.pointer none,.slice none 0 0,.slice none 0 0,.slice none 0 0,.slice none 0 0,.slice none 0 0,.slice none 0 0,.slice none 0 0,.slice none 0 0]) (by kernel_rfl) (fun _=>by simp[n8,j4,Value.cells])
instance:s5 Tryz.prog 114 0 0:=s5.mk' Tryz.underlying114 rfl rfl (by kernel_rfl)
instance:s5 Tryz.prog 114 1 1:=s5.mk' Tryz.underlying114 rfl rfl (by kernel_rfl)
instance:s5 Tryz.prog 114 2 3:=s5.mk' Tryz.underlying114 rfl rfl (by kernel_rfl)
instance:s5 Tryz.prog 114 3 4:=s5.mk' Tryz.underlying114 rfl rfl (by kernel_rfl)
instance:s5 Tryz.prog 114 4 5:=s5.mk' Tryz.underlying114 rfl rfl (by kernel_rfl)
instance:s5 Tryz.prog 114 5 6:=s5.mk' Tryz.underlying114 rfl rfl (by kernel_rfl)
instance:s5 Tryz.prog 114 6 7:=s5.mk' Tryz.underlying114 rfl rfl (by kernel_rfl)
instance:BT Tryz.prog 114 [(0,1),(1,2),(3,1),(4,1),(5,1),(6,1),(7,2)]:=⟨_,Tryz.underlying114,by kernel_rfl⟩
instance:A8 Tryz.prog 145 22:=⟨Tryz.underlying145⟩
instance:B9 Tryz.prog 160:=B9.mk' Tryz.underlying160 rfl
instance:o9 Tryz.prog 160 2 32 (.agg #[.bool false,.slice none 0 0]):=o9.mk' (by kernel_rfl)
instance:D7 Tryz.prog 160 [j4 (.bool false),j4 (.slice none 0 0)]:=D7.mk' (z:=.agg #[.bool false,.slice none 0 0]) (by kernel_rfl) (fun _=>by simp[n8,j4,Value.cells])
instance:s5 Tryz.prog 160 0 0:=s5.mk' Tryz.underlying160 rfl rfl (by kernel_rfl)
instance:s5 Tryz.prog 160 1 1:=s5.mk' Tryz.underlying160 rfl rfl (by kernel_rfl)
instance:BT Tryz.prog 160 [(0,1),(1,1)]:=⟨_,Tryz.underlying160,by kernel_rfl⟩
instance:B9 Tryz.prog 161:=B9.mk' Tryz.underlying161 rfl
instance:o9 Tryz.prog 161 8 128 (.agg #[.bool false,.slice none 0 0,.bool false,.slice none 0 0,.bool false,.slice none 0 0,.bool false,.slice none 0 0]):=o9.mk' (by kernel_rfl)
instance:AS Tryz.prog 161 4 160:=⟨Tryz.underlying161⟩
instance:D7 Tryz.prog 161 [j4 (.bool false),j4 (.slice none 0 0),j4 (.bool false),j4 (.slice none 0 0),j4 (.bool false),j4 (.slice none 0 0),j4 (.bool false),j4 (.slice none 0 0)]:=D7.mk' (z:=.agg #[.bool false,.slice none 0 0,.bool false,.slice none 0 0,.bool false,.slice none 0 0,.bool false,.slice none 0 0]) (by kernel_rfl) (fun _=>by simp[n8,j4,Value.cells])
instance:B9 Tryz.prog 163:=B9.mk' Tryz.underlying163 rfl
instance:o9 Tryz.prog 163 10 160 (.agg #[.bool false,.slice none 0 0,.bool false,.slice none 0 0,.bool false,.slice none 0 0,.bool false,.slice none 0 0,.bool false,.slice none 0 0]):=o9.mk' (by kernel_rfl)
instance:D7 Tryz.prog 163 [j4 (.bool false),j4 (.slice none 0 0),j4 (.bool false),j4 (.slice none 0 0),j4 (.bool false),j4 (.slice none 0 0),j4 (.bool false),j4 (.slice none 0 0),j4 (.bool false),j4 (.slice none 0 0)]:=D7.mk' (z:=.agg #[.bool false,.slice none 0 0,.bool false,.slice none 0 0,.bool false,.slice none 0 0,.bool false,.slice none 0 0,.bool false,.slice none 0 0]) (by kernel_rfl) (fun _=>by simp[n8,j4,Value.cells])
instance:s5 Tryz.prog 163 0 0:=s5.mk' Tryz.underlying163 rfl rfl (by kernel_rfl)
instance:s5 Tryz.prog 163 1 8:=s5.mk' Tryz.underlying163 rfl rfl (by kernel_rfl)
instance:BT Tryz.prog 163 [(0,8),(8,2)]:=⟨_,Tryz.underlying163,by kernel_rfl⟩
instance:D6 Tryz.prog 192:=D6.mk' Tryz.underlying192 rfl
instance:o9 Tryz.prog 192 1 24 (.slice none 0 0):=o9.mk' (by kernel_rfl)
instance:A8 Tryz.prog 192 160:=⟨Tryz.underlying192⟩
instance:D6 Tryz.prog 193:=D6.mk' Tryz.underlying193 rfl
instance:o9 Tryz.prog 193 1 24 (.slice none 0 0):=o9.mk' (by kernel_rfl)
instance:A8 Tryz.prog 193 160:=⟨Tryz.underlying193⟩
instance:B9 Tryz.prog 197:=B9.mk' Tryz.underlying197 rfl
instance:o9 Tryz.prog 197 12 192 (.agg #[.slice none 0 0,.int .i64 0,.int .i64 0,.int .i64 0,.slice none 0 0,.slice none 0 0,.bool false,.slice none 0 0,.bool false,.slice none 0 0,.bool false,.slice none 0 0]):=o9.mk' (by kernel_rfl)
instance:D7 Tryz.prog 197 [j4 (.slice none 0 0),j4 (.int .i64 0),j4 (.int .i64 0),j4 (.int .i64 0),j4 (.slice none 0 0),j4 (.slice none 0 0),j4 (.bool false),j4 (.slice none 0 0),j4 (.bool false),j4 (.slice none 0 0),j4 (.bool false),j4 (.slice none 0 0)]:=D7.mk' (z:=.agg #[.slice none 0 0,.int .i64 0,.int .i64 0,.int .i64 0,.slice none 0 0,.slice none 0 0,.bool false,.slice none 0 0,.bool false,.slice none 0 0,.bool false,.slice none 0 0]) (by kernel_rfl) (fun _=>by simp[n8,j4,Value.cells])
instance:s5 Tryz.prog 197 0 0:=s5.mk' Tryz.underlying197 rfl rfl (by kernel_rfl)
instance:s5 Tryz.prog 197 1 4:=s5.mk' Tryz.underlying197 rfl rfl (by kernel_rfl)
instance:s5 Tryz.prog 197 2 5:=s5.mk' Tryz.underlying197 rfl rfl (by kernel_rfl)
instance:s5 Tryz.prog 197 3 6:=s5.mk' Tryz.underlying197 rfl rfl (by kernel_rfl)
instance:s5 Tryz.prog 197 4 8:=s5.mk' Tryz.underlying197 rfl rfl (by kernel_rfl)
instance:s5 Tryz.prog 197 5 10:=s5.mk' Tryz.underlying197 rfl rfl (by kernel_rfl)
instance:BT Tryz.prog 197 [(0,4),(4,1),(5,1),(6,2),(8,2),(10,2)]:=⟨_,Tryz.underlying197,by kernel_rfl⟩
instance:A8 Tryz.prog 217 4:=⟨Tryz.underlying217⟩
instance:D6 Tryz.prog 242:=D6.mk' Tryz.underlying242 rfl
instance:o9 Tryz.prog 242 1 24 (.slice none 0 0):=o9.mk' (by kernel_rfl)
instance:A8 Tryz.prog 242 193:=⟨Tryz.underlying242⟩
instance:D7 Tryz.prog 242 [j4 (.slice none 0 0)]:=D7.mk' (z:=.slice none 0 0) (by kernel_rfl) (fun _=>by simp[n8,j4,Value.cells])
instance:d9 Tryz.prog 18:=d9.mk' Tryz.func18 (by kernel_rfl) (by kernel_rfl)
instance:d9 Tryz.prog 22:=d9.mk' Tryz.func22 (by kernel_rfl) (by kernel_rfl)
instance:d9 Tryz.prog 23:=d9.mk' Tryz.func23 (by kernel_rfl) (by kernel_rfl)
instance:d9 Tryz.prog 28:=d9.mk' Tryz.func28 (by kernel_rfl) (by kernel_rfl)
instance:d9 Tryz.prog 34:=d9.mk' Tryz.func34 (by kernel_rfl) (by kernel_rfl)
instance:d9 Tryz.prog 45:=d9.mk' Tryz.func45 (by kernel_rfl) (by kernel_rfl)
instance:d9 Tryz.prog 46:=d9.mk' Tryz.func46 (by kernel_rfl) (by kernel_rfl)
instance:d9 Tryz.prog 47:=d9.mk' Tryz.func47 (by kernel_rfl) (by kernel_rfl)
instance:d9 Tryz.prog 51:=d9.mk' Tryz.func51 (by kernel_rfl) (by kernel_rfl)
instance:d9 Tryz.prog 52:=d9.mk' Tryz.func52 (by kernel_rfl) (by kernel_rfl)
instance:d9 Tryz.prog 53:=d9.mk' Tryz.func53 (by kernel_rfl) (by kernel_rfl)
instance:d9 Tryz.prog 54:=d9.mk' Tryz.func54 (by kernel_rfl) (by kernel_rfl)
instance:d9 Tryz.prog 55:=d9.mk' Tryz.func55 (by kernel_rfl) (by kernel_rfl)
instance:d9 Tryz.prog 56:=d9.mk' Tryz.func56 (by kernel_rfl) (by kernel_rfl)
instance:d9 Tryz.prog 57:=d9.mk' Tryz.func57 (by kernel_rfl) (by kernel_rfl)
instance:d9 Tryz.prog 58:=d9.mk' Tryz.func58 (by kernel_rfl) (by kernel_rfl)
instance:d9 Tryz.prog 59:=d9.mk' Tryz.func59 (by kernel_rfl) (by kernel_rfl)
instance:d9 Tryz.prog 60:=d9.mk' Tryz.func60 (by kernel_rfl) (by kernel_rfl)
instance:d9 Tryz.prog 61:=d9.mk' Tryz.func61 (by kernel_rfl) (by kernel_rfl)
instance:d9 Tryz.prog 64:=d9.mk' Tryz.func64 (by kernel_rfl) (by kernel_rfl)
instance:d9 Tryz.prog 66:=d9.mk' Tryz.func66 (by kernel_rfl) (by kernel_rfl)
instance:d9 Tryz.prog 69:=d9.mk' Tryz.func69 (by kernel_rfl) (by kernel_rfl)
instance:d9 Tryz.prog 70:=d9.mk' Tryz.func70 (by kernel_rfl) (by kernel_rfl)
instance:d9 Tryz.prog 75:=d9.mk' Tryz.func75 (by kernel_rfl) (by kernel_rfl)
instance:d9 Tryz.prog 81:=d9.mk' Tryz.func81 (by kernel_rfl) (by kernel_rfl)
instance:d9 Tryz.prog 82:=d9.mk' Tryz.func82 (by kernel_rfl) (by kernel_rfl)
instance:d9 Tryz.prog 83:=d9.mk' Tryz.func83 (by kernel_rfl) (by kernel_rfl)
instance:d9 Tryz.prog 84:=d9.mk' Tryz.func84 (by kernel_rfl) (by kernel_rfl)
instance:d9 Tryz.prog 85:=d9.mk' Tryz.func85 (by kernel_rfl) (by kernel_rfl)
instance:d9 Tryz.prog 93:=d9.mk' Tryz.func93 (by kernel_rfl) (by kernel_rfl)
instance:d9 Tryz.prog 94:=d9.mk' Tryz.func94 (by kernel_rfl) (by kernel_rfl)
instance:d9 Tryz.prog 95:=d9.mk' Tryz.func95 (by kernel_rfl) (by kernel_rfl)
instance:d9 Tryz.prog 96:=d9.mk' Tryz.func96 (by kernel_rfl) (by kernel_rfl)
instance:d9 Tryz.prog 97:=d9.mk' Tryz.func97 (by kernel_rfl) (by kernel_rfl)
instance:d9 Tryz.prog 98:=d9.mk' Tryz.func98 (by kernel_rfl) (by kernel_rfl)
instance:d9 Tryz.prog 99:=d9.mk' Tryz.func99 (by kernel_rfl) (by kernel_rfl)
instance:d9 Tryz.prog 100:=d9.mk' Tryz.func100 (by kernel_rfl) (by kernel_rfl)
instance:d9 Tryz.prog 101:=d9.mk' Tryz.func101 (by kernel_rfl) (by kernel_rfl)
instance:d9 Tryz.prog 102:=d9.mk' Tryz.func102 (by kernel_rfl) (by kernel_rfl)
instance:d9 Tryz.prog 103:=d9.mk' Tryz.func103 (by kernel_rfl) (by kernel_rfl)
instance:d9 Tryz.prog 104:=d9.mk' Tryz.func104 (by kernel_rfl) (by kernel_rfl)
instance:d9 Tryz.prog 105:=d9.mk' Tryz.func105 (by kernel_rfl) (by kernel_rfl)
instance:d9 Tryz.prog 106:=d9.mk' Tryz.func106 (by kernel_rfl) (by kernel_rfl)
instance:d9 Tryz.prog 107:=d9.mk' Tryz.func107 (by kernel_rfl) (by kernel_rfl)
instance:d9 Tryz.prog 108:=d9.mk' Tryz.func108 (by kernel_rfl) (by kernel_rfl)
instance:d9 Tryz.prog 109:=d9.mk' Tryz.func109 (by kernel_rfl) (by kernel_rfl)
instance:d9 Tryz.prog 112:=d9.mk' Tryz.func112 (by kernel_rfl) (by kernel_rfl)
instance:d9 Tryz.prog 113:=d9.mk' Tryz.func113 (by kernel_rfl) (by kernel_rfl)
instance:d9 Tryz.prog 114:=d9.mk' Tryz.func114 (by kernel_rfl) (by kernel_rfl)
instance:d9 Tryz.prog 115:=d9.mk' Tryz.func115 (by kernel_rfl) (by kernel_rfl)
instance:d9 Tryz.prog 116:=d9.mk' Tryz.func116 (by kernel_rfl) (by kernel_rfl)
instance:d9 Tryz.prog 118:=d9.mk' Tryz.func118 (by kernel_rfl) (by kernel_rfl)
instance:d9 Tryz.prog 119:=d9.mk' Tryz.func119 (by kernel_rfl) (by kernel_rfl)
instance:d9 Tryz.prog 120:=d9.mk' Tryz.func120 (by kernel_rfl) (by kernel_rfl)
instance:d9 Tryz.prog 121:=d9.mk' Tryz.func121 (by kernel_rfl) (by kernel_rfl)
instance:d9 Tryz.prog 122:=d9.mk' Tryz.func122 (by kernel_rfl) (by kernel_rfl)
instance:d9 Tryz.prog 123:=d9.mk' Tryz.func123 (by kernel_rfl) (by kernel_rfl)
instance:d9 Tryz.prog 128:=d9.mk' Tryz.func128 (by kernel_rfl) (by kernel_rfl)
instance:d9 Tryz.prog 129:=d9.mk' Tryz.func129 (by kernel_rfl) (by kernel_rfl)
instance:d9 Tryz.prog 136:=d9.mk' Tryz.func136 (by kernel_rfl) (by kernel_rfl)
instance:d9 Tryz.prog 137:=d9.mk' Tryz.func137 (by kernel_rfl) (by kernel_rfl)
instance:d9 Tryz.prog 138:=d9.mk' Tryz.func138 (by kernel_rfl) (by kernel_rfl)
instance:d9 Tryz.prog 139:=d9.mk' Tryz.func139 (by kernel_rfl) (by kernel_rfl)
instance:d9 Tryz.prog 140:=d9.mk' Tryz.func140 (by kernel_rfl) (by kernel_rfl)
instance:d9 Tryz.prog 141:=d9.mk' Tryz.func141 (by kernel_rfl) (by kernel_rfl)
instance:d9 Tryz.prog 142:=d9.mk' Tryz.func142 (by kernel_rfl) (by kernel_rfl)
instance:d9 Tryz.prog 143:=d9.mk' Tryz.func143 (by kernel_rfl) (by kernel_rfl)
instance:d9 Tryz.prog 145:=d9.mk' Tryz.func145 (by kernel_rfl) (by kernel_rfl)
instance:d9 Tryz.prog 147:=d9.mk' Tryz.func147 (by kernel_rfl) (by kernel_rfl)
instance:d9 Tryz.prog 148:=d9.mk' Tryz.func148 (by kernel_rfl) (by kernel_rfl)
instance:d9 Tryz.prog 149:=d9.mk' Tryz.func149 (by kernel_rfl) (by kernel_rfl)
instance:d9 Tryz.prog 150:=d9.mk' Tryz.func150 (by kernel_rfl) (by kernel_rfl)
instance:d9 Tryz.prog 151:=d9.mk' Tryz.func151 (by kernel_rfl) (by kernel_rfl)
instance:d9 Tryz.prog 152:=d9.mk' Tryz.func152 (by kernel_rfl) (by kernel_rfl)
instance:d9 Tryz.prog 153:=d9.mk' Tryz.func153 (by kernel_rfl) (by kernel_rfl)
instance:d9 Tryz.prog 154:=d9.mk' Tryz.func154 (by kernel_rfl) (by kernel_rfl)
instance:d9 Tryz.prog 155:=d9.mk' Tryz.func155 (by kernel_rfl) (by kernel_rfl)
instance:d9 Tryz.prog 157:=d9.mk' Tryz.func157 (by kernel_rfl) (by kernel_rfl)
instance:d9 Tryz.prog 158:=d9.mk' Tryz.func158 (by kernel_rfl) (by kernel_rfl)
instance:d9 Tryz.prog 159:=d9.mk' Tryz.func159 (by kernel_rfl) (by kernel_rfl)
instance:d9 Tryz.prog 160:=d9.mk' Tryz.func160 (by kernel_rfl) (by kernel_rfl)
instance:d9 Tryz.prog 161:=d9.mk' Tryz.func161 (by kernel_rfl) (by kernel_rfl)
instance:d9 Tryz.prog 162:=d9.mk' Tryz.func162 (by kernel_rfl) (by kernel_rfl)
instance:d9 Tryz.prog 163:=d9.mk' Tryz.func163 (by kernel_rfl) (by kernel_rfl)
instance:d9 Tryz.prog 164:=d9.mk' Tryz.func164 (by kernel_rfl) (by kernel_rfl)
instance:d9 Tryz.prog 165:=d9.mk' Tryz.func165 (by kernel_rfl) (by kernel_rfl)
instance:d9 Tryz.prog 166:=d9.mk' Tryz.func166 (by kernel_rfl) (by kernel_rfl)
instance:d9 Tryz.prog 167:=d9.mk' Tryz.func167 (by kernel_rfl) (by kernel_rfl)
instance:d9 Tryz.prog 168:=d9.mk' Tryz.func168 (by kernel_rfl) (by kernel_rfl)
instance:d9 Tryz.prog 169:=d9.mk' Tryz.func169 (by kernel_rfl) (by kernel_rfl)
instance:d9 Tryz.prog 170:=d9.mk' Tryz.func170 (by kernel_rfl) (by kernel_rfl)
instance:d9 Tryz.prog 174:=d9.mk' Tryz.func174 (by kernel_rfl) (by kernel_rfl)
instance:d9 Tryz.prog 175:=d9.mk' Tryz.func175 (by kernel_rfl) (by kernel_rfl)
instance:d9 Tryz.prog 176:=d9.mk' Tryz.func176 (by kernel_rfl) (by kernel_rfl)
instance:d9 Tryz.prog 178:=d9.mk' Tryz.func178 (by kernel_rfl) (by kernel_rfl)
instance:d9 Tryz.prog 179:=d9.mk' Tryz.func179 (by kernel_rfl) (by kernel_rfl)
instance:d9 Tryz.prog 180:=d9.mk' Tryz.func180 (by kernel_rfl) (by kernel_rfl)
instance:d9 Tryz.prog 181:=d9.mk' Tryz.func181 (by kernel_rfl) (by kernel_rfl)
instance:d9 Tryz.prog 182:=d9.mk' Tryz.func182 (by kernel_rfl) (by kernel_rfl)
instance:d9 Tryz.prog 183:=d9.mk' Tryz.func183 (by kernel_rfl) (by kernel_rfl)
instance:d9 Tryz.prog 184:=d9.mk' Tryz.func184 (by kernel_rfl) (by kernel_rfl)
instance:d9 Tryz.prog 185:=d9.mk' Tryz.func185 (by kernel_rfl) (by kernel_rfl)
instance:d9 Tryz.prog 186:=d9.mk' Tryz.func186 (by kernel_rfl) (by kernel_rfl)
instance:d9 Tryz.prog 187:=d9.mk' Tryz.func187 (by kernel_rfl) (by kernel_rfl)
instance:d9 Tryz.prog 188:=d9.mk' Tryz.func188 (by kernel_rfl) (by kernel_rfl)
instance:d9 Tryz.prog 189:=d9.mk' Tryz.func189 (by kernel_rfl) (by kernel_rfl)
instance:d9 Tryz.prog 190:=d9.mk' Tryz.func190 (by kernel_rfl) (by kernel_rfl)
instance:d9 Tryz.prog 191:=d9.mk' Tryz.func191 (by kernel_rfl) (by kernel_rfl)
instance:d9 Tryz.prog 192:=d9.mk' Tryz.func192 (by kernel_rfl) (by kernel_rfl)
instance:d9 Tryz.prog 193:=d9.mk' Tryz.func193 (by kernel_rfl) (by kernel_rfl)
instance:d9 Tryz.prog 194:=d9.mk' Tryz.func194 (by kernel_rfl) (by kernel_rfl)
instance:d9 Tryz.prog 195:=d9.mk' Tryz.func195 (by kernel_rfl) (by kernel_rfl)
instance:d9 Tryz.prog 196:=d9.mk' Tryz.func196 (by kernel_rfl) (by kernel_rfl)
instance:d9 Tryz.prog 198:=d9.mk' Tryz.func198 (by kernel_rfl) (by kernel_rfl)
instance:d9 Tryz.prog 199:=d9.mk' Tryz.func199 (by kernel_rfl) (by kernel_rfl)
instance:d9 Tryz.prog 200:=d9.mk' Tryz.func200 (by kernel_rfl) (by kernel_rfl)
instance:d9 Tryz.prog 201:=d9.mk' Tryz.func201 (by kernel_rfl) (by kernel_rfl)
instance:d9 Tryz.prog 202:=d9.mk' Tryz.func202 (by kernel_rfl) (by kernel_rfl)
instance:d9 Tryz.prog 203:=d9.mk' Tryz.func203 (by kernel_rfl) (by kernel_rfl)
instance:d9 Tryz.prog 204:=d9.mk' Tryz.func204 (by kernel_rfl) (by kernel_rfl)
instance:d9 Tryz.prog 205:=d9.mk' Tryz.func205 (by kernel_rfl) (by kernel_rfl)
instance:d9 Tryz.prog 206:=d9.mk' Tryz.func206 (by kernel_rfl) (by kernel_rfl)
instance:d9 Tryz.prog 209:=d9.mk' Tryz.func209 (by kernel_rfl) (by kernel_rfl)
instance:d9 Tryz.prog 210:=d9.mk' Tryz.func210 (by kernel_rfl) (by kernel_rfl)
instance:d9 Tryz.prog 211:=d9.mk' Tryz.func211 (by kernel_rfl) (by kernel_rfl)
instance:d9 Tryz.prog 212:=d9.mk' Tryz.func212 (by kernel_rfl) (by kernel_rfl)
instance:d9 Tryz.prog 213:=d9.mk' Tryz.func213 (by kernel_rfl) (by kernel_rfl)
instance:d9 Tryz.prog 214:=d9.mk' Tryz.func214 (by kernel_rfl) (by kernel_rfl)
instance:d9 Tryz.prog 215:=d9.mk' Tryz.func215 (by kernel_rfl) (by kernel_rfl)
instance:d9 Tryz.prog 216:=d9.mk' Tryz.func216 (by kernel_rfl) (by kernel_rfl)
instance:d9 Tryz.prog 217:=d9.mk' Tryz.func217 (by kernel_rfl) (by kernel_rfl)
instance:d9 Tryz.prog 218:=d9.mk' Tryz.func218 (by kernel_rfl) (by kernel_rfl)
instance:d9 Tryz.prog 219:=d9.mk' Tryz.func219 (by kernel_rfl) (by kernel_rfl)
instance:d9 Tryz.prog 221:=d9.mk' Tryz.func221 (by kernel_rfl) (by kernel_rfl)
instance:d9 Tryz.prog 222:=d9.mk' Tryz.func222 (by kernel_rfl) (by kernel_rfl)
instance:d9 Tryz.prog 223:=d9.mk' Tryz.func223 (by kernel_rfl) (by kernel_rfl)
instance:d9 Tryz.prog 224:=d9.mk' Tryz.func224 (by kernel_rfl) (by kernel_rfl)
instance:d9 Tryz.prog 225:=d9.mk' Tryz.func225 (by kernel_rfl) (by kernel_rfl)
instance:d9 Tryz.prog 227:=d9.mk' Tryz.func227 (by kernel_rfl) (by kernel_rfl)
instance:d9 Tryz.prog 228:=d9.mk' Tryz.func228 (by kernel_rfl) (by kernel_rfl)
theorem p7:Tryz.prog.follows .mixedOrders=true:=by kernel_rfl
end Go.Fl

/- Contracts, printed by gen.py. -/
namespace Go.Fl
open Go Go.Proofs
open b8 renaming op->tO
open i7 renaming op->rO
set_option maxRecDepth 100000


theorem rH {S:List Int} {x:Int} (h:S.Nodup) (hx:decide (x∈S)=false):(S++[x]).Nodup :=
 List.nodup_append.2 ⟨h,by simp,fun a ha b hb=>by simp at hb; subst hb; exact fun e=>of_decide_eq_false hx (e▸ha)⟩
theorem AV (p:List Int) (hn:p.length<=1000000):Ct Tryz.prog 143 [b7 (eL eI) p] (b7 (eL eI) p):=by
 refine Ct.mk Tryz.func143 rfl Tryz.ntmps143 rfl (fun w J=>?_); refine l7 ?_; refine tO (JX rfl uu) rfl rfl ?_; refine g8 ?_; refine Tr.exB (s:=4) rfl (fun b1 q1=>?_); refine Tr.cnd rfl ?_ ?_
 ·intro h1
  refine j8 ?_; exact f0.res1 (fn:=Tryz.f143) rfl (.n rfl (q1 h1).symm<|.nil)
 ·intro h1
  refine i1 ?_; refine b8.new (DR eI 5) rfl rfl rfl rfl ?_; refine g8 ?_; refine jl ?_; refine j5 ?_; refine Tr.frz 5 [2] ⟨rfl,trivial⟩ (by simp only[q7]; omega) rfl ?_; refine i6 ?_
  exact f0.res1 (fn:=Tryz.f143) rfl (.r rfl zi<|.nil)

end Go.Fl

/- Integers as digits to the base 10^8. Plain Lean, no program in sight. -/
namespace Go.Fl
def val:List Int->Int
 | []=>0
 | x::xs=>x+100000000*val xs
abbrev BP (n:Nat):Int:=100000000 ^ n
theorem P8 (n:Nat):0<BP n:=Int.pow_pos zo
theorem P9 (n:Nat):BP (n+1)=100000000*BP n:=by unfold BP; rw[Int.pow_succ,Int.mul_comm]
theorem KQ (m n:Nat):BP (m+n)=BP m*BP n:=Int.pow_add ..
theorem FU {m n:Nat} (h:m<=n):BP m<=BP n:=by
 obtain ⟨k,rfl⟩:=Nat.exists_eq_add_of_le h
 have h1:BP m*1<=BP m*BP k:=Int.mul_le_mul_of_nonneg_left (by have:=P8 k; omega) (Int.le_of_lt (P8 m))
 rw[KQ]; omega
theorem IB:∀{xs ys:List Int},val (xs++ys)=val xs+BP xs.length*val ys
 | [],ys=>by simp[val,BP]
 | x::xs,ys=>by
  rw[List.cons_append,val,val,IB,List.length_cons,P9,Int.mul_add,Int.mul_assoc]; omega
theorem T9 {xs:List Int} {y:Int}:val (xs++[y])=val xs+BP xs.length*y:=by rw[IB]; simp[val]
def Dg (xs:List Int):Prop:=∀x∈xs,0<=x/\x<100000000
theorem Dg.nil:Dg []:=fun _ h=>by cases h
theorem Dg.snoc {xs:List Int} {y:Int} (h:Dg xs) (h0:0<=y) (h1:y<100000000):Dg (xs++[y]):=fun x hx=>by
 rcases List.mem_append.1 hx with hx | hx
 ·exact h x hx
 ·simp at hx; subst hx; exact ⟨h0,h1⟩
theorem Dg.at {xs:List Int} (h:Dg xs) {i:Nat} (hi:i<xs.length):0<=b6 xs i/\b6 xs i<100000000:=h _ (G5 hi)
theorem Dg.tail {x:Int} {xs:List Int} (h:Dg (x::xs)):Dg xs:=fun y hy=>h y (List.mem_cons_of_mem _ hy)
theorem Dg.take {xs:List Int} (h:Dg xs) (n:Nat):Dg (xs.take n):=fun y hy=>h y (List.mem_of_mem_take hy)
theorem Dg.val0:∀{xs:List Int},Dg xs->0<=val xs
 | [],_=>Int.le_refl _
 | x::xs,h=>by
  have:=h x List.mem_cons_self
  have:=Dg.val0 h.tail
  rw[val]; omega
theorem Dg.val1:∀{xs:List Int},Dg xs->val xs<BP xs.length
 | [],_=>by simp[val,BP]
 | x::xs,h=>by
  have:=h x List.mem_cons_self
  have:=Dg.val1 h.tail
  rw[val,List.length_cons,P9]; omega
structure Nm (xs:List Int):Prop where
 dg:Dg xs
 last:∀h:xs≠[],xs.getLast h≠0
theorem Nm.nil:Nm []:=⟨Dg.nil,fun h=>absurd rfl h⟩
theorem Nm.tail {x:Int} {xs:List Int} (h:Nm (x::xs)):Nm xs:=⟨h.dg.tail,fun hn=>by
 have:=h.last (by simp)
 rwa [List.getLast_cons hn] at this⟩
theorem Nm.pos:∀{xs:List Int},Nm xs->xs≠[]->0<val xs
 | [],_,h=>absurd rfl h
 | x::xs,h,_=>by
  have h1:=h.dg x List.mem_cons_self
  rw[val]
  by_cases hn:xs=[]
  ·subst hn
   have:=h.last (by simp)
   simp at this
   simp[val]; omega
  ·have:=Nm.pos h.tail hn
   omega
theorem Nm.uniq:∀{xs ys:List Int},Nm xs->Nm ys->val xs=val ys->xs=ys
 | [],[],_,_,_=>rfl
 | [],y::ys,_,h,e=>by have:=h.pos (by simp); rw[<- e] at this; simp[val] at this
 | x::xs,[],h,_,e=>by have:=h.pos (by simp); rw[e] at this; simp[val] at this
 | x::xs,y::ys,h,k,e=>by
  have h1:=h.dg x List.mem_cons_self
  have h2:=k.dg y List.mem_cons_self
  rw[val,val] at e
  obtain rfl:x=y:=by omega
  rw[Nm.uniq h.tail k.tail zo]
def GP:Nat->Nat->List Int
 | 0,_=>[]
 | f+1,n=>if n=0 then [] else ((n%100000000:Nat):Int)::GP f (n/100000000)
theorem RM:∀{f n:Nat},n<=f->Nm (GP f n)/\val (GP f n)=n
 | 0,n,h=>by
  obtain rfl:n=0:=by omega
  exact ⟨Nm.nil,rfl⟩
 | f+1,n,h=>by
  rw[GP]
  by_cases e:n=0
  ·rw[if_pos e]; subst e; exact ⟨Nm.nil,rfl⟩
  ·rw[if_neg e]
   obtain ⟨h1,h2⟩:=RM (f:=f) (n:=n/100000000) zo
   refine ⟨⟨fun x hx=>?_,fun hn=>?_⟩,?_⟩
   ·rcases List.mem_cons.1 hx with rfl | hx
    ·omega
    ·exact h1.dg x hx
   ·by_cases hq:GP f (n/100000000)=[]
    ·have:n/100000000=0:=by rw[hq] at h2; simp[val] at h2; omega
     simp only[hq,List.getLast_singleton]; omega
    ·rw[List.getLast_cons hq]; exact h1.last hq
   ·rw[val,h2]; omega
def d7 (n:Nat):List Int:=GP n n
theorem L0 (n:Nat):Nm (d7 n):=(RM (Nat.le_refl n)).1
theorem t9 (n:Nat):val (d7 n)=n:=(RM (Nat.le_refl n)).2
theorem t7 (n:Nat):Dg (d7 n):=(L0 n).dg
theorem MJ {xs:List Int} {n:Nat} (h:Nm xs) (e:val xs=n):xs=d7 n:=h.uniq (L0 n) (by rw[t9,e])
theorem YS:d7 0=[]:=rfl
theorem nE {n:Nat}:d7 n=[]↔n=0:=⟨fun h=>by have:=t9 n; rw[h] at this; simp[val] at this; omega,fun h=>by subst h; rfl⟩
theorem GQ {n:Nat}:(d7 n).length=0↔n=0:=by rw[List.length_eq_zero_iff,nE]
def dl (z:Int):Nat:=(d7 z.natAbs).length
theorem GR (z:Int):(z.natAbs:Int)<BP (dl z):=by
 have:=(t7 z.natAbs).val1
 rwa [t9] at this
theorem Nm.low:∀{xs:List Int},Nm xs->xs≠[]->BP (xs.length-1)<=val xs
 | [],_,h=>absurd rfl h
 | x::xs,h,_=>by
  have h1:=h.dg x List.mem_cons_self
  rw[val,List.length_cons,Nat.add_sub_cancel]
  by_cases hn:xs=[]
  ·subst hn
   have:=h.pos (by simp)
   simp[val,BP] at this ⊢; omega
  ·have:=Nm.low h.tail hn
   have hl:xs.length=(xs.length-1)+1:=by have:=List.length_pos_iff.2 hn; omega
   rw[hl,P9]; omega
theorem S8 {z:Int} {k:Nat} (h:(z.natAbs:Int)<BP k):dl z<=k:=by
 by_cases hn:d7 z.natAbs=[]
 ·unfold dl; rw[hn]; exact Nat.zero_le _
 ·have h1:=(L0 z.natAbs).low hn
  rw[t9] at h1
  have hl:0<dl z:=List.length_pos_iff.2 hn
  rcases Nat.lt_or_ge k (dl z) with h2 | h2
  ·have:=FU (show k<=dl z-1 by omega)
   unfold dl at *; omega
  ·exact h2
theorem S7 (a b:Int):dl (a+b)<=max (dl a) (dl b)+1:=by
 refine S8 ?_
 have h1:=GR a; have h2:=GR b
 have h3:=FU (Nat.le_max_left (dl a) (dl b)); have h4:=FU (Nat.le_max_right (dl a) (dl b))
 rw[P9]; omega
theorem u7 (a b:Int):dl (a*b)<=dl a+dl b:=by
 refine S8 ?_
 have h1:=GR a; have h2:=GR b
 rw[Int.natAbs_mul,KQ]
 push_cast
 by_cases hb:b.natAbs=0
 ·rw[hb]; simp; exact Int.mul_pos (P8 _) (P8 _)
 ·exact Int.lt_of_lt_of_le (Int.mul_lt_mul_of_pos_right h1 zo) (Int.mul_le_mul_of_nonneg_left (Int.le_of_lt h2) (Int.le_of_lt (P8 _)))
theorem J5 (a:Int):dl (-a)=dl a:=by unfold dl; rw[Int.natAbs_neg]
theorem E2 {a:Int}:dl a=0↔a=0:=by unfold dl; rw[GQ]; omega
def j9:List Int->List Int
 | []=>[]
 | x::xs=>if j9 xs=[]/\x=0 then [] else x::j9 xs
theorem VC:∀{xs:List Int},val (j9 xs)=val xs
 | []=>rfl
 | x::xs=>by
  have ih:=VC (xs:=xs)
  rw[j9]
  split
  ·rename_i h
   rw[h.1] at ih
   show 0=x+100000000*val xs
   rw[<- ih,h.2]; simp[val]
  ·rw[val,val,ih]
theorem R8:∀{xs:List Int},(j9 xs).length<=xs.length
 | []=>Nat.le_refl _
 | x::xs=>by
  have:=R8 (xs:=xs)
  rw[j9]; split
  ·simp
  ·simp only[List.length_cons]; omega
theorem PH:∀{xs:List Int} {x:Int},x∈j9 xs->x∈xs
 | [],_,h=>h
 | y::ys,x,h=>by
  rw[j9] at h
  split at h
  ·cases h
  ·rcases List.mem_cons.1 h with rfl | h
   ·exact List.mem_cons_self
   ·exact List.mem_cons_of_mem _ (PH h)
theorem HZ:∀{xs:List Int} (h:j9 xs≠[]),(j9 xs).getLast h≠0
 | [],h=>absurd rfl h
 | x::xs,h=>by
  have e:j9 (x::xs)=x::j9 xs:=by
   rw[j9] at h ⊢
   split
   ·rename_i hh; rw[if_pos hh] at h; exact absurd rfl h
   ·rfl
  by_cases hn:j9 xs=[]
  ·have hx:x≠0:=fun hx=>by rw[j9,if_pos ⟨hn,hx⟩] at h; exact h rfl
   simp only[e,hn,List.getLast_singleton]; exact hx
  ·simp only[e,List.getLast_cons hn]; exact HZ hn
theorem fS {xs:List Int} (h:Dg xs):Nm (j9 xs):=⟨fun x hx=>h x (PH hx),HZ⟩
theorem BN {xs:List Int} (h:Dg xs) {n:Nat} (e:val xs=n):j9 xs=d7 n:=MJ (fS h) (by rw[VC,e])
theorem PJ:∀{xs:List Int},(∀i,i<xs.length->b6 xs i=0)->j9 xs=[]
 | [],_=>rfl
 | x::xs,h=>by
  rw[j9,if_pos ⟨PJ fun i hi=>h (i+1) (by simpa using hi),h 0 (by simp)⟩]
theorem EB:∀{xs:List Int} {m:Nat},m<=xs.length->(∀i,m<=i->i<xs.length->b6 xs i=0)->(m=0\/b6 xs (m-1)≠0)->j9 xs=xs.take m
 | xs,0,_,h,_=>by rw[List.take_zero]; exact PJ fun i hi=>h i (Nat.zero_le _) hi
 | [],m+1,hm,_,_=>by simp at hm
 | x::xs,m+1,hm,h,hl=>by
  have hz:∀i,m<=i->i<xs.length->b6 xs i=0:=fun i h1 h2=>h (i+1) zo (by simpa using h2)
  rw[List.take_succ_cons,j9]
  rcases Nat.eq_zero_or_pos m with rfl | hm0
  ·have hx:x≠0:=by rcases hl with hl | hl; omega; exact hl
   rw[if_neg (fun hh=>hx hh.2),PJ fun i hi=>hz i (Nat.zero_le _) hi]; rfl
  ·have hl':b6 xs (m-1)≠0:=by
    rcases hl with hl | hl
    ·omega
    ·rw[show m+1-1=(m-1)+1 by omega] at hl; exact hl
   have ih:=EB (xs:=xs) (m:=m) (by simpa using hm) hz (.inr hl')
   have hne:j9 xs≠[]:=by rw[ih]; exact fun hh=>by (have h5:=congrArg List.length hh; rw[List.length_take,List.length_nil] at h5; rw[List.length_cons] at hm; omega)
   rw[if_neg (fun hh=>hne hh.1),ih]
def w8 (xs:List Int) (i:Nat):Int:=if i<xs.length then b6 xs i else 0
def q8 (xs:List Int):Nat->List Int×Int
 | 0=>([],0)
 | i+1=>((q8 xs i).1++[(w8 xs i+(q8 xs i).2)%100000000],(w8 xs i+(q8 xs i).2)/100000000)
theorem T6 {xs:List Int}:∀{i:Nat},(q8 xs i).1.length=i
 | 0=>rfl
 | i+1=>by rw[q8,List.length_append,T6]; rfl
theorem V1 {xs:List Int}:∀{i:Nat},Dg (q8 xs i).1
 | 0=>Dg.nil
 | i+1=>by rw[q8]; exact V1.snoc (Int.emod_nonneg _ zo) (Int.emod_lt_of_pos _ zo)
theorem AK {xs:List Int} {i:Nat}:val (xs.take (i+1))=val (xs.take i)+BP i*w8 xs i:=by
 unfold w8
 by_cases h:i<xs.length
 ·rw[if_pos h,V2 h,T9,List.length_take,Nat.min_eq_left zo]
 ·rw[if_neg h,List.take_of_length_le zo,List.take_of_length_le zo]; simp
theorem UM {xs:List Int}:∀{i:Nat},val (q8 xs i).1+BP i*(q8 xs i).2=val (xs.take i)
 | 0=>by simp[q8,val]
 | i+1=>by
  have ih:=UM (xs:=xs) (i:=i)
  rw[q8,AK,<- ih,T9,T6,P9]
  generalize w8 xs i=x
  generalize (q8 xs i).2=c
  have h:=Int.emod_add_mul_ediv (x+c) 100000000
  have h2:BP i*(x+c)=BP i*((x+c)%100000000)+BP i*(100000000*((x+c)/100000000)):=by rw[<- Int.mul_add,h]
  have h3:100000000*BP i*((x+c)/100000000)=BP i*(100000000*((x+c)/100000000)):=by rw[Int.mul_comm 100000000 (BP i),Int.mul_assoc]
  rw[h3]
  rw[Int.mul_add] at h2
  omega
def B6 (xs:List Int):Prop:=∀i,i<xs.length->-9223372036854775808<=b6 xs i/\b6 xs i<=9223372036854775807
theorem B6.x {xs:List Int} (h:B6 xs) (i:Nat):-9223372036854775808<=w8 xs i/\w8 xs i<=9223372036854775807:=by
 unfold w8
 split
 ·exact h i (by assumption)
 ·omega
theorem Dg.inI {xs:List Int} (h:Dg xs):B6 xs:=fun i hi=>by have:=h.at hi; omega
theorem KD {xs:List Int} (h:B6 xs):∀{i:Nat},-100000000000<=(q8 xs i).2/\(q8 xs i).2<=100000000000
 | 0=>by simp[q8]
 | i+1=>by
  have:=KD h (i:=i)
  have:=h.x i
  rw[q8]; simp only; omega
theorem dM {xs:List Int} {i:Nat}:w8 xs i/100000000+(w8 xs i%100000000+(q8 xs i).2)/100000000=(q8 xs (i+1)).2/\(w8 xs i%100000000+(q8 xs i).2)%100000000=(w8 xs i+(q8 xs i).2)%100000000:=by
 rw[q8]; simp only; omega
theorem dL {xs:List Int} {i:Nat} (hi:xs.length<=i) (h:(q8 xs i).2=0):val xs=val (q8 xs i).1:=by
 have:=UM (xs:=xs) (i:=i)
 rw[h,Int.mul_zero,Int.add_zero,List.take_of_length_le hi] at this
 exact this.symm
theorem dK {xs:List Int} {i:Nat} (hi:xs.length<=i) (h:(q8 xs i).2=-1):val xs=val (q8 xs i).1-BP i:=by
 have:=UM (xs:=xs) (i:=i)
 rw[h,List.take_of_length_le hi] at this
 omega
def bw (ds:List Int):Nat->Int
 | 0=>0
 | k+1=>if -(b6 ds k)-bw ds k<0 then 1 else 0
theorem IT {ds:List Int}:∀{k:Nat},bw ds k=0\/bw ds k=1
 | 0=>.inl rfl
 | k+1=>by rw[bw]; split; exact .inr rfl; exact .inl rfl
def M3 (ds:List Int) (j:Nat):Int:=if -(b6 ds j)-bw ds j<0 then -(b6 ds j)-bw ds j+100000000 else -(b6 ds j)-bw ds j
def C2 (ds:List Int) (k:Nat):List Int:=l6 ds.length fun j=>if j<k then M3 ds j else b6 ds j
theorem WR {ds:List Int} {k:Nat}:(C2 ds k).length=ds.length:=q9
theorem jB {ds:List Int}:ds=C2 ds 0:=by
 unfold C2
 exact (T8 rfl).trans (D9 fun j _=>by rw[if_neg zo])
theorem QU {ds:List Int} {k:Nat} (h:k<ds.length):b6 (C2 ds k) k=b6 ds k:=by unfold C2; rw[s9 h,if_neg zo]
theorem WS {ds:List Int} {k:Nat}:(C2 ds k).set k (M3 ds k)=C2 ds (k+1):=by
 unfold C2
 rw[FQ]
 refine D9 fun j _=>?_
 by_cases e:j=k
 ·subst e; rw[if_pos rfl,if_pos zo]
 ·rw[if_neg e]
  by_cases h:j<k
  ·rw[if_pos h,if_pos zo]
  ·rw[if_neg h,if_neg zo]
theorem QT {ds:List Int} (h:Dg ds) {j:Nat} (hj:j<ds.length):0<=M3 ds j/\M3 ds j<100000000:=by
 have:=h.at hj
 unfold M3
 rcases IT (ds:=ds) (k:=j) with e | e<;>rw[e]<;>split<;>omega
theorem QW {ds:List Int} (h:Dg ds):∀{k:Nat},k<=ds.length->val (l6 k (M3 ds))=BP k*bw ds k-val (ds.take k)/\(bw ds k=0->val (ds.take k)=0)
 | 0,_=>by simp[l6,val,bw]
 | k+1,hk=>by
  obtain ⟨ih,ih0⟩:=QW h (k:=k) zo
  have hr:=h.at (i:=k) zo
  rw[F9,T9,q9,ih,V2 zo,T9,List.length_take,Nat.min_eq_left zo,P9,bw]
  have h01:=IT (ds:=ds) (k:=k)
  have hp:=P8 k
  unfold M3
  split
  ·rename_i hn
   refine ⟨?_,fun hh=>absurd hh zo⟩
   rw[Int.mul_add (BP k),Int.mul_sub (BP k),Int.mul_neg]
   rw[Int.mul_comm 100000000 (BP k),Int.mul_assoc]
   omega
  ·rename_i hn
   have h0:b6 ds k=0/\bw ds k=0:=by omega
   rw[h0.1,h0.2,ih0 h0.2]
   simp
theorem jC {ds:List Int} (h:Dg ds) (e:bw ds ds.length≠0):Dg (C2 ds ds.length)/\val (C2 ds ds.length)=BP ds.length-val ds:=by
 have e1:C2 ds ds.length=l6 ds.length (M3 ds):=D9 fun j hj=>if_pos hj
 have hv:=(QW h (Nat.le_refl ds.length)).1
 rw[List.take_length,(IT.resolve_left e),Int.mul_one] at hv
 rw[e1]
 refine ⟨fun x hx=>?_,hv⟩
 obtain ⟨j,hj,rfl⟩:=Z8 hx
 rw[q9] at hj
 rw[s9 hj]; exact QT h hj
theorem jD {ds:List Int} (h:Dg ds) (e:bw ds ds.length=0):Dg (C2 ds ds.length++[1])/\val (C2 ds ds.length++[1])=BP ds.length-val ds:=by
 have e1:C2 ds ds.length=l6 ds.length (M3 ds):=D9 fun j hj=>if_pos hj
 obtain ⟨hv,hz⟩:=QW h (Nat.le_refl ds.length)
 have hz:=hz e
 rw[List.take_length] at hv hz
 rw[e,hz] at hv
 rw[e1]
 refine ⟨Dg.snoc (fun x hx=>?_) zo zo,?_⟩
 ·obtain ⟨j,hj,rfl⟩:=Z8 hx
  rw[q9] at hj
  rw[s9 hj]; exact QT h hj
 ·rw[T9,q9,hv,hz]; simp
def j2 (z:Int):List Int:=if z<0 then (d7 z.natAbs).map (fun x=>-x) else d7 z.natAbs
theorem gF:∀{xs:List Int},val (xs.map fun x=>-x)=-val xs
 | []=>rfl
 | x::xs=>by rw[List.map_cons,val,val,gF]; omega
theorem H8 (z:Int):val (j2 z)=z:=by
 unfold j2
 split
 ·rw[gF,t9]; omega
 ·rw[t9]; omega
theorem C9 (z:Int):(j2 z).length=dl z:=by unfold j2 dl; split<;>simp
theorem qF:j2 0=[]:=rfl
theorem T2 (z:Int):B6 (j2 z):=fun i hi=>by
 unfold j2 at hi ⊢
 split
 ·rename_i h
  rw[if_pos h,List.length_map] at hi
  rw[FC hi]
  have:=(t7 z.natAbs).at hi
  omega
 ·rename_i h
  rw[if_neg h] at hi
  have:=(t7 z.natAbs).at hi
  omega
end Go.Fl

/- Sums, differences, comparisons and products of digits. Plain Lean, no program in sight. -/
namespace Go.Fl
theorem bX {xs:List Int} (h:Dg xs) (k:xs≠[]->BP (xs.length-1)<=val xs):Nm xs:=by
 refine ⟨h,fun hn e=>?_⟩
 have e2:xs=xs.dropLast++[xs.getLast hn]:=(List.dropLast_concat_getLast hn).symm
 have h1:=k hn
 rw[e] at e2
 have h2:Dg xs.dropLast:=fun x hx=>h x ((List.dropLast_sublist xs).subset hx)
 have h3:=h2.val1
 rw[e2,T9,Int.mul_zero,Int.add_zero] at h1
 rw[List.length_append,List.length_singleton,Nat.add_sub_cancel] at h1
 omega
theorem BO {xs:List Int} {i:Nat} (h:i<xs.length):val (xs.drop i)=b6 xs i+100000000*val (xs.drop (i+1)):=by
 rw[List.drop_eq_getElem_cons h,val,Z9 (List.getElem?_eq_getElem h)]
theorem ED {xs:List Int} {i:Nat} (h:i<=xs.length):val xs=val (xs.take i)+BP i*val (xs.drop i):=by
 conv=>lhs; rw[<- List.take_append_drop i xs]
 rw[IB,List.length_take,Nat.min_eq_left h]
theorem KO:∀{xs:List Int} {i:Nat} {v:Int},i<xs.length->val (xs.set i v)=val xs+BP i*(v-b6 xs i)
 | [],_,_,h=>by simp at h
 | x::xs,0,v,_=>by simp only[List.set_cons_zero,val,BP,Int.pow_zero]; show _=_+1*(v-x); omega
 | x::xs,i+1,v,h=>by
  rw[List.set_cons_succ,val,val,KO (by simpa using h),P9,Int.mul_add,Int.mul_assoc]
  show _=_+100000000*(BP i*(v-b6 xs i))
  omega
theorem Dg.set {xs:List Int} (h:Dg xs) {i:Nat} {v:Int} (h0:0<=v) (h1:v<100000000):Dg (xs.set i v):=fun x hx=>by
 rcases List.mem_or_eq_of_mem_set hx with hx | rfl
 ·exact h x hx
 ·exact ⟨h0,h1⟩
theorem Dg.x {xs:List Int} (h:Dg xs) (i:Nat):0<=w8 xs i/\w8 xs i<100000000:=by
 unfold w8; split
 ·exact h.at (by assumption)
 ·omega
theorem P7 {xs:List Int} {i:Nat} (h:i<xs.length):w8 xs i=b6 xs i:=if_pos h
theorem FT {xs:List Int} {i:Nat} (h:¬i<xs.length):w8 xs i=0:=if_neg h
theorem RL {n:Nat}:Dg (List.replicate n 0):=fun x hx=>by rw[List.eq_of_mem_replicate hx]; omega
theorem PL {n:Nat}:val (List.replicate n 0)=0:=by
 induction n with
 | zero=>rfl
 | succ n ih=>rw[List.replicate_succ,val,ih]; omega
def C7 (a b:List Int):Nat->List Int×Int
 | 0=>([],0)
 | i+1=>((C7 a b i).1++[(b6 a i+(C7 a b i).2+w8 b i)%100000000],(b6 a i+(C7 a b i).2+w8 b i)/100000000)
theorem GE {a b:List Int}:∀{i:Nat},(C7 a b i).1.length=i
 | 0=>rfl
 | i+1=>by rw[C7,List.length_append,GE]; rfl
theorem LB {a b:List Int}:∀{i:Nat},Dg (C7 a b i).1
 | 0=>Dg.nil
 | i+1=>by rw[C7]; exact LB.snoc (Int.emod_nonneg _ zo) (Int.emod_lt_of_pos _ zo)
theorem IP {a b:List Int} (ha:Dg a) (hb:Dg b):∀{i:Nat},i<=a.length->0<=(C7 a b i).2/\(C7 a b i).2<=1
 | 0,_=>by simp[C7]
 | i+1,h=>by
  have:=IP ha hb (i:=i) zo
  have:=ha.at (i:=i) zo
  have:=hb.x i
  rw[C7]; simp only; omega
theorem TJ {n:Nat} (x:Int):BP n*x=BP n*(x%100000000)+BP (n+1)*(x/100000000):=by
 have h:=Int.emod_add_mul_ediv x 100000000
 rw[P9,Int.mul_comm 100000000 (BP n),Int.mul_assoc,<- Int.mul_add,h]
theorem QA {a b:List Int}:∀{i:Nat},i<=a.length->val (C7 a b i).1+BP i*(C7 a b i).2=val (a.take i)+val (b.take i)
 | 0,_=>by simp[C7,val]
 | i+1,h=>by
  have ih:=QA (a:=a) (b:=b) (i:=i) zo
  have e:=TJ (n:=i) (b6 a i+(C7 a b i).2+w8 b i)
  rw[Int.mul_add,Int.mul_add] at e
  rw[C7,AK (xs:=a),AK (xs:=b),T9,GE,P7 (xs:=a) zo]
  dsimp only
  omega
theorem add_zero {a b:List Int} (ha:Nm a) (hb:Nm b) (hl:b.length<=a.length) (h:(C7 a b a.length).2=0):(C7 a b a.length).1=d7 (val a+val b).toNat:=by
 have hv:=QA (a:=a) (b:=b) (Nat.le_refl _)
 rw[h,Int.mul_zero,Int.add_zero,List.take_length,List.take_of_length_le hl] at hv
 have h0:=ha.dg.val0; have h1:=hb.dg.val0
 refine MJ (bX LB fun hn=>?_) (by rw[hv]; omega)
 have hne:a≠[]:=fun e=>hn (List.eq_nil_of_length_eq_zero (by rw[GE,e]; rfl))
 have:=ha.low hne
 rw[GE,hv]; omega
theorem hO {a b:List Int} (ha:Nm a) (hb:Nm b) (hl:b.length<=a.length) (h:(C7 a b a.length).2=1):(C7 a b a.length).1++[1]=d7 (val a+val b).toNat:=by
 have hv:=QA (a:=a) (b:=b) (Nat.le_refl _)
 rw[h,Int.mul_one,List.take_length,List.take_of_length_le hl] at hv
 have h0:=ha.dg.val0; have h1:=hb.dg.val0
 have h2:val ((C7 a b a.length).1++[1])=val a+val b:=by rw[T9,GE]; omega
 refine MJ (bX (LB.snoc zo zo) fun _=>?_) (by rw[h2]; omega)
 have:=(LB (a:=a) (b:=b) (i:=a.length)).val0
 rw[h2,List.length_append,GE,List.length_singleton,Nat.add_sub_cancel]; omega
def sb (a b:List Int):Nat->Int
 | 0=>0
 | k+1=>if b6 a k-sb a b k-w8 b k<0 then 1 else 0
theorem UO {a b:List Int}:∀{k:Nat},sb a b k=0\/sb a b k=1
 | 0=>.inl rfl
 | k+1=>by rw[sb]; split; exact .inr rfl; exact .inl rfl
def AH (a b:List Int) (j:Nat):Int:=if b6 a j-sb a b j-w8 b j<0 then b6 a j-sb a b j-w8 b j+100000000 else b6 a j-sb a b j-w8 b j
def A2 (a b:List Int) (k:Nat):List Int:=l6 a.length fun j=>if j<k then AH a b j else b6 a j
theorem FM {a b:List Int} {k:Nat}:(A2 a b k).length=a.length:=q9
theorem tX {a b:List Int}:a=A2 a b 0:=by
 unfold A2
 exact (T8 rfl).trans (D9 fun j _=>by rw[if_neg zo])
theorem OY {a b:List Int} {k:Nat} (h:k<a.length):b6 (A2 a b k) k=b6 a k:=by unfold A2; rw[s9 h,if_neg zo]
theorem eD {a b:List Int} {k:Nat}:(A2 a b k).set k (AH a b k)=A2 a b (k+1):=by
 unfold A2
 rw[FQ]
 refine D9 fun j _=>?_
 by_cases e:j=k
 ·subst e; rw[if_pos rfl,if_pos zo]
 ·rw[if_neg e]
  by_cases h:j<k
  ·rw[if_pos h,if_pos zo]
  ·rw[if_neg h,if_neg zo]
theorem tW {a b:List Int} (ha:Dg a) (hb:Dg b) {j:Nat} (hj:j<a.length):0<=AH a b j/\AH a b j<100000000:=by
 have:=ha.at hj
 have:=hb.x j
 unfold AH
 rcases UO (a:=a) (b:=b) (k:=j) with e | e<;>rw[e]<;>split<;>omega
theorem eH {a b:List Int}:∀{k:Nat},k<=a.length->val (l6 k (AH a b))=val (a.take k)-val (b.take k)+BP k*sb a b k
 | 0,_=>by simp[l6,val,sb]
 | k+1,hk=>by
  have ih:=eH (a:=a) (b:=b) (k:=k) zo
  rw[F9,T9,q9,ih,AK (xs:=a),AK (xs:=b),P7 (xs:=a) zo,P9,sb]
  unfold AH
  rw[Int.mul_comm 100000000 (BP k),Int.mul_assoc]
  split
  ·rw[Int.mul_add,Int.mul_sub,Int.mul_sub]; omega
  ·rw[Int.mul_sub,Int.mul_sub]; simp; omega
theorem vD {a b:List Int} (ha:Dg a) (hb:Dg b) (hl:b.length<=a.length) (hle:val b<=val a):j9 (A2 a b a.length)=d7 (val a-val b).toNat:=by
 have e1:A2 a b a.length=l6 a.length (AH a b):=D9 fun j hj=>if_pos hj
 have hd:Dg (l6 a.length (AH a b)):=fun x hx=>by
  obtain ⟨j,hj,rfl⟩:=Z8 hx
  rw[q9] at hj
  rw[s9 hj]; exact tW ha hb hj
 have hv:=eH (a:=a) (b:=b) (Nat.le_refl _)
 rw[List.take_length,List.take_of_length_le hl] at hv
 have h1:=hd.val1
 rw[q9] at h1
 have hz:sb a b a.length=0:=by
  rcases UO (a:=a) (b:=b) (k:=a.length) with e | e
  ·exact e
  ·rw[e,Int.mul_one] at hv; omega
 rw[hz,Int.mul_zero,Int.add_zero] at hv
 rw[e1]
 exact BN hd (by rw[hv]; omega)
theorem LQ {a b:List Int} (ha:Nm a) (hb:Nm b) (h:a.length<b.length):val a<val b:=by
 have h1:=ha.dg.val1
 have h2:=hb.low (fun e=>by rw[e] at h; simp at h)
 have:=FU (show a.length<=b.length-1 by omega)
 omega
theorem LP {a b:List Int} (ha:Dg a) (hb:Dg b) (hl:a.length=b.length) {i:Nat} (hi:i<a.length) (h:∀j,i<j->j<a.length->b6 a j=b6 b j) (hlt:b6 a i<b6 b i):val a<val b:=by
 have e:a.drop (i+1)=b.drop (i+1):=by
  refine F5 (by simp[hl]) fun j hj=>?_
  rw[List.length_drop] at hj
  have:=h (i+1+j) zo zo
  unfold b6 at this ⊢
  simpa [List.getD_eq_getElem?_getD,List.getElem?_drop] using this
 have h1:=ED (xs:=a) (i:=i) zo
 have h2:=ED (xs:=b) (i:=i) zo
 rw[BO hi] at h1
 rw[BO zo,<- e] at h2
 have h3:=(ha.take i).val1
 have h4:=(hb.take i).val0
 rw[List.length_take,Nat.min_eq_left zo] at h3
 have h5:BP i*(b6 a i+100000000*val (a.drop (i+1))+1)<=BP i*(b6 b i+100000000*val (a.drop (i+1))):=Int.mul_le_mul_of_nonneg_left zo (Int.le_of_lt (P8 i))
 rw[Int.mul_add,Int.mul_one] at h5
 omega
theorem WW {a b:List Int} (hl:a.length=b.length) (h:∀j,j<a.length->b6 a j=b6 b j):a=b:=F5 hl h
def s7 (x y:Int):Int:=if x<y then -1 else if y<x then 1 else 0
structure V9 (a b o:List Int) (i k:Nat) (c:Int):Prop where
 len:o.length=a.length+b.length
 dg:Dg o
 c0:0<=c/\c<100000000
 z:∀j,i+b.length<=j->j<o.length->b6 o j=0
 v:val o+BP (i+k)*c=val (a.take i)*val b+BP i*b6 a i*val (b.take k)
structure Q1 (a b o:List Int) (i:Nat):Prop where
 len:o.length=a.length+b.length
 dg:Dg o
 z:∀j,i+b.length<=j->j<o.length->b6 o j=0
 v:val o=val (a.take i)*val b
section
variable {a b o:List Int} {i k:Nat} {c:Int}
theorem Q1.start:Q1 a b (List.replicate (a.length+b.length) 0) 0 :=
 ⟨by simp,RL,fun j _ hj=>NQ (by simpa using hj),by rw[PL]; simp[val]⟩
theorem Q1.row (h:Q1 a b o i):V9 a b o i 0 0:=⟨h.len,h.dg,by omega,h.z,by rw[h.v]; simp[val]⟩
theorem V9.n (ha:Dg a) (hb:Dg b) (h:V9 a b o i k c) (hi:i<a.length) (hk:k<b.length):0<=b6 o (i+k)/\b6 o (i+k)<100000000/\0<=b6 a i*b6 b k/\b6 a i*b6 b k<=9999999800000001:=by
 have h1:=h.dg.at (i:=i+k) (by rw[h.len]; omega)
 have h2:=ha.at hi
 have h3:=hb.at hk
 refine ⟨h1.1,h1.2,Int.mul_nonneg h2.1 h3.1,?_⟩
 have:b6 a i*b6 b k<=99999999*99999999:=Int.mul_le_mul zo zo h3.1 zo
 omega
theorem V9.next (ha:Dg a) (hb:Dg b) (h:V9 a b o i k c) (hi:i<a.length) (hk:k<b.length):V9 a b (o.set (i+k) ((b6 o (i+k)+b6 a i*b6 b k+c)%100000000)) i (k+1) ((b6 o (i+k)+b6 a i*b6 b k+c)/100000000):=by
 obtain ⟨n1,n2,n3,n4⟩:=h.n ha hb hi hk
 have hc:=h.c0
 have hik:i+k<o.length:=by rw[h.len]; omega
 refine ⟨by rw[List.length_set]; exact h.len,h.dg.set (Int.emod_nonneg _ zo) (Int.emod_lt_of_pos _ zo),by omega,fun j h1 h2=>?_,?_⟩
 ·rw[List.length_set] at h2
  rw[K1 h2,if_neg zo]; exact h.z j h1 h2
 ·have e:=TJ (n:=i+k) (b6 o (i+k)+b6 a i*b6 b k+c)
  rw[Int.mul_add,Int.mul_add] at e
  have hv:=h.v
  have e2:BP i*b6 a i*val (b.take (k+1))=BP i*b6 a i*val (b.take k)+BP (i+k)*(b6 a i*b6 b k):=by
   rw[AK,P7 hk,Int.mul_add,KQ]
   congr 1
   rw[Int.mul_assoc,Int.mul_assoc,Int.mul_left_comm (b6 a i)]
  rw[KO hik,e2,Int.mul_sub,<- Nat.add_assoc]
  omega
theorem V9.done (h:V9 a b o i b.length c) (hi:i<a.length):Q1 a b (o.set (i+b.length) c) (i+1):=by
 have hl:i+b.length<o.length:=by rw[h.len]; omega
 have hz:=h.z (i+b.length) (Nat.le_refl _) hl
 refine ⟨by rw[List.length_set]; exact h.len,h.dg.set h.c0.1 h.c0.2,fun j h1 h2=>?_,?_⟩
 ·rw[List.length_set] at h2
  rw[K1 h2,if_neg zo]; exact h.z j zo h2
 ·have hv:=h.v
  rw[List.take_length] at hv
  rw[KO hl,hz,Int.sub_zero,AK,P7 hi,Int.add_mul]; exact hv
theorem Q1.fin (h:Q1 a b o a.length) (ha:Dg a) (hb:Dg b):j9 o=d7 (val a*val b).toNat:=by
 have hv:=h.v
 rw[List.take_length] at hv
 have:=Int.mul_nonneg ha.val0 hb.val0
 exact BN h.dg (by rw[hv]; omega)
end
structure J7 (a o:List Int) (n:Int) (i:Nat) (r:Int):Prop where
 len:o.length=a.length
 dg:Dg o
 r0:0<=r/\r<n
 z:∀j,j<i->j<o.length->b6 o j=0
 v:val (a.drop i)=n*val (o.drop i)+r
section
variable {a o:List Int} {n r:Int} {i:Nat}
theorem J7.start (hn:0<n):J7 a (List.replicate a.length 0) n a.length 0 :=
 ⟨by simp,RL,by omega,fun j h _=>NQ h,by rw[List.drop_length,List.drop_of_length_le (by simp)]; simp[val]⟩
theorem J7.q (ha:Dg a) (h:J7 a o n (i+1) r) (hi:i<a.length):0<=(r*100000000+b6 a i)/n/\(r*100000000+b6 a i)/n<100000000/\0<=(r*100000000+b6 a i)%n/\(r*100000000+b6 a i)%n<n:=by
 have h1:=ha.at hi
 have h2:=h.r0
 refine ⟨Int.ediv_nonneg zo zo,Int.ediv_lt_of_lt_mul zo ?_,Int.emod_nonneg _ zo,Int.emod_lt_of_pos _ zo⟩
 have:(r+1)*100000000<=n*100000000:=Int.mul_le_mul_of_nonneg_right zo zo
 rw[Int.mul_comm 100000000 n]; omega
theorem J7.next (ha:Dg a) (h:J7 a o n (i+1) r) (hi:i<a.length):J7 a (o.set i ((r*100000000+b6 a i)/n)) n i ((r*100000000+b6 a i)%n):=by
 obtain ⟨q1,q2,q3,q4⟩:=h.q ha hi
 have hl:=h.len
 refine ⟨by rw[List.length_set]; exact hl,h.dg.set q1 q2,⟨q3,q4⟩,fun j h1 h2=>?_,?_⟩
 ·rw[List.length_set] at h2
  rw[K1 h2,if_neg zo]; exact h.z j zo h2
 ·have e:=Int.emod_add_mul_ediv (r*100000000+b6 a i) n
  rw[BO hi,h.v,BO (xs:=o.set i _) (by rw[List.length_set]; omega),K1 zo,if_pos rfl,List.drop_set_of_lt zo,Int.mul_add,Int.mul_add,Int.mul_left_comm n 100000000]
  omega
theorem J7.fin (h:J7 a o n 0 r):j9 o=d7 (val a/n).toNat/\r=val a%n:=by
 have hv:=h.v
 rw[List.drop_zero,List.drop_zero] at hv
 have hr:=h.r0
 have e1:val a/n=val o:=by rw[hv,Int.mul_add_ediv_left _ _ zo,Int.ediv_eq_zero_of_lt hr.1 hr.2]; omega
 have e2:val a%n=r:=by rw[hv,Int.mul_add_emod_self_left,Int.emod_eq_of_lt hr.1 hr.2]
 have h0:=h.dg.val0
 exact ⟨BN h.dg (by rw[e1]; omega),e2.symm⟩
end
end Go.Fl

/- Long division of digits. Plain Lean, no program in sight. -/
namespace Go.Fl
theorem oY {xs:List Int} (h:Dg xs) {n:Nat} (hv:val xs<BP n) {k:Nat} (hk:n<=k) (hl:k<xs.length):b6 xs k=0:=by
 have h1:=h.at hl
 have h2:=ED (xs:=xs) (i:=k) zo
 have h3:=(h.take k).val0
 have hd:Dg (xs.drop (k+1)):=fun x hx=>h x (List.mem_of_mem_drop hx)
 have h4:=hd.val0
 rw[BO hl] at h2
 have h5:=FU hk
 refine Classical.byContradiction fun hne=>?_
 have h6:BP k*1<=BP k*(b6 xs k+100000000*val (xs.drop (k+1))):=Int.mul_le_mul_of_nonneg_left zo (Int.le_of_lt (P8 k))
 omega
structure L6 (u0 v:List Int) (j:Nat) (s:Int) (u:List Int) (i:Nat) (c:Int):Prop where
 len:u.length=u0.length
 same:∀k,k<j\/j+i<=k->b6 u k=b6 u0 k
 dg:∀k,j<=k->k<j+i->0<=b6 u k/\b6 u k<100000000
 v:val u+BP (j+i)*c=val u0+s*BP j*val (v.take i)
 cb:-100000000<=c/\c<=1
section
variable {u0 v u:List Int} {j i:Nat} {s c:Int}
theorem L6.start:L6 u0 v j s u0 0 0:=⟨rfl,fun _ _=>rfl,fun _ _ _=>by omega,by simp[val],by omega⟩
theorem L6.b (hv:Dg v) (hs:-99999999<=s/\s<=1) (hi:i<v.length):-9999999800000001<=s*b6 v i/\s*b6 v i<=99999999:=by
 have h1:=hv.at hi
 constructor
 ·have h2:(-s)*b6 v i<=99999999*99999999:=by
   by_cases hp:0<=-s
   ·exact Int.mul_le_mul zo zo h1.1 zo
   ·have:(-s)*b6 v i<=0*b6 v i:=Int.mul_le_mul_of_nonneg_right zo h1.1
    omega
  rw[Int.neg_mul] at h2; omega
 ·have h2:s*b6 v i<=1*b6 v i:=Int.mul_le_mul_of_nonneg_right hs.2 h1.1
  omega
theorem L6.next (hv:Dg v) (hs:-99999999<=s/\s<=1) (h:L6 u0 v j s u i c) (hi:i<v.length) (hl:j+i<u0.length) (hu:0<=b6 u0 (j+i)/\b6 u0 (j+i)<100000000) :
  b6 u (j+i)=b6 u0 (j+i)/\L6 u0 v j s (u.set (j+i) ((b6 u0 (j+i)+s*b6 v i+c)%100000000)) (i+1) ((b6 u0 (j+i)+s*b6 v i+c)/100000000):=by
 have hb:=L6.b hv hs hi
 have hc:=h.cb
 have he:=h.same (j+i) (.inr (Nat.le_refl _))
 have hul:=h.len
 refine ⟨he,by rw[List.length_set]; exact hul,fun k hk=>?_,fun k h1 h2=>?_,?_,?_⟩
 ·by_cases hkl:k<u.length
  ·rw[K1 hkl,if_neg zo]; exact h.same k zo
  ·have e1:∀y:Int,b6 (u.set (j+i) y) k=b6 u k:=fun y=>by
    unfold b6
    simp only[List.getD_eq_getElem?_getD]
    rw[List.getElem?_eq_none (show (u.set (j+i) y).length<=k by rw[List.length_set]; omega),List.getElem?_eq_none (show u.length<=k by omega)]
   rw[e1]; exact h.same k zo
 ·have hkl:k<u.length:=by omega
  rw[K1 hkl]
  by_cases e:j+i=k
  ·rw[if_pos e]; exact ⟨Int.emod_nonneg _ zo,Int.emod_lt_of_pos _ zo⟩
  ·rw[if_neg e]; exact h.dg k h1 zo
 ·have e:=TJ (n:=j+i) (b6 u0 (j+i)+s*b6 v i+c)
  rw[Int.mul_add,Int.mul_add] at e
  have hv':=h.v
  have e2:s*BP j*val (v.take (i+1))=s*BP j*val (v.take i)+BP (j+i)*(s*b6 v i):=by
   rw[AK,P7 hi,Int.mul_add,KQ]
   congr 1
   rw[Int.mul_comm s (BP j),Int.mul_assoc,Int.mul_assoc,Int.mul_left_comm s]
  rw[KO zo,he,e2,Int.mul_sub,<- Nat.add_assoc]
  omega
 ·constructor
  ·omega
  ·omega
theorem L6.done (h:L6 u0 v j s u v.length c) (hl:j+v.length<u0.length):b6 u (j+v.length)=b6 u0 (j+v.length)/\val (u.set (j+v.length) (b6 u (j+v.length)+c))=val u0+s*BP j*val v:=by
 have hv:=h.v
 rw[List.take_length] at hv
 refine ⟨h.same _ (.inr (Nat.le_refl _)),?_⟩
 rw[KO (by rw[h.len]; exact hl),<- hv]
 congr 1
 rw[Int.add_comm (b6 u _),Int.add_sub_cancel]
end
structure K8 (u0:List Int) (j n:Nat) (T V:Int) (u:List Int) (g:Int):Prop where
 len:u.length=u0.length
 dg:∀k,k<u.length->k≠j+n->0<=b6 u k/\b6 u k<100000000
 hi:∀k,j+n<k->k<u.length->b6 u k=0
 low:u.take j=u0.take j
 v:val u=val u0-g*BP j*V
 g0:T/V<=g
 g1:g<=99999999
section
variable {u0 u:List Int} {j n:Nat} {T V g:Int}
theorem K8.t (h:K8 u0 j n T V u g) (hl:j+n<u0.length) (hT:T=val (u0.drop j)):val (u.drop j)=T-g*V:=by
 have h1:=ED (xs:=u) (i:=j) (by rw[h.len]; omega)
 have h2:=ED (xs:=u0) (i:=j) zo
 have h3:=h.v
 rw[h1,h2,h.low,<- hT] at h3
 have h4:BP j*val (u.drop j)=BP j*(T-g*V):=by
  rw[Int.mul_sub,show BP j*(g*V)=g*BP j*V by rw[Int.mul_comm g (BP j),Int.mul_assoc]]; omega
 exact Int.eq_of_mul_eq_mul_left (by have:=P8 j; omega) h4
theorem K8.top (h:K8 u0 j n T V u g) (hl:j+n<u0.length):∃lo,0<=lo/\lo<BP n/\val (u.drop j)=lo+BP n*b6 u (j+n):=by
 have hlen:=h.len
 have h1:=ED (xs:=u.drop j) (i:=n) (by rw[List.length_drop]; omega)
 have hd:Dg ((u.drop j).take n):=fun x hx=>by
  obtain ⟨i,hi,rfl⟩:=Z8 hx
  rw[List.length_take,List.length_drop] at hi
  have e:b6 ((u.drop j).take n) i=b6 u (j+i):=by
   unfold b6
   simp only[List.getD_eq_getElem?_getD,List.getElem?_take,List.getElem?_drop]
   rw[if_pos zo]
  rw[e]; exact h.dg _ zo zo
 have hz:val ((u.drop j).drop n)=b6 u (j+n):=by
  rw[List.drop_drop,BO zo]
  have:val (u.drop (j+n+1))=0:=by
   have hr:u.drop (j+n+1)=List.replicate (u.drop (j+n+1)).length 0:=List.eq_replicate_of_mem fun x hx=>by
    obtain ⟨i,hi,rfl⟩:=Z8 hx
    rw[List.length_drop] at hi
    have e:b6 (u.drop (j+n+1)) i=b6 u (j+n+1+i):=by
     unfold b6
     simp only[List.getD_eq_getElem?_getD,List.getElem?_drop]
    rw[e]; exact h.hi _ zo zo
   rw[hr,PL]
  rw[this]; omega
 have h2:=hd.val1
 rw[List.length_take,List.length_drop,Nat.min_eq_left zo] at h2
 exact ⟨_,hd.val0,h2,by rw[h1,hz]⟩
theorem K8.lt (h:K8 u0 j n T V u g) (hl:j+n<u0.length) (hT:T=val (u0.drop j)) (hn:b6 u (j+n)<0) (hV:0<V):T/V<g:=by
 obtain ⟨lo,h1,h2,h3⟩:=h.top hl
 rw[h.t hl hT] at h3
 have h4:BP n*b6 u (j+n)<=BP n*(-1):=Int.mul_le_mul_of_nonneg_left zo (Int.le_of_lt (P8 n))
 have h5:T<g*V:=by omega
 exact Int.ediv_lt_of_lt_mul hV h5
theorem K8.ge (h:K8 u0 j n T V u g) (hl:j+n<u0.length) (hT:T=val (u0.drop j)) (hn:0<=b6 u (j+n)) (hV:0<V) (hVn:V<BP n):g=T/V/\Dg u/\val (u.drop j)<V:=by
 obtain ⟨lo,h1,h2,h3⟩:=h.top hl
 have h4:0<=BP n*b6 u (j+n):=Int.mul_nonneg (Int.le_of_lt (P8 n)) hn
 have ht:=h.t hl hT
 have h5:g*V<=T:=by omega
 have hg:g=T/V:=Int.le_antisymm ((Int.le_ediv_iff_mul_le hV).2 h5) h.g0
 have h6:val (u.drop j)<V:=by
  rw[ht,hg]
  have:=Int.emod_lt_of_pos T hV
  have e:=Int.emod_add_mul_ediv T V
  rw[Int.mul_comm] at e
  omega
 refine ⟨hg,fun x hx=>?_,h6⟩
 obtain ⟨k,hk,rfl⟩:=Z8 hx
 by_cases e:k=j+n
 ·subst e
  refine ⟨hn,?_⟩
  have:b6 u (j+n)=0:=by
   refine Classical.byContradiction fun hne=>?_
   have:BP n*1<=BP n*b6 u (j+n):=Int.mul_le_mul_of_nonneg_left zo (Int.le_of_lt (P8 n))
   omega
  omega
 ·exact h.dg k hk e
end
theorem oT {T V t vt:Int} {n:Nat} (hV:vt*BP n<=V) (hvt:0<vt) (hT:T<(t+1)*BP n) (hT2:T<100000000*V) (h0:0<=T):T/V<=(if 99999999<t/vt then 99999999 else t/vt)/\0<=T/V:=by
 have hp:=P8 n
 have hVp:0<V:=by
  have:0<vt*BP n:=Int.mul_pos hvt hp
  omega
 have h1:T/V<100000000:=Int.ediv_lt_of_lt_mul hVp hT2
 have hq0:0<=T/V:=Int.ediv_nonneg h0 zo
 have h2:T/V*V<=T:=Int.ediv_mul_le T zo
 have h3:T/V*(vt*BP n)<=T/V*V:=Int.mul_le_mul_of_nonneg_left hV hq0
 have h4:T/V*vt*BP n<(t+1)*BP n:=by rw[Int.mul_assoc]; omega
 have h5:T/V*vt<t+1:=Int.lt_of_mul_lt_mul_right h4 (Int.le_of_lt hp)
 have h6:T/V<=t/vt:=(Int.le_ediv_iff_mul_le hvt).2 zo
 refine ⟨?_,hq0⟩
 split<;>omega
structure S3 (A V:Int) (n:Nat) (u out:List Int) (j:Nat):Prop where
 lu:u.length=out.length+n
 dg:Dg u
 do_:Dg out
 jo:j<=out.length
 lt:val (u.drop j)<V
 v:A=V*BP j*val (out.drop j)+val u
section
variable {A V T g:Int} {n j:Nat} {u out u' v:List Int}
theorem S3.gs (hv:Nm v) (hn:v.length=n) (h2:2<=n) (h:S3 A (val v) n u out (j+1)) :
  val (u.drop j)/val v<=(if 99999999<(b6 u (j+n)*100000000+b6 u (j+n-1))/b6 v (n-1) then 99999999 else (b6 u (j+n)*100000000+b6 u (j+n-1))/b6 v (n-1))/\0<=val (u.drop j)/val v/\0<b6 v (n-1)/\(∀k,j+n<k->k<u.length->b6 u k=0)/\val v<BP n:=by
 have hlu:=h.lu
 have hjo:=h.jo
 have hne:v≠[]:=fun e=>by rw[e] at hn; simp at hn; omega
 have hvlt:=hv.dg.val1
 rw[hn] at hvlt
 have hd1:Dg (u.drop (j+1)):=fun x hx=>h.dg x (List.mem_of_mem_drop hx)
 have hd0:Dg (u.drop j):=fun x hx=>h.dg x (List.mem_of_mem_drop hx)
 have hz:∀k,j+n<k->k<u.length->b6 u k=0:=fun k h3 h4=>by
  have:=oY hd1 (n:=n) (by have:=h.lt; omega) (k:=k-(j+1)) zo (by rw[List.length_drop]; omega)
  unfold b6 at this ⊢
  simp only[List.getD_eq_getElem?_getD,List.getElem?_drop] at this ⊢
  rwa [show j+1+(k-(j+1))=k by omega] at this
 have hvt:0<b6 v (n-1):=by
  have h3:=hv.last hne
  have h4:b6 v (n-1)=v.getLast hne:=by
   rw[List.getLast_eq_getElem]
   exact Z9 (by rw[<- hn]; exact List.getElem?_eq_getElem _)
  rw[h4]
  have:=hv.dg _ (List.getLast_mem hne)
  omega
 have hV:b6 v (n-1)*BP (n-1)<=val v:=by
  have h3:=ED (xs:=v) (i:=n-1) zo
  have h4:=(hv.dg.take (n-1)).val0
  have h5:v.drop (n-1)=[b6 v (n-1)]:=by
   rw[List.drop_eq_getElem_cons zo,List.drop_of_length_le zo]
   congr 1
   exact (Z9 (List.getElem?_eq_getElem zo)).symm
  rw[h5] at h3
  simp only[val,Int.mul_zero,Int.add_zero] at h3
  rw[Int.mul_comm]; omega
 have hT0:=hd0.val0
 have hT1:val (u.drop j)<100000000*val v:=by
  rw[BO zo]
  have:=h.dg.at (i:=j) zo
  have:=h.lt
  omega
 have hT2:val (u.drop j)<(b6 u (j+n)*100000000+b6 u (j+n-1)+1)*BP (n-1):=by
  have h3:=ED (xs:=u.drop j) (i:=n-1) (by rw[List.length_drop]; omega)
  have hdt:Dg ((u.drop j).take (n-1)):=hd0.take _
  have h4:=hdt.val1
  rw[List.length_take,List.length_drop,Nat.min_eq_left zo] at h4
  have h6:=BO (xs:=u) (i:=j+(n-1)) zo
  have h7:=BO (xs:=u) (i:=j+n) zo
  rw[show j+(n-1)+1=j+n by omega] at h6
  rw[List.drop_drop,h6,h7] at h3
  have h5:val (u.drop (j+n+1))=0:=by
   have hr:u.drop (j+n+1)=List.replicate (u.drop (j+n+1)).length 0:=List.eq_replicate_of_mem fun x hx=>by
    obtain ⟨i,hi,rfl⟩:=Z8 hx
    rw[List.length_drop] at hi
    have e:b6 (u.drop (j+n+1)) i=b6 u (j+n+1+i):=by
     unfold b6
     simp only[List.getD_eq_getElem?_getD,List.getElem?_drop]
    rw[e]; exact hz _ zo zo
   rw[hr,PL]
  rw[h5,Int.mul_zero,Int.add_zero] at h3
  rw[h3,show j+(n-1)=j+n-1 by omega,Int.add_mul,Int.one_mul,Int.mul_comm (b6 u (j+n)*100000000+b6 u (j+n-1)),Int.mul_comm 100000000 (b6 u (j+n)),Int.add_comm (b6 u (j+n)*100000000)]
  omega
 obtain ⟨g1,g2⟩:=oT hV hvt hT2 hT1 hT0
 exact ⟨g1,g2,hvt,hz,hvlt⟩
theorem K8.mk' (h:S3 A V n u out (j+1)) (_hn:j+n<u.length) {s:Int} (hs:L6 u v j (-s) u' n T) (hvn:v.length=n) (hV:val v=V) (hz:∀k,j+n<k->k<u.length->b6 u k=0) (hg:val (u.drop j)/V<=s) (hg1:s<=99999999) :
  K8 u j n (val (u.drop j)) V (u'.set (j+n) (b6 u' (j+n)+T)) s:=by
 have hl:=hs.len
 subst hvn
 obtain ⟨e1,e2⟩:=hs.done zo
 refine ⟨by rw[List.length_set]; exact hl,fun k hk hne=>?_,fun k h1 h2=>?_,?_,?_,hg,hg1⟩
 ·rw[List.length_set] at hk
  rw[K1 hk,if_neg (fun e=>hne e.symm)]
  by_cases hc:k<j\/j+v.length<=k
  ·rw[hs.same k hc]; exact h.dg.at zo
  ·exact hs.dg k zo zo
 ·rw[List.length_set] at h2
  rw[K1 h2,if_neg zo,hs.same k zo]
  exact hz k h1 zo
 ·refine F5 (by simp[hl]) fun k hk=>?_
  rw[List.length_take,List.length_set] at hk
  have e:∀{xs:List Int},b6 (xs.take j) k=b6 xs k:=fun {xs}=>by
   unfold b6
   simp only[List.getD_eq_getElem?_getD,List.getElem?_take]
   rw[if_pos zo]
  rw[e,e,K1 zo,if_neg zo]
  exact hs.same k (.inl zo)
 ·rw[e2,hV,Int.neg_mul,Int.neg_mul]; omega
theorem K8.back (h:K8 u j n T V u' g) (hl:j+n<u.length) (hT:T=val (u.drop j)) (hn:b6 u' (j+n)<0) (hVp:0<V) {u2:List Int} {c:Int} (hs:L6 u' v j 1 u2 n c) (hvn:v.length=n) (hV:val v=V) :
  K8 u j n T V (u2.set (j+n) (b6 u2 (j+n)+c)) (g-1):=by
 have hlt:=h.lt hl hT hn hVp
 have hlen:=h.len
 have hl2:=hs.len
 subst hvn
 obtain ⟨e1,e2⟩:=hs.done zo
 refine ⟨by rw[List.length_set]; omega,fun k hk hne=>?_,fun k h1 h2=>?_,?_,?_,by omega,by have:=h.g1; omega⟩
 ·rw[List.length_set] at hk
  rw[K1 hk,if_neg (fun e=>hne e.symm)]
  by_cases hc:k<j\/j+v.length<=k
  ·rw[hs.same k hc]; exact h.dg k zo hne
  ·exact hs.dg k zo zo
 ·rw[List.length_set] at h2
  rw[K1 h2,if_neg zo,hs.same k zo]
  exact h.hi k h1 zo
 ·rw[<- h.low]
  refine F5 (by simp[hl2]) fun k hk=>?_
  rw[List.length_take,List.length_set] at hk
  have e:∀{xs:List Int},b6 (xs.take j) k=b6 xs k:=fun {xs}=>by
   unfold b6
   simp only[List.getD_eq_getElem?_getD,List.getElem?_take]
   rw[if_pos zo]
  rw[e,e,K1 zo,if_neg zo]
  exact hs.same k (.inl zo)
 ·rw[e2,h.v,hV,Int.one_mul,Int.sub_mul,Int.sub_mul,Int.one_mul]; omega
theorem S3.next (h:S3 A V n u out (j+1)) (hw:K8 u j n (val (u.drop j)) V u' g) (hl:j+n<u.length) (hn:0<=b6 u' (j+n)) (hV:0<V) (hVn:V<BP n):S3 A V n u' (out.set j g) j:=by
 obtain ⟨e1,e2,e3⟩:=hw.ge hl rfl hn hV hVn
 have hjo:=h.jo
 have h0:Dg (u.drop j):=fun x hx=>h.dg x (List.mem_of_mem_drop hx)
 have hg0:0<=g:=by rw[e1]; exact Int.ediv_nonneg h0.val0 zo
 have:=hw.g1
 refine ⟨by rw[hw.len,h.lu,List.length_set],e2,h.do_.set hg0 zo,by rw[List.length_set]; omega,e3,?_⟩
 rw[BO (xs:=out.set j g) (by rw[List.length_set]; omega),K1 zo,if_pos rfl,List.drop_set_of_lt zo,hw.v,h.v,P9,Int.mul_add,show V*BP j*g=g*BP j*V by rw[Int.mul_comm V,Int.mul_comm (BP j*V),Int.mul_assoc],show V*(100000000*BP j)=V*BP j*100000000 by rw[Int.mul_comm 100000000 (BP j),Int.mul_assoc],Int.mul_assoc (V*BP j)]
 omega
theorem S3.fin (h:S3 A V n u out 0) (hV:0<V):val out=A/V/\val u=A%V/\Dg out/\Dg u:=by
 have hv:=h.v
 have hlt:=h.lt
 rw[List.drop_zero] at hv hlt
 simp only[BP,Int.pow_zero,Int.mul_one] at hv
 have h0:=h.dg.val0
 refine ⟨?_,?_,h.do_,h.dg⟩
 ·rw[hv,Int.mul_add_ediv_left _ _ zo,Int.ediv_eq_zero_of_lt h0 hlt]; omega
 ·rw[hv,Int.mul_add_emod_self_left,Int.emod_eq_of_lt h0 hlt]
theorem S3.start {x:Int} (hx:0<=x) (hv:Nm v) (hn:v.length=n) (h2:2<=n) (hle:n<=(d7 x.toNat).length):S3 x (val v) n (d7 x.toNat++[0,0]) (List.replicate ((d7 x.toNat).length+2-n) 0) ((d7 x.toNat).length+2-n):=by
 have hd:=t7 x.toNat
 have hD:Dg (d7 x.toNat++[0,0]):=fun y hy=>by
  rcases List.mem_append.1 hy with hy | hy
  ·exact hd y hy
  ·simp at hy; subst hy; omega
 have hval:val (d7 x.toNat++[0,0])=x:=by rw[IB,t9]; simp[val]; omega
 have hne:v≠[]:=fun e=>by rw[e] at hn; simp at hn; omega
 refine ⟨by simp; omega,hD,RL,by simp,?_,?_⟩
 ·have h1:=hv.low hne
  rw[hn] at h1
  have e:(d7 x.toNat++[0,0]).drop ((d7 x.toNat).length+2-n)=(d7 x.toNat).drop ((d7 x.toNat).length+2-n)++[0,0]:=List.drop_append_of_le_length zo
  rw[e,IB]
  have hdd:Dg ((d7 x.toNat).drop ((d7 x.toNat).length+2-n)):=fun y hy=>hd y (List.mem_of_mem_drop hy)
  have h3:=hdd.val1
  rw[List.length_drop] at h3
  have h4:=FU (show (d7 x.toNat).length-((d7 x.toNat).length+2-n)<=n-1 by omega)
  simp only[val]
  omega
 ·rw[List.drop_of_length_le (by simp),hval]
  simp[val]
end
end Go.Fl

/- Integers: what the contracts of the package field lean on. Plain Lean, no program in sight. -/
namespace Go.Fl
theorem cI {α:Type} [Inhabited α] {xs:List α} {i m:Nat} (h:i<m):b6 (xs.take m) i=b6 xs i:=by simp[b6,List.getD,List.getElem?_take_of_lt h]
def wh (z:Int):Bool×List Int:=(decide (z<0),d7 z.natAbs)
theorem EE {b:Bool} {ds:List Int} {z:Int} (hb:b=decide (z<0)) (hd:ds=d7 z.natAbs):(b,ds)=wh z:=by unfold wh; rw[hb,hd]
theorem gP {ds:List Int} {z:Int} {n:Nat} (hz:z=n) (hd:ds=d7 n):(false,ds)=wh z:=by subst hz; exact EE (by simp) (by simpa using hd)
theorem gO {ds:List Int} {z:Int} {n:Nat} (hz:z=-(n:Int)) (h0:0<n) (hd:ds=d7 n):(true,ds)=wh z:=EE (by simp; omega) (by rw[hd,hz,Int.natAbs_neg,Int.natAbs_natCast])
theorem KL (n:Int):n=100000000*n.tdiv 100000000+n.tmod 100000000/\(0<=n->0<=n.tmod 100000000/\n.tmod 100000000<100000000)/\(n<=0->-100000000<n.tmod 100000000/\n.tmod 100000000<=0):=by
 have h:=Int.mul_tdiv_add_tmod n 100000000
 refine ⟨by omega,fun h0=>⟨Int.tmod_nonneg _ h0,?_⟩,fun h0=>?_⟩
 ·exact Int.tmod_lt_of_pos n zo
 ·have h1:=Int.tmod_nonneg 100000000 (show 0<=-n by omega)
  have h2:=Int.tmod_lt_of_pos (-n) (show (0:Int)<100000000 by omega)
  rw[Int.neg_tmod] at h1 h2
  omega
theorem dP {xs:List Int} {i:Nat} (hi:xs.length<=i) (h:(q8 xs i).2=0):(false,j9 (q8 xs i).1)=wh (val xs):=by
 have h1:=dL hi h
 have h0:=(V1 (xs:=xs) (i:=i)).val0
 exact gP (n:=(val xs).toNat) zo (BN V1 zo)
theorem QM {ds:List Int} {k:Nat}:bw ds (k+1)=if -(b6 ds k)-bw ds k<0 then 1 else 0:=rfl
theorem QV {ds:List Int} {k:Nat} (hk:k<ds.length):b6 ((C2 ds k).set k (-b6 (C2 ds k) k-bw ds k)) k=-b6 ds k-bw ds k:=by
 rw[K1 (by rw[WR]; exact hk),if_pos rfl,QU hk]
theorem WU {ds:List Int} {k:Nat} (hk:k<ds.length) (h:b6 ((C2 ds k).set k (-b6 (C2 ds k) k-bw ds k)) k<0) :
  ((C2 ds k).set k (-b6 (C2 ds k) k-bw ds k)).set k (b6 ((C2 ds k).set k (-b6 (C2 ds k) k-bw ds k)) k+100000000)=C2 ds (k+1)/\(1:Int)=bw ds (k+1):=by
 rw[QV hk] at h ⊢
 refine ⟨?_,by rw[QM,if_pos h]⟩
 rw[List.set_set,<- WS]
 congr 1
 unfold M3; rw[if_pos h]
theorem WT {ds:List Int} {k:Nat} (hk:k<ds.length) (h:0<=b6 ((C2 ds k).set k (-b6 (C2 ds k) k-bw ds k)) k):(C2 ds k).set k (-b6 (C2 ds k) k-bw ds k)=C2 ds (k+1)/\(0:Int)=bw ds (k+1):=by
 rw[QV hk] at h
 refine ⟨?_,by rw[QM,if_neg zo]⟩
 rw[<- WS,QU hk]
 congr 1
 unfold M3; rw[if_neg zo]
theorem dO {xs:List Int} {i:Nat} (hi:xs.length<=i) (h:(q8 xs i).2=-1) (hb:bw (q8 xs i).1 i≠0):(true,j9 (C2 (q8 xs i).1 i))=wh (val xs):=by
 have h1:=dK hi h
 have hl:(q8 xs i).1.length=i:=T6
 have hd:=V1 (xs:=xs) (i:=i)
 have hlt:=hd.val1
 have h2:=jC hd (by rw[hl]; exact hb)
 rw[hl] at h2 hlt
 exact gO (n:=(-val xs).toNat) zo zo (BN h2.1 zo)
theorem dN {xs:List Int} {i:Nat} (hi:xs.length<=i) (h:(q8 xs i).2=-1) (hb:bw (q8 xs i).1 i=0):(true,j9 (C2 (q8 xs i).1 i++[1]))=wh (val xs):=by
 have h1:=dK hi h
 have hl:(q8 xs i).1.length=i:=T6
 have hd:=V1 (xs:=xs) (i:=i)
 have hlt:=hd.val1
 have h2:=jD hd (by rw[hl]; exact hb)
 rw[hl] at h2 hlt
 exact gO (n:=(-val xs).toNat) zo zo (BN h2.1 zo)
def N7 (ds:List Int) (k:Nat):List Int:=l6 ds.length fun j=>if j<k then -(b6 ds j) else b6 ds j
theorem TQ {ds:List Int}:ds=N7 ds 0:=by
 unfold N7
 exact (T8 rfl).trans (D9 fun j _=>by rw[if_neg zo])
theorem TP {ds:List Int} {k:Nat} (h:k<ds.length):b6 (N7 ds k) k=b6 ds k:=by unfold N7; rw[s9 h,if_neg zo]
theorem bV {ds:List Int} {k:Nat} (h:k<ds.length):(N7 ds k).set k (-(b6 (N7 ds k) k))=N7 ds (k+1):=by
 rw[TP h]
 unfold N7
 rw[FQ]
 refine D9 fun j _=>?_
 by_cases e:j=k
 ·subst e; rw[if_pos rfl,if_pos zo]
 ·rw[if_neg e]
  by_cases h:j<k
  ·rw[if_pos h,if_pos zo]
  ·rw[if_neg h,if_neg zo]
theorem bU {ds:List Int}:N7 ds ds.length=ds.map fun x=>-x:=by
 refine F5 (by unfold N7; rw[q9,List.length_map]) fun j hj=>?_
 unfold N7 at hj ⊢
 rw[q9] at hj
 rw[s9 hj,if_pos hj,FC hj]
theorem qE {z:Int} (h:decide (z<0)=false):d7 z.natAbs=j2 z:=by unfold j2; rw[if_neg (of_decide_eq_false h)]
theorem qC {z:Int} (h:decide (z<0)=true):N7 (d7 z.natAbs) (d7 z.natAbs).length=j2 z:=by rw[bU]; unfold j2; rw[if_pos (of_decide_eq_true h)]
theorem nO {z:Int}:(d7 z.natAbs).length=dl z:=rfl
theorem AY {z:Int}:0<dl z↔z≠0:=by have:=E2 (a:=z); omega
theorem vY {z:Int}:(!decide (z<0)&&decide ((0:Int)<((d7 z.natAbs).length:Nat)),d7 z.natAbs)=wh (-z):=by
 refine EE ?_ (by rw[Int.natAbs_neg])
 have:=AY (z:=z)
 rw[nO]
 by_cases h:z<0
 ·simp[h]; omega
 ·by_cases e:z=0
  ·subst e; simp[E2.2 rfl]
  ·have h2:(0:Int)<(dl z:Nat):=by omega
   simp[h]; omega
theorem AM {n:Int}:val [n]=n:=by simp[val]
theorem EU {x y:Int} (h:x<y):s7 x y=-1:=if_pos h
theorem ET {x y:Int} (h:y<x):s7 x y=1:=by unfold s7; rw[if_neg zo,if_pos h]
theorem LO {x y:Int} (h:x=y):s7 x y=0:=by unfold s7; rw[if_neg zo,if_neg zo]
theorem jM {x y:Int}:s7 (x-y) 0=s7 x y:=by
 unfold s7
 by_cases h:x<y
 ·rw[if_pos h,if_pos zo]
 ·rw[if_neg h,if_neg zo]
  by_cases h2:y<x
  ·rw[if_pos h2,if_pos zo]
  ·rw[if_neg h2,if_neg zo]
theorem jI {m n:Nat} (h:(d7 m).length≠(d7 n).length):s7 ((d7 m).length:Nat) ((d7 n).length:Nat)=s7 m n:=by
 have h1:=t9 m; have h2:=t9 n
 rcases Nat.lt_or_ge (d7 m).length (d7 n).length with h3 | h3
 ·have:=LQ (L0 m) (L0 n) h3
  rw[EU zo,EU zo]
 ·have:=LQ (L0 n) (L0 m) zo
  rw[ET zo,ET zo]
theorem jG {m n:Nat} (hl:(d7 m).length=(d7 n).length) {i:Nat} (hi:i<(d7 m).length) (h:∀j,i<j->j<(d7 m).length->b6 (d7 m) j=b6 (d7 n) j) (hne:b6 (d7 m) i≠b6 (d7 n) i):s7 (b6 (d7 m) i) (b6 (d7 n) i)=s7 m n:=by
 have h1:=t9 m; have h2:=t9 n
 rcases Int.lt_or_gt_of_ne hne with h3 | h3
 ·have:=LP (t7 m) (t7 n) hl hi h h3
  rw[EU h3,EU zo]
 ·have:=LP (t7 n) (t7 m) hl.symm zo (fun j h4 h5=>(h j h4 zo).symm) h3
  rw[ET h3,ET zo]
theorem jF {m n:Nat} (hl:(d7 m).length=(d7 n).length) (h:∀j,0<=j->j<(d7 m).length->b6 (d7 m) j=b6 (d7 n) j):(0:Int)=s7 m n:=by
 have e:=WW hl (fun j hj=>h j (Nat.zero_le _) hj)
 have h1:=t9 m; have h2:=t9 n
 rw[e,h2] at h1
 rw[LO h1.symm]
end Go.Fl

/- Contracts: the library, for integers. -/
namespace Go.Fl
open Go Go.Proofs
open b8 renaming op->tO
open i7 renaming op->rO
set_option maxRecDepth 100000

theorem XR (x:Int):Ct Tryz.prog 224 [kI x] (kB false):=by
 refine Ct.mk Tryz.func224 rfl Tryz.ntmps224 rfl (fun w J=>?_); refine C6 ?_; exact f0.res1 (fn:=Tryz.f224) rfl (.b rfl (by simp)<|.nil)

theorem XD (x y:Int):Ct Tryz.prog 214 [kI x,kI y] (kI (s7 x y)):=by
 refine Ct.mk Tryz.func214 rfl Tryz.ntmps214 rfl (fun w J=>?_); refine j3 ?_; refine tO (i9 (fun hp=>XR _) (.a rfl uu<|.nil)) rfl rfl ?_; refine l5 ?_; refine tO (i9 (fun hp=>XR _) (.a rfl uu<|.nil)) rfl rfl ?_; refine l7 ?_; refine Tr.cnd rfl ?_ ?_
 ·intro h3
  simp at h3
 ·intro h3
  refine j3 ?_; refine Tr.cnd rfl ?_ ?_
  ·intro h7
   simp at h7
  ·intro h7
   refine t6 ?_; refine jq ?_ ?_
   ·intro h9
    refine j8 ?_; exact f0.res1 (fn:=Tryz.f214) rfl (.i rfl (EU h9).symm<|.nil)
   ·intro h9
    replace h9:=Int.not_lt.1 h9
    refine t6 ?_; refine jq ?_ ?_
    ·intro h11
     refine j8 ?_; exact f0.res1 (fn:=Tryz.f214) rfl (.i rfl (ET zo).symm<|.nil)
    ·intro h11
     replace h11:=Int.not_lt.1 h11
     refine j3 ?_; exact f0.res1 (fn:=Tryz.f214) rfl (.i rfl (LO zo).symm<|.nil)

theorem LU (p:List Int) (hn:p.length<=1000000) (h0:0<p.length):Q0 Tryz.prog 143 [b7 (eL eI) p] (fun t=>o7 t p.length) (l3 false 3 eI p p.length):=by
 refine Q0.mk Tryz.func143 rfl Tryz.ntmps143 rfl (fun w J=>?_); refine l7 ?_; refine tO (JX rfl uu) rfl rfl ?_; refine g8 ?_; refine Tr.exB (s:=4) rfl (fun b1 q1=>?_); refine Tr.cnd rfl ?_ ?_
 ·intro h1
  exact absurd (congrArg List.length (q1 h1)) (by simp only[List.length_nil]; omega)
 ·intro h1
  refine i1 ?_; refine b8.new (DR eI 5) rfl rfl rfl rfl ?_; refine g8 ?_; refine jl ?_; refine i1 ?_
  exact f0.resN (fn:=Tryz.f143) (u:=5) rfl rfl (ES zi zi) (FI zi) inferInstance

end Go.Fl

/- Contracts: integers of the package field (reading, normal form). -/
namespace Go.Fl
open Go Go.Proofs
open b8 renaming op->tO
open i7 renaming op->rO
set_option maxRecDepth 100000

def eW:i5 (Bool×List Int):=eC (fun v:Bool×List Int=>(v.1,v.2,())) (eP Z3 (eP (eL eI) eU))
instance {v:Bool×List Int}:D5 (b7 eW v) [kB (v.1),b7 (eL eI) (v.2)]:=inferInstanceAs (D5 (b7 (eC (fun v:Bool×List Int=>(v.1,v.2,())) (eP Z3 (eP (eL eI) eU))) v) _)
instance {v:Bool×List Int} {tl:List d6}:I8 eW v tl (kB (v.1)::b7 (eL eI) (v.2)::tl):=inferInstanceAs (I8 (eC (fun v:Bool×List Int=>(v.1,v.2,())) (eP Z3 (eP (eL eI) eU))) v tl _)
instance {v:Bool×List Int}:w6 eW v 1 (eL eI) (v.2) 1:=inferInstanceAs (w6 (eC (fun v:Bool×List Int=>(v.1,v.2,())) (eP Z3 (eP (eL eI) eU))) v 1 _ _ _)
instance {ks r:List d6} {b:Bool} {l:List Int} [h:s8 ks (eP Z3 (eP (eL eI) eU)) (b,l,()) r]:s8 ks eW ((b,l)) r:=⟨fun h'=>h.imp h'⟩
instance {z:Int}:w6 eW (wh z) 1 (eL eI) (d7 z.natAbs) 1:=inferInstanceAs (w6 eW (wh z) 1 (eL eI) ((wh z).2) _)
instance {z:Int}:D5 (b7 eW (wh z)) [kB (decide (z<0)),b7 (eL eI) (d7 z.natAbs)]:=inferInstanceAs (D5 (b7 eW (wh z)) [kB ((wh z).1),b7 (eL eI) ((wh z).2)])
instance {z:Int} {tl:List d6}:I8 eW (wh z) tl (kB (decide (z<0))::b7 (eL eI) (d7 z.natAbs)::tl):=inferInstanceAs (I8 eW (wh z) tl (kB ((wh z).1)::b7 (eL eI) ((wh z).2)::tl))
theorem LW (n:Int) (hn:-9223372036854775808<=n/\n<=9223372036854775807):Ct Tryz.prog 195 [kI n] (v6 [kI (n/100000000),kI (n%100000000)]):=by
 obtain ⟨hq1,hq2,hq3⟩:=KL n
 refine Ct.mk Tryz.func195 rfl Tryz.ntmps195 rfl (fun w J=>?_); refine l7 ?_; refine tO (AC rfl uu rfl uu (fun _=>zo)) rfl rfl ?_; refine i6 ?_; refine tO (DV rfl uu rfl uu (fun _=>zo)) rfl rfl ?_; refine B0 ?_; refine jq ?_ ?_
 ·intro h2
  refine w3 ?_; exact f0.res (fn:=Tryz.f195) (ts:=[2,3]) rfl rfl (.i rfl zo<|.i rfl zo<|.nil)
 ·intro h2
  replace h2:=Int.not_lt.1 h2
  refine B0 ?_; exact f0.res (fn:=Tryz.f195) (ts:=[2,3]) rfl rfl (.i rfl zo<|.i rfl zo<|.nil)

theorem ME (xs:List Int) (ad:Option Addr) (cp:Nat):Ct Tryz.prog 190 [G7 eI ad cp xs] (G7 eI ad cp (j9 xs)):=by
 refine Ct.mk Tryz.func190 rfl Tryz.ntmps190 rfl (fun w J=>?_); refine Tr.fact (s:=0) rfl (fun _ _ h=>P0 h.2) (fun hb=>?_); refine n7 ?_; refine Tr.for (σ:=Nat) [] [] (fun m=>[⟨0,true,[],G7 eI ad cp (xs.take m)⟩]) (fun m=>[]) (fun m=>m<=xs.length/\∀i,m<=i->i<xs.length->b6 xs i=0) (fun m=>j9 xs=xs.take m) (fun m=>m) (xs.length) ⟨by omega,fun i h1 h2=>absurd h1 zo⟩ (d8.mk (.v rfl (List.take_length).symm<|.nil) (.nil) rfl) ?_ ?_
 ·rintro m ⟨hm,hz⟩
  refine jn ?_
  have hl:(xs.take m).length=m:=by rw[List.length_take]; omega
  have hat:0<m->b6 (xs.take m) ((((xs.take m).length:Nat):Int)-1).toNat=b6 xs (m-1):=fun h=>by rw[hl,show (((m:Nat):Int)-1).toNat=m-1 by omega]; exact cI zo
  refine i1 ?_; refine tO (TY rfl uu) rfl rfl ?_; refine i1 ?_; refine b8.gd rfl rfl rfl (TY rfl id) rfl rfl ?_; refine b8.gd rfl rfl rfl (AD rfl id rfl uu (fun hp=>by simp at hp; omega)) rfl rfl ?_; refine b8.gd rfl rfl rfl (rU rfl id rfl id rfl (fun hp=>by simp at hp; omega)) rfl rfl ?_; refine n7 ?_; refine Tr.cnd rfl ?_ ?_
  ·intro h1
   try simp only[decide_eq_true_eq,Bool.and_eq_true] at h1
   refine l5 ?_; refine tO (TY rfl uu) rfl rfl ?_; refine i6 ?_; refine tO (sC rfl uu rfl uu (fun _=>zo)) rfl rfl ?_; refine j5 ?_; exact g6.lp (m-1) ⟨by omega,fun i h2 h3=>by (by_cases e:i=m-1; subst e; rw[<- hat zo]; exact h1.2; exact hz i zo h3)⟩ zo (d8.mk (.v rfl (by rw[List.take_take]; congr 1; omega)<|.nil) (.nil) rfl)
  ·intro h1
   try simp only[decide_eq_true_eq,decide_eq_false_iff_not,Bool.and_eq_false_imp] at h1
   refine i1 ?_
   exact g6.cut (m) (EB hm hz (by by_cases e:m=0; exact .inl e; exact .inr (by rw[<- hat zo]; exact h1 zo))) (d8.mk (.v rfl zi<|.nil) (.nil) rfl)
 ·intro m hE0
  refine jn ?_; refine j8 ?_; exact f0.res1 (fn:=Tryz.f190) rfl (.v rfl hE0.symm<|.nil)

theorem GO (xs:List Int):Ct Tryz.prog 190 [b7 (eL eI) xs] (b7 (eL eI) (j9 xs)):=Ct.ofSlv fun ad cp=>ME xs ad cp

set_option maxHeartbeats 1000000 in
theorem RB (xs:List Int) (hx:B6 xs) (hn:xs.length<=1000000):Ct Tryz.prog 167 [b7 (eL eI) xs] (b7 eW (wh (val xs))):=by
 refine Ct.mk Tryz.func167 rfl Tryz.ntmps167 rfl (fun w J=>?_); refine g8 ?_; refine ja 2 ?_; refine GX ?_; refine Tr.grow (s:=3) rfl rfl 3 rfl 3 eI rfl ?_
 refine Tr.for1 (σ:=Nat) [⟨0,true,_,_⟩,⟨2,true,_,_⟩] [⟨2,_,_⟩] (fun i=>[⟨3,true,[3],o7 3 i⟩,⟨4,true,[],kI (q8 xs i).2⟩,⟨5,true,[],kI (i:Int)⟩]) (fun i=>[⟨3,[],l3 true 3 eI (q8 xs i).1 i⟩]) (fun i=>(i:Int)+(q8 xs i).2.natAbs<=xs.length+100000000000) (fun i=>xs.length<=i/\((q8 xs i).2=0\/(q8 xs i).2=-1)/\i<=xs.length+100000000000) (fun i=>(xs.length-i)*1000000000000+(q8 xs i).2.natAbs) (0) (by simp[q8]; omega) (d8.mk (.o rfl zi rfl<|.i rfl zi<|.i rfl zi<|zk) (.a zi zi<|zk) rfl) ?_ ?_
 ·rintro i hi
  refine jn ?_
  have hc1:=KD hx (i:=i)
  have hc2:=KD hx (i:=i+1)
  have hx1:=hx.x i
  have hs:=dM (xs:=xs) (i:=i)
  have hs2:(q8 xs (i+1)).2=(w8 xs i+(q8 xs i).2)/100000000:=rfl
  have hxo:¬i<xs.length->w8 xs i=0:=FT
  refine B1 ?_; refine b8.gd rfl rfl rfl (HJ rfl id rfl (fun hp h=>GU (id hp) h)) rfl rfl ?_; refine j5 ?_; refine Tr.cnd rfl ?_ ?_
  ·intro h4
   try simp only[decide_eq_true_eq,Bool.and_eq_true,Bool.or_eq_true,ne_eq] at h4
   refine t6 ?_; refine Tr.meet2 (σ:=Unit) [⟨0,true,_,_⟩,⟨2,true,_,_⟩,⟨3,true,_,_⟩,⟨4,true,_,_⟩,⟨5,true,_,_⟩] [⟨2,_,_⟩,⟨3,_,_⟩] (zk) (zk) (fun _=>[⟨6,true,[],kI (w8 xs i/100000000)⟩,⟨7,true,[],kI (w8 xs i%100000000)⟩]) (fun _=>[]) (fun _=>True) ?_ ?_
   ·skip
    refine j3 ?_; refine jq ?_ ?_
    ·intro h7
     refine n7 ?_; refine tO (i9 (fun hp=>LW _ (by have:=hx i zo; omega)) (.a rfl uu<|.nil)) rfl rfl ?_; refine l5 ?_
     exact g6.cut (()) zi (d8.mk (.i rfl (by rw[P7 zo])<|.i rfl (by rw[P7 zo])<|zk) (zk) rfl)
    ·intro h7
     replace h7:=Int.not_lt.1 h7
     refine i6 ?_
     exact g6.cut (()) zi (d8.mk (.i rfl (by rw[hxo zo]; rfl)<|.i rfl (by rw[hxo zo]; rfl)<|zk) (zk) rfl)
   ·intro _ hM
    refine jn ?_; refine n7 ?_; refine tO (i9 (fun hp=>LW _ zo) (.a rfl uu<|.nil)) rfl rfl ?_; refine t6 ?_; refine b8.new (A1 eI 48 (fun hp=>.cons rfl<|.nil) rfl rfl rfl rfl) rfl rfl rfl rfl ?_; refine i6 ?_; refine jl ?_; refine B1 ?_
    exact g6.lp (i+1) zo zo (d8.mk (.o rfl zi rfl<|.i rfl hs.1<|.i rfl zi<|zk) (.a (by rw[q8,<- hs.2]) zi<|zk) rfl)
  ·intro h4
   try simp only[decide_eq_true_eq,decide_eq_false_iff_not,Bool.and_eq_false_imp,Bool.or_eq_false_iff,Int.not_lt,ne_eq,Classical.not_not] at h4
   refine i1 ?_
   exact g6.cut (i) ⟨by omega,by omega,by omega⟩ (d8.mk (.o rfl zi rfl<|.i rfl zi<|.i rfl zi<|zk) (.a zi zi<|zk) rfl)
 ·rintro i ⟨hi,hc,hb⟩
  refine je ?_; refine j3 ?_; refine jq ?_ ?_
  ·intro h11
   refine j5 ?_
   refine b8.frz 3 [3,55] ⟨rfl,rfl,trivial⟩ (by first | (simp only[q7]; omega) | (simp only[q7,List.length_singleton]; omega)) rfl ?_
   refine jl ?_; refine tO (i9 (fun hp=>GO _) (.a rfl uu<|.nil)) rfl rfl ?_; refine tO (w5 (fun hp=>.cons rfl rfl rfl<|.nil)) rfl rfl ?_; refine n7 ?_; exact f0.resC1 (fn:=Tryz.f167) rfl rfl (s6 rfl (dP hi h11))
  ·intro h11
   refine B0 ?_; refine tO (U8 rfl uu) rfl rfl ?_; refine j5 ?_
   refine Tr.for1 (σ:=Nat) [⟨2,true,_,_⟩,⟨3,true,_,_⟩,⟨58,true,_,_⟩,⟨59,true,_,_⟩] [⟨2,_,_⟩] (fun k=>[⟨10,true,[],kI (bw (q8 xs i).1 k)⟩,⟨60,true,[],kI (k:Int)⟩]) (fun k=>[⟨3,[],l3 true 3 eI (C2 (q8 xs i).1 k) i⟩]) (fun k=>k<=i) (fun k=>k=i) (fun k=>i-k) (0) zi (d8.mk (.i rfl zi<|.i rfl zi<|zk) (.a jB zi<|zk) rfl) ?_ ?_
   ·rintro k hk
    refine jn ?_
    have hl:(q8 xs i).1.length=i:=T6
    have hd:=fun (h:k<i)=>(V1 (xs:=xs) (i:=i)).at (i:=k) zo
    have hb01:=IT (ds:=(q8 xs i).1) (k:=k)
    have hat:=fun (h:k<i)=>QU (ds:=(q8 xs i).1) (k:=k) zo
    have hcl:=WR (ds:=(q8 xs i).1) (k:=k)
    have hsv:=fun (h:k<i)=>QV (ds:=(q8 xs i).1) (k:=k) zo
    refine l5 ?_; refine jq ?_ ?_
    ·intro h15
     refine GX ?_; refine tO (FG rfl uu (fun _=>zo)) rfl rfl ?_; refine JK ?_; refine jq ?_ ?_
     ·intro h19
      refine JK ?_
      exact g6.lp (k+1) zi zo (d8.mk (.i rfl (WU zo h19).2<|.i rfl zi<|zk) (.a (WU zo h19).1 zi<|zk) rfl)
     ·intro h19
      replace h19:=Int.not_lt.1 h19
      refine j8 ?_
      exact g6.lp (k+1) zi zo (d8.mk (.i rfl (WT zo h19).2<|.i rfl zi<|zk) (.a (WT zo h19).1 zi<|zk) rfl)
    ·intro h15
     replace h15:=Int.not_lt.1 h15
     refine i1 ?_
     exact g6.cut (k) zo (d8.mk (.i rfl zi<|.i rfl zi<|zk) (.a zi zi<|zk) rfl)
   ·rintro _ rfl
    refine je ?_; refine j3 ?_; refine jq ?_ ?_
    ·intro h23
     refine g8 ?_; refine b8.new (A1 eI 87 (fun hp=>.cons rfl<|.nil) rfl rfl rfl rfl) rfl rfl rfl rfl ?_; refine i6 ?_; refine jl ?_; refine l5 ?_
     refine b8.frz 3 [3,88,89] ⟨rfl,rfl,rfl,trivial⟩ (by first | (simp only[q7]; omega) | (simp only[q7,List.length_singleton]; omega)) rfl ?_
     refine jl ?_; refine tO (i9 (fun hp=>GO _) (.a rfl uu<|.nil)) rfl rfl ?_; refine tO (w5 (fun hp=>.cons rfl rfl rfl<|.cons rfl rfl rfl<|.nil)) rfl rfl ?_; refine i1 ?_; exact f0.resC1 (fn:=Tryz.f167) rfl rfl (s6 rfl (dN hi zo zo))
    ·intro h23
     refine n7 ?_
     refine b8.frz 3 [3,58,89] ⟨rfl,rfl,rfl,trivial⟩ (by first | (simp only[q7]; omega) | (simp only[q7,List.length_singleton]; omega)) rfl ?_
     refine jl ?_; refine tO (i9 (fun hp=>GO _) (.a rfl uu<|.nil)) rfl rfl ?_; refine tO (w5 (fun hp=>.cons rfl rfl rfl<|.cons rfl rfl rfl<|.nil)) rfl rfl ?_; refine i1 ?_; exact f0.resC1 (fn:=Tryz.f167) rfl rfl (s6 rfl (dO hi zo zo))

end Go.Fl

/- Contracts: integers of the package field (normal form, signs, comparisons). -/
namespace Go.Fl
open Go Go.Proofs
open b8 renaming op->tO
open i7 renaming op->rO
set_option maxRecDepth 100000

theorem mS  : Ct Tryz.prog 170 [b7 eW (wh 0)] (b7 (eL eI) []):=by
 refine Ct.mk Tryz.func170 rfl Tryz.ntmps170 rfl (fun w J=>?_); refine g8 ?_; refine jb 1 rfl ?_; refine j8 ?_; refine tO (i9 (fun hp=>AV _ (by simp[YS])) (.a rfl uu<|.nil)) rfl rfl ?_; refine t6 ?_; refine Tr.cnd rfl ?_ ?_
 ·intro h2
  exact absurd (of_decide_eq_true h2) zo
 ·intro h2
  refine t6 ?_; refine Tr.cnd rfl ?_ ?_
  ·intro h8
   refine j8 ?_; exact f0.res1 (fn:=Tryz.f170) rfl (.n rfl rfl<|.nil)
  ·intro h8
   exact absurd h8 (by simp[YS])

theorem mR (z:Int) (hz:z≠0) (hn:dl z<=1000000):Ct Tryz.prog 170 [b7 eW (wh z)] (b7 (eL eI) (j2 z)):=by
 have hp:=AY.2 hz
 have hl:(d7 z.natAbs).length=dl z:=rfl
 refine Ct.mk Tryz.func170 rfl Tryz.ntmps170 rfl (fun w J=>?_); refine g8 ?_; refine jb 1 rfl ?_; refine j8 ?_; refine b8.new (CK 7 (fun hp=>LU _ zo zo) (.a rfl uu<|.nil)) rfl rfl rfl rfl ?_; refine t6 ?_; refine Tr.cnd rfl ?_ ?_
 ·intro h2
  refine j5 ?_; refine tO (U8 rfl uu) rfl rfl ?_; refine j5 ?_
  refine Tr.for1 (σ:=Nat) [⟨3,true,_,_⟩,⟨11,true,_,_⟩] [] (fun k=>[⟨12,true,[],kI (k:Int)⟩]) (fun k=>[⟨7,[],l3 false 3 eI (N7 (d7 z.natAbs) k) (dl z)⟩]) (fun k=>k<=dl z) (fun k=>k=dl z) (fun k=>dl z-k) (0) (Nat.zero_le _) (d8.mk (.i rfl zi<|zk) (.a TQ zi<|.nil) rfl) ?_ ?_
  ·intro k hR0
   refine jn ?_
   have hd:=fun (h:k<dl z)=>(t7 z.natAbs).at (i:=k) zo
   have hat:=fun (h:k<dl z)=>TP (ds:=(d7 z.natAbs)) (k:=k) zo
   refine l5 ?_; refine jq ?_ ?_
   ·intro h4
    refine T0 ?_; refine tO (FG rfl uu (fun _=>zo)) rfl rfl ?_; refine l7 ?_
    exact g6.lp (k+1) zi zo (d8.mk (.i rfl zi<|zk) (.a (bV zo) zi<|.nil) rfl)
   ·intro h4
    replace h4:=Int.not_lt.1 h4
    refine i1 ?_
    exact g6.cut (k) zo (d8.mk (.i rfl zi<|zk) (.a zi zi<|.nil) rfl)
  ·rintro _ rfl
   refine je ?_; refine n7 ?_; refine tO (U8 rfl uu) rfl rfl ?_; refine j5 ?_; refine jq ?_ ?_
   ·intro h8
    omega
   ·intro h8
    refine j3 ?_; refine Tr.frz 7 [2] ⟨rfl,trivial⟩ (by simp only[q7]; omega) rfl ?_; refine i6 ?_; exact f0.res1 (fn:=Tryz.f170) rfl (.r rfl (qC h2)<|.nil)
 ·intro h2
  refine l5 ?_; refine tO (U8 rfl uu) rfl rfl ?_; refine j5 ?_; refine jq ?_ ?_
  ·intro h8
   omega
  ·intro h8
   refine j3 ?_; refine Tr.frz 7 [2] ⟨rfl,trivial⟩ (by simp only[q7]; omega) rfl ?_; refine i6 ?_; exact f0.res1 (fn:=Tryz.f170) rfl (.r rfl (qE h2)<|.nil)

theorem YP (z:Int) (hn:dl z<=1000000):Ct Tryz.prog 170 [b7 eW (wh z)] (b7 (eL eI) (j2 z)):=by
 by_cases h:z=0
 ·subst h; exact mS
 ·exact mR z h hn

theorem Y9 (z:Int):Ct Tryz.prog 168 [b7 eW (wh z)] (kI (s7 z 0)):=by
 have hp:=AY (z:=z)
 have hl:(d7 z.natAbs).length=dl z:=rfl
 refine Ct.mk Tryz.func168 rfl Tryz.ntmps168 rfl (fun w J=>?_); refine g8 ?_; refine jb 1 rfl ?_; refine C6 ?_; refine Tr.cnd rfl ?_ ?_
 ·intro h1
  try simp only[decide_eq_true_eq] at h1
  refine j3 ?_; exact f0.res1 (fn:=Tryz.f168) rfl (.i rfl (LO zo).symm<|.nil)
 ·intro h1
  try simp only[decide_eq_false_iff_not] at h1
  refine j8 ?_; refine Tr.cnd rfl ?_ ?_
  ·intro h3
   refine j3 ?_; exact f0.res1 (fn:=Tryz.f168) rfl (.i rfl (EU (of_decide_eq_true h3)).symm<|.nil)
  ·intro h3
   refine l7 ?_; exact f0.res1 (fn:=Tryz.f168) rfl (.i rfl (ET (by have:=of_decide_eq_false h3; omega)).symm<|.nil)

theorem BX (z:Int):Ct Tryz.prog 163 [b7 eW (wh z)] (b7 eW (wh (-z))):=by
 refine Ct.mk Tryz.func163 rfl Tryz.ntmps163 rfl (fun w J=>?_); refine g8 ?_; refine jb 1 rfl ?_; refine ja 2 ?_; refine aR ?_; exact f0.resC1 (fn:=Tryz.f163) rfl rfl (s6 rfl vY)

theorem M4 (n:Int) (hn:-9223372036854775808<=n/\n<=9223372036854775807):Ct Tryz.prog 159 [kI n] (b7 eW (wh n)):=by
 refine Ct.mk Tryz.func159 rfl Tryz.ntmps159 rfl (fun w J=>?_); refine g8 ?_; refine ja 2 ?_; refine n7 ?_; refine tO (AA eI (fun hp=>.cons rfl<|.nil) rfl rfl rfl rfl) rfl rfl ?_; refine jc (RB [n] (fun i hi=>by (simp at hi; subst hi; exact hn)) (by simp)) ?_; refine i1 ?_; exact f0.resC1 (fn:=Tryz.f159) rfl rfl (s6 rfl (by rw[AM]; rfl))

theorem YN (m n:Nat) (hm:(d7 m).length<=10000000) (_:(d7 n).length<=10000000):Ct Tryz.prog 191 [b7 (eL eI) (d7 m),b7 (eL eI) (d7 n)] (kI (s7 m n)):=by
 refine Ct.mk Tryz.func191 rfl Tryz.ntmps191 rfl (fun w J=>?_); refine L3 ?_; refine jq ?_ ?_
 ·intro h1
  refine l5 ?_; refine tO (i9 (fun hp=>XD _ _) (.a rfl uu<|.a rfl uu<|.nil)) rfl rfl ?_; refine n7 ?_; exact f0.res1 (fn:=Tryz.f191) rfl (.i rfl (jI zo)<|.nil)
 ·intro h1
  replace h1:=Classical.not_not.1 h1
  refine B0 ?_
  refine Tr.for1 (σ:=Nat) [⟨0,true,_,_⟩,⟨1,true,_,_⟩] [] (fun i=>[⟨5,true,[],kI ((i:Int)-1)⟩]) (fun i=>[]) (fun i=>i<=(d7 m).length/\∀j,i<=j->j<(d7 m).length->b6 (d7 m) j=b6 (d7 n) j) (fun i=>i=0/\∀j,i<=j->j<(d7 m).length->b6 (d7 m) j=b6 (d7 n) j) (fun i=>i) ((d7 m).length) ⟨by omega,fun j h1 h2=>absurd h1 zo⟩ (d8.mk (.i rfl zi<|zk) (.nil) rfl) ?_ ?_
  ·rintro i ⟨hi,hR⟩
   refine jn ?_
   have e1:((i:Int)-1).toNat=i-1:=by omega
   refine j8 ?_; refine jq ?_ ?_
   ·intro h4
    refine n7 ?_; refine Tr.draw 8 p7 (by kernel_rfl) ?_; refine w3 ?_; refine jq ?_ ?_
    ·intro h6
     refine i6 ?_; refine Tr.draw 8 p7 (by kernel_rfl) ?_; refine l7 ?_; refine tO (i9 (fun hp=>XD _ _) (.a rfl uu<|.a rfl uu<|.nil)) rfl rfl ?_; refine t6 ?_; exact f0.res1 (fn:=Tryz.f191) rfl (.i rfl (by rw[e1]; exact jG zo zo (fun j h1 h2=>hR j zo h2) (by rw[<- e1]; exact h6))<|.nil)
    ·intro h6
     replace h6:=Classical.not_not.1 h6
     refine j3 ?_
     exact g6.lp (i-1) ⟨by omega,fun j h1 h2=>by (by_cases e:j=i-1; subst e; rw[<- e1]; exact h6; exact hR j zo h2)⟩ zo (d8.mk (.i rfl zi<|zk) (.nil) rfl)
   ·intro h4
    replace h4:=Int.not_le.1 h4
    refine i1 ?_
    exact g6.cut (i) ⟨by omega,hR⟩ (d8.mk (.i rfl zi<|zk) (.nil) rfl)
  ·rintro i ⟨hi,hR⟩
   refine je ?_; refine j8 ?_; exact f0.res1 (fn:=Tryz.f191) rfl (.i rfl (by subst hi; exact jF zo hR)<|.nil)

theorem YL (a:List Int) (n:Int) (ha:Dg a) (hl:a.length<=10000000) (hn:0<n/\n<=100000000):Ct Tryz.prog 218 [b7 (eL eI) a,kI n] (v6 [b7 (eL eI) (d7 (val a/n).toNat),kI (val a%n)]):=by
 refine Ct.mk Tryz.func218 rfl Tryz.ntmps218 rfl (fun w J=>?_); refine t6 ?_; refine b8.new (AB eI 11 rfl uu rfl uu rfl rfl rfl (fun _=>zo)) rfl rfl rfl rfl ?_; refine B1 ?_
 refine Tr.for1 (σ:=Nat×List Int×Int) [⟨0,true,_,_⟩,⟨1,true,_,_⟩,⟨6,true,_,_⟩] [] (fun (i,o,r)=>[⟨7,true,[],kI r⟩,⟨8,true,[],kI ((i:Int)-1)⟩]) (fun (i,o,r)=>[⟨11,[],l3 false 3 eI o a.length⟩]) (fun (i,o,r)=>i<=a.length/\J7 a o n i r) (fun (i,o,r)=>i=0/\J7 a o n 0 r) (fun (i,o,r)=>i) ((a.length,List.replicate a.length 0,0)) ⟨Nat.le_refl _,J7.start hn.1⟩ (d8.mk (.i rfl zi<|.i rfl zi<|zk) (.a zi zi<|.nil) rfl) ?_ ?_
 ·rintro ⟨i,o,r⟩ ⟨hi,hs⟩
  refine jn ?_
  have e1:((i:Int)-1).toNat=i-1:=by omega
  have hr0:=hs.r0
  have hq:=fun (h:0<i)=>J7.q (i:=i-1) ha (by rw[show i-1+1=i by omega]; exact hs) zo
  have ha1:=fun (h:0<i)=>ha.at (i:=i-1) zo
  refine j8 ?_; refine jq ?_ ?_
  ·intro h3
   refine l5 ?_
   have ha2:=ha1 zo
   rw[<- e1] at ha2
   refine t6 ?_; refine Tr.drawS 9 11 p7 (by kernel_rfl) ?_
   obtain ⟨q1,q2,q3,q4⟩:=hq zo
   rw[<- e1] at q1 q2
   rw[<- Int.tdiv_eq_ediv_of_nonneg zo] at q1 q2
   refine n6.opA (F2 rfl uu) (by kernel_rfl) rfl rfl ?_; refine n6.opA (F2 rfl uu) (by kernel_rfl) rfl rfl ?_; refine n6.opA (F2 rfl uu) (by kernel_rfl) rfl rfl ?_; refine n6.opA (F2 rfl uu) (by kernel_rfl) rfl rfl ?_; refine n6.opA (AC rfl uu rfl uu (fun _=>zo)) (by kernel_rfl) rfl rfl ?_; refine n6.op (F2 rfl uu) rfl rfl ?_; refine n6.op (F2 rfl uu) rfl rfl ?_; refine n6.op (DV rfl uu rfl uu (fun _=>zo)) rfl rfl ?_
   first | refine n6.opA (HM rfl uu rfl uu (fun _=>zo)) (by kernel_rfl) rfl rfl ?_ | refine n6.opA (FF rfl uu rfl uu (fun _=>zo)) (by kernel_rfl) rfl rfl ?_
   refine n6.z (uY rfl rfl rfl rfl rfl) rfl rfl rfl ?_; refine l7 ?_
   exact g6.lp ((i-1,o.set (i-1) ((r*100000000+b6 a (i-1))/n),(r*100000000+b6 a (i-1))%n)) ⟨by omega,J7.next ha (by rw[show i-1+1=i by omega]; exact hs) zo⟩ (by show i-1<i; omega) (d8.mk (.i rfl (by rw[e1,Int.tmod_eq_emod_of_nonneg zo])<|.i rfl zi<|zk) (.a (by rw[e1,Int.tdiv_eq_ediv_of_nonneg zo]) zi<|.nil) rfl)
  ·intro h3
   replace h3:=Int.not_le.1 h3
   refine i1 ?_
   exact g6.cut ((i,o,r)) (by obtain rfl:i=0:=zo; exact ⟨rfl,hs⟩) (d8.mk (.i rfl zi<|.i rfl zi<|zk) (.a zi zi<|.nil) rfl)
 ·rintro ⟨i,o,r⟩ ⟨rfl,hs⟩
  refine je ?_; refine i1 ?_; refine b8.frz 11 [6,35] ⟨rfl,rfl,trivial⟩ (by simp only[q7]; omega) rfl ?_; refine jl ?_; refine tO (i9 (fun hp=>GO _) (.a rfl uu<|.nil)) rfl rfl ?_; refine l5 ?_; exact f0.res (fn:=Tryz.f218) (ts:=[4,5]) rfl rfl (.r rfl hs.fin.1<|.i rfl hs.fin.2<|.nil)

end Go.Fl

/- Integers: differences in place, sums and products, as the contracts want them. Plain Lean, no program in sight. -/
namespace Go.Fl
def P3 (a b:List Int) (k:Nat):Int:=b6 a k-sb a b k-w8 b k
section
variable {a b:List Int} {k:Nat}
theorem eF:sb a b (k+1)=if P3 a b k<0 then 1 else 0:=rfl
theorem tY (hk:k<a.length) (hb:k<b.length):((A2 a b k).set k (b6 (A2 a b k) k-sb a b k)).set k (b6 ((A2 a b k).set k (b6 (A2 a b k) k-sb a b k)) k-b6 b k)=(A2 a b k).set k (P3 a b k):=by
 rw[List.set_set,K1 (by rw[FM]; exact hk),if_pos rfl,OY hk]
 unfold P3
 rw[P7 hb]
theorem tZ (hk:k<a.length) (hb:¬k<b.length):(A2 a b k).set k (b6 (A2 a b k) k-sb a b k)=(A2 a b k).set k (P3 a b k):=by
 rw[OY hk]
 unfold P3
 rw[FT hb,Int.sub_zero]
theorem uA (hk:k<a.length):b6 ((A2 a b k).set k (b6 (A2 a b k) k-sb a b k)) k=b6 a k-sb a b k:=by rw[K1 (by rw[FM]; exact hk),if_pos rfl,OY hk]
theorem UP (hk:k<a.length):b6 ((A2 a b k).set k (P3 a b k)) k=P3 a b k:=by rw[K1 (by rw[FM]; exact hk),if_pos rfl]
theorem eG (hk:k<a.length) (h:b6 ((A2 a b k).set k (P3 a b k)) k<0):((A2 a b k).set k (P3 a b k)).set k (b6 ((A2 a b k).set k (P3 a b k)) k+100000000)=A2 a b (k+1)/\(1:Int)=sb a b (k+1):=by
 rw[UP hk] at h ⊢
 refine ⟨?_,by rw[eF,if_pos h]⟩
 rw[List.set_set,<- eD]
 congr 1
 unfold P3 at h ⊢; unfold AH; rw[if_pos h]
theorem eE (hk:k<a.length) (h:0<=b6 ((A2 a b k).set k (P3 a b k)) k):(A2 a b k).set k (P3 a b k)=A2 a b (k+1)/\(0:Int)=sb a b (k+1):=by
 rw[UP hk] at h
 refine ⟨?_,by rw[eF,if_neg zo]⟩
 rw[<- eD]
 congr 1
 unfold AH; rw[if_neg (by unfold P3 at h; omega)]; rfl
end
theorem IA:∀{xs:List Int},xs.take (j9 xs).length=j9 xs
 | []=>rfl
 | x::xs=>by
  rw[j9]
  split
  ·rfl
  ·rw[List.length_cons,List.take_succ_cons,IA]
theorem J8 {m n:Nat} (h:n<=m):(d7 n).length<=(d7 m).length:=by
 have h1:=GR (m:Int)
 exact S8 (z:=(n:Int)) (k:=(d7 m).length) (by rw[Int.natAbs_natCast]; rw[Int.natAbs_natCast] at h1; exact Int.lt_of_le_of_lt zo h1)
theorem fA {m n:Nat} (h:n<=m):List.take (j9 (A2 (d7 m) (d7 n) (d7 m).length)).length (A2 (d7 m) (d7 n) (d7 m).length)=d7 (m-n):=by
 have hm:=t9 m; have hn:=t9 n
 have hle:=J8 h
 rw[IA,vD (t7 m) (t7 n) hle zo]
 congr 1; omega
structure Y2 (a b:Int) (X Y:List Int):Prop where
 nx:Nm X
 ny:Nm Y
 le:Y.length<=X.length
 hi:X.length<=10000000
 v:val X+val Y=a.natAbs+b.natAbs
section
variable {a b:Int} {X Y:List Int}
theorem Y2.l (h:(d7 b.natAbs).length<=(d7 a.natAbs).length) (hi:dl a<=10000000):Y2 a b (d7 a.natAbs) (d7 b.natAbs):=⟨L0 _,L0 _,h,hi,by rw[t9,t9]⟩
theorem Y2.r (h:(d7 a.natAbs).length<(d7 b.natAbs).length) (hi:dl b<=10000000):Y2 a b (d7 b.natAbs) (d7 a.natAbs):=⟨L0 _,L0 _,by omega,hi,by rw[t9,t9,Int.add_comm]⟩
theorem gQ (hs:decide (a<0)=decide (b<0)) {ds:List Int} (hd:ds=d7 (a.natAbs+b.natAbs)):(decide (a<0),ds)=wh (a+b):=by
 have e:(a<0)=(b<0):=by simpa using hs
 refine EE ?_ ?_
 ·by_cases h:a<0
  ·have:b<0:=e▸h
   simp[h]; omega
  ·have:¬b<0:=e▸h
   simp[h]; omega
 ·rw[hd]
  congr 1
  by_cases h:a<0
  ·have:b<0:=e▸h
   omega
  ·have:¬b<0:=e▸h
   omega
theorem Y2.zero (h:Y2 a b X Y) (hs:decide (a<0)=decide (b<0)) (hc:(C7 X Y X.length).2<=0):(decide (a<0),(C7 X Y X.length).1)=wh (a+b):=by
 have h1:=IP h.nx.dg h.ny.dg (Nat.le_refl X.length)
 refine gQ hs ?_
 rw[add_zero h.nx h.ny h.le zo,h.v]; congr 1
theorem Y2.one (h:Y2 a b X Y) (hs:decide (a<0)=decide (b<0)) (hc:0<(C7 X Y X.length).2):(decide (a<0),(C7 X Y X.length).1++[(C7 X Y X.length).2])=wh (a+b):=by
 have h1:=IP h.nx.dg h.ny.dg (Nat.le_refl X.length)
 have h2:(C7 X Y X.length).2=1:=by omega
 refine gQ hs ?_
 rw[h2,hO h.nx h.ny h.le h2,h.v]; congr 1
theorem wB (hs:decide (a<0)≠decide (b<0)) (h:s7 (a.natAbs:Nat) (b.natAbs:Nat)=0):(false,[])=wh (a+b):=by
 have e:a.natAbs=b.natAbs:=by unfold s7 at h; split at h<;>(try split at h)<;>omega
 have:a+b=0:=by
  by_cases h1:a<0<;>by_cases h2:b<0
  ·exact absurd (by simp[h1,h2]) hs
  ·omega
  ·omega
  ·exact absurd (by simp[h1,h2]) hs
 rw[this]; rfl
theorem jE {m n:Int} (h:s7 m n=1):n<m:=by unfold s7 at h; split at h<;>(try split at h)<;>omega
theorem jJ {m n:Int} (h0:s7 m n≠0) (h:s7 m n≠1):m<n:=by unfold s7 at h h0; split at h<;>(try split at h)<;>omega
theorem gN (hs:decide (a<0)≠decide (b<0)) (h:b.natAbs<a.natAbs) {ds:List Int} (hd:ds=d7 (a.natAbs-b.natAbs)):(decide (a<0),ds)=wh (a+b):=by
 have h3:(a<0/\¬b<0)\/(¬a<0/\b<0):=by
  by_cases h1:a<0<;>by_cases h2:b<0
  ·exact absurd (by simp[h1,h2]) hs
  ·exact .inl ⟨h1,h2⟩
  ·exact .inr ⟨h1,h2⟩
  ·exact absurd (by simp[h1,h2]) hs
 refine EE ?_ (by rw[hd]; congr 1; omega)
 by_cases h1:a<0
 ·simp[h1]; omega
 ·simp[h1]; omega
theorem wD (hs:decide (a<0)≠decide (b<0)) (h:a.natAbs<b.natAbs) {ds:List Int} (hd:ds=d7 (b.natAbs-a.natAbs)):(decide (b<0),ds)=wh (a+b):=by
 rw[Int.add_comm]; exact gN (fun e=>hs e.symm) h hd
end
theorem vZ {a b:Int} (ha:a≠0) (hb:b≠0) {o:List Int} (h:Q1 (d7 a.natAbs) (d7 b.natAbs) o (d7 a.natAbs).length):(decide (decide (a<0)≠decide (b<0)),j9 o)=wh (a*b):=by
 have e:=h.fin (t7 _) (t7 _)
 rw[t9,t9] at e
 refine EE ?_ (by rw[e]; congr 1; rw[Int.natAbs_mul]; omega)
 by_cases h1:a<0<;>by_cases h2:b<0
 ·have:=Int.mul_pos_of_neg_of_neg h1 h2; simp[h1,h2]; omega
 ·have:=Int.mul_neg_of_neg_of_pos h1 (show 0<b by omega); simp[h1,h2]; omega
 ·have:=Int.mul_neg_of_pos_of_neg (show 0<a by omega) h2; simp[h1,h2]; omega
 ·have:=Int.mul_pos (show 0<a by omega) (show 0<b by omega); simp[h1,h2]; omega
theorem wA {a b:Int} (h:a=0\/b=0):(false,[])=wh (a*b):=by
 rcases h with rfl | rfl
 ·rw[Int.zero_mul]; rfl
 ·rw[Int.mul_zero]; rfl
theorem TI {a b:Int} {o:List Int} (h:Q1 (d7 a.natAbs) (d7 b.natAbs) o (d7 a.natAbs).length):j9 o=d7 (a*b).natAbs:=by
 have e:=h.fin (t7 _) (t7 _)
 rw[t9,t9] at e
 rw[e]; congr 1; rw[Int.natAbs_mul]; omega
end Go.Fl

/- Contracts: integers of the package field (differences in place, sums, products). -/
namespace Go.Fl
open Go Go.Proofs
open b8 renaming op->tO
open i7 renaming op->rO
set_option maxRecDepth 100000

theorem XM (a b:List Int) (ha:Dg a) (hb:Dg b) (_:b.length<=a.length) (h0:0<a.length) (hn:a.length<=10000000):IF Tryz.prog 192 (a.length) [b7 (eL eI) b] (l3 false 3 eI a a.length) (l3 false 3 eI (A2 a b a.length) a.length) (z9 0 1 0 (j9 (A2 a b a.length)).length):=by
 refine IF.mk Tryz.func192 rfl Tryz.ntmps192 rfl (fun w J bb cap=>?_); refine B1 ?_; refine tO (HO rfl uu) rfl rfl ?_; refine tO (U8 rfl uu) rfl rfl ?_; refine j5 ?_
 refine Tr.for1 (σ:=Nat) [⟨0,true,_,_⟩,⟨1,true,_,_⟩,⟨8,true,_,_⟩] [] (fun k=>[⟨9,true,[],kI (k:Int)⟩,⟨5,true,[],kI (sb a b k)⟩]) (fun k=>[⟨0,[],l3 false 3 eI (A2 a b k) a.length⟩]) (fun k=>k<=a.length) (fun k=>k=a.length) (fun k=>a.length-k) (0) (Nat.zero_le _) (d8.mk (.i rfl zi<|.i rfl zi<|zk) (.a tX zi<|.nil) rfl) ?_ ?_
 ·intro k hR0
  refine jn ?_
  have hbx:=hb.x k
  have h01:=UO (a:=a) (b:=b) (k:=k)
  have hcl:=FM (a:=a) (b:=b) (k:=k)
  have had:=fun (h:k<a.length)=>ha.at (i:=k) h
  have hat:=fun (h:k<a.length)=>OY (a:=a) (b:=b) h
  have hw:=fun (h:k<a.length)=>uA (b:=b) h
  have hv:=fun (h:k<a.length)=>UP (b:=b) h
  have hbi:=fun (h:k<b.length)=>P7 h
  have hU:P3 a b k=b6 a k-sb a b k-w8 b k:=rfl
  refine l5 ?_; refine jq ?_ ?_
  ·intro h3
   refine w3 ?_; refine tO (HO rfl uu) rfl rfl ?_; refine l7 ?_; refine Tr.meet2 (σ:=Unit) [⟨0,true,_,_⟩,⟨1,true,_,_⟩,⟨6,true,_,_⟩,⟨8,true,_,_⟩,⟨9,true,_,_⟩] [] (zk) (.nil) (fun _=>[]) (fun _=>[⟨0,[],l3 false 3 eI ((A2 a b k).set k (P3 a b k)) a.length⟩]) (fun _=>True) ?_ ?_
   ·skip
    refine j3 ?_; refine jq ?_ ?_
    ·intro h6
     refine Tr.draw 8 p7 (by kernel_rfl) ?_; refine rO (HO rfl uu) rfl rfl ?_; refine w3 ?_
     exact g6.cut (()) zi (d8.mk (zk) (.a (tY zo zo) zi<|.nil) rfl)
    ·intro h6
     replace h6:=Int.not_lt.1 h6
     refine i6 ?_
     exact g6.cut (()) zi (d8.mk (zk) (.a (tZ zo zo) zi<|.nil) rfl)
   ·intro _ hM
    refine jn ?_; refine j8 ?_; refine tO (HO rfl uu) rfl rfl ?_; refine l5 ?_; refine jq ?_ ?_
    ·intro h9
     refine g8 ?_; refine tO (HO rfl uu) rfl rfl ?_; refine T0 ?_
     exact g6.lp (k+1) zi zo (d8.mk (.i rfl zi<|.i rfl (eG zo h9).2<|zk) (.a (eG zo h9).1 zi<|.nil) rfl)
    ·intro h9
     replace h9:=Int.not_lt.1 h9
     refine j8 ?_
     exact g6.lp (k+1) zi zo (d8.mk (.i rfl zi<|.i rfl (eE zo h9).2<|zk) (.a (eE zo h9).1 zi<|.nil) rfl)
  ·intro h3
   replace h3:=Int.not_lt.1 h3
   refine i1 ?_
   exact g6.cut (k) zo (d8.mk (.i rfl zi<|.i rfl zi<|zk) (.a zi zi<|.nil) rfl)
 ·rintro _ rfl
  refine je ?_; refine j5 ?_; refine tO (HO rfl uu) rfl rfl ?_; refine tO (TZ (n:=1) (fun ad cap=>ME (A2 a b a.length) ad cap) rfl uu (fun _=>⟨by omega,by simp only[q7]; omega,by have:=R8 (xs:=A2 a b a.length); rw[FM] at this; exact this⟩)) rfl rfl ?_; refine i1 ?_; exact f0.mutR (s:=0) (fn:=Tryz.f192) rfl rfl rfl (fun _ _ h=>h) (fun _ _ hm h=>cU hm h)

set_option maxHeartbeats 1000000 in
theorem S5 (a b:Int) (ha:dl a<=1000000) (hb:dl b<=1000000):Ct Tryz.prog 162 [b7 eW (wh a),b7 eW (wh b)] (b7 eW (wh (a+b))):=by
 have hal:(d7 a.natAbs).length=dl a:=rfl
 have hbl:(d7 b.natAbs).length=dl b:=rfl
 refine Ct.mk Tryz.func162 rfl Tryz.ntmps162 rfl (fun w J=>?_); refine g8 ?_; refine jb 2 rfl ?_; refine jb 3 rfl ?_; refine ja 4 ?_; refine l7 ?_; refine tO (rQ rfl uu rfl uu) rfl rfl ?_; refine g8 ?_; refine Tr.cnd rfl ?_ ?_
 ·intro h1
  have hs:=of_decide_eq_true h1
  refine i6 ?_; refine Tr.draw 5 p7 (by kernel_rfl) ?_; refine l7 ?_; refine Tr.meet2 (σ:=List Int×List Int) [⟨2,true,_,_⟩,⟨4,true,_,_⟩] [⟨2,_,_⟩,⟨4,_,_⟩] (zk) (zk) (fun (X,Y)=>[⟨5,true,[],b7 (eL eI) X⟩,⟨6,true,[],b7 (eL eI) Y⟩]) (fun (X,Y)=>[]) (fun (X,Y)=>Y2 a b X Y) ?_ ?_
  ·skip
   refine l7 ?_; refine jq ?_ ?_
   ·intro h3
    refine l5 ?_; exact g6.cut (((d7 b.natAbs),(d7 a.natAbs))) (Y2.r zo zo) (d8.mk (.r rfl rfl<|.r rfl rfl<|zk) (zk) rfl)
   ·intro h3
    replace h3:=Int.not_lt.1 h3
    refine i6 ?_; exact g6.cut (((d7 a.natAbs),(d7 b.natAbs))) (Y2.l zo zo) (d8.mk (.r rfl rfl<|.r rfl rfl<|zk) (zk) rfl)
  ·rintro ⟨X,Y⟩ hA
   refine jn ?_
   have hXl:=hA.hi
   have hYl:=hA.le
   refine n7 ?_; refine b8.new (rY eI 30 rfl uu rfl uu rfl (fun _=>zo)) rfl rfl rfl rfl ?_; refine Z5 ?_
   refine Tr.for1 (σ:=Nat) [⟨2,true,_,_⟩,⟨4,true,_,_⟩,⟨6,true,_,_⟩,⟨31,true,_,_⟩,⟨32,true,_,_⟩] [⟨2,_,_⟩,⟨4,_,_⟩] (fun k=>[⟨33,true,[],kI (k:Int)⟩,⟨7,true,[30],o7 30 k⟩,⟨8,true,[],kI (C7 X Y k).2⟩]) (fun k=>[⟨30,[],l3 false 3 eI (C7 X Y k).1 k⟩]) (fun k=>k<=X.length) (fun k=>k=X.length) (fun k=>X.length-k) (0) (Nat.zero_le _) (d8.mk (.i rfl zi<|.o rfl zi rfl<|.i rfl zi<|zk) (.a zi zi<|zk) rfl) ?_ ?_
   ·intro k hR0
    refine jn ?_
    have hXd:=fun (h:k<X.length)=>hA.nx.dg.at (i:=k) h
    have hYx:=hA.ny.dg.x k
    have hcc:=fun (h:k<=X.length)=>IP hA.nx.dg hA.ny.dg (i:=k) h
    have hYi:=fun (h:k<Y.length)=>P7 h
    have hYo:=fun (h:¬k<Y.length)=>FT h
    refine l5 ?_; refine jq ?_ ?_
    ·intro h8
     refine SV ?_; refine Tr.meet2 (σ:=Unit) [⟨2,true,_,_⟩,⟨4,true,_,_⟩,⟨6,true,_,_⟩,⟨7,true,_,_⟩,⟨31,true,_,_⟩,⟨32,true,_,_⟩,⟨33,true,_,_⟩] [⟨2,_,_⟩,⟨4,_,_⟩,⟨30,_,_⟩] (zk) (zk) (fun _=>[⟨10,true,[],kI (b6 X k+(C7 X Y k).2+w8 Y k)⟩]) (fun _=>[]) (fun _=>True) ?_ ?_
     ·skip
      refine j3 ?_; refine jq ?_ ?_
      ·intro h11
       refine l7 ?_
       exact g6.cut (()) zi (d8.mk (.i rfl (by rw[P7 zo])<|zk) (zk) rfl)
      ·intro h11
       replace h11:=Int.not_lt.1 h11
       refine i6 ?_
       exact g6.cut (()) zi (d8.mk (.i rfl (by rw[FT zo,Int.add_zero])<|zk) (zk) rfl)
     ·intro _ hM
      refine jn ?_; refine g8 ?_
      obtain ⟨hq1,hq2,hq3⟩:=KL (b6 X k+(C7 X Y k).2+w8 Y k)
      refine i6 ?_; refine tO (AC rfl uu rfl uu (fun _=>zo)) rfl rfl ?_; refine l5 ?_; refine tO (DV rfl uu rfl uu (fun _=>zo)) rfl rfl ?_; refine b8.new (A1 eI 56 (fun hp=>.cons rfl<|.nil) rfl rfl rfl rfl) rfl rfl rfl rfl ?_; refine i6 ?_; refine jl ?_; refine j3 ?_
      exact g6.lp (k+1) zi zo (d8.mk (.i rfl zi<|.o rfl zi rfl<|.i rfl (by rw[Int.tdiv_eq_ediv_of_nonneg zo]; rfl)<|zk) (.a (by rw[Int.tmod_eq_emod_of_nonneg zo]; rfl) zi<|zk) rfl)
    ·intro h8
     replace h8:=Int.not_lt.1 h8
     refine i1 ?_
     exact g6.cut (k) zo (d8.mk (.i rfl zi<|.o rfl zi rfl<|.i rfl zi<|zk) (.a zi zi<|zk) rfl)
   ·rintro _ rfl
    refine je ?_
    have hcc:=IP hA.nx.dg hA.ny.dg (Nat.le_refl X.length)
    refine j3 ?_; refine jq ?_ ?_
    ·intro h16
     refine j5 ?_; refine b8.new (A1 eI 63 (fun hp=>.cons rfl<|.nil) rfl rfl rfl rfl) rfl rfl rfl rfl ?_; refine i6 ?_; refine jl ?_; refine j3 ?_; refine tO (w5 (fun hp=>.cons rfl rfl rfl<|.cons rfl rfl rfl<|.nil)) rfl rfl ?_; refine j5 ?_
     refine Tr.frzC 30 4 (by simp only[q7]; first | omega | (rw[List.length_singleton]; omega)) rfl rfl ?_
     refine g8 ?_; exact f0.resC1 (fn:=Tryz.f162) rfl rfl (s6 rfl (hA.one hs h16))
    ·intro h16
     replace h16:=Int.not_lt.1 h16
     refine j8 ?_; refine tO (w5 (fun hp=>.cons rfl rfl rfl<|.cons rfl rfl rfl<|.nil)) rfl rfl ?_; refine j5 ?_
     refine Tr.frzC 30 4 (by simp only[q7]; first | omega | (rw[List.length_singleton]; omega)) rfl rfl ?_
     refine g8 ?_; exact f0.resC1 (fn:=Tryz.f162) rfl rfl (s6 rfl (hA.zero hs zo))
 ·intro h1
  have hs:=of_decide_eq_false h1
  refine l7 ?_; refine jc (YN a.natAbs b.natAbs zo zo) ?_; refine l7 ?_; refine Tr.cnd rfl ?_ ?_
  ·intro h20
   try simp only[decide_eq_true_eq] at h20
   have hc0:s7 (a.natAbs:Nat) (b.natAbs:Nat)=0:=by omega
   refine g8 ?_; refine tO (w5 (fun hp=>.nil)) rfl rfl ?_; refine l5 ?_; exact f0.resC1 (fn:=Tryz.f162) rfl rfl (s6 rfl (wB hs hc0))
  ·intro h20
   try simp only[decide_eq_false_iff_not] at h20
   refine l5 ?_; refine Tr.cnd rfl ?_ ?_
   ·intro h22
    try simp only[decide_eq_true_eq] at h22
    have hlt:=jE h22
    have hp1:=AY (z:=a)
    have hlz:a≠0:=by omega
    have hp2:=hp1.2 hlz
    refine i6 ?_; refine Tr.ent (S':=[⟨0,true,_,_⟩,⟨1,true,_,_⟩,⟨2,true,_,_⟩,⟨3,true,_,_⟩,⟨4,true,_,_⟩,⟨11,true,_,_⟩,⟨12,true,_,_⟩,⟨13,true,_,_⟩,⟨14,true,_,_⟩,⟨15,true,_,_⟩,⟨69,true,_,_⟩,⟨70,true,_,_⟩,⟨71,true,_,_⟩,⟨72,true,_,_⟩,⟨73,true,_,_⟩,⟨75,true,_,_⟩,⟨74,true,_,_⟩,⟨78,true,_,_⟩,⟨77,true,_,_⟩]) (M':=[⟨2,_,_⟩,⟨3,_,_⟩,⟨4,_,_⟩]) (d8.mk (zk) (zk) rfl) ?_; refine Tr.drawQ [⟨2,_,_⟩,⟨3,_,_⟩] [⟨4,_,_⟩] rfl p7 #[false,false,false,false,false,false,false,false,false,false] rfl fun f=>?_
    simp only[K4,List.map_cons,List.map_nil,List.cons_append,List.nil_append]
    refine d5.take 0 #[true,false,false,false,false,false,false,false,false,false] (by kernel_rfl) (by kernel_rfl) (by kernel_rfl) rfl rfl (EF rfl) rfl rfl ?_; refine d5.take 1 #[true,true,false,false,false,false,false,false,false,false] (by kernel_rfl) (by kernel_rfl) (by kernel_rfl) rfl rfl (ID rfl rfl) rfl rfl ?_; refine d5.take 2 #[true,true,true,false,false,false,false,false,false,false] (by kernel_rfl) (by kernel_rfl) (by kernel_rfl) rfl rfl (EF rfl) rfl rfl ?_; refine d5.take 3 #[true,true,true,true,false,false,false,false,false,false] (by kernel_rfl) (by kernel_rfl) (by kernel_rfl) rfl rfl (ID rfl rfl) rfl rfl ?_
    refine d5.take 5 #[true,true,true,true,false,true,false,false,false,false] (by kernel_rfl) (by kernel_rfl) (by kernel_rfl) rfl rfl (EF rfl) rfl rfl ?_; refine d5.take 6 #[true,true,true,true,false,true,true,false,false,false] (by kernel_rfl) (by kernel_rfl) (by kernel_rfl) rfl rfl (ID rfl rfl) rfl rfl ?_; refine d5.one 4 (by kernel_rfl) rfl ?_; refine b8.new (CK 83 (fun hp=>LU _ zo zo) (.a rfl uu<|.nil)) rfl rfl rfl rfl ?_; refine d5.k #[true,true,true,true,true,true,true,false,false,false] rfl (CQ (by intro e he; simp only[K4,List.map_cons,List.map_nil,List.mem_cons,List.not_mem_nil,or_false] at he; rcases he with rfl | rfl<;>simp)) ?_
    refine d5.one 7 (by kernel_rfl) rfl ?_; refine b8.mutR (XM _ _ (t7 _) (t7 _) (J8 zo) zo zo) rfl zo (.a rfl uu<|.nil) rfl (fun _ _ _ _ h=>h) (fun h=>h) rfl ?_; refine jl ?_; refine b8.frzQ 83 [86] ⟨rfl,trivial⟩ (⟨by have:=R8 (xs:=A2 (d7 a.natAbs) (d7 b.natAbs) (d7 a.natAbs).length); rw[FM] at this; exact this,by simp only[q7]; omega⟩) rfl ?_; refine jl ?_; refine d5.k #[true,true,true,true,true,true,true,true,false,false] rfl (CQ (by intro e he; simp only[K4,List.map_cons,List.map_nil,List.mem_cons,List.not_mem_nil,or_false] at he; rcases he with rfl | rfl<;>simp)) ?_
    refine d5.one 8 (by kernel_rfl) rfl ?_; refine tO (w5 (fun hp=>.cons rfl rfl rfl<|.cons rfl rfl rfl<|.nil)) rfl rfl ?_; refine d5.k #[true,true,true,true,true,true,true,true,true,false] rfl (CQ (by intro e he; simp only[K4,List.map_cons,List.map_nil,List.mem_cons,List.not_mem_nil,or_false] at he; rcases he with rfl | rfl<;>simp)) ?_; refine d5.one 9 (by kernel_rfl) rfl ?_; refine b8.stB rfl rfl rfl rfl ?_; refine d5.k #[true,true,true,true,true,true,true,true,true,true] rfl (CQ (by intro e he; simp only[K4,List.map_cons,List.map_nil,List.mem_cons,List.not_mem_nil,or_false] at he; rcases he with rfl | rfl<;>simp)) ?_
    refine d5.done (by kernel_rfl) ?_; refine g6.nxt (Tr.ret (f0.out (f0.thn ?_))); exact f0.resC1 (fn:=Tryz.f162) rfl rfl (s6 rfl (gN hs zo (fA zo)))
   ·intro h22
    try simp only[decide_eq_false_iff_not] at h22
    have hlt:=jJ h20 h22
    have hp1:=AY (z:=b)
    have hlz:b≠0:=by omega
    have hp2:=hp1.2 hlz
    refine i1 ?_; refine Tr.ent (S':=[⟨0,true,_,_⟩,⟨1,true,_,_⟩,⟨2,true,_,_⟩,⟨3,true,_,_⟩,⟨4,true,_,_⟩,⟨11,true,_,_⟩,⟨12,true,_,_⟩,⟨13,true,_,_⟩,⟨14,true,_,_⟩,⟨15,true,_,_⟩,⟨69,true,_,_⟩,⟨70,true,_,_⟩,⟨71,true,_,_⟩,⟨72,true,_,_⟩,⟨73,true,_,_⟩,⟨75,true,_,_⟩,⟨74,true,_,_⟩,⟨78,true,_,_⟩,⟨77,true,_,_⟩]) (M':=[⟨2,_,_⟩,⟨3,_,_⟩,⟨4,_,_⟩]) (d8.mk (zk) (zk) rfl) ?_; refine Tr.drawQ [⟨2,_,_⟩,⟨3,_,_⟩] [⟨4,_,_⟩] rfl p7 #[false,false,false,false,false,false,false,false,false,false] rfl fun f=>?_
    simp only[K4,List.map_cons,List.map_nil,List.cons_append,List.nil_append]
    refine d5.take 0 #[true,false,false,false,false,false,false,false,false,false] (by kernel_rfl) (by kernel_rfl) (by kernel_rfl) rfl rfl (EF rfl) rfl rfl ?_; refine d5.take 1 #[true,true,false,false,false,false,false,false,false,false] (by kernel_rfl) (by kernel_rfl) (by kernel_rfl) rfl rfl (ID rfl rfl) rfl rfl ?_; refine d5.take 2 #[true,true,true,false,false,false,false,false,false,false] (by kernel_rfl) (by kernel_rfl) (by kernel_rfl) rfl rfl (EF rfl) rfl rfl ?_; refine d5.take 3 #[true,true,true,true,false,false,false,false,false,false] (by kernel_rfl) (by kernel_rfl) (by kernel_rfl) rfl rfl (ID rfl rfl) rfl rfl ?_
    refine d5.take 5 #[true,true,true,true,false,true,false,false,false,false] (by kernel_rfl) (by kernel_rfl) (by kernel_rfl) rfl rfl (EF rfl) rfl rfl ?_; refine d5.take 6 #[true,true,true,true,false,true,true,false,false,false] (by kernel_rfl) (by kernel_rfl) (by kernel_rfl) rfl rfl (ID rfl rfl) rfl rfl ?_; refine d5.one 4 (by kernel_rfl) rfl ?_; refine b8.new (CK 92 (fun hp=>LU _ zo zo) (.a rfl uu<|.nil)) rfl rfl rfl rfl ?_; refine d5.k #[true,true,true,true,true,true,true,false,false,false] rfl (CQ (by intro e he; simp only[K4,List.map_cons,List.map_nil,List.mem_cons,List.not_mem_nil,or_false] at he; rcases he with rfl | rfl<;>simp)) ?_
    refine d5.one 7 (by kernel_rfl) rfl ?_; refine b8.mutR (XM _ _ (t7 _) (t7 _) (J8 zo) zo zo) rfl zo (.a rfl uu<|.nil) rfl (fun _ _ _ _ h=>h) (fun h=>h) rfl ?_; refine jl ?_; refine b8.frzQ 92 [95] ⟨rfl,trivial⟩ (⟨by have:=R8 (xs:=A2 (d7 b.natAbs) (d7 a.natAbs) (d7 b.natAbs).length); rw[FM] at this; exact this,by simp only[q7]; omega⟩) rfl ?_; refine jl ?_; refine d5.k #[true,true,true,true,true,true,true,true,false,false] rfl (CQ (by intro e he; simp only[K4,List.map_cons,List.map_nil,List.mem_cons,List.not_mem_nil,or_false] at he; rcases he with rfl | rfl<;>simp)) ?_
    refine d5.one 8 (by kernel_rfl) rfl ?_; refine tO (w5 (fun hp=>.cons rfl rfl rfl<|.cons rfl rfl rfl<|.nil)) rfl rfl ?_; refine d5.k #[true,true,true,true,true,true,true,true,true,false] rfl (CQ (by intro e he; simp only[K4,List.map_cons,List.map_nil,List.mem_cons,List.not_mem_nil,or_false] at he; rcases he with rfl | rfl<;>simp)) ?_; refine d5.one 9 (by kernel_rfl) rfl ?_; refine b8.stB rfl rfl rfl rfl ?_; refine d5.k #[true,true,true,true,true,true,true,true,true,true] rfl (CQ (by intro e he; simp only[K4,List.map_cons,List.map_nil,List.mem_cons,List.not_mem_nil,or_false] at he; rcases he with rfl | rfl<;>simp)) ?_
    refine d5.done (by kernel_rfl) ?_; refine g8 ?_; exact f0.resC1 (fn:=Tryz.f162) rfl rfl (s6 rfl (wD hs zo (fA zo)))

end Go.Fl

/- Contracts: integers of the package field (products). -/
namespace Go.Fl
open Go Go.Proofs
open b8 renaming op->tO
open i7 renaming op->rO
set_option maxRecDepth 100000

set_option maxHeartbeats 1000000 in
theorem I3 (a b:Int) (ha:dl a<=1000000) (hb:dl b<=1000000):Ct Tryz.prog 161 [b7 eW (wh a),b7 eW (wh b)] (b7 eW (wh (a*b))):=by
 have hal:(d7 a.natAbs).length=dl a:=rfl
 have hbl:(d7 b.natAbs).length=dl b:=rfl
 have hap:=AY (z:=a)
 have hbp:=AY (z:=b)
 refine Ct.mk Tryz.func161 rfl Tryz.ntmps161 rfl (fun w J=>?_); refine g8 ?_; refine jb 2 rfl ?_; refine jb 3 rfl ?_; refine ja 4 ?_; refine T0 ?_; refine Tr.cnd rfl ?_ ?_
 ·intro h1
  try simp only[decide_eq_true_eq,Bool.or_eq_true] at h1
  refine g8 ?_; refine tO (w5 (fun hp=>.nil)) rfl rfl ?_; refine n7 ?_; exact f0.resC1 (fn:=Tryz.f161) rfl rfl (s6 rfl (wA zo))
 ·intro h1
  try simp only[decide_eq_false_iff_not,Bool.or_eq_false_iff] at h1
  refine B0 ?_; refine b8.new (OE eI 30 rfl uu rfl uu rfl rfl (fun _=>zo)) rfl rfl rfl rfl ?_; refine w3 ?_
  refine Tr.for1 (σ:=Nat×List Int) [⟨2,true,_,_⟩,⟨3,true,_,_⟩,⟨4,true,_,_⟩,⟨32,true,_,_⟩,⟨33,true,_,_⟩] [⟨2,_,_⟩,⟨3,_,_⟩,⟨4,_,_⟩] (fun (i,o)=>[⟨5,true,[30],o7 30 ((d7 a.natAbs).length+(d7 b.natAbs).length)⟩,⟨34,true,[],kI (i:Int)⟩]) (fun (i,o)=>[⟨30,[],l3 false 3 eI o ((d7 a.natAbs).length+(d7 b.natAbs).length)⟩]) (fun (i,o)=>i<=(d7 a.natAbs).length/\Q1 (d7 a.natAbs) (d7 b.natAbs) o i) (fun (i,o)=>i=(d7 a.natAbs).length/\Q1 (d7 a.natAbs) (d7 b.natAbs) o (d7 a.natAbs).length) (fun (i,o)=>(d7 a.natAbs).length-i) ((0,List.replicate ((d7 a.natAbs).length+(d7 b.natAbs).length) 0)) ⟨by omega,Q1.start⟩ (d8.mk (.o rfl zo rfl<|.i rfl zi<|zk) (.a (by congr 1) zo<|zk) rfl) ?_ ?_
  ·rintro ⟨i,o⟩ ⟨hi,hR⟩
   refine jn ?_
   have hAd:=fun (h:i<(d7 a.natAbs).length)=>(t7 a.natAbs).at (i:=i) h
   refine l5 ?_; refine jq ?_ ?_
   ·intro h5
    refine aT ?_
    refine Tr.for1 (σ:=Nat×List Int×Int) [⟨2,true,_,_⟩,⟨3,true,_,_⟩,⟨4,true,_,_⟩,⟨5,true,_,_⟩,⟨6,true,_,_⟩,⟨7,true,_,_⟩,⟨32,true,_,_⟩,⟨33,true,_,_⟩,⟨34,true,_,_⟩,⟨40,true,_,_⟩,⟨41,true,_,_⟩] [⟨2,_,_⟩,⟨3,_,_⟩,⟨4,_,_⟩] (fun (k,o2,c)=>[⟨8,true,[],kI c⟩,⟨42,true,[],kI (k:Int)⟩]) (fun (k,o2,c)=>[⟨30,[],l3 false 3 eI o2 ((d7 a.natAbs).length+(d7 b.natAbs).length)⟩]) (fun (k,o2,c)=>k<=(d7 b.natAbs).length/\V9 (d7 a.natAbs) (d7 b.natAbs) o2 i k c) (fun (k,o2,c)=>V9 (d7 a.natAbs) (d7 b.natAbs) o2 i (d7 b.natAbs).length c) (fun (k,o2,c)=>(d7 b.natAbs).length-k) ((0,o,0)) ⟨by omega,hR.row⟩ (d8.mk (.i rfl zi<|.i rfl zi<|zk) (.a zi zi<|zk) rfl) ?_ ?_
    ·rintro ⟨k,o2,c⟩ ⟨hk,hS⟩
     refine jn ?_
     have hn:=fun (h:k<(d7 b.natAbs).length)=>hS.n (t7 _) (t7 _) zo h
     have hc0:=hS.c0
     refine l5 ?_; refine jq ?_ ?_
     ·intro h9
      refine L3 ?_
      obtain ⟨n1,n2,n3,n4⟩:=hn zo
      refine Z5 ?_
      obtain ⟨hq1,hq2,hq3⟩:=KL (b6 o2 (i+k)+b6 (d7 a.natAbs) i*b6 (d7 b.natAbs) k+c)
      refine n7 ?_; refine tO (DV rfl uu rfl uu (fun _=>zo)) rfl rfl ?_; refine i6 ?_; refine tO (AC rfl uu rfl uu (fun _=>zo)) rfl rfl ?_; refine t6 ?_
      exact g6.lp ((k+1,o2.set (i+k) ((b6 o2 (i+k)+b6 (d7 a.natAbs) i*b6 (d7 b.natAbs) k+c)%100000000),(b6 o2 (i+k)+b6 (d7 a.natAbs) i*b6 (d7 b.natAbs) k+c)/100000000)) ⟨by omega,hS.next (t7 _) (t7 _) zo zo⟩ (by show (d7 b.natAbs).length-(k+1)<(d7 b.natAbs).length-k; omega) (d8.mk (.i rfl (by rw[Int.tdiv_eq_ediv_of_nonneg zo])<|.i rfl zi<|zk) (.a (by rw[Int.tmod_eq_emod_of_nonneg zo]) zi<|zk) rfl)
     ·intro h9
      replace h9:=Int.not_lt.1 h9
      refine i1 ?_
      exact g6.cut ((k,o2,c)) (by obtain rfl:k=(d7 b.natAbs).length:=zo; exact hS) (d8.mk (.i rfl zi<|.i rfl zi<|zk) (.a zi zi<|zk) rfl)
    ·rintro ⟨k,o2,c⟩ hS
     refine je ?_
     have hc0:=hS.c0
     refine GX ?_
     exact g6.lp ((i+1,o2.set (i+(d7 b.natAbs).length) c)) ⟨by omega,hS.done zo⟩ (by show (d7 a.natAbs).length-(i+1)<(d7 a.natAbs).length-i; omega) (d8.mk (.o rfl zi rfl<|.i rfl zi<|zk) (.a rfl zi<|zk) rfl)
   ·intro h5
    replace h5:=Int.not_lt.1 h5
    refine i1 ?_
    exact g6.cut ((i,o)) (by obtain rfl:i=(d7 a.natAbs).length:=zo; exact ⟨rfl,hR⟩) (d8.mk (.o rfl zi rfl<|.i rfl zi<|zk) (.a zi zi<|zk) rfl)
  ·rintro ⟨i,o⟩ ⟨rfl,hR⟩
   refine je ?_; refine g8 ?_; refine Tr.frz 30 [5] ⟨rfl,trivial⟩ (by simp only[q7]; omega) rfl ?_; refine Tr.draw 7 p7 (by kernel_rfl) ?_; refine i1 ?_; refine rO (OG rfl uu rfl uu) rfl rfl ?_; refine i6 ?_; refine rO (i9 (fun hp=>GO _) (.a rfl uu<|.nil)) rfl rfl ?_; refine i6 ?_; refine tO (w5 (fun hp=>.cons rfl rfl rfl<|.cons rfl rfl rfl<|.nil)) rfl rfl ?_; refine i1 ?_; exact f0.resC1 (fn:=Tryz.f161) rfl rfl (s6 rfl (vZ (hap.1 zo) (hbp.1 zo) hR))

set_option maxHeartbeats 1000000 in
theorem mT (a b:Int) (ha:dl a<=1000000) (hb:dl b<=1000000) (h0:a≠0/\b≠0):Q0 Tryz.prog 161 [b7 eW (wh a),b7 eW (wh b)] (fun t=>F6 [kB (decide (decide (a<0)≠decide (b<0))),z9 t 1 0 (d7 (a*b).natAbs).length]) (l3 false 3 eI (d7 (a*b).natAbs) (d7 (a*b).natAbs).length):=by
 have hal:(d7 a.natAbs).length=dl a:=rfl
 have hbl:(d7 b.natAbs).length=dl b:=rfl
 have hap:=AY (z:=a)
 have hbp:=AY (z:=b)
 refine Q0.mk Tryz.func161 rfl Tryz.ntmps161 rfl (fun w J=>?_); refine g8 ?_; refine jb 2 rfl ?_; refine jb 3 rfl ?_; refine ja 4 ?_; refine T0 ?_; refine Tr.cnd rfl ?_ ?_
 ·intro h1
  try simp only[decide_eq_true_eq,Bool.or_eq_true] at h1
  omega
 ·intro h1
  try simp only[decide_eq_false_iff_not,Bool.or_eq_false_iff] at h1
  refine B0 ?_; refine b8.new (OE eI 30 rfl uu rfl uu rfl rfl (fun _=>zo)) rfl rfl rfl rfl ?_; refine w3 ?_
  refine Tr.for1 (σ:=Nat×List Int) [⟨2,true,_,_⟩,⟨3,true,_,_⟩,⟨4,true,_,_⟩,⟨32,true,_,_⟩,⟨33,true,_,_⟩] [⟨2,_,_⟩,⟨3,_,_⟩,⟨4,_,_⟩] (fun (i,o)=>[⟨5,true,[30],o7 30 ((d7 a.natAbs).length+(d7 b.natAbs).length)⟩,⟨34,true,[],kI (i:Int)⟩]) (fun (i,o)=>[⟨30,[],l3 false 3 eI o ((d7 a.natAbs).length+(d7 b.natAbs).length)⟩]) (fun (i,o)=>i<=(d7 a.natAbs).length/\Q1 (d7 a.natAbs) (d7 b.natAbs) o i) (fun (i,o)=>i=(d7 a.natAbs).length/\Q1 (d7 a.natAbs) (d7 b.natAbs) o (d7 a.natAbs).length) (fun (i,o)=>(d7 a.natAbs).length-i) ((0,List.replicate ((d7 a.natAbs).length+(d7 b.natAbs).length) 0)) ⟨by omega,Q1.start⟩ (d8.mk (.o rfl zo rfl<|.i rfl zi<|zk) (.a (by congr 1) zo<|zk) rfl) ?_ ?_
  ·rintro ⟨i,o⟩ ⟨hi,hR⟩
   refine jn ?_
   have hAd:=fun (h:i<(d7 a.natAbs).length)=>(t7 a.natAbs).at (i:=i) h
   refine l5 ?_; refine jq ?_ ?_
   ·intro h5
    refine aT ?_
    refine Tr.for1 (σ:=Nat×List Int×Int) [⟨2,true,_,_⟩,⟨3,true,_,_⟩,⟨4,true,_,_⟩,⟨5,true,_,_⟩,⟨6,true,_,_⟩,⟨7,true,_,_⟩,⟨32,true,_,_⟩,⟨33,true,_,_⟩,⟨34,true,_,_⟩,⟨40,true,_,_⟩,⟨41,true,_,_⟩] [⟨2,_,_⟩,⟨3,_,_⟩,⟨4,_,_⟩] (fun (k,o2,c)=>[⟨8,true,[],kI c⟩,⟨42,true,[],kI (k:Int)⟩]) (fun (k,o2,c)=>[⟨30,[],l3 false 3 eI o2 ((d7 a.natAbs).length+(d7 b.natAbs).length)⟩]) (fun (k,o2,c)=>k<=(d7 b.natAbs).length/\V9 (d7 a.natAbs) (d7 b.natAbs) o2 i k c) (fun (k,o2,c)=>V9 (d7 a.natAbs) (d7 b.natAbs) o2 i (d7 b.natAbs).length c) (fun (k,o2,c)=>(d7 b.natAbs).length-k) ((0,o,0)) ⟨by omega,hR.row⟩ (d8.mk (.i rfl zi<|.i rfl zi<|zk) (.a zi zi<|zk) rfl) ?_ ?_
    ·rintro ⟨k,o2,c⟩ ⟨hk,hS⟩
     refine jn ?_
     have hn:=fun (h:k<(d7 b.natAbs).length)=>hS.n (t7 _) (t7 _) zo h
     have hc0:=hS.c0
     refine l5 ?_; refine jq ?_ ?_
     ·intro h9
      refine L3 ?_
      obtain ⟨n1,n2,n3,n4⟩:=hn zo
      refine Z5 ?_
      obtain ⟨hq1,hq2,hq3⟩:=KL (b6 o2 (i+k)+b6 (d7 a.natAbs) i*b6 (d7 b.natAbs) k+c)
      refine n7 ?_; refine tO (DV rfl uu rfl uu (fun _=>zo)) rfl rfl ?_; refine i6 ?_; refine tO (AC rfl uu rfl uu (fun _=>zo)) rfl rfl ?_; refine t6 ?_
      exact g6.lp ((k+1,o2.set (i+k) ((b6 o2 (i+k)+b6 (d7 a.natAbs) i*b6 (d7 b.natAbs) k+c)%100000000),(b6 o2 (i+k)+b6 (d7 a.natAbs) i*b6 (d7 b.natAbs) k+c)/100000000)) ⟨by omega,hS.next (t7 _) (t7 _) zo zo⟩ (by show (d7 b.natAbs).length-(k+1)<(d7 b.natAbs).length-k; omega) (d8.mk (.i rfl (by rw[Int.tdiv_eq_ediv_of_nonneg zo])<|.i rfl zi<|zk) (.a (by rw[Int.tmod_eq_emod_of_nonneg zo]) zi<|zk) rfl)
     ·intro h9
      replace h9:=Int.not_lt.1 h9
      refine i1 ?_
      exact g6.cut ((k,o2,c)) (by obtain rfl:k=(d7 b.natAbs).length:=zo; exact hS) (d8.mk (.i rfl zi<|.i rfl zi<|zk) (.a zi zi<|zk) rfl)
    ·rintro ⟨k,o2,c⟩ hS
     refine je ?_
     have hc0:=hS.c0
     refine GX ?_
     exact g6.lp ((i+1,o2.set (i+(d7 b.natAbs).length) c)) ⟨by omega,hS.done zo⟩ (by show (d7 a.natAbs).length-(i+1)<(d7 a.natAbs).length-i; omega) (d8.mk (.o rfl zi rfl<|.i rfl zi<|zk) (.a rfl zi<|zk) rfl)
   ·intro h5
    replace h5:=Int.not_lt.1 h5
    refine i1 ?_
    exact g6.cut ((i,o)) (by obtain rfl:i=(d7 a.natAbs).length:=zo; exact ⟨rfl,hR⟩) (d8.mk (.o rfl zi rfl<|.i rfl zi<|zk) (.a zi zi<|zk) rfl)
  ·rintro ⟨i,o⟩ ⟨rfl,hR⟩
   refine je ?_; refine g8 ?_; refine Tr.draw 7 p7 (by kernel_rfl) ?_; refine i1 ?_; refine rO (OG rfl uu rfl uu) rfl rfl ?_; refine i6 ?_; refine rO (TZ (n:=1) (fun ad cap=>ME o ad cap) rfl uu (fun _=>⟨by omega,by simp only[q7]; omega,by have:=R8 (xs:=o); rw[hR.len] at this; exact this⟩)) rfl rfl ?_; refine i6 ?_; refine tO (w5 (fun hp=>.cons rfl rfl rfl<|.cons rfl rfl rfl<|.nil)) rfl rfl ?_; refine i1 ?_; exact f0.resNC (fn:=Tryz.f161) (u:=30) rfl rfl (fun _ _ _ h=>iP (by have:=R8 (xs:=o); rw[hR.len,TI hR] at this; exact this) (by rw[<- TI hR,IA]) h) (iI rfl (by rw[TI hR])) inferInstance

end Go.Fl

/- Integers: long division, as its contract wants it. Plain Lean, no program in sight. -/
namespace Go.Fl
theorem Nm.top {xs:List Int} (h:Nm xs) (h0:0<xs.length):0<b6 xs (xs.length-1):=by
 have hne:xs≠[]:=List.length_pos_iff.1 h0
 have h3:=h.last hne
 have h4:b6 xs (xs.length-1)=xs.getLast hne:=by
  rw[List.getLast_eq_getElem]
  exact Z9 (List.getElem?_eq_getElem _)
 rw[h4]
 have:=h.dg _ (List.getLast_mem hne)
 omega
def NI (n:Nat):Int:=(100000000:Int).tdiv (b6 (d7 n) (((d7 n).length:Int)-1).toNat+1)
theorem aZ {n:Nat} (h:0<(d7 n).length):0<b6 (d7 n) (((d7 n).length:Int)-1).toNat/\b6 (d7 n) (((d7 n).length:Int)-1).toNat<100000000:=by
 have e:(((d7 n).length:Int)-1).toNat=(d7 n).length-1:=by omega
 rw[e]
 exact ⟨(L0 n).top h,((t7 n).at zo).2⟩
theorem UY {a b:Int} (ha:0<=a) (hb:0<b):0<=a.tdiv b/\a.tdiv b<=a:=by
 rw[Int.tdiv_eq_ediv_of_nonneg ha]
 exact ⟨Int.ediv_nonneg ha zo,Int.ediv_le_self _ ha⟩
theorem pT {n:Nat} (h:0<(d7 n).length):0<NI n/\NI n<=50000000:=by
 have h1:=aZ h
 unfold NI
 generalize b6 (d7 n) (((d7 n).length:Int)-1).toNat=t at *
 rw[Int.tdiv_eq_ediv_of_nonneg zo]
 refine ⟨Int.le_ediv_of_mul_le zo zo,Int.le_of_lt_add_one (Int.ediv_lt_of_lt_mul zo zo)⟩
def GV (x y z:Int):Int:=if 99999999<(x*100000000+y).tdiv z then 99999999 else (x*100000000+y).tdiv z
theorem oS {x y z:Int} (hx:0<=x) (hy:0<=y) (hz:0<z):0<=GV x y z/\GV x y z<=99999999:=by
 have:=UY (a:=x*100000000+y) zo hz
 unfold GV
 split<;>omega
theorem oR {T x y z:Int} (hx:0<=x) (hy:0<=y) (h:T<=(if 99999999<(x*100000000+y)/z then 99999999 else (x*100000000+y)/z)):T<=GV x y z:=by
 unfold GV
 rw[Int.tdiv_eq_ediv_of_nonneg zo]
 exact h
theorem K8.bd {u0 u:List Int} {j n:Nat} {T V g:Int} (h:K8 u0 j n T V u g) (hl:j+n<u0.length) (hT:T=val (u0.drop j)) (h0:0<=T) (hV:0<V) (hVn:V<BP n):-100000000<b6 u (j+n):=by
 obtain ⟨lo,l0,l1,e⟩:=h.top hl
 have ht:=h.t hl hT
 have hg:=h.g1
 have h1:g*V<=99999999*V:=Int.mul_le_mul_of_nonneg_right hg zo
 refine Classical.byContradiction fun hh=>?_
 have h2:BP n*b6 u (j+n)<=BP n*(-100000000):=Int.mul_le_mul_of_nonneg_left zo (Int.le_of_lt (P8 n))
 omega
theorem pV {m n:Nat} {F:Int} (hF:0<F) (h:n<=m):((n:Int)*F).natAbs<=((m:Int)*F).natAbs/\n<=((n:Int)*F).natAbs:=by
 have h1:(n:Int)*F<=m*F:=Int.mul_le_mul_of_nonneg_right zo zo
 have h2:(n:Int)*1<=n*F:=Int.mul_le_mul_of_nonneg_left zo zo
 omega
theorem pU {m n x y nn:Nat} {F:Int} {u out:List Int} (hF:0<F) (hx:x=((m:Int)*F).natAbs) (hy:y=((n:Int)*F).natAbs) (hn:0<n) (h:S3 (x:Int) (val (d7 y)) nn u out 0) :
  j9 out=d7 (m/n)/\d7 (val (j9 u)/F).toNat=d7 (m%n)/\Dg (j9 u):=by
 have e1:(x:Int)=F*m:=by rw[hx,Int.mul_comm,Int.natAbs_of_nonneg (Int.mul_nonneg zo zo)]
 have e2:(y:Int)=F*n:=by rw[hy,Int.mul_comm,Int.natAbs_of_nonneg (Int.mul_nonneg zo zo)]
 have h0:(0:Int)<F*n:=Int.mul_pos hF zo
 obtain ⟨h1,h2,h3,h4⟩:=h.fin (by rw[t9]; omega)
 rw[t9,e1,e2] at h1 h2
 rw[Int.mul_ediv_mul_of_pos _ _ hF] at h1
 rw[Int.mul_emod_mul_of_pos _ _ hF] at h2
 refine ⟨BN h3 (by rw[h1]; rfl),?_,(fS h4).dg⟩
 rw[VC,h2,Int.mul_ediv_cancel_left _ zo]
 congr 1
theorem FS {n:Nat}:(false,d7 n)=wh (n:Int):=gP rfl rfl
theorem I4 {F:Int} (h0:0<=F) (h:F<100000000):dl F<=1:=S8 (by simp[BP]; omega)
end Go.Fl

/- Contracts: integers of the package field (long division). -/
namespace Go.Fl
open Go Go.Proofs
open b8 renaming op->tO
open i7 renaming op->rO
set_option maxRecDepth 100000

set_option maxHeartbeats 4000000 in
theorem lC (m n:Nat) (h2:2<=(d7 n).length) (hnm:n<=m) (hm:(d7 m).length<=900000):Ct Tryz.prog 219 [b7 (eL eI) (d7 m),b7 (eL eI) (d7 n)] (v6 [b7 (eL eI) (d7 (m/n)),b7 (eL eI) (d7 (m%n))]):=by
 have h00:([0,0]:List Int).length=2:=rfl
 obtain ⟨F,hF⟩:∃F,F=NI n:=⟨_,rfl⟩
 obtain ⟨x,hx⟩:∃x:Nat,x=((m:Int)*F).natAbs:=⟨_,rfl⟩
 obtain ⟨y,hy⟩:∃y:Nat,y=((n:Int)*F).natAbs:=⟨_,rfl⟩
 obtain ⟨lu,hlu⟩:∃k,k=(d7 x).length:=⟨_,rfl⟩
 obtain ⟨nn,hnn⟩:∃k,k=(d7 y).length:=⟨_,rfl⟩
 have hFr:=pT (n:=n) zo
 rw[<- hF] at hFr
 have hlD:=aZ (n:=n) zo
 have hlx:=pV hFr.1 hnm
 have hn0:0<n:=by have:=GQ (n:=n); omega
 have hle:=J8 hnm
 have hny:=J8 (n:=n) (m:=y) zo
 have hyx:=J8 (n:=y) (m:=x) zo
 have hdm:dl (m:Int)=(d7 m).length:=rfl
 have hdn:dl (n:Int)=(d7 n).length:=rfl
 have hdF:=I4 (F:=F) zo zo
 have hdx:dl ((m:Int)*F)=lu:=by rw[hlu,hx]; rfl
 have hlb:=u7 (m:Int) F
 have hdx2:(d7 ((m:Int)*F).natAbs).length=lu:=by rw[hlu,hx]
 have hV0:0<val (d7 y):=by rw[t9]; omega
 have hVn:val (d7 y)<BP nn:=by rw[hnn]; exact (t7 y).val1
 have hqF:=UY (a:=100000000) (b:=b6 (d7 n) (((d7 n).length:Int)-1).toNat+1) zo zo
 refine Ct.mk Tryz.func219 rfl Tryz.ntmps219 rfl (fun w J=>?_); refine L3 ?_; refine tO (AC rfl uu rfl uu (fun _=>zo)) rfl rfl ?_; refine i1 ?_; refine Tr.rwI (s:=6) rfl (show _=F from hF.symm) ?_; refine g8 ?_; refine tO (w5 (fun hp=>.cons rfl rfl rfl<|.nil)) rfl rfl ?_; refine i6 ?_; refine jc (M4 F zo) ?_; refine b8.new (CK 34 (fun hp=>mT (m:Int) F zo zo zo) (.se rfl uu rfl FS<|.a rfl uu<|.nil)) rfl rfl rfl rfl ?_; refine tO (rR Tryz.underlying160 rfl (ft:=22) (off:=1) rfl rfl rfl uu rfl) rfl rfl ?_
 refine b8.new (A1 eI 36 (fun hp=>.cons rfl<|.cons rfl<|.nil) rfl rfl rfl rfl) rfl rfl rfl rfl ?_; refine b8.appQ rfl (Nat.zero_add _) rfl rfl (fun _ _=>inferInstance) rfl rfl (by decide) rfl rfl (by have h:([0,0]:List Int).length=2:=rfl; omega) (by have h:([0,0]:List Int).length=2:=rfl; omega) (fun L2 o2 hq2=>?_); refine jl ?_
 obtain rfl:o2=0:=by omega
 obtain rfl:L2=d7 ((m:Int)*F).natAbs++[0,0]:=by simpa using hq2
 refine i1 ?_
 rw[<- hx,<- hlu]
 refine g8 ?_; refine tO (w5 (fun hp=>.cons rfl rfl rfl<|.nil)) rfl rfl ?_; refine i6 ?_; refine jc (M4 F zo) ?_; refine tO (i9 (fun hp=>I3 (n:Int) F zo zo) (.se rfl uu rfl FS<|.a rfl uu<|.nil)) rfl rfl ?_; refine tO (rS Tryz.underlying160 rfl (ft:=22) (off:=1) rfl rfl rfl uu rfl rfl) rfl rfl ?_; refine i1 ?_
 rw[<- hy]
 refine j8 ?_
 rw[<- hnn]
 refine g8 ?_; refine tO (CL rfl uu) rfl rfl ?_; refine g8 ?_; refine tO (cP rfl uu rfl uu) rfl rfl ?_; refine b8.new (OE eI 51 rfl uu rfl uu rfl rfl (fun _=>zo)) rfl rfl rfl rfl ?_; refine j8 ?_; refine tO (U8 rfl uu) rfl rfl ?_; refine i1 ?_
 refine Tr.for1 (σ:=Nat×List Int×List Int) [⟨6,true,_,_⟩,⟨8,true,_,_⟩] [] (fun (j,u,out)=>[⟨7,true,[34],o7 34 (lu+2)⟩,⟨9,true,[],kI (nn:Int)⟩,⟨10,true,[51],o7 51 (lu+2-nn)⟩,⟨11,true,[],kI ((j:Int)-1)⟩]) (fun (j,u,out)=>[⟨34,[],l3 false 3 eI u (lu+2)⟩,⟨51,[],l3 false 3 eI out (lu+2-nn)⟩]) (fun (j,u,out)=>u.length=lu+2/\out.length=lu+2-nn/\S3 (x:Int) (val (d7 y)) nn u out j) (fun (j,u,out)=>j=0/\u.length=lu+2/\out.length=lu+2-nn/\S3 (x:Int) (val (d7 y)) nn u out 0) (fun (j,u,out)=>j) ((lu+2-nn,d7 x++[0,0],List.replicate (lu+2-nn) 0)) ⟨by rw[List.length_append,<- hlu]; rfl,by simp,by rw[hlu]; exact S3.start (x:=(x:Int)) zo (L0 y) hnn.symm zo (by show nn<=(d7 x).length; omega)⟩ (d8.mk (.conv rfl rfl (fun g v h=>pO zo h) rfl<|.i rfl zi<|.o rfl (by split<;>omega) rfl<|.i rfl (by split<;>omega)<|zk) (.a zi zi<|.a (by congr 1; split<;>omega) (by split<;>omega)<|.nil) rfl) ?_ ?_
 ·rintro ⟨j,u,out⟩ ⟨hul,hol,hR⟩
  refine jn ?_; refine j8 ?_; refine jq ?_ ?_
  ·intro h7
   obtain ⟨j0,rfl⟩:∃j0,j=j0+1:=⟨j-1,by omega⟩
   have hjo:=hR.jo
   obtain ⟨hg1,hg2,hvt,hz,hvlt⟩:=hR.gs (L0 y) hnn.symm zo
   have hT0:0<=val (u.drop j0):=Dg.val0 fun z hz=>hR.dg z (List.mem_of_mem_drop hz)
   have e1:((j0:Int)+nn-1).toNat=j0+nn-1:=by omega
   have e2:((nn:Int)-1).toNat=nn-1:=by omega
   have hu1:=hR.dg.at (i:=j0+nn) zo
   have hu2:=hR.dg.at (i:=((j0:Int)+nn-1).toNat) zo
   have hvt2:0<b6 (d7 y) ((nn:Int)-1).toNat:=by rw[e2]; exact hvt
   have hq0:=UY (a:=b6 u (j0+nn)*100000000+b6 u ((j0:Int)+nn-1).toNat) zo hvt2
   refine Tr.rwI (s:=11) rfl (show (((j0+1:Nat):Int)-1)=(j0:Int) by omega) ?_; refine n7 ?_; refine Tr.draw 20 p7 (by kernel_rfl) ?_; refine SV ?_; refine tO (AC rfl uu rfl uu (fun _=>zo)) rfl rfl ?_; refine tO (cQ rfl uu rfl uu) rfl rfl ?_; refine i1 ?_
   obtain ⟨g,hg⟩:∃g,g=GV (b6 u (j0+nn)) (b6 u ((j0:Int)+nn-1).toNat) (b6 (d7 y) ((nn:Int)-1).toNat):=⟨_,rfl⟩
   refine Tr.rwI (s:=12) rfl (show _=g from hg.symm) ?_
   have hgr:=oS hu1.1 hu2.1 hvt2
   rw[<- hg] at hgr
   have hgT:val (u.drop j0)/val (d7 y)<=g:=by rw[hg]; exact oR hu1.1 hu2.1 (by rw[e1,e2]; exact hg1)
   refine B0 ?_
   refine Tr.for1 (σ:=Nat×List Int×Int) [⟨6,true,_,_⟩,⟨7,true,_,_⟩,⟨8,true,_,_⟩,⟨9,true,_,_⟩,⟨10,true,_,_⟩,⟨11,true,_,_⟩,⟨12,true,_,_⟩,⟨81,true,_,_⟩] [⟨51,_,_⟩] (fun (i,u1,c)=>[⟨13,true,[],kI c⟩,⟨82,true,[],kI (i:Int)⟩]) (fun (i,u1,c)=>[⟨34,[],l3 false 3 eI u1 (lu+2)⟩]) (fun (i,u1,c)=>i<=nn/\L6 u (d7 y) j0 (-g) u1 i c) (fun (i,u1,c)=>L6 u (d7 y) j0 (-g) u1 nn c) (fun (i,u1,c)=>nn-i) ((0,u,0)) ⟨by omega,L6.start⟩ (d8.mk (.i rfl zi<|.i rfl zi<|zk) (.a zi zi<|zk) rfl) ?_ ?_
   ·rintro ⟨i,u1,c⟩ ⟨hi,hS⟩
    refine jn ?_
    have hsl:=hS.len
    have hcb:=hS.cb
    refine l5 ?_; refine jq ?_ ?_
    ·intro h12
     refine B0 ?_; refine Tr.draw 20 p7 (by kernel_rfl) ?_
     obtain ⟨s1,s2⟩:=hS.next (t7 y) ⟨zo,zo⟩ zo zo (hR.dg.at zo)
     have hb:=L6.b (t7 y) (s:=-g) ⟨zo,zo⟩ (show i<(d7 y).length by omega)
     have hng:-g*b6 (d7 y) i=-(g*b6 (d7 y) i):=Int.neg_mul _ _
     have hu3:b6 u1 (i+j0)=b6 u (j0+i):=by rw[Nat.add_comm]; exact s1
     have hu4:=hR.dg.at (i:=j0+i) zo
     have hval:b6 u1 (i+j0)-g*b6 (d7 y) i+c=b6 u (j0+i)+-g*b6 (d7 y) i+c:=by omega
     refine L3 ?_; refine rO (i9 (fun hp=>LW _ zo) (.a rfl uu<|.nil)) rfl rfl ?_; refine aS ?_
     exact g6.lp ((i+1,u1.set (j0+i) ((b6 u (j0+i)+-g*b6 (d7 y) i+c)%100000000),(b6 u (j0+i)+-g*b6 (d7 y) i+c)/100000000)) ⟨by omega,s2⟩ (by show nn-(i+1)<nn-i; omega) (d8.mk (.i rfl (by rw[hval])<|.i rfl zi<|zk) (.a (by rw[hval,Nat.add_comm i j0]) zi<|zk) rfl)
    ·intro h12
     replace h12:=Int.not_lt.1 h12
     refine i1 ?_
     exact g6.cut ((i,u1,c)) (by obtain rfl:i=nn:=zo; exact hS) (d8.mk (.i rfl zi<|.i rfl zi<|zk) (.a zi zi<|zk) rfl)
   ·rintro ⟨i,u1,c⟩ hS
    refine je ?_
    have hsl:=hS.len
    have hcb:=hS.cb
    have hst:=hS.same (j0+nn) (.inr (Nat.le_refl _))
    refine L3 ?_
    refine Tr.for (σ:=List Int×Int) [⟨6,true,_,_⟩,⟨7,true,_,_⟩,⟨8,true,_,_⟩,⟨9,true,_,_⟩,⟨10,true,_,_⟩,⟨11,true,_,_⟩] [⟨51,_,_⟩] (fun (u2,g2)=>[⟨12,true,[],kI g2⟩]) (fun (u2,g2)=>[⟨34,[],l3 false 3 eI u2 (lu+2)⟩]) (fun (u2,g2)=>K8 u j0 nn (val (u.drop j0)) (val (d7 y)) u2 g2) (fun (u2,g2)=>K8 u j0 nn (val (u.drop j0)) (val (d7 y)) u2 g2/\0<=b6 u2 (j0+nn)) (fun (u2,g2)=>g2.toNat) ((u1.set (j0+nn) (b6 u1 (j0+nn)+c),g)) (K8.mk' hR zo hS hnn.symm rfl hz hgT hgr.2) (d8.mk (.i rfl zi<|zk) (.a zi zi<|zk) rfl) ?_ ?_
    ·rintro ⟨u2,g2⟩ hW
     refine jn ?_
     have hwl:=hW.len
     have hwg:=hW.g1
     have hwb:=hW.bd zo rfl hT0 hV0 hVn
     refine w3 ?_; refine jq ?_ ?_
     ·intro h18
      have hlt:=hW.lt zo rfl h18 hV0
      refine pH ?_
      refine Tr.for1 (σ:=Nat×List Int×Int) [⟨6,true,_,_⟩,⟨7,true,_,_⟩,⟨8,true,_,_⟩,⟨9,true,_,_⟩,⟨10,true,_,_⟩,⟨11,true,_,_⟩,⟨12,true,_,_⟩,⟨130,true,_,_⟩] [⟨51,_,_⟩] (fun (i,u3,c3)=>[⟨13,true,[],kI c3⟩,⟨131,true,[],kI (i:Int)⟩]) (fun (i,u3,c3)=>[⟨34,[],l3 false 3 eI u3 (lu+2)⟩]) (fun (i,u3,c3)=>i<=nn/\L6 u2 (d7 y) j0 1 u3 i c3) (fun (i,u3,c3)=>L6 u2 (d7 y) j0 1 u3 nn c3) (fun (i,u3,c3)=>nn-i) ((0,u2,0)) ⟨by omega,L6.start⟩ (d8.mk (.i rfl zi<|.i rfl zi<|zk) (.a zi zi<|zk) rfl) ?_ ?_
      ·rintro ⟨i,u3,c3⟩ ⟨hi,hS3⟩
       refine jn ?_
       have hsl3:=hS3.len
       have hcb3:=hS3.cb
       refine l5 ?_; refine jq ?_ ?_
       ·intro h22
        refine B0 ?_; refine Tr.draw 18 p7 (by kernel_rfl) ?_
        have hu4:=hW.dg (j0+i) zo zo
        obtain ⟨t1,t2⟩:=hS3.next (t7 y) ⟨zo,zo⟩ zo zo hu4
        have hvd:=(t7 y).at (i:=i) zo
        have hu3:b6 u3 (i+j0)=b6 u2 (j0+i):=by rw[Nat.add_comm]; exact t1
        have hval3:b6 u3 (i+j0)+b6 (d7 y) i+c3=b6 u2 (j0+i)+1*b6 (d7 y) i+c3:=by omega
        refine B1 ?_; refine rO (i9 (fun hp=>LW _ zo) (.a rfl uu<|.nil)) rfl rfl ?_; refine aS ?_
        exact g6.lp ((i+1,u3.set (j0+i) ((b6 u2 (j0+i)+1*b6 (d7 y) i+c3)%100000000),(b6 u2 (j0+i)+1*b6 (d7 y) i+c3)/100000000)) ⟨by omega,t2⟩ (by show nn-(i+1)<nn-i; omega) (d8.mk (.i rfl (by rw[hval3])<|.i rfl zi<|zk) (.a (by rw[hval3,Nat.add_comm i j0]) zi<|zk) rfl)
       ·intro h22
        replace h22:=Int.not_lt.1 h22
        refine i1 ?_
        exact g6.cut ((i,u3,c3)) (by obtain rfl:i=nn:=zo; exact hS3) (d8.mk (.i rfl zi<|.i rfl zi<|zk) (.a zi zi<|zk) rfl)
      ·rintro ⟨i,u3,c3⟩ hS3
       refine je ?_
       have hsl3:=hS3.len
       have hcb3:=hS3.cb
       have hst3:=hS3.same (j0+nn) (.inr (Nat.le_refl _))
       refine C6 ?_
       exact g6.lp ((u3.set (j0+nn) (b6 u3 (j0+nn)+c3),g2-1)) (hW.back zo rfl h18 hV0 hS3 hnn.symm rfl) (by show (g2-1).toNat<g2.toNat; omega) (d8.mk (.i rfl zi<|zk) (.a zi zi<|zk) rfl)
     ·intro h18
      replace h18:=Int.not_lt.1 h18
      refine i1 ?_
      exact g6.cut ((u2,g2)) ⟨hW,by omega⟩ (d8.mk (.i rfl zi<|zk) (.a zi zi<|zk) rfl)
    ·rintro ⟨u2,g2⟩ ⟨hW,hW0⟩
     refine jn ?_
     have hwl:=hW.len
     have hwg:=hW.g1
     refine C6 ?_
     exact g6.lp ((j0,u2,out.set j0 g2)) ⟨by rw[hW.len]; exact hul,by rw[List.length_set]; exact hol,hR.next hW zo zo hV0 hVn⟩ (by show j0<j0+1; omega) (d8.mk (.o rfl zi rfl<|.i rfl zi<|.o rfl zi rfl<|.i rfl zi<|zk) (.a zi zi<|.a zi zi<|.nil) rfl)
  ·intro h7
   replace h7:=Int.not_le.1 h7
   refine i1 ?_
   exact g6.cut ((j,u,out)) (by obtain rfl:j=0:=zo; exact ⟨rfl,hul,hol,hR⟩) (d8.mk (.o rfl zi rfl<|.i rfl zi<|.o rfl zi rfl<|.i rfl zi<|zk) (.a zi zi<|.a zi zi<|.nil) rfl)
 ·rintro ⟨_,u,out⟩ ⟨rfl,hul,hol,hR⟩
  refine je ?_
  have hfin:=pU hFr.1 hx hy hn0 hR
  refine i1 ?_; refine tO (TZ (n:=1) (fun ad cap=>ME u ad cap) rfl uu (fun _=>⟨by omega,by simp only[q7]; omega,by have:=R8 (xs:=u); omega⟩)) rfl rfl ?_; refine b8.frzQ 34 [174] ⟨rfl,trivial⟩ ⟨by have:=R8 (xs:=u); omega,by simp only[q7]; omega⟩ rfl ?_; refine jl ?_; refine i6 ?_; refine jc (YL (u.take (j9 u).length) F (by rw[IA]; exact hfin.2.2) (by have:=R8 (xs:=u); rw[List.length_take]; omega) zo) ?_; refine t6 ?_; refine b8.frz 51 [10,179] ⟨rfl,rfl,trivial⟩ (by simp only[q7]; omega) rfl ?_
  refine jl ?_; refine tO (i9 (fun hp=>GO _) (.a rfl uu<|.nil)) rfl rfl ?_; refine l5 ?_; exact f0.res (fn:=Tryz.f219) (ts:=[4,5]) rfl rfl (.r rfl hfin.1<|.r rfl (by rw[IA]; exact hfin.2.1)<|.nil)

end Go.Fl

/- Integers: quotient and rest with signs. Plain Lean, no program in sight. -/
namespace Go.Fl
theorem cY {a b q r:Int} (hb:b≠0) (h:a=b*q+r) (h0:0<=r) (h1:r<b.natAbs):a/b=q/\a%b=r:=by
 rcases Int.lt_or_gt_of_ne hb with hn | hp
 ·have h2:=(Int.ediv_emod_unique (a:=a) (b:=-b) (q:=-q) (r:=r) zo).2 ⟨by rw[Int.neg_mul_neg]; omega,h0,by omega⟩
  rw[Int.ediv_neg,Int.emod_neg] at h2
  exact ⟨by omega,h2.2⟩
 ·exact (Int.ediv_emod_unique hp).2 ⟨by omega,h0,by omega⟩
abbrev X8 (a b:Int):Prop:=decide (a<0)≠decide (b<0)
theorem gR {a b z:Int} {Q:Nat} (hz:z=if X8 a b then -(Q:Int) else Q):(decide ((0:Int)<((d7 Q).length:Nat))&&decide (decide (a<0)≠decide (b<0)),d7 Q)=wh z:=by
 have hl:=GQ (n:=Q)
 by_cases h:X8 a b
 ·rw[if_pos h] at hz
  refine EE ?_ (by rw[hz]; congr 1; omega)
  have h2:decide (decide (a<0)≠decide (b<0))=true:=decide_eq_true h
  rw[h2,Bool.and_true,decide_eq_decide]
  omega
 ·rw[if_neg h] at hz
  refine EE ?_ (by rw[hz]; congr 1)
  have h2:decide (decide (a<0)≠decide (b<0))=false:=decide_eq_false h
  rw[h2,Bool.and_false]
  exact (decide_eq_false zo).symm
section
variable {a b:Int}
theorem bS:(a.natAbs:Int)=b.natAbs*((a.natAbs/b.natAbs:Nat):Int)+((a.natAbs%b.natAbs:Nat):Int):=by
 have:=Nat.div_add_mod a.natAbs b.natAbs
 rw[<- Int.natCast_mul,<- Int.natCast_add,this]
theorem X9:X8 a b↔((a<0/\¬b<0)\/(¬a<0/\b<0)):=by
 unfold X8
 by_cases h1:a<0<;>by_cases h2:b<0<;>simp[h1,h2]
theorem UB (hb:b≠0) (h:¬(a<0/\0<a.natAbs%b.natAbs)):a/b=(if X8 a b then -((a.natAbs/b.natAbs:Nat):Int) else ((a.natAbs/b.natAbs:Nat):Int))/\a%b=((a.natAbs%b.natAbs:Nat):Int):=by
 have e:=bS (a:=a) (b:=b)
 have hlt:a.natAbs%b.natAbs<b.natAbs:=Nat.mod_lt _ zo
 generalize hq:((a.natAbs/b.natAbs:Nat):Int)=q at *
 refine cY hb ?_ zo zo
 have hB:(b.natAbs:Int)=if b<0 then -b else b:=by split<;>omega
 have hA:(a.natAbs:Int)=if a<0 then -a else a:=by split<;>omega
 by_cases h1:a<0<;>by_cases h2:b<0
 ·rw[if_pos h1] at hA; rw[if_pos h2] at hB
  rw[if_neg (by rw[X9]; omega)]
  rw[hA,hB,Int.neg_mul] at e; omega
 ·rw[if_pos h1] at hA; rw[if_neg h2] at hB
  rw[if_pos (by rw[X9]; omega)]
  rw[hA,hB] at e; rw[Int.mul_neg]; omega
 ·rw[if_neg h1] at hA; rw[if_pos h2] at hB
  rw[if_pos (by rw[X9]; omega)]
  rw[hA,hB,Int.neg_mul] at e; rw[Int.mul_neg]; omega
 ·rw[if_neg h1] at hA; rw[if_neg h2] at hB
  rw[if_neg (by rw[X9]; omega)]
  rw[hA,hB] at e; omega
theorem cX (hb:b≠0) (ha:a<0) (hr:0<a.natAbs%b.natAbs):a/b=(if X8 a b then -((a.natAbs/b.natAbs+1:Nat):Int) else ((a.natAbs/b.natAbs+1:Nat):Int))/\a%b=(b.natAbs:Int)+-((a.natAbs%b.natAbs:Nat):Int):=by
 have e:=bS (a:=a) (b:=b)
 have hlt:a.natAbs%b.natAbs<b.natAbs:=Nat.mod_lt _ zo
 rw[Int.natCast_add]
 generalize hq:((a.natAbs/b.natAbs:Nat):Int)=q at *
 refine cY hb ?_ zo zo
 have hB:(b.natAbs:Int)=if b<0 then -b else b:=by split<;>omega
 have hA:(a.natAbs:Int)=-a:=by omega
 by_cases h2:b<0
 ·rw[if_pos h2] at hB
  rw[if_neg (by rw[X9]; omega)]
  rw[hA,hB,Int.neg_mul] at e; rw[Int.mul_add]; omega
 ·rw[if_neg h2] at hB
  rw[if_pos (by rw[X9]; omega)]
  rw[hA,hB] at e; rw[Int.mul_neg,Int.mul_add]; omega
end
theorem cS {n:Nat} (h:(d7 n).length=1):b6 (d7 n) 0=n:=by
 have hv:=t9 n
 match hd:d7 n,h with
 | [x],_=>rw[hd] at hv; simpa [val,b6] using hv
theorem uV {m n:Nat} (h:(d7 n).length=1):d7 (val (d7 m)/b6 (d7 n) 0).toNat=d7 (m/n)/\val (d7 m)%b6 (d7 n) 0=((m%n:Nat):Int):=by
 rw[cS h,t9]
 exact ⟨by congr 1,by rw[Int.natCast_emod]⟩
theorem nJ {x y:Int} (hy:y≠0):dl (x%y)<=dl y:=J8 (by have:=Int.emod_nonneg x hy; have:=Int.emod_lt x hy; omega)
theorem jK {x y:Int} (h:s7 x y<0):x<y:=by unfold s7 at h; split at h<;>(try split at h)<;>omega
theorem jL {x y:Int} (h:0<=s7 x y):y<=x:=by unfold s7 at h; split at h<;>(try split at h)<;>omega
theorem gD:∀{xs:List Int},B6 xs->-(10000000000000000000*BP xs.length-10000000000000000000)<=val xs/\val xs<=10000000000000000000*BP xs.length-10000000000000000000
 | [],_=>by simp[val,BP]
 | x::xs,h=>by
  have h1:=h 0 (by simp)
  have ih:=gD (xs:=xs) fun i hi=>h (i+1) (by simpa using hi)
  have e:b6 (x::xs) 0=x:=rfl
  rw[e] at h1
  rw[val,List.length_cons,P9]
  omega
theorem M5 {xs:List Int} (h:B6 xs):dl (val xs)<=xs.length+3:=by
 refine S8 ?_
 have h1:=gD h
 have h2:=P8 xs.length
 rw[P9,P9,P9]
 omega
theorem RO {n:Int} (h:-9223372036854775808<=n/\n<=9223372036854775807):dl n<=3:=S8 (by simp[BP]; omega)
end Go.Fl

/- Contracts: integers of the package field (quotient and rest, what the package offers). -/
namespace Go.Fl
open Go Go.Proofs
open b8 renaming op->tO
open i7 renaming op->rO
set_option maxRecDepth 100000

set_option maxHeartbeats 2000000 in
theorem RK (a b:Int) (hb0:b≠0) (ha:dl a<=800000) (hb:dl b<=800000):Ct Tryz.prog 206 [b7 eW (wh a),b7 eW (wh b)] (v6 [b7 eW (wh (a/b)),b7 eW (wh (a%b))]):=by
 have hal:(d7 a.natAbs).length=dl a:=rfl
 have hbl:(d7 b.natAbs).length=dl b:=rfl
 have hbp:=(AY (z:=b)).2 hb0
 have hlt:a.natAbs%b.natAbs<b.natAbs:=Nat.mod_lt _ zo
 have hql:=J8 (m:=a.natAbs) (n:=a.natAbs/b.natAbs) (Nat.div_le_self _ _)
 have hrl:=J8 (m:=b.natAbs) (n:=a.natAbs%b.natAbs) zo
 have hrz:=GQ (n:=a.natAbs%b.natAbs)
 have hdq:dl ((a.natAbs/b.natAbs:Nat):Int)=(d7 (a.natAbs/b.natAbs)).length:=rfl
 have U4:dl ((a.natAbs%b.natAbs:Nat):Int)=(d7 (a.natAbs%b.natAbs)).length:=rfl
 have hdb:dl (b.natAbs:Int)=dl b:=rfl
 have hd1:=I4 (F:=1) zo zo
 refine Ct.mk Tryz.func206 rfl Tryz.ntmps206 rfl (fun w J=>?_); refine g8 ?_; refine jb 2 rfl ?_; refine jb 3 rfl ?_; refine ja 4 ?_; refine ja 5 ?_; refine g8 ?_; refine Tr.meet2 (σ:=Unit) [⟨2,true,_,_⟩,⟨3,true,_,_⟩,⟨4,true,_,_⟩,⟨5,true,_,_⟩] [⟨2,_,_⟩,⟨3,_,_⟩] (zk) (zk) (fun _=>[]) (fun _=>[⟨4,[],j1 [kB false,b7 (eL eI) (d7 (a.natAbs/b.natAbs))]⟩,⟨5,[],j1 [kB false,b7 (eL eI) (d7 (a.natAbs%b.natAbs))]⟩]) (fun _=>True) ?_ ?_
 ·skip
  refine j8 ?_; refine jc (YN a.natAbs b.natAbs zo zo) ?_; refine i1 ?_; refine Tr.cnd rfl ?_ ?_
  ·intro h2
   try simp only[decide_eq_true_eq] at h2
   have hc:=jK h2
   refine j8 ?_
   exact g6.cut (()) zi (d8.mk (zk) (.conv (fun _ _ _ h=>iQ rfl (by rw[Nat.div_eq_of_lt zo]; rfl) h) rfl<|.conv (fun _ _ _ h=>IU rfl (by rw[Nat.mod_eq_of_lt zo]) h) rfl<|zk) rfl)
  ·intro h2
   try simp only[decide_eq_false_iff_not,Int.not_lt] at h2
   have hc:=jL h2
   refine l7 ?_; refine Tr.cnd rfl ?_ ?_
   ·intro h4
    try simp only[decide_eq_true_eq] at h4
    refine l5 ?_; refine Tr.drawS 11 4 p7 (by kernel_rfl) ?_
    have hd0:=(t7 b.natAbs).at (i:=0) zo
    have h1d:=cS (n:=b.natAbs) zo
    refine n6.opA (N9 rfl uu) (by kernel_rfl) rfl rfl ?_; refine n6.opA (R3 rfl uu rfl) (by kernel_rfl) rfl rfl ?_; refine n6.opA (N9 rfl uu) (by kernel_rfl) rfl rfl ?_; refine n6.opA (R3 rfl uu rfl) (by kernel_rfl) rfl rfl ?_
    first | refine n6.opA (D8 rfl uu rfl uu rfl (fun _=>zo)) (by kernel_rfl) rfl rfl ?_ | refine n6.opA (R2 rfl uu rfl uu rfl (fun _=>zo)) (by kernel_rfl) rfl rfl ?_
    refine n6.opA (D0 rfl uu rfl) (by kernel_rfl) rfl rfl ?_; refine n6.opA (i9 (fun hp=>YL (d7 a.natAbs) (b6 (d7 b.natAbs) 0) (t7 _) zo zo) (.a rfl uu<|.a rfl uu<|.nil)) (by kernel_rfl) rfl rfl ?_; refine n6.opA (F2 rfl uu) (by kernel_rfl) rfl rfl ?_; refine n6.opA (HL rfl uu rfl) (by kernel_rfl) rfl rfl ?_; refine n6.op (HL rfl uu rfl) rfl rfl ?_; refine n6.opA (N9 rfl uu) (by kernel_rfl) rfl rfl ?_; refine n6.z (CT rfl rfl rfl) rfl rfl rfl ?_; refine i1 ?_
    have sh:=uV (m:=a.natAbs) (n:=b.natAbs) zo
    refine i6 ?_; refine tO (i9 (fun hp=>M4 _ (by rw[sh.2]; omega)) (.a rfl uu<|.nil)) rfl rfl ?_; refine j5 ?_
    exact g6.cut (()) zi (d8.mk (zk) (.conv (fun _ _ _ h=>IU rfl sh.1 h) rfl<|.conv (fun _ _ _ h=>IU (by rw[sh.2]; exact decide_eq_false zo) (by rw[sh.2]; rfl) h) rfl<|zk) rfl)
   ·intro h4
    try simp only[decide_eq_false_iff_not] at h4
    refine n7 ?_; refine jc (lC a.natAbs b.natAbs zo zo zo) ?_; refine l7 ?_
    exact g6.cut (()) zi (d8.mk (zk) (.conv (fun _ _ _ h=>IU rfl rfl h) rfl<|.conv (fun _ _ _ h=>IU rfl rfl h) rfl<|zk) rfl)
 ·intro _ hM
  refine jn ?_; refine B1 ?_; refine Tr.cnd rfl ?_ ?_
  ·intro h8
   try simp only[decide_eq_true_eq,Bool.and_eq_true] at h8
   have hrp:0<a.natAbs%b.natAbs:=by omega
   obtain ⟨o1,o2⟩:=cX hb0 h8.1 hrp
   refine i6 ?_; refine Tr.draw 2 p7 (by kernel_rfl) ?_; refine i6 ?_; refine jd (M4 1 zo) ?_; refine i6 ?_; refine tO (i9 (fun hp=>S5 ((a.natAbs/b.natAbs:Nat):Int) 1 zo zo) (.se rfl uu rfl FS<|.a rfl uu<|.nil)) rfl rfl ?_; refine j5 ?_; refine Tr.draw 5 p7 (by kernel_rfl) ?_; refine g8 ?_; refine rO (w5 (fun hp=>.cons rfl rfl rfl<|.nil)) rfl rfl ?_; refine i6 ?_; refine rO (i9 (fun hp=>BX ((a.natAbs%b.natAbs:Nat):Int)) (.se rfl uu rfl FS<|.nil)) rfl rfl ?_; refine i6 ?_; refine tO (i9 (fun hp=>S5 (b.natAbs:Int) (-((a.natAbs%b.natAbs:Nat):Int)) zo (by rw[J5]; omega)) (.se rfl uu rfl FS<|.a rfl uu<|.nil)) rfl rfl ?_
   refine C6 ?_; refine b8.gd rfl rfl rfl (OG rfl id rfl id) rfl rfl ?_; refine l5 ?_; refine Tr.drawS 2 4 p7 (by kernel_rfl) ?_; refine n6.opA (F8 rfl uu) (by kernel_rfl) rfl rfl ?_; refine n6.op (F8 rfl uu) rfl rfl ?_; refine n6.z (CT rfl rfl rfl) rfl rfl rfl ?_; refine i1 ?_; exact f0.resC2 (fn:=Tryz.f206) rfl rfl rfl (s6 rfl (gR o1)) (s6 rfl (by rw[o2]; rfl))
  ·intro h8
   try simp only[decide_eq_true_eq,decide_eq_false_iff_not,Bool.and_eq_false_imp,Int.not_lt] at h8
   obtain ⟨o1,o2⟩:=UB hb0 (fun hh=>by have:=h8 hh.1; omega)
   refine B1 ?_; refine b8.gd rfl rfl rfl (OG rfl id rfl id) rfl rfl ?_; refine l5 ?_; refine Tr.drawS 2 4 p7 (by kernel_rfl) ?_; refine n6.opA (F8 rfl uu) (by kernel_rfl) rfl rfl ?_; refine n6.op (F8 rfl uu) rfl rfl ?_; refine n6.z (CT rfl rfl rfl) rfl rfl rfl ?_; refine i1 ?_; exact f0.resC2 (fn:=Tryz.f206) rfl rfl rfl (s6 rfl (gR o1)) (s6 rfl (by rw[o2]; exact FS))

theorem XL (a b:Int) (ha:dl a<=800000) (hb:dl b<=800000):Ct Tryz.prog 203 [b7 eW (wh a),b7 eW (wh b)] (kI (s7 a b)):=by
 refine Ct.mk Tryz.func203 rfl Tryz.ntmps203 rfl (fun w J=>?_); refine g8 ?_; refine jb 2 rfl ?_; refine jb 3 rfl ?_; refine i1 ?_; refine Tr.draw 3 p7 (by kernel_rfl) ?_; refine g8 ?_; refine jd (BX b) ?_; refine i6 ?_; refine jc (S5 a (-b) zo (by rw[J5]; omega)) ?_; refine jc (Y9 (a+-b)) ?_; refine i1 ?_; exact f0.res1 (fn:=Tryz.f203) rfl (.i rfl (by rw[<- Int.sub_eq_add_neg]; exact jM)<|.nil)

end Go.Fl

/- Integers: what the contracts of the reference's integers lean on. Plain Lean, no program in sight. -/
namespace Go.Fl
def R7 (xs:List Int) (neg:Bool):List Int:=if neg=true then (j9 xs).map (fun x=>-x) else j9 xs
theorem uK {xs:List Int} {neg:Bool} (h:neg=true):N7 (j9 xs) (j9 xs).length=R7 xs neg:=by unfold R7; rw[if_pos h,bU]
theorem uJ {xs:List Int} {neg:Bool} (h:neg=false):j9 xs=R7 xs neg:=by unfold R7; rw[if_neg (by rw[h]; simp)]
theorem fT {xs:List Int} (h:Nm xs):j9 xs=xs:=by
 have h0:=h.dg.val0
 have e:val xs=((val xs).toNat:Nat):=by omega
 rw[BN h.dg e]
 exact (MJ h e).symm
theorem VA:∀{xs:List Int},j9 (xs.map fun x=>-x)=(j9 xs).map fun x=>-x
 | []=>rfl
 | x::xs=>by
  rw[List.map_cons,j9,j9,VA]
  by_cases h:j9 xs=[]/\x=0
  ·rw[if_pos h,if_pos ⟨by rw[h.1]; rfl,by omega⟩]; rfl
  ·rw[if_neg h,if_neg (fun hh=>h ⟨by simpa using hh.1,by omega⟩)]; rfl
theorem fR (z:Int):j9 (j2 z)=j2 z:=by
 unfold j2
 split
 ·rw[VA,fT (L0 _)]
 ·exact fT (L0 _)
theorem NL {z:Int} (h:0<=z):j2 z=d7 z.toNat:=by unfold j2; rw[if_neg zo]; congr 1; omega
theorem NM (n:Nat):j2 (n:Int)=d7 n:=NL zo
theorem qD {z:Int} (h:0<=z):Nm (j2 z):=by rw[NL h]; exact L0 _
theorem TG:∀(xs:List Int),(xs.map fun x=>-x).map (fun x=>-x)=xs
 | []=>rfl
 | x::xs=>by rw[List.map_cons,List.map_cons,TG,Int.neg_neg]
theorem uM (z:Int):R7 (j2 z) true=j2 (-z):=by
 unfold R7
 rw[if_pos rfl,fR]
 by_cases h:z=0
 ·subst h; rfl
 ·unfold j2
  by_cases h1:z<0
  ·rw[if_pos h1,if_neg zo,TG,Int.natAbs_neg]
  ·rw[if_neg h1,if_pos zo,Int.natAbs_neg]
theorem uN (z:Int):R7 (j2 z) (decide (z<0))=d7 z.natAbs:=by
 unfold R7
 rw[fR]
 unfold j2
 by_cases h:z<0
 ·rw[if_pos h,if_pos (by simpa using h),TG]
 ·rw[if_neg h,if_neg (by simpa using h)]
theorem TF {z:Int}:(j2 z).length=0↔z=0:=by rw[C9]; exact E2
theorem qB {z:Int} (h:0<(j2 z).length):b6 (j2 z) (((j2 z).length:Int)-1).toNat<0↔z<0:=by
 have e:(((j2 z).length:Int)-1).toNat=(j2 z).length-1:=by omega
 rw[e]
 rw[C9] at h ⊢
 have ht:=(L0 z.natAbs).top (by exact h)
 unfold j2
 by_cases h1:z<0
 ·rw[if_pos h1,FC (show dl z-1<(d7 z.natAbs).length by unfold dl at h ⊢; omega)]
  unfold dl
  omega
 ·rw[if_neg h1]
  unfold dl
  omega
theorem qZ {z:Int} (h:0<(j2 z).length->(b6 (j2 z) (((j2 z).length:Int)-1).toNat<0↔z<0)):(decide ((0:Int)<((j2 z).length:Nat))&&decide (b6 (j2 z) (((j2 z).length:Int)-1).toNat<0))=decide (z<0):=by
 by_cases h0:0<(j2 z).length
 ·rw[decide_eq_true (show (0:Int)<((j2 z).length:Nat) by omega),Bool.true_and,decide_eq_decide]
  exact h h0
 ·have:z=0:=TF.1 zo
  subst this
  rfl
theorem rG {xs:List Int} {i:Nat} (hi:xs.length<=i) (h:(q8 xs i).2=0):j9 (q8 xs i).1=j2 (val xs):=by
 have h1:=dP hi h
 have h2:=dL hi h
 have h0:=(V1 (xs:=xs) (i:=i)).val0
 rw[NL zo]
 exact BN V1 zo
theorem bW {xs ds:List Int} (h:(true,j9 ds)=wh (val xs)):R7 ds true=j2 (val xs):=by
 unfold wh at h
 have h1:true=decide (val xs<0):=congrArg Prod.fst h
 have h2:j9 ds=d7 (val xs).natAbs:=congrArg Prod.snd h
 unfold R7 j2
 rw[if_pos rfl,if_pos (of_decide_eq_true h1.symm),h2]
theorem WV {ds:List Int} {k:Nat} (h:k=ds.length):l6 k (M3 ds)=C2 ds k:=by
 subst h
 unfold C2
 exact D9 fun j hj=>by rw[if_pos hj]
theorem rF {xs:List Int} {i:Nat} (hi:xs.length<=i) (h:(q8 xs i).2=-1) (hb:bw (q8 xs i).1 i≠0):R7 (l6 i (M3 (q8 xs i).1)) true=j2 (val xs):=by
 rw[WV T6.symm]; exact bW (dO hi h hb)
theorem rE {xs:List Int} {i:Nat} (hi:xs.length<=i) (h:(q8 xs i).2=-1) (hb:bw (q8 xs i).1 i=0):R7 (l6 i (M3 (q8 xs i).1)++[1]) true=j2 (val xs):=by
 rw[WV T6.symm]; exact bW (dN hi h hb)
def EO (xs ys:List Int) (n:Nat):List Int:=l6 n fun i=>w8 xs i+w8 ys i
theorem gG {f g:Nat->Int}:∀{n:Nat},val (l6 n fun i=>f i+g i)=val (l6 n f)+val (l6 n g)
 | 0=>rfl
 | n+1=>by
  rw[F9,F9,F9,T9,T9,T9,gG,q9,q9,q9,Int.mul_add]; omega
theorem VH {xs:List Int}:∀{n:Nat},val (l6 n (w8 xs))=val (xs.take n)
 | 0=>rfl
 | n+1=>by rw[F9,T9,q9,VH,AK]
theorem gY {xs ys:List Int} {n:Nat} (h1:xs.length<=n) (h2:ys.length<=n):val (EO xs ys n)=val xs+val ys:=by
 unfold EO
 rw[gG,VH,VH,List.take_of_length_le h1,List.take_of_length_le h2]
theorem gX {x y:Int} {n:Nat}:B6 (EO (j2 x) (j2 y) n):=fun i hi=>by
 unfold EO at hi ⊢
 rw[q9] at hi
 rw[s9 hi]
 have b:∀z:Int,∀j,-100000000<w8 (j2 z) j/\w8 (j2 z) j<100000000:=fun z j=>by
  unfold w8
  split
  ·rename_i hj
   rw[C9] at hj
   have:=(t7 z.natAbs).at (i:=j) hj
   unfold j2
   split
   ·rw[FC hj]; omega
   ·omega
  ·omega
 have:=b x i; have:=b y i
 omega
theorem CH {z:Int} {j:Nat} (hj:j<(j2 z).length):-100000000<b6 (j2 z) j/\b6 (j2 z) j<100000000:=by
 rw[C9] at hj
 have:=(t7 z.natAbs).at (i:=j) hj
 unfold j2
 split
 ·rw[FC hj]; omega
 ·omega
theorem bL {x y:Int} (hx:-100000000<x/\x<100000000) (hy:-100000000<y/\y<100000000):-10000000000000000<=x*y/\x*y<=10000000000000000:=by
 have h:(x*y).natAbs<=100000000*100000000:=by rw[Int.natAbs_mul]; exact Nat.mul_le_mul zo zo
 omega
def M7 (xs ys:List Int) (i k:Nat):List Int:=List.replicate i 0++l6 k fun j=>b6 xs i*b6 ys j
theorem TH {xs ys:List Int} {i k:Nat}:(M7 xs ys i k).length=i+k:=by unfold M7; rw[List.length_append,List.length_replicate,q9]
theorem qQ {xs ys:List Int} {i k:Nat}:M7 xs ys i k++[b6 xs i*b6 ys k]=M7 xs ys i (k+1):=by unfold M7; rw[F9,List.append_assoc]
theorem qS {xs ys:List Int} {i:Nat}:List.replicate i 0=M7 xs ys i 0:=by unfold M7; simp[l6]
theorem gE {c:Int} {ys:List Int}:∀{k:Nat},k<=ys.length->val (l6 k fun j=>c*b6 ys j)=c*val (ys.take k)
 | 0,_=>by simp[l6,val]
 | k+1,h=>by rw[F9,T9,q9,gE zo,AK,P7 zo,Int.mul_add,Int.mul_left_comm]
theorem qR {xs ys:List Int} {i:Nat}:val (M7 xs ys i ys.length)=BP i*(b6 xs i*val ys):=by
 unfold M7
 rw[IB,PL,List.length_replicate,gE (Nat.le_refl _),List.take_length]; omega
theorem qP {x y:Int} {i k:Nat} (hi:i<(j2 x).length) (hk:k<=(j2 y).length):B6 (M7 (j2 x) (j2 y) i k):=fun j hj=>by
 rw[TH] at hj
 have hm:b6 (M7 (j2 x) (j2 y) i k) j∈M7 (j2 x) (j2 y) i k:=G5 (by rw[TH]; exact hj)
 unfold M7 at hm
 rcases List.mem_append.1 hm with h | h
 ·have e:=List.eq_of_mem_replicate h
  unfold M7; omega
 ·obtain ⟨q,hq,e⟩:=Z8 h
  unfold M7
  rw[q9] at hq
  rw[s9 hq] at e
  have:=bL (CH hi) (CH (z:=y) (j:=q) zo)
  omega
theorem qU {xs ys:List Int} {i:Nat} (h:i<xs.length):val (xs.take i)*val ys+val (M7 xs ys i ys.length)=val (xs.take (i+1))*val ys:=by
 rw[qR,AK,P7 h,Int.add_mul,Int.mul_assoc]
theorem pS {a b:List Int} (ha:Nm a) (hb:Nm b) (h:a.length≠b.length):decide ((a.length:Int)<(b.length:Nat))=decide (val a<val b):=by
 rw[decide_eq_decide]
 rcases Nat.lt_or_gt_of_ne h with h1 | h1
 ·have:=LQ ha hb h1
  omega
 ·have:=LQ hb ha h1
  omega
theorem pR {a b:List Int} (ha:Dg a) (hb:Dg b) (hl:a.length=b.length) {i:Nat} (hi:i<a.length) (h:∀j,i<j->j<a.length->b6 a j=b6 b j) (hne:b6 a i≠b6 b i):decide (b6 a i<b6 b i)=decide (val a<val b):=by
 rw[decide_eq_decide]
 rcases Int.lt_or_gt_of_ne hne with h1 | h1
 ·have:=LP ha hb hl hi h h1
  omega
 ·have:=LP hb ha hl.symm zo (fun j h2 h3=>(h j h2 zo).symm) h1
  omega
theorem pQ {a b:List Int} (hl:a.length=b.length) (h:∀j,0<=j->j<a.length->b6 a j=b6 b j):false=decide (val a<val b):=by
 rw[WW hl fun j hj=>h j (Nat.zero_le _) hj]
 exact (decide_eq_false (Int.lt_irrefl _)).symm
theorem nY {r x:Int} (hr:0<=r) (hx:0<=x/\x<100000000):j9 (x::d7 r.toNat)=d7 (r*100000000+x).toNat:=by
 refine BN (fun y hy=>?_) ?_
 ·rcases List.mem_cons.1 hy with rfl | hy
  ·exact hx
  ·exact t7 _ y hy
 ·rw[val,t9]; omega
theorem nR {T n:Int} (_:0<n):(T-n*(T/n))=T%n:=by have:=Int.mul_ediv_add_emod T n; omega
theorem nV {T n m:Int} (hn:0<n) (h:¬T<n*m):m<=T/n:=Int.le_ediv_of_mul_le hn (by rw[Int.mul_comm]; omega)
theorem nU {T n m:Int} (hn:0<n) (h:T<n*m):T/n<=m-1:=by have:=Int.ediv_lt_of_lt_mul hn (show T<m*n by rw[Int.mul_comm]; exact h); omega
def PY (xs:List Int):Prop:=∀x∈xs,-100000000<x/\x<100000000
theorem Dg.sm {xs:List Int} (h:Dg xs):PY xs:=fun x hx=>by have:=h x hx; omega
theorem bH (z:Int):PY (j2 z):=fun x hx=>by
 obtain ⟨j,hj,rfl⟩:=Z8 hx
 exact CH hj
theorem LN {ds:List Int} (h:Dg ds) {k:Nat} (hk:k=ds.length):Dg (l6 k (M3 ds)):=fun x hx=>by
 obtain ⟨j,hj,rfl⟩:=Z8 hx
 rw[q9] at hj
 rw[s9 hj]; exact QT h zo
theorem uI {xs:List Int} {neg:Bool} {i:Nat} (hi:i<=(j9 xs).length) (hg:0<i->neg=true) (h:i<(j9 xs).length->neg=false):N7 (j9 xs) i=R7 xs neg:=by
 cases hn:neg with
 | true =>
  have e:i=(j9 xs).length:=by
   rcases Nat.lt_or_ge i (j9 xs).length with h1 | h1
   ·rw[h h1] at hn; cases hn
   ·omega
  rw[e]; exact uK rfl
 | false =>
  have e:i=0:=by
   rcases Nat.eq_zero_or_pos i with h1 | h1
   ·exact h1
   ·rw[hg h1] at hn; cases hn
  rw[e,<- TQ]; exact uJ rfl
theorem B6.take {xs:List Int} (h:B6 xs) (n:Nat):B6 (xs.take n):=fun j hj=>by
 rw[List.length_take] at hj
 rw[cI zo]; exact h j zo
theorem nX {m n:Nat} {o:List Int} {R:Int} {i:Nat} (h:J7 (d7 m) o (n:Int) (i+1) R) (hi:i<(d7 m).length):0<=R*100000000+b6 (d7 m) i/\0<=(R*100000000+b6 (d7 m) i)/n/\(R*100000000+b6 (d7 m) i)/n<100000000:=by
 have h1:=h.q (t7 m) hi
 have h2:=(t7 m).at hi
 have h3:=h.r0
 exact ⟨by omega,h1.1,h1.2.1⟩
theorem ZG {m n:Nat} {o:List Int} {R:Int} (h:J7 (d7 m) o (n:Int) 0 R):j9 o=d7 (m/n)/\d7 R.toNat=d7 (m%n):=by
 have h1:=h.fin
 rw[t9] at h1
 refine ⟨h1.1,?_⟩
 rw[h1.2]
 congr 1
theorem nT {T:Int} {n:Nat} (h:(T/n)<100000000) (hn:0<n) (h0:0<=T):dl T<=dl (n:Int)+1:=by
 refine S8 ?_
 have h1:=GR (n:Int)
 have h2:=Int.lt_mul_of_ediv_lt (show (0:Int)<n by omega) h
 rw[P9]
 have:(T.natAbs:Int)=T:=by omega
 omega
theorem nS {R:Int} {n:Nat} (h:0<=R/\R<n):dl R<=dl (n:Int):=J8 zo
theorem YU {z:Int} (h:0<=z):(d7 z.toNat).length=dl z:=by unfold dl; congr 2; omega
theorem oN {x y:Nat}:Nat.gcd y (x%y)=Nat.gcd x y:=by rw[Nat.gcd_comm,<- Nat.gcd_rec,Nat.gcd_comm]
theorem JH {x:Int} (h:-9223372036854775808<=x/\x<=9223372036854775807):B6 [x]:=fun j hj=>by
 have e:j=0:=by simpa using hj
 subst e
 exact h
theorem RP {q:Nat}:(j2 (val (j2 (-val (d7 q)))-val [1])).length<=dl (q:Int)+2:=by
 rw[C9,H8,AM,t9,Int.sub_eq_add_neg]
 have h1:=S7 (-(q:Int)) (-1)
 rw[J5] at h1
 have h2:dl (-1)<=1:=I4 (F:=1) zo zo
 omega
theorem RQ {q:Nat}:(j2 (-val (d7 q))).length=dl (q:Int):=by rw[C9,t9,J5]
end Go.Fl

/- Contracts: integers of the reference of chapter 1. -/
namespace Go.Fl
open Go Go.Proofs
open b8 renaming op->tO
open i7 renaming op->rO
set_option maxRecDepth 100000

theorem RG (n:Int) (hn:-9223372036854775808<=n/\n<=9223372036854775807):Ct Tryz.prog 174 [kI n] (v6 [kI (n/100000000),kI (n%100000000)]):=by
 obtain ⟨hq1,hq2,hq3⟩:=KL n
 refine Ct.mk Tryz.func174 rfl Tryz.ntmps174 rfl (fun w J=>?_); refine l7 ?_; refine tO (AC rfl uu rfl uu (fun _=>zo)) rfl rfl ?_; refine i6 ?_; refine tO (DV rfl uu rfl uu (fun _=>zo)) rfl rfl ?_; refine B0 ?_; refine jq ?_ ?_
 ·intro h2
  refine w3 ?_; exact f0.res (fn:=Tryz.f174) (ts:=[2,3]) rfl rfl (.i rfl zo<|.i rfl zo<|.nil)
 ·intro h2
  replace h2:=Int.not_lt.1 h2
  refine B0 ?_; exact f0.res (fn:=Tryz.f174) (ts:=[2,3]) rfl rfl (.i rfl zo<|.i rfl zo<|.nil)

theorem RH (xs:List Int) (hn:xs.length<=10000000):Ct Tryz.prog 175 [b7 (eL eI) xs] (b7 (eL eI) (j9 xs)):=by
 refine Ct.mk Tryz.func175 rfl Tryz.ntmps175 rfl (fun w J=>?_); refine w3 ?_
 refine Tr.for (σ:=Nat) [⟨0,true,_,_⟩] [] (fun m=>[⟨3,true,[],kI (m:Int)⟩]) (fun m=>[]) (fun m=>m<=xs.length/\∀i,m<=i->i<xs.length->b6 xs i=0) (fun m=>m<=xs.length/\j9 xs=xs.take m) (fun m=>m) (xs.length) ⟨by omega,fun i h1 h2=>absurd h1 zo⟩ (d8.mk (.i rfl zi<|zk) (.nil) rfl) ?_ ?_
 ·rintro m ⟨hm,hz⟩
  refine jn ?_
  have e1:0<m->((m:Int)-1).toNat=m-1:=fun h=>by omega
  refine j3 ?_; refine b8.gd rfl rfl rfl (AD rfl id rfl uu (fun hp=>by simp at hp; omega)) rfl rfl ?_
  first | refine b8.gd rfl rfl rfl (D8 rfl id rfl id rfl (fun hp=>by simp at hp; omega)) rfl rfl ?_ | refine b8.gd rfl rfl rfl (R2 rfl id rfl id rfl (fun hp=>by simp at hp; omega)) rfl rfl ?_
  refine n7 ?_; refine Tr.cnd rfl ?_ ?_
  ·intro h2
   try simp only[decide_eq_true_eq,Bool.and_eq_true] at h2
   refine l7 ?_
   exact g6.lp (m-1) ⟨by omega,fun i h3 h4=>by (by_cases e:i=m-1; subst e; rw[<- e1 zo]; exact h2.2; exact hz i zo h4)⟩ zo (d8.mk (.i rfl zi<|zk) (.nil) rfl)
  ·intro h2
   try simp only[decide_eq_true_eq,decide_eq_false_iff_not,Bool.and_eq_false_imp] at h2
   refine i1 ?_
   exact g6.cut (m) ⟨hm,EB hm hz (by by_cases e:m=0; exact .inl e; exact .inr (by rw[<- e1 zo]; exact h2 zo))⟩ (d8.mk (.i rfl zi<|zk) (.nil) rfl)
 ·rintro m ⟨hm,hE⟩
  refine jn ?_
  have htl:=R8 (xs:=xs)
  have hz0:([]:List Int).length=0:=rfl
  have htk:(xs.take m).length=m:=by rw[List.length_take]; omega
  have e2:((m:Nat):Int).toNat=m:=rfl
  refine g8 ?_; refine b8.new (DR eI 18) rfl rfl rfl rfl ?_; refine g8 ?_; refine tO (FH rfl uu rfl uu (fun _=>zo)) rfl rfl ?_; refine b8.app rfl rfl rfl rfl rfl rfl rfl rfl (by rw[e2]; omega) (by rw[e2]; omega) ?_; refine jl ?_; refine j5 ?_; refine Tr.frz 18 [2] ⟨rfl,trivial⟩ (by rw[e2]; simp only[q7]; omega) rfl ?_; refine i6 ?_; exact f0.res1 (fn:=Tryz.f175) rfl (.r rfl (by rw[List.nil_append,hE]; rfl)<|.nil)

theorem mG (xs:List Int) (hn:xs.length<=10000000):Q0 Tryz.prog 175 [b7 (eL eI) xs] (fun t=>o7 t (j9 xs).length) (l3 false 3 eI (j9 xs) (j9 xs).length):=by
 refine Q0.mk Tryz.func175 rfl Tryz.ntmps175 rfl (fun w J=>?_); refine w3 ?_
 refine Tr.for (σ:=Nat) [⟨0,true,_,_⟩] [] (fun m=>[⟨3,true,[],kI (m:Int)⟩]) (fun m=>[]) (fun m=>m<=xs.length/\∀i,m<=i->i<xs.length->b6 xs i=0) (fun m=>m<=xs.length/\j9 xs=xs.take m) (fun m=>m) (xs.length) ⟨by omega,fun i h1 h2=>absurd h1 zo⟩ (d8.mk (.i rfl zi<|zk) (.nil) rfl) ?_ ?_
 ·rintro m ⟨hm,hz⟩
  refine jn ?_
  have e1:0<m->((m:Int)-1).toNat=m-1:=fun h=>by omega
  refine j3 ?_; refine b8.gd rfl rfl rfl (AD rfl id rfl uu (fun hp=>by simp at hp; omega)) rfl rfl ?_
  first | refine b8.gd rfl rfl rfl (D8 rfl id rfl id rfl (fun hp=>by simp at hp; omega)) rfl rfl ?_ | refine b8.gd rfl rfl rfl (R2 rfl id rfl id rfl (fun hp=>by simp at hp; omega)) rfl rfl ?_
  refine n7 ?_; refine Tr.cnd rfl ?_ ?_
  ·intro h2
   try simp only[decide_eq_true_eq,Bool.and_eq_true] at h2
   refine l7 ?_
   exact g6.lp (m-1) ⟨by omega,fun i h3 h4=>by (by_cases e:i=m-1; subst e; rw[<- e1 zo]; exact h2.2; exact hz i zo h4)⟩ zo (d8.mk (.i rfl zi<|zk) (.nil) rfl)
  ·intro h2
   try simp only[decide_eq_true_eq,decide_eq_false_iff_not,Bool.and_eq_false_imp] at h2
   refine i1 ?_
   exact g6.cut (m) ⟨hm,EB hm hz (by by_cases e:m=0; exact .inl e; exact .inr (by rw[<- e1 zo]; exact h2 zo))⟩ (d8.mk (.i rfl zi<|zk) (.nil) rfl)
 ·rintro m ⟨hm,hE⟩
  refine jn ?_
  have htl:=R8 (xs:=xs)
  have hz0:([]:List Int).length=0:=rfl
  have htk:(xs.take m).length=m:=by rw[List.length_take]; omega
  have e2:((m:Nat):Int).toNat=m:=rfl
  refine g8 ?_; refine b8.new (DR eI 18) rfl rfl rfl rfl ?_; refine g8 ?_; refine tO (FH rfl uu rfl uu (fun _=>zo)) rfl rfl ?_; refine b8.app rfl rfl rfl rfl rfl rfl rfl rfl (by rw[e2]; omega) (by rw[e2]; omega) ?_; refine jl ?_; refine i1 ?_; exact f0.resN (fn:=Tryz.f175) (u:=18) rfl rfl (ES (by rw[List.nil_append,hE]; rfl) (by rw[hE,e2]; omega)) (FI (by rw[hE,e2]; omega)) inferInstance

theorem MD (xs:List Int) (neg:Bool) (hn:xs.length<=10000000) (hx:PY xs):Ct Tryz.prog 176 [b7 (eL eI) xs,kB neg] (b7 (eL eI) (R7 xs neg)):=by
 have htl:=R8 (xs:=xs)
 refine Ct.mk Tryz.func176 rfl Tryz.ntmps176 rfl (fun w J=>?_); refine j3 ?_; refine b8.new (CK 8 (fun hp=>mG _ zo) (.a rfl uu<|.nil)) rfl rfl rfl rfl ?_; refine l7 ?_
 refine Tr.for1 (σ:=Nat) [⟨1,true,_,_⟩,⟨5,true,_,_⟩] [] (fun i=>[⟨6,true,[],kI (i:Int)⟩]) (fun i=>[⟨8,[],l3 false 3 eI (N7 (j9 xs) i) (j9 xs).length⟩]) (fun i=>i<=(j9 xs).length/\(0<i->neg=true)) (fun i=>i<=(j9 xs).length/\N7 (j9 xs) i=R7 xs neg) (fun i=>(j9 xs).length-i) (0) ⟨by omega,fun h=>absurd h zo⟩ (d8.mk (.i rfl zi<|zk) (.a TQ zi<|.nil) rfl) ?_ ?_
 ·rintro i ⟨hi,hg⟩
  refine jn ?_
  have hat:=fun (h:i<(j9 xs).length)=>TP (ds:=j9 xs) (k:=i) h
  have hxi:=fun (h:i<(j9 xs).length)=>hx _ (PH (G5 h))
  refine n7 ?_; refine tO (U8 rfl uu) rfl rfl ?_; refine l5 ?_; refine Tr.cnd rfl ?_ ?_
  ·intro h3
   try simp only[decide_eq_true_eq,Bool.and_eq_true] at h3
   refine B0 ?_; refine tO (FG rfl uu (fun _=>zo)) rfl rfl ?_; refine t6 ?_
   exact g6.lp (i+1) ⟨by omega,fun _=>h3.2⟩ zo (d8.mk (.i rfl zi<|zk) (.a (bV zo) zi<|.nil) rfl)
  ·intro h3
   try simp only[decide_eq_true_eq,Bool.and_eq_false_imp] at h3
   refine i1 ?_
   exact g6.cut (i) ⟨hi,uI hi hg (fun hh=>h3 zo)⟩ (d8.mk (.i rfl zi<|zk) (.a zi zi<|.nil) rfl)
 ·rintro i ⟨hi,hE⟩
  refine je ?_; refine j8 ?_; refine Tr.frz 8 [4] ⟨rfl,trivial⟩ (by simp only[q7]; omega) rfl ?_; refine i6 ?_; exact f0.res1 (fn:=Tryz.f176) rfl (.r rfl hE<|.nil)

set_option maxHeartbeats 1000000 in
theorem W9 (xs:List Int) (hx:B6 xs) (hn:xs.length<=1000000):Ct Tryz.prog 128 [b7 (eL eI) xs] (b7 (eL eI) (j2 (val xs))):=by
 have h1l:([1]:List Int).length=1:=rfl
 refine Ct.mk Tryz.func128 rfl Tryz.ntmps128 rfl (fun w J=>?_); refine SV ?_; refine Tr.grow (s:=3) rfl rfl 3 rfl 3 eI rfl ?_
 refine Tr.for1 (σ:=Nat) [⟨0,true,_,_⟩] [] (fun i=>[⟨5,true,[],kI (i:Int)⟩,⟨3,true,[3],o7 3 i⟩,⟨4,true,[],kI (q8 xs i).2⟩]) (fun i=>[⟨3,[],l3 true 3 eI (q8 xs i).1 i⟩]) (fun i=>i<=xs.length) (fun i=>i=xs.length) (fun i=>xs.length-i) (0) (Nat.zero_le _) (d8.mk (.i rfl zi<|.o rfl zi rfl<|.i rfl zi<|zk) (.a zi zi<|.nil) rfl) ?_ ?_
 ·intro i hR0
  refine jn ?_
  have hc1:=KD hx (i:=i)
  have hxx:=hx i
  have hs:=dM (xs:=xs) (i:=i)
  have hxi:=fun (h:i<xs.length)=>P7 h
  refine l7 ?_; refine jq ?_ ?_
  ·intro h4
   refine t6 ?_; refine tO (i9 (fun hp=>RG _ (by have:=hxx zo; omega)) (.a rfl uu<|.nil)) rfl rfl ?_; refine w3 ?_; refine tO (i9 (fun hp=>RG _ zo) (.a rfl uu<|.nil)) rfl rfl ?_; refine B0 ?_; refine b8.new (A1 eI 39 (fun hp=>.cons rfl<|.nil) rfl rfl rfl rfl) rfl rfl rfl rfl ?_; refine i6 ?_; refine jl ?_; refine Z5 ?_
   exact g6.lp (i+1) zi zo (d8.mk (.i rfl zi<|.o rfl zi rfl<|.i rfl (by rw[<- hs.1,hxi zo])<|zk) (.a (by rw[q8,<- hs.2,hxi zo]) zi<|.nil) rfl)
  ·intro h4
   replace h4:=Int.not_lt.1 h4
   refine i1 ?_
   exact g6.cut (i) zo (d8.mk (.i rfl zi<|.o rfl zi rfl<|.i rfl zi<|zk) (.a zi zi<|.nil) rfl)
 ·rintro _ rfl
  refine je ?_; refine i6 ?_
  refine Tr.for (σ:=Nat) [] [] (fun i=>[⟨3,true,[3],o7 3 i⟩,⟨4,true,[],kI (q8 xs i).2⟩]) (fun i=>[⟨3,[],l3 true 3 eI (q8 xs i).1 i⟩]) (fun i=>xs.length<=i/\(i=xs.length\/(i=xs.length+1/\(q8 xs i).2.natAbs<=2000)\/(i=xs.length+2/\((q8 xs i).2=0\/(q8 xs i).2=-1)))) (fun i=>xs.length<=i/\((q8 xs i).2=0\/(q8 xs i).2=-1)/\i<=xs.length+2) (fun i=>xs.length+2-i) (xs.length) ⟨zo,zo⟩ (d8.mk (.o rfl zi rfl<|.i rfl zi<|.nil) (.a zi zi<|.nil) rfl) ?_ ?_
  ·rintro i ⟨hi,hm⟩
   refine jn ?_
   have hc1:=KD hx (i:=i)
   have hxo:=FT (xs:=xs) (i:=i) zo
   have hs2:(q8 xs (i+1)).2=(w8 xs i+(q8 xs i).2)/100000000:=rfl
   rw[hxo,Int.zero_add] at hs2
   have hrl:(q8 xs i).1.length=i:=T6
   refine B0 ?_; refine Tr.cnd rfl ?_ ?_
   ·intro h10
    try simp only[decide_eq_true_eq,Bool.and_eq_true,ne_eq] at h10
    refine l5 ?_; refine tO (i9 (fun hp=>RG _ zo) (.a rfl uu<|.nil)) rfl rfl ?_; refine B0 ?_; refine b8.new (A1 eI 57 (fun hp=>.cons rfl<|.nil) rfl rfl rfl rfl) rfl rfl rfl rfl ?_; refine i6 ?_; refine jl ?_; refine j3 ?_
    exact g6.lp (i+1) ⟨zo,zo⟩ zo (d8.mk (.o rfl zi rfl<|.i rfl hs2.symm<|.nil) (.a (by rw[q8,hxo,Int.zero_add]) zi<|.nil) rfl)
   ·intro h10
    try simp only[decide_eq_true_eq,decide_eq_false_iff_not,Bool.and_eq_false_imp,ne_eq,Classical.not_not] at h10
    refine i1 ?_
    exact g6.cut (i) ⟨hi,by omega,by omega⟩ (d8.mk (.o rfl zi rfl<|.i rfl zi<|.nil) (.a zi zi<|.nil) rfl)
  ·rintro i ⟨hi,hc,hb⟩
   refine jn ?_
   have hrl:(q8 xs i).1.length=i:=T6
   refine j8 ?_; refine jq ?_ ?_
   ·intro h14
    refine j5 ?_; refine b8.frz 3 [3,62] ⟨rfl,rfl,trivial⟩ (by simp only[q7]; omega) rfl ?_; refine jl ?_; refine tO (i9 (fun hp=>RH _ zo) (.a rfl uu<|.nil)) rfl rfl ?_; refine n7 ?_; exact f0.res1 (fn:=Tryz.f128) rfl (.r rfl (rG hi h14)<|.nil)
   ·intro h14
    refine GX ?_; refine Tr.grow (s:=12) rfl rfl 12 rfl 3 eI rfl ?_
    refine Tr.for1 (σ:=Nat) [⟨3,true,_,_⟩] [⟨3,_,_⟩] (fun k=>[⟨14,true,[],kI (k:Int)⟩,⟨12,true,[12],o7 12 k⟩,⟨13,true,[],kI (bw (q8 xs i).1 k)⟩]) (fun k=>[⟨12,[],l3 true 3 eI (l6 k (M3 (q8 xs i).1)) k⟩]) (fun k=>k<=i) (fun k=>k=i) (fun k=>i-k) (0) (Nat.zero_le _) (d8.mk (.i rfl zi<|.o rfl zi rfl<|.i rfl zi<|zk) (.a zi zi<|zk) rfl) ?_ ?_
    ·intro k hR2
     refine jn ?_
     have hl:(q8 xs i).1.length=i:=T6
     have hd:=fun (h:k<i)=>(V1 (xs:=xs) (i:=i)).at (i:=k) zo
     have hb01:=IT (ds:=(q8 xs i).1) (k:=k)
     have hbs:=QM (ds:=(q8 xs i).1) (k:=k)
     refine n7 ?_; refine tO (U8 rfl uu) rfl rfl ?_; refine j5 ?_; refine jq ?_ ?_
     ·intro h19
      refine t6 ?_; refine tO (FG rfl uu (fun _=>zo)) rfl rfl ?_; refine T0 ?_; refine jq ?_ ?_
      ·intro h23
       refine t6 ?_; refine b8.new (A1 eI 83 (fun hp=>.cons rfl<|.nil) rfl rfl rfl rfl) rfl rfl rfl rfl ?_; refine i6 ?_; refine jl ?_; refine l7 ?_
       exact g6.lp (k+1) zi zo (d8.mk (.i rfl zi<|.o rfl zi rfl<|.i rfl (by rw[hbs,if_pos h23])<|zk) (.a (by rw[F9]; congr 2; unfold M3; rw[if_pos h23]) zi<|zk) rfl)
      ·intro h23
       replace h23:=Int.not_lt.1 h23
       refine n7 ?_; refine b8.new (A1 eI 83 (fun hp=>.cons rfl<|.nil) rfl rfl rfl rfl) rfl rfl rfl rfl ?_; refine i6 ?_; refine jl ?_; refine l7 ?_
       exact g6.lp (k+1) zi zo (d8.mk (.i rfl zi<|.o rfl zi rfl<|.i rfl (by rw[hbs,if_neg zo])<|zk) (.a (by rw[F9]; congr 2; unfold M3; rw[if_neg zo]) zi<|zk) rfl)
     ·intro h19
      replace h19:=Int.not_lt.1 h19
      refine i1 ?_
      exact g6.cut (k) zo (d8.mk (.i rfl zi<|.o rfl zi rfl<|.i rfl zi<|zk) (.a zi zi<|zk) rfl)
    ·rintro _ rfl
     refine je ?_; refine j3 ?_; refine jq ?_ ?_
     ·intro h26
      refine g8 ?_; refine b8.new (A1 eI 88 (fun hp=>.cons rfl<|.nil) rfl rfl rfl rfl) rfl rfl rfl rfl ?_; refine i6 ?_; refine jl ?_; refine l5 ?_; refine b8.frz 12 [12,89,90] ⟨rfl,rfl,rfl,trivial⟩ (by simp only[q7]; omega) rfl ?_; refine jl ?_
      refine tO (i9 (fun hp=>MD _ true (by first | (rw[q9]; omega) | (rw[List.length_append,q9]; omega)) (by first | exact (LN V1 T6.symm).sm | exact ((LN V1 T6.symm).snoc zo zo).sm)) (.a rfl uu<|.a rfl uu<|.nil)) rfl rfl ?_
      refine i1 ?_; exact f0.res1 (fn:=Tryz.f128) rfl (.r rfl (rE hi zo zo)<|.nil)
     ·intro h26
      refine n7 ?_; refine b8.frz 12 [12,90] ⟨rfl,rfl,trivial⟩ (by simp only[q7]; omega) rfl ?_; refine jl ?_
      refine tO (i9 (fun hp=>MD _ true (by first | (rw[q9]; omega) | (rw[List.length_append,q9]; omega)) (by first | exact (LN V1 T6.symm).sm | exact ((LN V1 T6.symm).snoc zo zo).sm)) (.a rfl uu<|.a rfl uu<|.nil)) rfl rfl ?_
      refine i1 ?_; exact f0.res1 (fn:=Tryz.f128) rfl (.r rfl (rF hi zo zo)<|.nil)

end Go.Fl

/- Contracts: integers of the reference of chapter 1 (signs, sums, products). -/
namespace Go.Fl
open Go Go.Proofs
open b8 renaming op->tO
open i7 renaming op->rO
set_option maxRecDepth 100000

theorem GN (z:Int):Ct Tryz.prog 129 [b7 (eL eI) (j2 z)] (kB (decide (z<0))):=by
 refine Ct.mk Tryz.func129 rfl Tryz.ntmps129 rfl (fun w J=>?_); refine Tr.fact (s:=0) rfl (fun _ _ h=>P0 h) (fun hb=>?_); refine C6 ?_; refine b8.gd rfl rfl rfl (AD rfl id rfl uu (fun hp=>by simp at hp; omega)) rfl rfl ?_
 first | refine b8.gd rfl rfl rfl (D8 rfl id rfl id rfl (fun hp=>by simp at hp; omega)) rfl rfl ?_ | refine b8.gd rfl rfl rfl (R2 rfl id rfl id rfl (fun hp=>by simp at hp; omega)) rfl rfl ?_
 refine j8 ?_; exact f0.res1 (fn:=Tryz.f129) rfl (.b rfl (qZ fun h=>qB h)<|.nil)

theorem JA (z:Int) (hn:dl z<=10000000):Ct Tryz.prog 178 [b7 (eL eI) (j2 z)] (b7 (eL eI) (d7 z.natAbs)):=by
 refine Ct.mk Tryz.func178 rfl Tryz.ntmps178 rfl (fun w J=>?_); refine l7 ?_; refine tO (i9 (fun hp=>GN _) (.a rfl uu<|.nil)) rfl rfl ?_; refine tO (i9 (fun hp=>MD _ _ (by rw[C9]; exact hn) (bH z)) (.a rfl uu<|.a rfl uu<|.nil)) rfl rfl ?_; refine i1 ?_; exact f0.res1 (fn:=Tryz.f178) rfl (.r rfl (uN z)<|.nil)

theorem mH (a b:List Int) (ha:Nm a) (hb:Nm b) (hm:a.length<=10000000) (_:b.length<=10000000):Ct Tryz.prog 198 [b7 (eL eI) a,b7 (eL eI) b] (kB (decide (val a<val b))):=by
 refine Ct.mk Tryz.func198 rfl Tryz.ntmps198 rfl (fun w J=>?_); refine L3 ?_; refine jq ?_ ?_
 ·intro h1
  refine w3 ?_; exact f0.res1 (fn:=Tryz.f198) rfl (.b rfl (pS ha hb zo)<|.nil)
 ·intro h1
  replace h1:=Classical.not_not.1 h1
  refine B0 ?_
  refine Tr.for1 (σ:=Nat) [⟨0,true,_,_⟩,⟨1,true,_,_⟩] [] (fun i=>[⟨5,true,[],kI ((i:Int)-1)⟩]) (fun i=>[]) (fun i=>i<=a.length/\∀j,i<=j->j<a.length->b6 a j=b6 b j) (fun i=>i=0/\∀j,i<=j->j<a.length->b6 a j=b6 b j) (fun i=>i) (a.length) ⟨by omega,fun j h1 h2=>absurd h1 zo⟩ (d8.mk (.i rfl zi<|zk) (.nil) rfl) ?_ ?_
  ·rintro i ⟨hi,hR⟩
   refine jn ?_
   have e1:((i:Int)-1).toNat=i-1:=by omega
   refine j8 ?_; refine jq ?_ ?_
   ·intro h4
    refine n7 ?_; refine Tr.draw 8 p7 (by kernel_rfl) ?_; refine w3 ?_; refine jq ?_ ?_
    ·intro h6
     refine i6 ?_; refine Tr.draw 8 p7 (by kernel_rfl) ?_; refine JK ?_; exact f0.res1 (fn:=Tryz.f198) rfl (.b rfl (by rw[e1]; exact pR ha.dg hb.dg zo zo (fun j h1 h2=>hR j zo h2) (by rw[<- e1]; exact h6))<|.nil)
    ·intro h6
     replace h6:=Classical.not_not.1 h6
     refine j3 ?_
     exact g6.lp (i-1) ⟨by omega,fun j h1 h2=>by (by_cases e:j=i-1; subst e; rw[<- e1]; exact h6; exact hR j zo h2)⟩ zo (d8.mk (.i rfl zi<|zk) (.nil) rfl)
   ·intro h4
    replace h4:=Int.not_le.1 h4
    refine i1 ?_
    exact g6.cut (i) ⟨by omega,hR⟩ (d8.mk (.i rfl zi<|zk) (.nil) rfl)
  ·rintro i ⟨hi,hR⟩
   refine je ?_; refine j8 ?_; exact f0.res1 (fn:=Tryz.f198) rfl (.b rfl (by subst hi; exact pQ zo hR)<|.nil)

set_option maxHeartbeats 1000000 in
theorem RE (xs ys:List Int) (hx:B6 xs) (hy:B6 ys) (hn:xs.length<=900000) (hm:ys.length<=900000):Ct Tryz.prog 122 [b7 (eL eI) xs,b7 (eL eI) ys] (b7 (eL eI) (j2 (val xs+val ys))):=by
 have hdx:=M5 hx
 have hdy:=M5 hy
 have hlx:=C9 (val xs)
 have hly:=C9 (val ys)
 refine Ct.mk Tryz.func122 rfl Tryz.ntmps122 rfl (fun w J=>?_); refine j3 ?_; refine tO (i9 (fun hp=>W9 _ (by assumption) zo) (.a rfl uu<|.nil)) rfl rfl ?_; refine i6 ?_; refine tO (i9 (fun hp=>W9 _ (by assumption) zo) (.a rfl uu<|.nil)) rfl rfl ?_; refine L3 ?_; refine Tr.grow (s:=5) rfl rfl 5 rfl 3 eI rfl ?_
 refine Tr.for1 (σ:=Nat) [⟨0,true,_,_⟩,⟨1,true,_,_⟩] [] (fun i=>[⟨5,true,[5],o7 5 i⟩,⟨6,true,[],kI (i:Int)⟩]) (fun i=>[⟨5,[],l3 true 3 eI (EO (j2 (val xs)) (j2 (val ys)) i) i⟩]) (fun i=>i<=max (j2 (val xs)).length (j2 (val ys)).length) (fun i=>i=max (j2 (val xs)).length (j2 (val ys)).length) (fun i=>max (j2 (val xs)).length (j2 (val ys)).length-i) (0) zo (d8.mk (.o rfl zi rfl<|.i rfl zi<|zk) (.a zi zi<|.nil) rfl) ?_ ?_
 ·intro i hR0
  refine jn ?_
  have hbx:=fun (h:i<(j2 (val xs)).length)=>CH h
  have hby:=fun (h:i<(j2 (val ys)).length)=>CH h
  have hxi:=fun (h:i<(j2 (val xs)).length)=>P7 h
  have hyi:=fun (h:i<(j2 (val ys)).length)=>P7 h
  have hxo:=fun (h:¬i<(j2 (val xs)).length)=>FT h
  have hyo:=fun (h:¬i<(j2 (val ys)).length)=>FT h
  refine L3 ?_; refine Tr.cnd rfl ?_ ?_
  ·intro h4
   try simp only[decide_eq_true_eq,Bool.or_eq_true] at h4
   refine l7 ?_; refine Tr.meet2 (σ:=Unit) [⟨0,true,_,_⟩,⟨1,true,_,_⟩,⟨5,true,_,_⟩,⟨6,true,_,_⟩] [⟨5,_,_⟩] (zk) (zk) (fun _=>[⟨7,true,[],kI (w8 (j2 (val xs)) i)⟩]) (fun _=>[]) (fun _=>True) ?_ ?_
   ·skip
    refine j3 ?_; refine jq ?_ ?_
    ·intro h7
     refine j8 ?_
     exact g6.cut (()) zi (d8.mk (.i rfl (hxi zo).symm<|zk) (zk) rfl)
    ·intro h7
     replace h7:=Int.not_lt.1 h7
     refine i6 ?_
     exact g6.cut (()) zi (d8.mk (.i rfl (hxo zo).symm<|zk) (zk) rfl)
   ·intro _ hM
    refine jn ?_; refine Tr.meet2 (σ:=Unit) [⟨0,true,_,_⟩,⟨1,true,_,_⟩,⟨5,true,_,_⟩,⟨6,true,_,_⟩] [⟨5,_,_⟩] (zk) (zk) (fun _=>[⟨7,true,[],kI (w8 (j2 (val xs)) i+w8 (j2 (val ys)) i)⟩]) (fun _=>[]) (fun _=>True) ?_ ?_
    ·skip
     refine j3 ?_; refine jq ?_ ?_
     ·intro h9
      refine i6 ?_
      have hxb:-100000000<w8 (j2 (val xs)) i/\w8 (j2 (val xs)) i<100000000:=by (by_cases hh:i<(j2 (val xs)).length; rw[hxi hh]; exact hbx hh; rw[hxo hh]; omega)
      refine j3 ?_
      exact g6.cut (()) zi (d8.mk (.i rfl (by rw[hyi zo])<|zk) (zk) rfl)
     ·intro h9
      replace h9:=Int.not_lt.1 h9
      refine i6 ?_
      exact g6.cut (()) zi (d8.mk (.i rfl (by rw[hyo zo,Int.add_zero])<|zk) (zk) rfl)
    ·intro _ hM
     refine jn ?_; refine j5 ?_; refine b8.new (A1 eI 44 (fun hp=>.cons rfl<|.nil) rfl rfl rfl rfl) rfl rfl rfl rfl ?_; refine i6 ?_; refine jl ?_; refine l7 ?_
     exact g6.lp (i+1) zo zo (d8.mk (.o rfl zi rfl<|.i rfl zi<|zk) (.a (by unfold EO; rw[F9]) zi<|.nil) rfl)
  ·intro h4
   try simp only[decide_eq_false_iff_not,Bool.or_eq_false_iff,Int.not_lt] at h4
   refine i1 ?_
   exact g6.cut (i) zo (d8.mk (.o rfl zi rfl<|.i rfl zi<|zk) (.a zi zi<|.nil) rfl)
 ·rintro _ rfl
  refine je ?_
  have hxl:=Nat.le_max_left (j2 (val xs)).length (j2 (val ys)).length
  have hyl:=Nat.le_max_right (j2 (val xs)).length (j2 (val ys)).length
  have hal:(EO (j2 (val xs)) (j2 (val ys)) (max (j2 (val xs)).length (j2 (val ys)).length)).length=max (j2 (val xs)).length (j2 (val ys)).length:=q9
  refine i1 ?_; refine b8.frz 5 [5,46] ⟨rfl,rfl,trivial⟩ (by simp only[q7]; omega) rfl ?_; refine jl ?_; refine tO (i9 (fun hp=>W9 _ gX zo) (.a rfl uu<|.nil)) rfl rfl ?_; refine i1 ?_; exact f0.res1 (fn:=Tryz.f122) rfl (.r rfl (by rw[gY hxl hyl,H8,H8])<|.nil)

theorem EV (xs:List Int) (hx:B6 xs) (hn:xs.length<=1000000):Ct Tryz.prog 136 [b7 (eL eI) xs] (b7 (eL eI) (j2 (-val xs))):=by
 have hdx:=M5 hx
 refine Ct.mk Tryz.func136 rfl Tryz.ntmps136 rfl (fun w J=>?_); refine j3 ?_; refine tO (i9 (fun hp=>W9 _ (by assumption) zo) (.a rfl uu<|.nil)) rfl rfl ?_; refine tO (i9 (fun hp=>MD _ true (by rw[C9]; omega) (bH _)) (.a rfl uu<|.a rfl uu<|.nil)) rfl rfl ?_; refine i1 ?_; exact f0.res1 (fn:=Tryz.f136) rfl (.r rfl (uM _)<|.nil)

theorem YF (xs ys:List Int) (hx:B6 xs) (hy:B6 ys) (hn:xs.length<=800000) (hm:ys.length<=800000):Ct Tryz.prog 145 [b7 (eL eI) xs,b7 (eL eI) ys] (b7 (eL eI) (j2 (val xs-val ys))):=by
 have hdx:=M5 hx
 have hdy:=M5 hy
 have hlx:=C9 (val xs)
 have hly:=C9 (val ys)
 refine Ct.mk Tryz.func145 rfl Tryz.ntmps145 rfl (fun w J=>?_); refine l7 ?_; refine tO (i9 (fun hp=>EV _ (by assumption) zo) (.a rfl uu<|.nil)) rfl rfl ?_; refine tO (i9 (fun hp=>RE xs (j2 (-val ys)) (by assumption) (T2 _) zo (by rw[C9,J5]; omega)) (.a rfl uu<|.a rfl uu<|.nil)) rfl rfl ?_; refine i1 ?_; exact f0.res1 (fn:=Tryz.f145) rfl (.r rfl (by rw[H8,Int.sub_eq_add_neg])<|.nil)

set_option maxHeartbeats 1000000 in
theorem YC (xs ys:List Int) (hx:B6 xs) (hy:B6 ys) (hn:xs.length<=400000) (hm:ys.length<=400000):Ct Tryz.prog 123 [b7 (eL eI) xs,b7 (eL eI) ys] (b7 (eL eI) (j2 (val xs*val ys))):=by
 have hdx:=M5 hx
 have hdy:=M5 hy
 have hlx:=C9 (val xs)
 have hly:=C9 (val ys)
 refine Ct.mk Tryz.func123 rfl Tryz.ntmps123 rfl (fun w J=>?_); refine j3 ?_; refine tO (i9 (fun hp=>W9 _ (by assumption) zo) (.a rfl uu<|.nil)) rfl rfl ?_; refine i6 ?_; refine tO (i9 (fun hp=>W9 _ (by assumption) zo) (.a rfl uu<|.nil)) rfl rfl ?_; refine L3 ?_
 refine Tr.for1 (σ:=Nat) [⟨0,true,_,_⟩,⟨1,true,_,_⟩] [] (fun i=>[⟨6,true,[],kI (i:Int)⟩,⟨5,true,[],b7 (eL eI) (j2 (val ((j2 (val xs)).take i)*val (j2 (val ys))))⟩]) (fun i=>[]) (fun i=>i<=(j2 (val xs)).length) (fun i=>i=(j2 (val xs)).length) (fun i=>(j2 (val xs)).length-i) (0) (Nat.zero_le _) (d8.mk (.i rfl zi<|.n rfl (by simp[val,qF])<|zk) (.nil) rfl) ?_ ?_
 ·intro i hR0
  refine jn ?_
  have hbx:=fun (h:i<(j2 (val xs)).length)=>CH h
  have hdo:=u7 (val ((j2 (val xs)).take i)) (val (j2 (val ys)))
  have hdt:=M5 ((T2 (val xs)).take i)
  have htl:((j2 (val xs)).take i).length<=i:=by rw[List.length_take]; omega
  have hdv:dl (val (j2 (val ys)))=dl (val ys):=by rw[H8]
  refine l7 ?_; refine jq ?_ ?_
  ·intro h4
   refine j8 ?_; refine b8.new (AB eI 20 rfl uu rfl uu rfl rfl rfl (fun _=>zo)) rfl rfl rfl rfl ?_; refine l7 ?_
   refine Tr.for1 (σ:=Nat) [⟨0,true,_,_⟩,⟨1,true,_,_⟩,⟨5,true,_,_⟩,⟨6,true,_,_⟩] [] (fun k=>[⟨8,true,[],kI (k:Int)⟩,⟨7,true,[20],o7 20 (i+k)⟩]) (fun k=>[⟨20,[],l3 false 3 eI (M7 (j2 (val xs)) (j2 (val ys)) i k) (i+k)⟩]) (fun k=>k<=(j2 (val ys)).length) (fun k=>k=(j2 (val ys)).length) (fun k=>(j2 (val ys)).length-k) (0) (Nat.zero_le _) (d8.mk (.i rfl zi<|.o rfl zi rfl<|zk) (.a qS zi<|.nil) rfl) ?_ ?_
   ·intro k hR1
    refine jn ?_
    have hby:=fun (h:k<(j2 (val ys)).length)=>CH h
    have hb:=fun (h:i<(j2 (val xs)).length) (h2:k<(j2 (val ys)).length)=>bL (CH h) (CH h2)
    refine l7 ?_; refine jq ?_ ?_
    ·intro h8
     refine i1 ?_; refine Tr.draw 11 p7 (by kernel_rfl) ?_
     have hbb:=hb zo zo
     refine t6 ?_; refine i7.new (A1 eI 37 (fun hp=>.cons rfl<|.nil) rfl rfl rfl rfl) rfl rfl rfl rfl ?_; refine g8 ?_; refine jl ?_; refine l7 ?_
     exact g6.lp (k+1) zi zo (d8.mk (.i rfl zi<|.o rfl zi rfl<|zk) (.a qQ zi<|.nil) rfl)
    ·intro h8
     replace h8:=Int.not_lt.1 h8
     refine i1 ?_
     exact g6.cut (k) zo (d8.mk (.i rfl zi<|.o rfl zi rfl<|zk) (.a zi zi<|.nil) rfl)
   ·rintro _ rfl
    refine je ?_
    have hrl:=TH (xs:=(j2 (val xs))) (ys:=(j2 (val ys))) (i:=i) (k:=(j2 (val ys)).length)
    refine i1 ?_; refine b8.frz 20 [7,40] ⟨rfl,rfl,trivial⟩ (by simp only[q7]; omega) rfl ?_; refine jl ?_; refine tO (i9 (fun hp=>RE _ (M7 (j2 (val xs)) (j2 (val ys)) i (j2 (val ys)).length) (T2 _) (qP zo (Nat.le_refl _)) (by rw[C9]; omega) (by rw[hrl]; omega)) (.a rfl uu<|.a rfl uu<|.nil)) rfl rfl ?_; refine l7 ?_
    exact g6.lp (i+1) zi zo (d8.mk (.i rfl zi<|.r rfl (by rw[H8,qU zo])<|zk) (.nil) rfl)
  ·intro h4
   replace h4:=Int.not_lt.1 h4
   refine i1 ?_
   exact g6.cut (i) zo (d8.mk (.i rfl zi<|.r rfl zi<|zk) (.nil) rfl)
 ·rintro _ rfl
  refine je ?_
  have hfin:val ((j2 (val xs)).take (j2 (val xs)).length)=val xs:=by rw[List.take_length,H8]
  refine i1 ?_; refine tO (i9 (fun hp=>W9 _ (T2 _) (by rw[C9,hfin,H8]; have:=u7 (val xs) (val ys); omega)) (.a rfl uu<|.nil)) rfl rfl ?_; refine i1 ?_; exact f0.res1 (fn:=Tryz.f123) rfl (.r rfl (by rw[hfin,H8,H8])<|.nil)

theorem YE (xs:List Int) (hx:B6 xs) (hn:xs.length<=1000000):Ct Tryz.prog 75 [b7 (eL eI) xs] (kI (s7 (val xs) 0)):=by
 have hl0:=TF (z:=val xs)
 refine Ct.mk Tryz.func75 rfl Tryz.ntmps75 rfl (fun w J=>?_); refine j3 ?_; refine tO (i9 (fun hp=>W9 _ (by assumption) zo) (.a rfl uu<|.nil)) rfl rfl ?_; refine B0 ?_; refine jq ?_ ?_
 ·intro h2
  refine j8 ?_; exact f0.res1 (fn:=Tryz.f75) rfl (.i rfl (LO zo).symm<|.nil)
 ·intro h2
  refine l5 ?_; refine tO (i9 (fun hp=>GN _) (.a rfl uu<|.nil)) rfl rfl ?_; refine g8 ?_; refine Tr.cnd rfl ?_ ?_
  ·intro h4
   refine j8 ?_; exact f0.res1 (fn:=Tryz.f75) rfl (.i rfl (EU (of_decide_eq_true h4)).symm<|.nil)
  ·intro h4
   refine j3 ?_; exact f0.res1 (fn:=Tryz.f75) rfl (.i rfl (ET (by have:=of_decide_eq_false h4; omega)).symm<|.nil)

end Go.Fl

/- Contracts: the rational field is one. -/
namespace Go.Fl
open Go Go.Proofs
open b8 renaming op->tO
open i7 renaming op->rO
set_option maxRecDepth 100000

abbrev y4:=List Int×Int×Int×Int
def E3:i5 y4:=eC (fun v:y4=>(v.1,v.2.1,v.2.2.1,v.2.2.2,())) (eP (eL eI) (eP eI (eP eI (eP eI eU))))
instance {v:y4}:D5 (b7 E3 v) [b7 (eL eI) (v.1),kI (v.2.1),kI (v.2.2.1),kI (v.2.2.2)]:=inferInstanceAs (D5 (b7 (eC (fun v:y4=>(v.1,v.2.1,v.2.2.1,v.2.2.2,())) (eP (eL eI) (eP eI (eP eI (eP eI eU))))) v) _)
instance {v:y4} {tl:List d6}:I8 E3 v tl (b7 (eL eI) (v.1)::kI (v.2.1)::kI (v.2.2.1)::kI (v.2.2.2)::tl):=inferInstanceAs (I8 (eC (fun v:y4=>(v.1,v.2.1,v.2.2.1,v.2.2.2,())) (eP (eL eI) (eP eI (eP eI (eP eI eU))))) v tl _)
instance {v:y4}:O4 E3 v (b7 E3 v):=⟨fun h=>h⟩
instance {v:y4}:w6 E3 v 0 (eL eI) (v.1) 0:=inferInstanceAs (w6 (eC (fun v:y4=>(v.1,v.2.1,v.2.2.1,v.2.2.2,())) (eP (eL eI) (eP eI (eP eI (eP eI eU))))) v 0 _ _ _)
instance {v:y4}:w6 E3 v 1 eI (v.2.1) 1:=inferInstanceAs (w6 (eC (fun v:y4=>(v.1,v.2.1,v.2.2.1,v.2.2.2,())) (eP (eL eI) (eP eI (eP eI (eP eI eU))))) v 1 _ _ _)
instance {v:y4}:w6 E3 v 2 eI (v.2.2.1) 2:=inferInstanceAs (w6 (eC (fun v:y4=>(v.1,v.2.1,v.2.2.1,v.2.2.2,())) (eP (eL eI) (eP eI (eP eI (eP eI eU))))) v 2 _ _ _)
instance {v:y4}:w6 E3 v 3 eI (v.2.2.2) 3:=inferInstanceAs (w6 (eC (fun v:y4=>(v.1,v.2.1,v.2.2.1,v.2.2.2,())) (eP (eL eI) (eP eI (eP eI (eP eI eU))))) v 3 _ _ _)
instance {ks r:List d6} {a:List Int} {b c d:Int} [h:s8 ks (eP (eL eI) (eP eI (eP eI (eP eI eU)))) (a,b,c,d,()) r]:s8 ks E3 ((a,b,c,d)) r:=⟨fun h'=>h.imp h'⟩
def HU:y4:=([0,1],0,0,1)
def FJ (c:Int):Bool:=!decide (-1000<=c/\c<=1000)
theorem jV (xs:List Int) (f:FuncId) (q:Int->Bool) [d9 Tryz.prog f] (hf:∀x,Ct Tryz.prog f [kI x] (kB (q x))):Ct Tryz.prog 149 [b7 (eL eI) xs,j4 (.func (.func f) #[] #[])] (kI (DM q xs)):=by
 refine Ct.mk Tryz.func149 rfl Tryz.ntmps149 rfl (fun w J=>?_); refine Tr.fact (s:=0) rfl (fun _ _ h=>P0 h) (fun hb=>?_); refine B1 ?_
 refine Tr.for1 (σ:=Nat) [⟨0,true,_,_⟩,⟨1,true,_,_⟩,⟨7,true,_,_⟩] [] (fun k=>[⟨8,true,[],kI (k:Int)⟩]) (fun k=>[]) (fun k=>k<=xs.length/\∀i,i<k->q (b6 xs i)=false) (fun k=>∀i,i<xs.length->q (b6 xs i)=false) (fun k=>xs.length-k) (0) ⟨by omega,fun i h=>absurd h zo⟩ (d8.mk (.i rfl zi<|zk) (.nil) rfl) ?_ ?_
 ·rintro k ⟨hk,hR⟩
  refine jn ?_; refine l5 ?_; refine jq ?_ ?_
  ·intro h2
   refine T0 ?_; refine tO (HK rfl uu (fun hp=>hf _) (.a rfl uu<|.nil)) rfl rfl ?_; refine g8 ?_; refine Tr.cnd rfl ?_ ?_
   ·intro h4
    refine B1 ?_; exact f0.res1 (fn:=Tryz.f149) rfl (.i rfl (aE zo hR h4)<|.nil)
   ·intro h4
    refine j8 ?_
    exact g6.lp (k+1) ⟨by omega,fun i hi=>by (rcases Nat.lt_succ_iff_lt_or_eq.1 hi with h | h; exact hR i h; subst h; exact h4)⟩ zo (d8.mk (.i rfl zi<|zk) (.nil) rfl)
  ·intro h2
   replace h2:=Int.not_lt.1 h2
   refine i1 ?_
   exact g6.cut (k) (fun i hi=>hR i zo) (d8.mk (.i rfl zi<|zk) (.nil) rfl)
 ·intro k hE
  refine je ?_; refine j8 ?_; exact f0.res1 (fn:=Tryz.f149) rfl (.i rfl (aF hE)<|.nil)

theorem jS (xs:List Int) (f:FuncId) (q:Int->Bool) [d9 Tryz.prog f] (hf:∀x,Ct Tryz.prog f [kI x] (kB (q x))):Ct Tryz.prog 99 [b7 (eL eI) xs,j4 (.func (.func f) #[] #[])] (kB (xs.any q)):=by
 refine Ct.mk Tryz.func99 rfl Tryz.ntmps99 rfl (fun w J=>?_); refine l7 ?_; refine tO (i9 (fun hp=>jV _ f q hf) (.a rfl uu<|.a rfl uu<|.nil)) rfl rfl ?_; refine n7 ?_; exact f0.res1 (fn:=Tryz.f99) rfl (.b rfl aG<|.nil)

theorem GM (n a b:Int):Ct Tryz.prog 186 [kI n,kI a,kI b] (kB (decide (a<=n/\n<=b))):=by
 refine Ct.mk Tryz.func186 rfl Tryz.ntmps186 rfl (fun w J=>?_); refine JJ ?_; exact f0.res1 (fn:=Tryz.f186) rfl (.b rfl (by symm; exact Bool.decide_and _ _)<|.nil)

theorem kQ (c:Int):Ct Tryz.prog 187 [kI c] (kB (FJ c)):=by
 refine Ct.mk Tryz.func187 rfl Tryz.ntmps187 rfl (fun w J=>?_); refine j3 ?_; refine tO (i9 (fun hp=>GM _ _ _) (.a rfl uu<|.a rfl uu<|.a rfl uu<|.nil)) rfl rfl ?_; refine n7 ?_; exact f0.res1 (fn:=Tryz.f187) rfl (.b rfl (by rfl)<|.nil)

theorem mA  : Ct Tryz.prog 112 [] (b7 E3 HU):=by
 refine Ct.mk Tryz.func112 rfl Tryz.ntmps112 rfl (fun w J=>?_); refine g8 ?_; refine ja 0 ?_; refine i1 ?_; refine b8.new (A1 eI 1 (fun hp=>.cons rfl<|.cons rfl<|.nil) rfl rfl rfl rfl) rfl rfl rfl rfl ?_; refine tO (w5 (fun hp=>.cons rfl rfl rfl<|.cons rfl rfl rfl<|.nil)) rfl rfl ?_; refine j5 ?_; refine Tr.frzC 1 0 (by simp only[q7]; omega) rfl rfl ?_; refine i6 ?_; exact f0.resC1 (fn:=Tryz.f112) rfl rfl (s6 rfl (by rfl))

end Go.Fl

/- Integers of any size in arrays of the call's own: loads and stores at any place. -/
namespace Go.Fl
open Go Go.RowKit
set_option maxRecDepth 100000
def eZ:i5 Int:=eC wh eW
instance {z:Int}:O4 eZ z (b7 eW (wh z)):=⟨fun h=>h⟩
instance {z:Int} {tl:List d6}:I8 eZ z tl (kB (decide (z<0))::b7 (eL eI) (d7 z.natAbs)::tl):=⟨fun h h'=>(inferInstance:I8 eW (wh z) tl (kB (decide (z<0))::b7 (eL eI) (d7 z.natAbs)::tl)).imp h h'⟩
instance {z:Int} {r:List d6}:s8 (kB (decide (z<0))::b7 (eL eI) (d7 z.natAbs)::r) eZ z r:=⟨fun h=>(inferInstance:s8 (kB (decide (z<0))::b7 (eL eI) (d7 z.natAbs)::r) eW (decide (z<0),d7 z.natAbs) r).imp h⟩
instance {z:Int}:EM (b7 eW (wh z)) eZ z:=⟨fun h=>⟨h.cells,eW.all1 h.cells⟩⟩
instance {r:List d6}:s8 (kB false::j4 (.slice none 0 0)::r) eZ 0 r:=⟨fun h=>(inferInstance:s8 (kB false::j4 (.slice none 0 0)::r) eW (false,[]) r).imp h⟩
def wC (f:Nat->Int):Nat->Nat->List d6
 | _,0=>[]
 | i,m+1=>kB (decide (f i<0))::b7 (eL eI) (d7 (f i).natAbs)::wC f (i+1) m
theorem PM {f:Nat->Int}:∀{m i:Nat},(wC f i m).length=m*2
 | 0,_=>rfl
 | m+1,i=>by simp only[wC,List.length_cons,PM (m:=m)]; omega
instance {f:Nat->Int} {i m:Nat}:y6 (wC f i m) []:=⟨by
 intro g g' vs hl _ h
 induction m generalizing i vs with
 | zero=>cases vs with
  | nil=>trivial
  | cons=>exact h.elim
 | succ m ih=>match vs,h with
  | v::u::vs,⟨h1,h2,h3⟩=>exact ⟨h1,n9.dep (k:=b7 (eL eI) _) (g:=g) hl (fun _ h=>by cases h) h2,ih h3⟩⟩
theorem LG {g:Gh}:∀{ks ls:List d6} {vs:List Value},n8 g (ks++ls) vs->∃v1 v2,vs=v1++v2/\n8 g ks v1/\n8 g ls v2
 | [],_,vs,h=>⟨[],vs,rfl,trivial,h⟩
 | _::_,_,v::vs,h=>by
  obtain ⟨v1,v2,rfl,h1,h2⟩:=LG h.2
  exact ⟨v::v1,v2,rfl,⟨h.1,h1⟩,h2⟩
 | _::_,_,[],h=>h.elim
instance {f:Nat->Int} {i m:Nat}:DD (wC f i m):=⟨by
 intro g cs h
 induction m generalizing i cs with
 | zero=>cases cs with
  | nil=>rfl
  | cons=>exact h.elim
 | succ m ih=>match cs,h with
  | v::u::vs,⟨h1,h2,h3⟩=>simp only[List.all_cons,W0.imp (k:=kB _) h1,W0.imp (k:=b7 (eL eI) _) h2,ih h3,Bool.and_self]⟩
instance {ks ls:List d6} [h:DD ks] [k:DD ls]:DD (ks++ls):=⟨fun h'=>by
 obtain ⟨v1,v2,rfl,h1,h2⟩:=LG h'
 rw[List.all_append,h.imp h1,k.imp h2]; rfl⟩
theorem PN {f:Nat->Int} {g:Gh}:∀{m i:Nat} {cs:List Value},n8 g (wC f i m) cs->X6 eZ g.J cs ((List.range' i m).map f)
 | 0,_,cs,h=>by cases cs with
  | nil=>rfl
  | cons=>exact h.elim
 | m+1,i,cs,h=>by
  match cs,h with
  | v::u::vs,⟨h1,h2,h3⟩ =>
   obtain ⟨c1,c2,he,q1,q2⟩:=(inferInstance:s8 (kB (decide (f i<0))::b7 (eL eI) (d7 (f i).natAbs)::[]) eZ (f i) []).imp (g:=g) (cs:=[v,u]) ⟨h1,h2,trivial⟩
   cases c2 with
   | nil =>
    rw[List.append_nil] at he
    subst he
    exact ⟨[v,u],vs,rfl,q1,PN h3⟩
   | cons=>exact q2.elim
theorem UJ {m:Nat} {f:Nat->Int}:(List.range' 0 m).map f=l6 m f:=by rw[<- List.range_eq_range']; rfl
instance {f:Nat->Int} {m:Nat} {r:List d6}:s8 (wC f 0 m++r) (Z2 m eZ) (l6 m f) r:=⟨fun h=>by
 obtain ⟨v1,v2,rfl,h1,h2⟩:=LG h
 exact ⟨v1,v2,rfl,⟨q9,by rw[<- UJ]; exact PN h1⟩,h2⟩⟩
instance {f:Nat->Int} {m:Nat}:VN (wC f 0 m) eZ (l6 m f):=⟨fun {g cs} h i x hx=>OP (J:=g.J) (by rw[<- UJ]; exact PN h) hx⟩
theorem gH {f:Nat->Int} {g:Gh} {tl:List d6} {ds:List Value} (ht:n8 g tl ds):∀{xs:List Int} {i:Nat} {cs:List Value},X6 eZ g.J cs xs->(∀j,j<xs.length->f (i+j)=b6 xs j)->n8 g (wC f i xs.length++tl) (cs++ds)
 | [],_,_,h,_=>by have h:_=[]:=h; subst h; exact ht
 | x::xs,i,_,⟨c1,c2,h,h1,h2⟩,hf=>by
  subst h
  have hx:f i=x:=hf 0 (by simp)
  have hr:=gH (f:=f) ht (i:=i+1) h2 (fun j hj=>by
   have:=hf (j+1) (by simp; omega)
   rw[show i+1+j=i+(j+1) by omega,this]; rfl)
  have:=(inferInstance:I8 eZ x (wC f (i+1) xs.length++tl) _).imp h1 hr
  simp only[List.length_cons,wC,hx,List.cons_append]
  rw[List.append_assoc]
  exact this
instance {m:Nat} {l:List Int} {tl:List d6}:I8 (Z2 m eZ) l tl (wC (b6 l) 0 m++tl):=⟨fun ⟨h1,h2⟩ ht=>by
 subst h1
 exact gH ht h2 (fun j _=>by rw[Nat.zero_add])⟩
instance {f:Nat->Int} {r:List d6}:L8 (wC f 0 4++r) (0+0) 8 (wC f 0 4):=⟨by simp[wC],rfl⟩
instance {f:Nat->Int} {a b:d6}:L8 (wC f 0 4++[a,b]) (0+8) 2 [a,b]:=⟨rfl,rfl⟩
instance {f:Nat->Int} {a b:d6}:L8 (wC f 0 4++[a,b]) 0 10 (wC f 0 4++[a,b]):=⟨rfl,rfl⟩
instance {f:Nat->Int} {a b x y:d6}:Q2 (wC f 0 4++[a,b]) (0+8) [x,y] (wC f 0 4++[x,y]):=⟨by simp[wC],rfl⟩
instance {f:Nat->Int} {a b k0 k1 k2 k3 k4 k5 k6 k7 k8 k9:d6}:Q2 [k0,k1,k2,k3,k4,k5,k6,k7,k8,k9] 0 (wC f 0 4++[a,b]) (wC f 0 4++[a,b]):=⟨by simp[wC],by simp[wC]⟩
def AL (f:Nat->Int) (j:Nat) (z:Int):Nat->Int:=fun i=>if i=j then z else f i
theorem vW {f:Nat->Int} {g:Gh} {r:List d6} {m j:Nat} {cs:List Value} (h:n8 g (wC f 0 m++r) cs) (hj:j<m):∃ds,eW.rd g.J ds (wh (f j))/\∀q v,ds[q]?=some v->cs[2*j+q]?=some v:=by
 obtain ⟨v1,v2,rfl,h1,_⟩:=LG h
 have hr:=PN h1
 rw[UJ] at hr
 obtain ⟨ds,q1,q2⟩:=OP hr (i:=j) (x:=f j) (by rw[show f j=b6 (l6 m f) j from (s9 hj).symm]; exact E5 (by rw[q9]; exact hj))
 refine ⟨ds,q1,fun q v hv=>?_⟩
 have:=q2 q v hv
 rw[show eZ.n=2 from rfl] at this
 rw[Nat.mul_comm,List.getElem?_append_left (List.getElem?_eq_some_iff.1 this).1]
 exact this
theorem gI {f:Nat->Int} {z:Int} {g:Gh} {v u:Value} (hv:v=.bool (decide (z<0))) (hu:b7 (eL eI) (d7 z.natAbs) g u):∀{m i j:Nat} {r:List d6} {cs:List Value},n8 g (wC f i m++r) cs->j<m->n8 g (wC (AL f (i+j) z) i m++r) (cs.take (2*j)++[v,u]++cs.drop (2*j+2))
 | 0,_,_,_,_,_,hj=>by omega
 | m+1,i,0,r,cs,h,_=>by
  match cs,h with
  | a::b::cs,⟨_,_,h3⟩ =>
   have h4:∀{m k:Nat} {vs:List Value},i<k->n8 g (wC f k m++r) vs->n8 g (wC (AL f i z) k m++r) vs:=fun {m}=>by
    induction m with
    | zero=>exact fun _ h=>h
    | succ m ih =>
     intro k vs hk h
     match vs,h with
     | a::b::vs,⟨q1,q2,q3⟩ =>
      have e:AL f i z k=f k:=if_neg zo
      simp only[wC,e,List.cons_append]
      exact ⟨q1,q2,ih zo q3⟩
   have e:AL f i z i=z:=if_pos rfl
   simp only[wC,Nat.add_zero,e,List.cons_append,Nat.mul_zero,List.take_zero,List.nil_append,Nat.zero_add,List.drop_succ_cons,List.drop_zero]
   exact ⟨hv,hu,h4 zo h3⟩
 | m+1,i,j+1,r,cs,h,hj=>by
  match cs,h with
  | a::b::cs,⟨h1,h2,h3⟩ =>
   have:=gI hv hu (i:=i+1) (j:=j) h3 zo
   rw[show i+1+j=i+(j+1) by omega] at this
   have e:AL f (i+(j+1)) z i=f i:=if_neg zo
   simp only[wC,e,List.cons_append,show 2*(j+1)=2*j+2 by omega,List.take_succ_cons,List.drop_succ_cons]
   exact ⟨h1,h2,this⟩
section
variable {P:Program} {c:l4} {S:g9} {M:g7} {p:Bool} {d:Option Tmp} {ty:TypeId} {pos:String} {af:Array Edge} {gd:Option (Nat×Bool)} {x y:Operand} {b b':Bool}
theorem HN {t:TypeId} [ht:B9 P t] {by':Nat} {zz:Value} [hz:o9 P t 2 by' zz] {u o:Nat} (j:Nat) {m:Nat} {f:Nat->Int} {r:List d6} {dep:List Nat} [hl:o8 M u (j1 (wC f 0 m++r)) dep] (hj:p=true->j<m) (ho:p=true->o=2*j) (hx:i8 S x=some (b,u4 u o)) (hb:p=true->b=true) :
  j6 P c S M ⟨d,.load t x,ty,pos,af,gd⟩ p (b7 eW (wh (f j))) none :=
 j6.pure fun hp a g w hok hc hop=>by
  obtain ⟨bl,cap,h1,h2⟩:=hop x (by simp[Op.operands]) b _ hx (hb hp)
  obtain ⟨cs,ty',h3,h4⟩:=BV (ks:=wC f 0 m++r) hc h1
  obtain ⟨ds,q1,q2⟩:=vW h4 (hj hp)
  have ho:=ho hp
  subst ho
  exact ⟨.agg ds.toArray,by simp only[execOp,h2,Sem.run_bind,OW (P:=P) (t:=t) (w:=w) (b:=bl) (o:=2*j) (eW.len q1) (fun q v hv=>J4 h3 (by simpa using q2 q v hv)),Result.andThen_ok,Sem.run_pure],_,q1,rfl⟩
theorem TX {t et:TypeId} {n:Nat} [ht:AS P t n et] {by':Nat} {zz:Value} [hz:o9 P et 2 by' zz] [hag:B9 P et] {f:Nat->Int} {ik:IntKind} {i:Nat} (hx:i8 S x=some (b,F6 (wC f 0 n))) (hb:p=true->b=true) (hy:i8 S y=some (b',v7 ik (i:Int))) (hb':p=true->b'=true) (h:p=true->i<n) :
  j6 P c S M ⟨d,.index t x y,ty,pos,af,gd⟩ p (b7 eW (wh (f i))) none:=by
 cases p with
 | false=>exact fun hp=>by cases hp
 | true =>
  have:=rT (P:=P) (c:=c) (M:=M) (d:=d) (ty:=ty) (pos:=pos) (af:=af) (gd:=gd) (t:=t) (et:=et) eZ (ks:=wC f 0 n) (xs:=l6 n f) hx hb hy hb' rfl rfl PM (fun _=>⟨h rfl,by rw[q9]; exact h rfl⟩)
  rwa [s9 (h rfl)] at this
end
section
variable {P:Program} {c:l4} {ops:Array Oper} {S:g9} {M:g7} {rest:List Oper} {Q:Exit->Act->World->Prop} {x y:Operand}
variable {ty:TypeId} {pos:String} {af:Array Edge}
theorem b8.stW {t:TypeId} {by':Nat} {zz:Value} [hz:o9 P t 2 by' zz] {u o:Nat} (j:Nat) {m:Nat} {f:Nat->Int} {z:Int} {r:List d6} {dep dep':List Nat} {M':g7} (hj:j<m) (ho:o=2*j) (hx:i8 S x=some (true,u4 u o)) (hy:i8 S y=some (true,b7 eW (wh z))) [hl:o8 M u (j1 (wC f 0 m++r)) dep]
  [hd:y6 (wC (AL f j z) 0 m++r) dep'] [hup:A4 M u (j1 (wC (AL f j z) 0 m++r)) dep' M'] (hs:r7 dep' (tags M)=true) (K:b8 P c ops S M' rest Q):b8 P c ops S M (⟨none,.store t x y,ty,pos,af,none⟩::rest) Q:=by
 intro a g w hsat
 subst ho
 obtain ⟨b,cap,hm,he⟩:=y8 hsat.slots hx rfl
 have hv:=y8 hsat.slots hy rfl
 obtain ⟨cs,tt,h3,h4⟩:=BV (ks:=wC f 0 m++r) hsat.conts hm
 obtain ⟨h5,h6⟩:=(inferInstance:D5 (b7 eW (wh z)) [kB (decide (z<0)),b7 (eL eI) (d7 z.natAbs)]).imp hv
 obtain ⟨v1,u1,hvs,e1,e2⟩:∃v u,(a.eval y).cells.toList=[v,u]/\v=.bool (decide (z<0))/\b7 (eL eI) (d7 z.natAbs) g u:=by
  match h:(a.eval y).cells.toList,h5 with
  | [v,u],h5=>exact ⟨v,u,rfl,h5.1,h5.2.1⟩
 have hcl:=I2 h4
 simp only[Array.length_toList,List.length_append,PM] at hcl
 have hsz:(a.eval y).cells.size=2:=by rw[<- Array.length_toList,hvs]; rfl
 have hr:=HW (P:=P) (t:=t) (o:=2*j) h3 hsz zo (List.all_eq_true.1 h6)
 refine wpList_plain rfl fun K' hK'=>?_
 unfold Oper.wp
 simp only[execOp,he,Sem.run_bind,hr,Result.andThen_ok,Sem.run_pure,Oper.upon,Act.put]
 have hnew:=gI (j:=j) e1 e2 h4 hj
 rw[Nat.zero_add] at hnew
 exact hK' _ _ (K a g _ (hsat.store hm h3 hup ⟨_,_,rfl,by rw[hvs]; simpa using hnew⟩ inferInstance (y9 hs)))
end
def H7:i5 (List Int×Int):=eC (fun v:List Int×Int=>(v.1,v.2,())) (eP (Z2 4 eZ) (eP eZ eU))
instance {v:List Int×Int}:D5 (b7 H7 v) (wC (b6 v.1) 0 4++[kB (decide (v.2<0)),b7 (eL eI) (d7 v.2.natAbs)]):=inferInstanceAs (D5 (b7 (eC (fun v:List Int×Int=>(v.1,v.2,())) (eP (Z2 4 eZ) (eP eZ eU))) v) _)
instance {v:List Int×Int}:w6 H7 v 0 (Z2 4 eZ) v.1 0:=inferInstanceAs (w6 (eC (fun v:List Int×Int=>(v.1,v.2,())) (eP (Z2 4 eZ) (eP eZ eU))) v 0 _ _ _)
instance {v:List Int×Int}:w6 H7 v 1 eZ v.2 8:=inferInstanceAs (w6 (eC (fun v:List Int×Int=>(v.1,v.2,())) (eP (Z2 4 eZ) (eP eZ eU))) v 1 _ _ _)
instance {f:Nat->Int} {d:Int} {r:List d6}:s8 (wC f 0 4++kB (decide (d<0))::b7 (eL eI) (d7 d.natAbs)::r) H7 (l6 4 f,d) r:=⟨fun h=>(inferInstance:s8 (wC f 0 4++kB (decide (d<0))::b7 (eL eI) (d7 d.natAbs)::r) (eP (Z2 4 eZ) (eP eZ eU)) (l6 4 f,d,()) r).imp h⟩
instance {r:List d6}:s8 (j4 (.bool false)::j4 (.slice none 0 0)::r) eZ 0 r:=⟨fun {g cs} h=>(inferInstance:s8 (kB false::j4 (.slice none 0 0)::r) eZ 0 r).imp (g:=g) (cs:=cs) (match cs,h with | _::_::_,⟨h1,h2,h3⟩=>⟨h1,h2,h3⟩)⟩
instance (priority:=low) {a b c d e:Int} {ks r1 r2 r3 r4 r:List d6} [h1:s8 ks eZ a r1] [h2:s8 r1 eZ b r2] [h3:s8 r2 eZ c r3] [h4:s8 r3 eZ d r4] [h5:s8 r4 eZ e r]:s8 ks H7 ([a,b,c,d],e) r:=⟨fun {g cs} h=>by
 obtain ⟨c1,t1,rfl,q1,h⟩:=h1.imp h
 obtain ⟨c2,t2,rfl,q2,h⟩:=h2.imp h
 obtain ⟨c3,t3,rfl,q3,h⟩:=h3.imp h
 obtain ⟨c4,t4,rfl,q4,h⟩:=h4.imp h
 obtain ⟨c5,t5,rfl,q5,h⟩:=h5.imp h
 exact ⟨c1++c2++c3++c4++c5,t5,by simp,⟨c1++c2++c3++c4,c5,by simp,⟨rfl,c1,c2++c3++c4,by simp,q1,c2,c3++c4,by simp,q2,c3,c4,by simp,q3,c4,[],by simp,q4,rfl⟩,c5,[],by simp,q5,rfl⟩,h⟩⟩
theorem MP {v:List Int×Int} {g:Gh} {u:Value} (h:b7 H7 v g u):v.1.length=4:=by
 obtain ⟨_,⟨_,_,_,⟨h,_⟩,_⟩,_⟩:=h
 exact h
theorem W7 {ks ks':List d6} (h:ks=ks'):∀g b o,j1 ks g b o->j1 ks' g b o:=fun _ _ _ h'=>by subst h; exact h'
theorem IC {f f':Nat->Int}:∀{m i:Nat},(∀j,i<=j->j<i+m->f j=f' j)->wC f i m=wC f' i m
 | 0,_,_=>rfl
 | m+1,i,h=>by simp only[wC]; rw[h i (Nat.le_refl _) zo,IC fun j h1 h2=>h j zo zo]
theorem cW {f f':Nat->Int} {m:Nat} {r r':List d6} (h:∀j,j<m->f j=f' j) (hr:r=r'):∀g b o,j1 (wC f 0 m++r) g b o->j1 (wC f' 0 m++r') g b o:=W7 (by rw[IC fun j _ hj=>h j zo,hr])
theorem Z0 {d d':Int} (h:d=d'):[kB (decide (d<0)),b7 (eL eI) (d7 d.natAbs)]=[kB (decide (d'<0)),b7 (eL eI) (d7 d'.natAbs)]:=by rw[h]
end Go.Fl

/- Numbers: coefficients over a denominator, in lowest terms. Plain Lean, no program in sight. -/
namespace Go.Fl
def gL (g:Nat):List Int->Nat
 | []=>g
 | c::cs=>gL (Nat.gcd g c.natAbs) cs
theorem JC:∀{cs:List Int} {g:Nat},gL g cs∣g/\∀c∈cs,gL g cs∣c.natAbs
 | [],g=>⟨Nat.dvd_refl _,fun c h=>by cases h⟩
 | c::cs,g=>by
  obtain ⟨h1,h2⟩:=JC (cs:=cs) (g:=Nat.gcd g c.natAbs)
  rw[gL]
  refine ⟨Nat.dvd_trans h1 (Nat.gcd_dvd_left _ _),fun x hx=>?_⟩
  rcases List.mem_cons.1 hx with rfl | hx
  ·exact Nat.dvd_trans h1 (Nat.gcd_dvd_right _ _)
  ·exact h2 x hx
theorem MX {cs:List Int} {g:Nat} (h:0<g):0<gL g cs:=Nat.pos_of_dvd_of_pos JC.1 h
theorem ZW:∀{cs:List Int} {g:Nat} {m:Int},gL (g*m.natAbs) (cs.map fun c=>c*m)=gL g cs*m.natAbs
 | [],_,_=>rfl
 | c::cs,g,m=>by rw[List.map_cons,gL,gL,Int.natAbs_mul,Nat.gcd_mul_right,ZW]
theorem ZY:∀{cs:List Int} {g:Nat} {c:Int},gL g (cs++[c])=Nat.gcd (gL g cs) c.natAbs
 | [],_,_=>rfl
 | x::cs,g,c=>by rw[List.cons_append,gL,gL,ZY]
def u5 (d:Int) (cs:List Int):Int:=if d<0 then -(gL d.natAbs cs:Int) else gL d.natAbs cs
theorem FN {d:Int} {cs:List Int} (h:d≠0):u5 d cs≠0:=by
 have:=MX (cs:=cs) (show 0<d.natAbs by omega)
 unfold u5; split<;>omega
theorem AJ {d:Int} {cs:List Int} {c:Int} (h:c=d\/c∈cs):u5 d cs∣c:=by
 have h1:((gL d.natAbs cs:Nat):Int)∣c:=by
  refine Int.ofNat_dvd_left.2 ?_
  rcases h with rfl | h
  ·exact JC.1
  ·exact JC.2 c h
 unfold u5
 split
 ·exact Int.neg_dvd.2 h1
 ·exact h1
theorem uG {d m:Int} {cs:List Int} (hd:d≠0) (hm:m≠0):u5 (d*m) (cs.map fun c=>c*m)=u5 d cs*m:=by
 unfold u5
 rw[Int.natAbs_mul,ZW,Int.natCast_mul]
 by_cases h1:d<0<;>by_cases h2:m<0
 ·have h3:=Int.mul_pos_of_neg_of_neg h1 h2
  rw[if_neg zo,if_pos h1,show ((m.natAbs:Nat):Int)=-m by omega,Int.mul_neg,Int.neg_mul]
 ·have h3:=Int.mul_neg_of_neg_of_pos h1 (show 0<m by omega)
  rw[if_pos h3,if_pos h1,show ((m.natAbs:Nat):Int)=m by omega,Int.neg_mul]
 ·have h3:=Int.mul_neg_of_pos_of_neg (show 0<d by omega) h2
  rw[if_pos h3,if_neg h1,show ((m.natAbs:Nat):Int)=-m by omega,Int.mul_neg,Int.neg_neg]
 ·have h3:=Int.mul_pos (show 0<d by omega) (show 0<m by omega)
  rw[if_neg zo,if_neg h1,show ((m.natAbs:Nat):Int)=m by omega]
theorem ZI {a b m:Int} (hb:b≠0) (hm:m≠0) (h:b∣a):a*m/(b*m)=a/b:=by
 obtain ⟨q,rfl⟩:=h
 rw[Int.mul_ediv_cancel_left _ hb,show b*q*m=b*m*q by rw[Int.mul_assoc,Int.mul_comm q,<- Int.mul_assoc],Int.mul_ediv_cancel_left _ (Int.mul_ne_zero hb hm)]
def loN (cs:List Int) (d:Int):List Int×Int:=(cs.map fun c=>c/u5 d cs,d/u5 d cs)
theorem NK {cs:List Int} {d m:Int} (hd:d≠0) (hm:m≠0):loN (cs.map fun c=>c*m) (d*m)=loN cs d:=by
 unfold loN
 rw[uG hd hm,List.map_map]
 refine Prod.ext ?_ (ZI (FN hd) hm (AJ (.inl rfl)))
 exact List.map_congr_left fun c hc=>ZI (FN hd) hm (AJ (.inr hc))
theorem TE {cs cs':List Int} {d d':Int} (hd:d≠0) (hd':d'≠0) (h:(cs.map fun c=>c*d')=cs'.map fun c=>c*d):loN cs d=loN cs' d':=by
 rw[<- NK (cs:=cs) hd hd',<- NK (cs:=cs') hd' hd,h,Int.mul_comm]
theorem BD {cs:List Int} {d:Int}:(loN cs d).1.length=cs.length:=by unfold loN; simp
theorem JM {cs:List Int} {d:Int} (hd:d≠0):0<(loN cs d).2:=by
 unfold loN
 obtain ⟨q,hq⟩:=AJ (d:=d) (cs:=cs) (.inl rfl)
 have h0:=FN (cs:=cs) hd
 show 0<d/u5 d cs
 have e:d/u5 d cs=q:=(congrArg (fun z=>z/u5 d cs) hq).trans (Int.mul_ediv_cancel_left _ h0)
 rw[e]
 have hg:=MX (cs:=cs) (show 0<d.natAbs by omega)
 refine Classical.byContradiction fun hn=>?_
 by_cases h:d<0
 ·have e:u5 d cs=-(gL d.natAbs cs:Int):=if_pos h
  rw[e] at hq
  have:(-(gL d.natAbs cs:Int))*q=(gL d.natAbs cs:Int)*(-q):=by rw[Int.neg_mul,Int.mul_neg]
  have h5:=Int.mul_nonneg (a:=(gL d.natAbs cs:Int)) (b:=-q) zo zo
  omega
 ·have e:u5 d cs=(gL d.natAbs cs:Int):=if_neg h
  rw[e] at hq
  have h5:=Int.mul_nonneg (a:=(gL d.natAbs cs:Int)) (b:=-q) zo zo
  rw[Int.mul_neg] at h5
  omega
theorem PI:∀{xs:List Int} {k:Nat},j9 (xs++List.replicate k 0)=j9 xs
 | [],k=>by
  rw[List.nil_append]
  exact PJ fun i hi=>NQ (by simpa using hi)
 | x::xs,k=>by rw[List.cons_append,j9,j9,PI]
def FL (p:List Int) (n:Nat) (xs:List Int):List Int:=l6 (xs.length-1) fun j=>b6 xs j-if xs.length-1-n<=j then b6 xs (xs.length-1)*b6 p (j-(xs.length-1-n)) else 0
theorem dQ {p xs:List Int} {n:Nat}:(FL p n xs).length=xs.length-1:=q9
def BK (p:List Int) (n:Nat):Nat->List Int->List Int
 | 0,xs=>xs++List.replicate (n-xs.length) 0
 | f+1,xs=>if xs.length<=n then xs++List.replicate (n-xs.length) 0 else BK p n f (FL p n xs)
def red (p:List Int) (xs:List Int):List Int:=BK p (p.length-1) (xs.length-(p.length-1)) xs
theorem dR {p:List Int} {n:Nat}:∀{f:Nat} {xs:List Int},xs.length<=n+f->(BK p n f xs).length=n
 | 0,xs,h=>by rw[BK,List.length_append,List.length_replicate]; omega
 | f+1,xs,h=>by
  rw[BK]
  split
  ·rw[List.length_append,List.length_replicate]; omega
  ·exact dR (by rw[dQ]; omega)
theorem dS {p xs:List Int}:(red p xs).length=p.length-1:=dR zo
end Go.Fl

/- Numbers of a field in lowest terms, as the programs reckon them. No program in sight. -/
namespace Go.Fl
open Go
theorem U0 {y:Int}:s7 y 0=0↔y=0:=by unfold s7; split<;>(try split)<;>omega
theorem oO {x y:Int}:Int.gcd y (x%y)=Int.gcd x y:=by
 first
  | (rw[Int.gcd_comm]; exact Int.gcd_emod ..)
  | simp
  | (rw[Int.emod_def,Int.gcd_comm]; simp)
theorem SH {c:List Int} {g k:Nat} (hk:k<c.length):(gL g (c.take (k+1)):Int)=Int.gcd (gL g (c.take k):Int) (b6 c k):=by
 have e:c.take (k+1)=c.take k++[b6 c k]:=by
  rw[List.take_succ_eq_append_getElem hk]
  congr 2
  simp[b6,hk]
 rw[e,ZY]; rfl
theorem SG {c:List Int} {g:Nat} (h:0<g):gL g c<=g:=Nat.le_of_dvd h JC.1
theorem ZA {c:List Int} {d:Int} (h:0<d):dl (gL d.natAbs c:Int)<=dl d:=J8 (SG zo)
theorem qA {c:List Int} {d:Int} {k:Nat} (hd:0<d) (hl:c.length=k):(l6 k (fun i=>b6 c i/(gL d.natAbs c:Int)),d/(gL d.natAbs c:Int))=loN c d:=by
 have e:u5 d c=(gL d.natAbs c:Int):=if_neg zo
 unfold loN
 rw[e]
 refine Prod.ext ?_ rfl
 show l6 k _=c.map _
 generalize (gL d.natAbs c:Int)=G
 conv=>rhs; rw[T8 hl]
 simp[l6]
end Go.Fl

/- Contracts: integers of the reference of chapter 1 (division, common divisors). -/
namespace Go.Fl
open Go Go.Proofs
open b8 renaming op->tO
open i7 renaming op->rO
set_option maxRecDepth 100000

set_option maxHeartbeats 2000000 in
theorem YH (m n:Nat) (h0:0<n) (hm:(d7 m).length<=300000) (hn:(d7 n).length<=300000):Ct Tryz.prog 179 [b7 (eL eI) (d7 m),b7 (eL eI) (d7 n)] (v6 [b7 (eL eI) (d7 (m/n)),b7 (eL eI) (d7 (m%n))]):=by
 have hdn:dl (n:Int)=(d7 n).length:=rfl
 have hvn:val (d7 n)=n:=t9 n
 refine Ct.mk Tryz.func179 rfl Tryz.ntmps179 rfl (fun w J=>?_); refine t6 ?_; refine b8.new (AB eI 14 rfl uu rfl uu rfl rfl rfl (fun _=>zo)) rfl rfl rfl rfl ?_; refine T0 ?_
 refine Tr.for1 (σ:=Nat×List Int×Int) [⟨0,true,_,_⟩,⟨1,true,_,_⟩,⟨6,true,_,_⟩] [] (fun (i,o,R)=>[⟨7,true,[],b7 (eL eI) (d7 R.toNat)⟩,⟨8,true,[],kI ((i:Int)-1)⟩]) (fun (i,o,R)=>[⟨14,[],l3 false 3 eI o (d7 m).length⟩]) (fun (i,o,R)=>i<=(d7 m).length/\J7 (d7 m) o (n:Int) i R) (fun (i,o,R)=>J7 (d7 m) o (n:Int) 0 R) (fun (i,o,R)=>i) (((d7 m).length,List.replicate (d7 m).length 0,0)) ⟨Nat.le_refl _,J7.start zo⟩ (d8.mk (.n rfl rfl<|.i rfl zi<|zk) (.a zi zi<|.nil) rfl) ?_ ?_
 ·rintro ⟨i,o,R⟩ ⟨hi,hs⟩
  refine jn ?_
  have e1:((i:Int)-1).toNat=i-1:=by omega
  have hr0:=hs.r0
  have hRd:=nS hr0
  have hRl:=YU hr0.1
  have hol:=hs.len
  refine j8 ?_; refine jq ?_ ?_
  ·intro h4
   have hs1:J7 (d7 m) o (n:Int) (i-1+1) R:=by rw[show i-1+1=i by omega]; exact hs
   obtain ⟨T,hTe⟩:∃T,T=(R*100000000+b6 (d7 m) (i-1)):=⟨_,rfl⟩
   have hdq:=nX hs1 zo
   rw[<- hTe] at hdq
   obtain ⟨hT,hq0,hq1⟩:=hdq
   have hTd:=nT hq1 h0 hT
   have hTl:=YU hT
   have had:=(t7 m).at (i:=i-1) zo
   refine t6 ?_; refine b8.new (A1 eI 26 (fun hp=>.cons rfl<|.nil) rfl rfl rfl rfl) rfl rfl rfl rfl ?_; refine i6 ?_; refine b8.app rfl rfl rfl rfl rfl rfl rfl rfl (by have h1:([b6 (d7 m) ((i:Int)-1).toNat]).length=1:=rfl; omega) (by have h1:([b6 (d7 m) ((i:Int)-1).toNat]).length=1:=rfl; omega) ?_; refine jl ?_; refine b8.frz 26 [28] ⟨rfl,trivial⟩ (by have h1:([b6 (d7 m) ((i:Int)-1).toNat]).length=1:=rfl; simp only[q7]; omega) rfl ?_; refine jl ?_; refine tO (i9 (fun hp=>RH _ (by have h1:([b6 (d7 m) ((i:Int)-1).toNat]).length=1:=rfl; rw[List.length_append]; omega)) (.a rfl uu<|.nil)) rfl rfl ?_
   refine l7 ?_
   refine Tr.for (σ:=Int×Int) [⟨0,true,_,_⟩,⟨1,true,_,_⟩,⟨6,true,_,_⟩,⟨8,true,_,_⟩] [⟨14,_,_⟩] (fun (lo,hi2)=>[⟨7,true,[],b7 (eL eI) (d7 T.toNat)⟩,⟨9,true,[],kI lo⟩,⟨10,true,[],kI hi2⟩]) (fun (lo,hi2)=>[]) (fun (lo,hi2)=>0<=lo/\lo<=T/n/\T/n<=hi2/\hi2<=99999999) (fun (lo,hi2)=>T/n=lo) (fun (lo,hi2)=>(hi2-lo).toNat) ((0,99999999)) ⟨by omega,by omega,by omega,by omega⟩ (d8.mk (.r rfl (by rw[hTe,<- e1]; exact nY hr0.1 (by rw[e1]; exact had))<|.i rfl zi<|.i rfl zi<|zk) (zk) rfl) ?_ ?_
   ·rintro ⟨lo,hi2⟩ ⟨hl0,hl1,hl2,hl3⟩
    refine jn ?_
    have hmid:0<=lo+hi2+1:=by omega
    have hme:=Int.tdiv_eq_ediv_of_nonneg (b:=2) hmid
    have hmn:=Int.mul_nonneg (a:=(n:Int)) (b:=(lo+hi2+1).tdiv 2) zo zo
    have hmd:=I4 (F:=(lo+hi2+1).tdiv 2) zo zo
    have hmm:=u7 (n:Int) ((lo+hi2+1).tdiv 2)
    refine j3 ?_; refine jq ?_ ?_
    ·intro h8
     refine l7 ?_; refine tO (AC rfl uu rfl uu (fun _=>zo)) rfl rfl ?_; refine j3 ?_; refine tO (AA eI (fun hp=>.cons rfl<|.nil) rfl rfl rfl rfl) rfl rfl ?_; refine jc (YC (d7 n) [(lo+hi2+1).tdiv 2] (t7 n).inI (JH zo) zo (by simp)) ?_; refine tO (i9 (fun hp=>mH (d7 T.toNat) _ (L0 _) (qD (by rw[hvn,AM]; exact hmn)) zo (by rw[C9,hvn,AM]; omega)) (.a rfl uu<|.a rfl uu<|.nil)) rfl rfl ?_; refine g8 ?_; refine Tr.cnd rfl ?_ ?_
     ·intro h10
      have h10:=of_decide_eq_true h10
      rw[t9,H8,hvn,AM,Int.toNat_of_nonneg hT] at h10
      refine l5 ?_
      exact g6.lp ((lo,(lo+hi2+1).tdiv 2-1)) ⟨by omega,by omega,nU zo h10,by omega⟩ (by show ((lo+hi2+1).tdiv 2-1-lo).toNat<(hi2-lo).toNat; omega) (d8.mk (.r rfl zi<|.i rfl zi<|.i rfl zi<|zk) (zk) rfl)
     ·intro h10
      have h10:=of_decide_eq_false h10
      rw[t9,H8,hvn,AM,Int.toNat_of_nonneg hT] at h10
      refine n7 ?_
      exact g6.lp (((lo+hi2+1).tdiv 2,hi2)) ⟨by omega,nV zo zo,by omega,by omega⟩ (by show (hi2-(lo+hi2+1).tdiv 2).toNat<(hi2-lo).toNat; omega) (d8.mk (.r rfl zi<|.i rfl zi<|.i rfl zi<|zk) (zk) rfl)
    ·intro h8
     replace h8:=Int.not_lt.1 h8
     refine i1 ?_
     exact g6.cut ((lo,hi2)) zo (d8.mk (.r rfl zi<|.i rfl zi<|.i rfl zi<|zk) (zk) rfl)
   ·rintro ⟨lo,hi2⟩ hlo
    refine jn ?_
    replace hlo:T/n=lo:=hlo
    have hmd:=I4 (F:=lo) zo zo
    have hmm:=u7 (n:Int) lo
    refine B1 ?_; refine tO (AA eI (fun hp=>.cons rfl<|.nil) rfl rfl rfl rfl) rfl rfl ?_; refine jc (YC (d7 n) [lo] (t7 n).inI (JH zo) zo (by simp)) ?_; refine tO (i9 (fun hp=>YF (d7 T.toNat) _ (t7 _).inI (T2 _) zo (by rw[C9,hvn,AM]; omega)) (.a rfl uu<|.a rfl uu<|.nil)) rfl rfl ?_; refine l7 ?_
    exact g6.lp ((i-1,o.set (i-1) ((R*100000000+b6 (d7 m) (i-1))/n),(R*100000000+b6 (d7 m) (i-1))%n)) ⟨by omega,hs1.next (t7 m) zo⟩ (by show i-1<i; omega) (d8.mk (.r rfl (by rw[H8,t9,Int.toNat_of_nonneg hT,hvn,AM,<- hlo,nR zo,hTe]; exact NL (Int.emod_nonneg _ zo))<|.i rfl zi<|zk) (.a (by rw[e1,<- hTe,hlo]) zi<|.nil) rfl)
  ·intro h4
   replace h4:=Int.not_le.1 h4
   refine i1 ?_
   exact g6.cut ((i,o,R)) (by obtain rfl:i=0:=zo; exact hs) (d8.mk (.r rfl zi<|.i rfl zi<|zk) (.a zi zi<|.nil) rfl)
 ·rintro ⟨i,o,R⟩ hs
  refine je ?_
  have hol:=hs.len
  refine i1 ?_; refine b8.frz 14 [6,57] ⟨rfl,rfl,trivial⟩ (by simp only[q7]; omega) rfl ?_; refine jl ?_; refine tO (i9 (fun hp=>RH _ zo) (.a rfl uu<|.nil)) rfl rfl ?_; refine l5 ?_; exact f0.res (fn:=Tryz.f179) (ts:=[4,5]) rfl rfl (.r rfl (ZG hs).1<|.r rfl (ZG hs).2<|.nil)

set_option maxHeartbeats 1000000 in
theorem XZ (xs ys:List Int) (hx:B6 xs) (hy:B6 ys) (hn:xs.length<=200000) (hm:ys.length<=200000):Ct Tryz.prog 138 [b7 (eL eI) xs,b7 (eL eI) ys] (v6 [b7 (eL eI) (if val ys=0 then [] else j2 (val xs/val ys)),b7 (eL eI) (if val ys=0 then [] else j2 (val xs%val ys)),kI (if val ys=0 then 12 else 0)]):=by
 have hdx:=M5 hx
 have hdy:=M5 hy
 have hlx:=C9 (val xs)
 have hly:=C9 (val ys)
 have hl0:=TF (z:=val ys)
 have hrz:=GQ (n:=(val xs).natAbs%(val ys).natAbs)
 have hdq:dl (((val xs).natAbs/(val ys).natAbs:Nat):Int)=(d7 ((val xs).natAbs/(val ys).natAbs)).length:=rfl
 have U4:dl (((val xs).natAbs%(val ys).natAbs:Nat):Int)=(d7 ((val xs).natAbs%(val ys).natAbs)).length:=rfl
 have hdX:(d7 (val xs).natAbs).length=dl (val xs):=rfl
 have hdY:(d7 (val ys).natAbs).length=dl (val ys):=rfl
 have hql:=J8 (m:=(val xs).natAbs) (n:=(val xs).natAbs/(val ys).natAbs) (Nat.div_le_self _ _)
 have h11:([1]:List Int).length=1:=rfl
 refine Ct.mk Tryz.func138 rfl Tryz.ntmps138 rfl (fun w J=>?_); refine t6 ?_; refine tO (i9 (fun hp=>W9 _ (by assumption) zo) (.a rfl uu<|.nil)) rfl rfl ?_; refine i6 ?_; refine tO (i9 (fun hp=>W9 _ (by assumption) zo) (.a rfl uu<|.nil)) rfl rfl ?_; refine w3 ?_; refine jq ?_ ?_
 ·intro h2
  have hy0:val ys=0:=by omega
  refine l7 ?_; exact f0.res (fn:=Tryz.f138) (ts:=[4,5,6]) rfl rfl (.n rfl (by rw[if_pos hy0])<|.n rfl (by rw[if_pos hy0])<|.i rfl (by rw[if_pos hy0])<|.nil)
 ·intro h2
  have hy0:val ys≠0:=by omega
  have hlt:(val xs).natAbs%(val ys).natAbs<(val ys).natAbs:=Nat.mod_lt _ zo
  have hrl:=J8 (m:=(val ys).natAbs) (n:=(val xs).natAbs%(val ys).natAbs) zo
  refine n7 ?_; refine jc (JA (val xs) zo) ?_; refine i6 ?_; refine jc (JA (val ys) zo) ?_; refine jc (YH (val xs).natAbs (val ys).natAbs zo zo zo) ?_; refine B0 ?_; refine jc (GN (val xs)) ?_; refine g8 ?_; refine Tr.cnd rfl ?_ ?_
  ·intro h5
   have hxn:=of_decide_eq_true h5
   refine j5 ?_; refine tO (i9 (fun hp=>EV _ (t7 _).inI zo) (.a rfl uu<|.nil)) rfl rfl ?_; refine i6 ?_; refine tO (i9 (fun hp=>EV _ (t7 _).inI zo) (.a rfl uu<|.nil)) rfl rfl ?_; refine B0 ?_; refine Tr.cnd rfl ?_ ?_
   ·intro h7
    have hrp:0<(val xs).natAbs%(val ys).natAbs:=by (have h7:=of_decide_eq_true h7; rw[C9,t9,J5,U4] at h7; omega)
    obtain ⟨o1,o2⟩:=cX hy0 hxn hrp
    refine g8 ?_; refine tO (AA eI (fun hp=>.cons rfl<|.nil) rfl rfl rfl rfl) rfl rfl ?_; refine tO (i9 (fun hp=>YF _ [1] (T2 _) (JH zo) (by rw[C9,t9,J5,hdq]; omega) zo) (.a rfl uu<|.a rfl uu<|.nil)) rfl rfl ?_; refine g8 ?_; refine jc (JA (val ys) zo) ?_; refine tO (i9 (fun hp=>RE _ _ (T2 _) (t7 _).inI (by rw[C9,t9,J5,U4]; omega) zo) (.a rfl uu<|.a rfl uu<|.nil)) rfl rfl ?_; refine j3 ?_; refine jc (GN (val ys)) ?_; refine g8 ?_; refine Tr.cnd rfl ?_ ?_
    ·intro h9
     have hyn:=of_decide_eq_true h9
     have hQ1:=RP (q:=(val xs).natAbs/(val ys).natAbs)
     have hQ2:=RQ (q:=(val xs).natAbs/(val ys).natAbs)
     refine g8 ?_
     refine tO (i9 (fun hp=>EV _ (by first | exact T2 _ | exact (t7 _).inI) zo) (.a rfl uu<|.nil)) rfl rfl ?_
     refine B1 ?_; exact f0.res (fn:=Tryz.f138) (ts:=[4,5,6]) rfl rfl (.r rfl (by rw[if_neg hy0,o1,if_neg (show ¬X8 (val xs) (val ys) from by rw[X9]; omega),H8,H8,AM,t9]; congr 1; omega)<|.r rfl (by rw[if_neg hy0,o2,H8,t9,t9]; congr 1; omega)<|.i rfl (by rw[if_neg hy0])<|.nil)
    ·intro h9
     have hyn:=of_decide_eq_false h9
     refine w3 ?_; exact f0.res (fn:=Tryz.f138) (ts:=[4,5,6]) rfl rfl (.r rfl (by rw[if_neg hy0,o1,if_pos (show X8 (val xs) (val ys) from by rw[X9]; omega),H8,AM,t9]; congr 1; omega)<|.r rfl (by rw[if_neg hy0,o2,H8,t9,t9]; congr 1; omega)<|.i rfl (by rw[if_neg hy0])<|.nil)
   ·intro h7
    have hrp:(val xs).natAbs%(val ys).natAbs=0:=by (have h7:=of_decide_eq_false h7; rw[C9,t9,J5,U4] at h7; omega)
    obtain ⟨o1,o2⟩:=UB (a:=val xs) hy0 (fun hh=>by omega)
    refine l5 ?_; refine jc (GN (val ys)) ?_; refine g8 ?_; refine Tr.cnd rfl ?_ ?_
    ·intro h9
     have hyn:=of_decide_eq_true h9
     have hQ1:=RP (q:=(val xs).natAbs/(val ys).natAbs)
     have hQ2:=RQ (q:=(val xs).natAbs/(val ys).natAbs)
     refine g8 ?_
     refine tO (i9 (fun hp=>EV _ (by first | exact T2 _ | exact (t7 _).inI) zo) (.a rfl uu<|.nil)) rfl rfl ?_
     refine B1 ?_; exact f0.res (fn:=Tryz.f138) (ts:=[4,5,6]) rfl rfl (.r rfl (by rw[if_neg hy0,o1,if_neg (show ¬X8 (val xs) (val ys) from by rw[X9]; omega),H8,t9]; congr 1; omega)<|.r rfl (by rw[if_neg hy0,o2,t9]; congr 1; omega)<|.i rfl (by rw[if_neg hy0])<|.nil)
    ·intro h9
     have hyn:=of_decide_eq_false h9
     refine w3 ?_; exact f0.res (fn:=Tryz.f138) (ts:=[4,5,6]) rfl rfl (.r rfl (by rw[if_neg hy0,o1,if_pos (show X8 (val xs) (val ys) from by rw[X9]; omega),t9])<|.r rfl (by rw[if_neg hy0,o2,t9]; congr 1; omega)<|.i rfl (by rw[if_neg hy0])<|.nil)
  ·intro h5
   have hxn:=of_decide_eq_false h5
   obtain ⟨o1,o2⟩:=UB hy0 (fun hh=>hxn hh.1)
   refine l5 ?_; refine jc (GN (val ys)) ?_; refine g8 ?_; refine Tr.cnd rfl ?_ ?_
   ·intro h9
    have hyn:=of_decide_eq_true h9
    have hQ1:=RP (q:=(val xs).natAbs/(val ys).natAbs)
    have hQ2:=RQ (q:=(val xs).natAbs/(val ys).natAbs)
    refine g8 ?_
    refine tO (i9 (fun hp=>EV _ (by first | exact T2 _ | exact (t7 _).inI) zo) (.a rfl uu<|.nil)) rfl rfl ?_
    refine B1 ?_; exact f0.res (fn:=Tryz.f138) (ts:=[4,5,6]) rfl rfl (.r rfl (by rw[if_neg hy0,o1,if_pos (show X8 (val xs) (val ys) from by rw[X9]; omega),t9])<|.r rfl (by rw[if_neg hy0,o2,NM])<|.i rfl (by rw[if_neg hy0])<|.nil)
   ·intro h9
    have hyn:=of_decide_eq_false h9
    refine w3 ?_; exact f0.res (fn:=Tryz.f138) (ts:=[4,5,6]) rfl rfl (.r rfl (by rw[if_neg hy0,o1,if_neg (show ¬X8 (val xs) (val ys) from by rw[X9]; omega),NM])<|.r rfl (by rw[if_neg hy0,o2,NM])<|.i rfl (by rw[if_neg hy0])<|.nil)

theorem YB (xs ys:List Int) (hx:B6 xs) (hy:B6 ys) (hn:xs.length<=200000) (hm:ys.length<=200000):Ct Tryz.prog 137 [b7 (eL eI) xs,b7 (eL eI) ys] (b7 (eL eI) (d7 (Nat.gcd (val xs).natAbs (val ys).natAbs))):=by
 have hdx:=M5 hx
 have hdy:=M5 hy
 have hlx:=C9 (val xs)
 have hly:=C9 (val ys)
 have hdX:(d7 (val xs).natAbs).length=dl (val xs):=rfl
 have hdY:(d7 (val ys).natAbs).length=dl (val ys):=rfl
 refine Ct.mk Tryz.func137 rfl Tryz.ntmps137 rfl (fun w J=>?_); refine j3 ?_; refine tO (i9 (fun hp=>W9 _ (by assumption) zo) (.a rfl uu<|.nil)) rfl rfl ?_; refine jc (JA (val xs) zo) ?_; refine i6 ?_; refine tO (i9 (fun hp=>W9 _ (by assumption) zo) (.a rfl uu<|.nil)) rfl rfl ?_; refine jc (JA (val ys) zo) ?_; refine i1 ?_; refine Tr.for (σ:=Nat×Nat) [] [] (fun (x,y)=>[⟨5,true,[],b7 (eL eI) (d7 x)⟩,⟨6,true,[],b7 (eL eI) (d7 y)⟩]) (fun (x,y)=>[]) (fun (x,y)=>(d7 x).length<=300000/\(d7 y).length<=300000/\Nat.gcd x y=Nat.gcd (val xs).natAbs (val ys).natAbs) (fun (x,y)=>y=0/\Nat.gcd x y=Nat.gcd (val xs).natAbs (val ys).natAbs) (fun (x,y)=>y) (((val xs).natAbs,(val ys).natAbs)) ⟨by omega,by omega,rfl⟩ (d8.mk (.r rfl rfl<|.r rfl rfl<|.nil) (.nil) rfl) ?_ ?_
 ·rintro ⟨x,y⟩ ⟨hx1,hy1,hg⟩
  refine jn ?_
  have hy0:=GQ (n:=y)
  refine j3 ?_; refine jq ?_ ?_
  ·intro h2
   refine j8 ?_; refine jc (YH x y zo zo zo) ?_; refine C6 ?_; exact g6.lp ((y,x%y)) ⟨hy1,by have:=J8 (m:=y) (n:=x%y) (Nat.le_of_lt (Nat.mod_lt _ zo)); omega,by rw[oN]; exact hg⟩ (by show x%y<y; exact Nat.mod_lt _ zo) (d8.mk (.r rfl rfl<|.r rfl rfl<|.nil) (.nil) rfl)
  ·intro h2
   replace h2:=Int.not_lt.1 h2
   refine i1 ?_
   exact g6.cut ((x,y)) ⟨by omega,hg⟩ (d8.mk (.r rfl zi<|.r rfl zi<|.nil) (.nil) rfl)
 ·rintro ⟨x,y⟩ ⟨rfl,hg⟩
  refine jn ?_; refine j8 ?_; exact f0.res1 (fn:=Tryz.f137) rfl (.r rfl (by rw[<- hg,Nat.gcd_zero_right])<|.nil)

end Go.Fl

/- Contracts: numbers of a field in lowest terms. -/
namespace Go.Fl
open Go Go.Proofs
open b8 renaming op->tO
open i7 renaming op->rO
set_option maxRecDepth 100000

theorem kZ (a b:Int) (ha:dl a<=800000) (hb:dl b<=800000):Ct Tryz.prog 205 [b7 eW (wh a),b7 eW (wh b)] (b7 eW (wh (Int.gcd a b))):=by
 refine Ct.mk Tryz.func205 rfl Tryz.ntmps205 rfl (fun w J=>?_); refine g8 ?_; refine jb 2 rfl ?_; refine jb 3 rfl ?_; refine ja 4 ?_; refine g8 ?_; refine Tr.for (σ:=Int×Int) [⟨2,true,_,_⟩,⟨3,true,_,_⟩,⟨4,true,_,_⟩] [⟨4,_,_⟩] (fun ⟨x,y⟩=>[]) (fun ⟨x,y⟩=>[⟨2,[],j1 [kB (decide (x<0)),b7 (eL eI) (d7 (x).natAbs)]⟩,⟨3,[],j1 [kB (decide (y<0)),b7 (eL eI) (d7 (y).natAbs)]⟩]) (fun ⟨x,y⟩=>Int.gcd x y=Int.gcd a b/\dl x<=800000/\dl y<=800000) (fun ⟨x,y⟩=>x.natAbs=Int.gcd a b) (fun ⟨x,y⟩=>y.natAbs) ((a,b)) ⟨rfl,ha,hb⟩ (d8.mk (zk) (zk) rfl) ?_ ?_
 ·rintro ⟨x,y⟩ ⟨hg,hx,hy⟩
  refine jn ?_; refine i1 ?_; refine jc (Y9 y) ?_; refine j5 ?_; refine jq ?_ ?_
  ·intro h1
   have hy0:y≠0:=fun e=>h1 (U0.2 e)
   refine j8 ?_; refine jc (RK x y hy0 zo zo) ?_; refine j5 ?_; refine ja 5 ?_; refine ja 6 ?_; refine i1 ?_; refine Tr.drawS 2 2 p7 (by kernel_rfl) ?_; refine n6.opA (F8 rfl uu) (by kernel_rfl) rfl rfl ?_; refine n6.op (F8 rfl uu) rfl rfl ?_; refine n6.z (CT rfl rfl rfl) rfl rfl rfl ?_; refine j5 ?_; exact g6.lp ((y,x%y)) ⟨(oO (x:=x) (y:=y)).trans hg,hy,by have:=nJ (x:=x) hy0; omega⟩ (by have h2:=Int.emod_nonneg x hy0; have h3:=Int.emod_lt x hy0; show (x%y).natAbs<y.natAbs; omega) (d8.mk (zk) (zk) rfl)
  ·intro h1
   replace h1:=Classical.not_not.1 h1
   refine i1 ?_; exact g6.cut ((x,y)) (by have e:=U0.1 h1; subst e; rw[<- hg]; simp) (d8.mk (zk) (zk) rfl)
 ·rintro ⟨x,y⟩ hE
  refine jn ?_; refine B1 ?_; exact f0.resC1 (fn:=Tryz.f205) rfl rfl (s6 rfl (by rw[<- hE]; exact (FS (n:=x.natAbs))))

theorem RC (c:List Int) (d:Int) (hc:∀i,dl (b6 c i)<=700000) (hd:dl d<=700000) (hp:0<d):Ct Tryz.prog 183 [b7 H7 (c,d)] (b7 H7 (loN c d)):=by
 refine Ct.mk Tryz.func183 rfl Tryz.ntmps183 rfl (fun w J=>?_); refine Tr.fact (s:=0) rfl (fun _ _ h=>MP h) (fun hl=>?_)
 have hl:c.length=4:=hl
 have hG:=ZA (c:=c) hp
 have hGp:=MX (cs:=c) (g:=d.natAbs) zo
 refine g8 ?_; refine jb 1 rfl ?_; refine ja 2 ?_; refine l5 ?_; refine ja 3 ?_; refine B0 ?_
 refine Tr.for1 (σ:=Nat) [⟨1,true,_,_⟩,⟨2,true,_,_⟩,⟨3,true,_,_⟩,⟨11,true,_,_⟩] [⟨1,_,_⟩,⟨2,_,_⟩] (fun k=>[⟨12,true,[],kI (k:Int)⟩]) (fun k=>[⟨3,[],j1 [kB (decide ((gL d.natAbs (c.take k):Int)<0)),b7 (eL eI) (d7 ((gL d.natAbs (c.take k):Int)).natAbs)]⟩]) (fun k=>k<=4) (fun k=>k=4) (fun k=>4-k) (0) zi (d8.mk (.i rfl zi<|zk) (.conv (W7 (Z0 (by rw[List.take_zero]; show d=(d.natAbs:Int); omega))) rfl<|zk) rfl) ?_ ?_
 ·intro k hR0
  refine jn ?_
  have hgk:=ZA (c:=c.take k) hp
  have hck:=hc k
  refine l5 ?_; refine jq ?_ ?_
  ·intro h3
   refine l5 ?_; refine tO (TX rfl uu rfl uu (fun _=>zo)) rfl rfl ?_; refine ja 5 ?_; refine l5 ?_; refine jc (kZ (gL d.natAbs (c.take k):Int) (b6 c k) zo zo) ?_; refine j3 ?_
   exact g6.lp (k+1) zi zo (d8.mk (.i rfl zi<|zk) (.conv (W7 (Z0 (SH zo).symm)) rfl<|zk) rfl)
  ·intro h3
   replace h3:=Int.not_lt.1 h3
   refine i1 ?_
   exact g6.cut (k) zo (d8.mk (.i rfl zi<|zk) (zk) rfl)
 ·rintro _ rfl
  refine je ?_
  rw[List.take_of_length_le zo]
  refine l7 ?_
  refine Tr.for1 (σ:=Nat) [⟨1,true,_,_⟩,⟨2,true,_,_⟩,⟨3,true,_,_⟩,⟨20,true,_,_⟩] [⟨2,_,_⟩,⟨3,_,_⟩] (fun k=>[⟨21,true,[],kI (k:Int)⟩]) (fun k=>[⟨1,[],j1 (wC (fun i=>if i<k then b6 c i/(gL d.natAbs c:Int) else b6 c i) 0 4++[kB (decide (d<0)),b7 (eL eI) (d7 (d).natAbs)])⟩]) (fun k=>k<=4) (fun k=>k=4) (fun k=>4-k) (0) zi (d8.mk (.i rfl zi<|zk) (.conv (cW (fun j _=>(if_neg zo).symm) rfl) rfl<|zk) rfl) ?_ ?_
  ·intro k hR1
   refine jn ?_
   have hck:=hc k
   have hgk:k<4->(if k<k then b6 c k/(gL d.natAbs c:Int) else b6 c k)=b6 c k:=fun _=>if_neg zo
   refine l5 ?_; refine jq ?_ ?_
   ·intro h8
    refine j8 ?_; refine tO (TX rfl uu rfl uu (fun _=>zo)) rfl rfl ?_; refine ja 7 ?_; refine j3 ?_; refine jc (RK (b6 c k) (gL d.natAbs c:Int) zo zo zo) ?_; refine i1 ?_; refine tO (BG rfl uu rfl uu (fun _=>zo)) rfl rfl ?_; refine b8.stW (k) zo zo rfl rfl rfl ?_; refine j8 ?_
    exact g6.lp (k+1) zi zo (d8.mk (.i rfl zi<|zk) (.conv (cW (fun j _=>by simp only[AL]; by_cases e:j=k; (rw[if_pos e,if_pos zo,e]); (rw[if_neg e]; by_cases e2:j<k; (rw[if_pos e2,if_pos zo]); (rw[if_neg e2,if_neg zo]))) rfl) rfl<|zk) rfl)
   ·intro h8
    replace h8:=Int.not_lt.1 h8
    refine i1 ?_
    exact g6.cut (k) zo (d8.mk (.i rfl zi<|zk) (zk) rfl)
  ·rintro _ rfl
   refine je ?_; refine l5 ?_; refine jc (RK d (gL d.natAbs c:Int) zo zo zo) ?_; refine C6 ?_; exact f0.resC1 (fn:=Tryz.f183) rfl rfl (s6 rfl (by rw[<- qA hp hl]; exact Prod.ext (D9 fun i hi=>if_pos hi) rfl))

end Go.Fl

/- Reduction modulo the polynomial of a field, as the program reckons it: in place. No program in sight. -/
namespace Go.Fl
open Go
def N1 (p ys:List Int) (n i k:Nat):List Int:=l6 ys.length fun j=>if i-n<=j/\j<i-n+k then b6 ys j-b6 ys i*b6 p (j-(i-n)) else b6 ys j
theorem PC {p ys:List Int} {n i k:Nat}:(N1 p ys n i k).length=ys.length:=q9
theorem vB {p ys:List Int} {n i:Nat}:ys=N1 p ys n i 0:=by
 conv=>lhs; rw[T8 (rfl:ys.length=ys.length)]
 exact D9 fun j _=>(if_neg zo).symm
theorem eS {p ys:List Int} {n i k j:Nat} (hj:j<ys.length) (h:j<i-n\/i-n+k<=j):b6 (N1 p ys n i k) j=b6 ys j:=by
 unfold N1
 rw[s9 hj,if_neg zo]
theorem uZ {p ys:List Int} {n i k:Nat} (_:k<n) (hn:n<=i) (_:i<ys.length):(N1 p ys n i k).set (i-n+k) (b6 ys (i-n+k)+-(b6 ys i*b6 p k))=N1 p ys n i (k+1):=by
 unfold N1
 rw[FQ]
 refine D9 fun j hj=>?_
 by_cases e:j=i-n+k
 ·subst e
  rw[if_pos rfl,if_pos ⟨zo,zo⟩,Nat.add_sub_cancel_left]; omega
 ·rw[if_neg e]
  by_cases h:i-n<=j/\j<i-n+k
  ·rw[if_pos h,if_pos ⟨h.1,by omega⟩]
  ·rw[if_neg h,if_neg zo]
theorem N8 {xs:List Int} {i k:Nat} (h:i<k):b6 (xs.take k) i=b6 xs i:=by
 simp[b6,List.getD,h]
theorem vA {p ys:List Int} {n i:Nat} (hn:n<=i) (hi:i<ys.length):(N1 p ys n i n).take i=FL p n (ys.take (i+1)):=by
 have hl:(ys.take (i+1)).length=i+1:=by rw[List.length_take]; omega
 have e1:((N1 p ys n i n).take i).length=i:=by rw[List.length_take,PC]; omega
 rw[T8 e1]
 unfold FL
 rw[hl,Nat.add_sub_cancel]
 refine D9 fun j hj=>?_
 rw[N8 hj,N8 zo,N8 zo]
 unfold N1
 rw[s9 zo]
 by_cases h:i-n<=j
 ·rw[if_pos ⟨h,by omega⟩,if_pos h]
 ·rw[if_neg zo,if_neg h,Int.sub_zero]
theorem tE {p xs:List Int} {n:Nat} (hp:p.length-1=n) (h:n<xs.length):red p (FL p n xs)=red p xs:=by
 unfold red
 rw[hp,dQ]
 obtain ⟨f,hf⟩:∃f,xs.length-n=f+1:=⟨xs.length-n-1,by omega⟩
 rw[hf,show xs.length-1-n=f by omega]
 conv=>rhs; rw[BK,if_neg zo]
theorem dU {p xs:List Int} {n:Nat} (hp:p.length-1=n) (h:xs.length<=n):red p xs=xs++List.replicate (n-xs.length) 0:=by
 unfold red
 rw[hp,show xs.length-n=0 by omega,BK]
theorem tF {p ys:List Int} {n m:Nat} (hp:p.length-1=n) (hm:n<m) (hl:m<=ys.length):red p ((N1 p ys n (m-1) n).take (m-1))=red p (ys.take m):=by
 rw[vA zo zo,show m-1+1=m by omega]
 exact tE hp (by rw[List.length_take]; omega)
theorem ZC {a b q:Int} {A B:Nat} (ha:dl a<=A) (hb:dl b<=B) (hq:dl q<=1):dl (a+-(b*q))<=max A (B+1)+1:=by
 have h1:=S7 a (-(b*q))
 rw[J5] at h1
 have h2:=u7 b q
 omega
theorem eR {p ys:List Int} {n i k B:Nat} (_:n<=i) (_:i<ys.length) (hy:∀j,dl (b6 ys j)<=B) (hp:∀j,dl (b6 p j)<=1) (j:Nat):dl (b6 (N1 p ys n i k) j)<=B+2:=by
 by_cases hj:j<ys.length
 ·unfold N1
  rw[s9 hj]
  split
  ·rw[Int.sub_eq_add_neg]
   have:=ZC (hy j) (hy i) (hp (j-(i-n)))
   omega
  ·have:=hy j; omega
 ·have:b6 (N1 p ys n i k) j=0:=by simp[b6,List.getD,List.getElem?_eq_none (show (N1 p ys n i k).length<=j by rw[PC]; omega)]
  rw[this]
  have:dl 0=0:=E2.2 rfl
  omega
def T5 (p xs:List Int):List Int:=l6 4 (b6 (red p xs))
theorem HQ {p xs:List Int}:(T5 p xs).length=4:=q9
theorem cE {p xs:List Int} {i:Nat} (h:i<4):b6 (T5 p xs) i=b6 (red p xs) i:=s9 h
theorem JQ {xs:List Int} {k i:Nat}:b6 (xs++List.replicate k 0) i=if i<xs.length then b6 xs i else 0:=by
 split
 ·rename_i h; simp[b6,List.getD,List.getElem?_append_left h]
 ·rename_i h
  simp only[b6,List.getD,List.getElem?_append_right (Nat.le_of_not_lt h),List.getElem?_replicate]
  split<;>rfl
theorem pZ {xs:List Int} {d:Int} (hd:d≠0):loN (xs.map fun c=>-c) (-d)=loN xs d:=by
 have:=NK (cs:=xs) (d:=d) (m:=-1) hd (by decide)
 rw[<- this]
 congr 1
 ·exact List.map_congr_left fun c _=>by omega
 ·omega
theorem nL {p xs:List Int} {ys:List Int} {n m B:Nat} (hp:p.length-1=n) (hm:m<=n) (hl:m<=ys.length) (he:red p (ys.take m)=red p xs) (hy:∀j,dl (b6 ys j)<=B) (i:Nat):b6 (red p xs) i=(if i<m then b6 ys i else 0)/\dl (b6 (red p xs) i)<=B:=by
 have hlen:(ys.take m).length=m:=by rw[List.length_take]; omega
 rw[<- he,dU hp zo,JQ,hlen]
 split
 ·rename_i h; rw[N8 h]; exact ⟨rfl,hy i⟩
 ·exact ⟨rfl,by rw[E2.2 rfl]; omega⟩
theorem BY {F:Nat->Int} {k B:Nat} (h:∀i,i<k->dl (F i)<=B) (i:Nat):dl (b6 (l6 k F) i)<=B:=by
 by_cases hi:i<k
 ·rw[s9 hi]; exact h i hi
 ·have:b6 (l6 k F) i=0:=by simp[b6,List.getD,List.getElem?_eq_none (show (l6 k F).length<=i by rw[q9]; omega)]
  rw[this,E2.2 rfl]; omega
theorem bT {c:List Int} {k:Nat} (hl:c.length=k):(c.map fun z=>-z)=l6 k fun i=>-b6 c i:=by
 conv=>lhs; rw[T8 hl]
 simp[l6]
theorem DK {v:List Int×Int} (h:v.1.length=4):(l6 4 (b6 v.1),v.2)=v:=Prod.ext (T8 h).symm rfl
def H3 (x y:List Int×Int):List Int×Int:=loN (l6 4 fun i=>b6 x.1 i*y.2+b6 y.1 i*x.2) (x.2*y.2)
theorem nF {x y:List Int×Int} {A:Nat} (hx:∀i,dl (b6 x.1 i)<=A) (hy:∀i,dl (b6 y.1 i)<=A) (hdx:dl x.2<=A) (hdy:dl y.2<=A) (i:Nat):dl (b6 x.1 i*y.2+b6 y.1 i*x.2)<=2*A+1:=by
 have h1:=hx i
 have h2:=hy i
 have h3:=u7 (b6 x.1 i) y.2
 have h4:=u7 (b6 y.1 i) x.2
 have h5:=S7 (b6 x.1 i*y.2) (b6 y.1 i*x.2)
 omega
end Go.Fl

/- A part of an array of the call's own, as a slice; copies of integers into it. -/
namespace Go.Fl
open Go Go.RowKit
set_option maxRecDepth 100000
theorem tN {P:Program} (w:World) (dT sT ty elem:TypeId) (g o dLen dCap sz n:Nat) (src:Value) (cur:Array Value) (t:TypeId) (cs:List Value) (hu:P.underlying dT=some (.slice elem)) (hs:(P.info? elem).map (·.size)=some sz)
  (hg:w.heap[g]?=some (.cells cur t (0,0))) (hl:(Builtin.lenOf src).run P w=.ok n w) (hf:(Builtin.firstCells sz (Nat.min n dLen) src).run P w=.ok cs.toArray w) (hfit:o+cs.length<=cur.size) (h1:∀v∈cs,v.oneCell'=true) :
  (Builtin.copy_ #[dT,sT] ty #[.slice (some ⟨g,o,none⟩) dLen dCap,src]).run P w=.ok (goInt (Nat.min n dLen)) (w.setRow g (cur.toList.take o++cs++cur.toList.drop (o+cs.length)).toArray):=by
 have hst:=run_storeCells_at P g o t cs 0 cur w hg (by simpa using hfit) h1
 cases hq:P.info? elem with
 | none=>simp[hq] at hs
 | some i =>
  have hi:i.size=sz:=by simpa [hq] using hs
  simp[Builtin.copy_,run_underlying hu,sizeOf,typeInfo,hq,hi,hl,hf,hst]
def SW (t o l c:Nat):d6:=fun g v=>∃b cap,g.M t=some (.blk b cap)/\v=.slice (some ⟨b,o,none⟩) l c
instance (t o l c:Nat):n9 (SW t o l c) [t]:=⟨fun _ hd ⟨b,cap,h1,h2⟩=>⟨b,cap,(hd t (by simp)).trans h1,h2⟩⟩
section
variable {P:Program} {c:l4} {S:g9} {M:g7} {p:Bool} {d:Option Tmp} {ty:TypeId} {pos:String} {af:Array Edge} {gd:Option (Nat×Bool)} {x y:Operand} {b b':Bool}
theorem rZ {t et:TypeId} {n:Nat} [ht:AS P t n et] {sz by':Nat} {zz:Value} [hz:o9 P et sz by' zz] {u o:Nat} {ik:IntKind} {i0:Int} (hx:i8 S x=some (b,u4 u o)) (hb:p=true->b=true) (hy:i8 S y=some (b',v7 ik i0)) (hb':p=true->b'=true)
  (h:p=true->0<=i0/\i0<=n):j6 P c S M ⟨d,.slice t x none (some y) none,ty,pos,af,gd⟩ p (SW u o i0.toNat n) none :=
 j6.pure fun hp a g w _ _ ho=>by
  obtain ⟨bl,cap,h1,h2⟩:=ho x (by simp[Op.operands]) b _ hx (hb hp)
  have hi:a.eval y=_:=ho y (by simp[Op.operands]) b' _ hy (hb' hp)
  have hlt:=h hp
  obtain ⟨ti,hti,rfl,_,_⟩:=hz.h
  refine ⟨.slice (some ⟨bl,o,none⟩) i0.toNat n,?_,bl,cap,h1,rfl⟩
  have hbd:(Instr.sliceBounds false n n none (some (.int ik i0)) none).run P w=.ok (0,i0.toNat,n) w:=by
   simp[Instr.sliceBounds,Instr.sliceBound,asIntOf,hlt]
  simp only[execOp,hi,h2,Option.map,Sem.run_bind]
  unfold Instr.sliceAt
  simp only[Sem.run_bind,run_underlying ht.h,Result.andThen_ok,Instr.sureAddr,Sem.run_pure,hbd]
  simp[sizeOf,typeInfo,hti,Addr.add]
end
section
variable {P:Program} {c:l4} {ops:Array Oper} {S:g9} {M:g7} {rest:List Oper} {Q:Exit->Act->World->Prop} {x y:Operand}
variable {d:Nat} {ty:TypeId} {pos:String} {af:Array Edge}
theorem vX {f:Nat->Int} {i m:Nat} {z:Int} (h:f i=z):wC f i (m+1)=kB (decide (z<0))::b7 (eL eI) (d7 z.natAbs)::wC f (i+1) m:=by subst h; rfl
theorem vV {ys:List Int} {g:Gh}:∀{k:Nat} {f:Nat->Int} {i m:Nat} {r:List d6} {cs vs:List Value},n8 g (wC f i m++r) cs->k<=m->k<=ys.length->X6 eZ g.J vs (ys.take k)->n8 g (wC (fun j=>if i<=j/\j<i+k then b6 ys (j-i) else f j) i m++r) (vs++cs.drop (2*k)):=by
 intro k
 induction ys generalizing k with
 | nil =>
  intro f i m r cs vs h _ hk hv
  obtain rfl:k=0:=by simpa using hk
  have hv:vs=[]:=hv
  subst hv
  rw[IC (f':=f) fun j _ _=>if_neg zo]
  simpa using h
 | cons y ys ih =>
  intro f i m r cs vs h hkm hk hv
  cases k with
  | zero =>
   have hv:vs=[]:=hv
   subst hv
   rw[IC (f':=f) fun j _ _=>if_neg zo]
   simpa using h
  | succ k =>
   cases m with
   | zero=>omega
   | succ m =>
    rw[List.take_succ_cons] at hv
    obtain ⟨c1,c2,rfl,q1,q2⟩:=hv
    match cs,h with
    | a::b::cs,⟨h1,h2,h3⟩ =>
     have hr:=ih (k:=k) (f:=f) (i:=i+1) (m:=m) h3 zo (by simpa using hk) q2
     have e0:(fun j=>if i<=j/\j<i+(k+1) then b6 (y::ys) (j-i) else f j) i=y:=by simp[b6]
     rw[List.append_assoc,show 2*(k+1)=2*k+2 by omega,List.drop_succ_cons,List.drop_succ_cons]
     rw[vX e0,IC (f':=fun j=>if i+1<=j/\j<i+1+k then b6 ys (j-(i+1)) else f j) (fun j hj _=>by
      by_cases e:j<i+(k+1)
      ·rw[if_pos ⟨by omega,e⟩,if_pos ⟨hj,by omega⟩,show j-i=(j-(i+1))+1 by omega]; rfl
      ·rw[if_neg zo,if_neg zo])]
     exact (inferInstance:I8 eZ y _ _).imp q1 hr
theorem b8.cpW {t et:TypeId} [ht:A8 P t et] {by':Nat} {zz:Value} [hz:o9 P et 2 by' zz] {u l1 c1 m:Nat} {f:Nat->Int} {ys:List Int} {r:List d6} {dep dep':List Nat} {M':g7} (k:Nat) (hx:i8 S x=some (true,SW u 0 l1 c1)) (hy:i8 S y=some (true,b7 (eL eZ) ys)) [hl:o8 M u (j1 (wC f 0 m++r)) dep]
  (hk:k=min ys.length l1) (hm:l1<=m) [hd:y6 (wC (fun j=>if j<k then b6 ys j else f j) 0 m++r) dep'] [hup:A4 M u (j1 (wC (fun j=>if j<k then b6 ys j else f j) 0 m++r)) dep' M'] (hs:r7 dep' (tags M)=true) (hn:Nat.blt d c.n=true)
  (K:b8 P c ops (⟨d,true,[],kI k⟩::S) M' rest Q):b8 P c ops S M (⟨some d,.call { callee:=.builtin .copy,args:=#[x,y],argTypes:=#[t,t] },ty,pos,af,none⟩::rest) Q:=by
 intro a g w hsat
 have hdn:d<c.n:=by simpa [Nat.blt_eq] using hn
 obtain ⟨b,cap,hm1,he⟩:=y8 hsat.slots hx rfl
 obtain ⟨cs0,⟨ad,cp,rfl,k2,k3⟩,hv⟩:=y8 hsat.slots hy rfl
 simp only[eL,Bool.false_eq_true,if_false,List.headD_cons] at hv
 obtain ⟨cs,tt,h3,h4⟩:=BV (ks:=wC f 0 m++r) hsat.conts hm1
 obtain ⟨ti,hti,hts,_,_⟩:=hz.h
 have hcl:=I2 h4
 simp only[Array.length_toList,List.length_append,PM] at hcl
 obtain ⟨vs,hvs,hfc⟩:∃vs,X6 eZ g.J vs (ys.take k)/\(Builtin.firstCells 2 (Nat.min ys.length l1) (a.eval y)).run P w=.ok vs.toArray w:=by
  have hkk:Nat.min ys.length l1=k:=hk.symm
  rw[hkk,hv]
  rcases k3 with rfl | ⟨bl,o,rfl,hrow⟩
  ·have hk0:k=0:=by simpa using hk
   subst hk0
   refine ⟨[],rfl,?_⟩
   cases ad with
   | none=>rfl
   | some ad =>
    have:=run_loadCells_list (P:=P) w ad [] (fun j v hj=>by simp at hj)
    simpa [Builtin.firstCells] using this
  ·have key:∀(n i:Nat) (zs:List Int),zs.length=n->(∀j x,zs[j]?=some x->∃ds,eZ.rd g.J ds x/\BW g.J bl (o+(i+j)*2) ds)->∃vs,X6 eZ g.J vs zs/\BW g.J bl (o+i*2) vs:=by
    intro n
    induction n with
    | zero=>intro i zs hz _; rw[List.eq_nil_of_length_eq_zero hz]; exact ⟨[],rfl,fun j v hj=>by simp at hj⟩
    | succ n ih =>
     intro i zs hz hr
     match zs,hz with
     | z::zs,hz =>
      obtain ⟨ds,q1,q2⟩:=hr 0 z rfl
      obtain ⟨vs,r1,r2⟩:=ih (i+1) zs (by simpa using hz) (fun j x hx=>by
       obtain ⟨es,s1,s2⟩:=hr (j+1) x (by simpa using hx)
       exact ⟨es,s1,by rwa [show i+1+j=i+(j+1) by omega]⟩)
      refine ⟨ds++vs,⟨ds,vs,rfl,q1,r1⟩,fun j v hj=>?_⟩
      have hl:=eZ.len q1
      rw[show eZ.n=2 from rfl] at hl
      rw[List.getElem?_append] at hj
      split at hj
      ·have:=q2 j v hj
       rwa [Nat.add_zero] at this
      ·have:=r2 _ v hj
       rwa [show o+(i+1)*2+(j-ds.length)=o+i*2+j by omega] at this
   obtain ⟨vs,r1,r2⟩:=key _ 0 (ys.take k) rfl (fun j x hx=>by
    rw[List.getElem?_take] at hx
    split at hx
    ·obtain ⟨ds,q1,q2⟩:=hrow j x hx
     exact ⟨ds,q1,by rw[Nat.zero_add]; exact q2⟩
    ·cases hx)
   refine ⟨vs,r1,?_⟩
   have hlen:=OQ r1
   rw[List.length_take,show eZ.n=2 from rfl] at hlen
   have:=run_loadCells_list (P:=P) w ⟨bl,o,none⟩ vs (fun j v hj=>by
    have:=hsat.ok.im _ _ _ (r2 j v hj)
    rw[Addr.add_lit]
    simpa using this)
   rw[hlen,show min k ys.length=k by omega] at this
   simpa [Builtin.firstCells] using this
 have hvl:vs.length=k*2:=by
  have:=OQ hvs
  rw[List.length_take,show eZ.n=2 from rfl] at this
  rw[this]; congr 1; omega
 have hr:=tN (P:=P) w t t ty et b 0 l1 c1 2 ys.length (a.eval y) cs tt vs ht.h (by rw[hti]; simp[hts]) h3 (by rw[hv]; simp[Builtin.lenOf]) hfc zo (UL hvs)
 refine wpList_plain rfl fun K' hK'=>?_
 unfold Oper.wp
 simp only[execOp,resolve,Sem.run_bind,Sem.run_pure,Result.andThen_ok,invoke,builtin,List.map_toArray,List.map_cons,List.map_nil]
 rw[he,hr]
 simp only[Result.andThen_ok,Oper.upon]
 have hnew:=vV (ys:=ys) h4 (k:=k) zo zo hvs
 rw[IC (f':=fun j=>if j<k then b6 ys j else f j) (fun j _ _=>by
  by_cases e:j<k
  ·rw[if_pos ⟨Nat.zero_le _,by omega⟩,if_pos e,Nat.sub_zero]
  ·rw[if_neg zo,if_neg e])] at hnew
 have hst:=hsat.store hm1 h3 hup ⟨_,_,rfl,(by simpa [hvl,Nat.mul_comm] using hnew:n8 g _ (cs.toList.take 0++vs++cs.toList.drop (0+vs.length)).toArray.toList)⟩ inferInstance (y9 hs)
 refine hK' _ _ (K _ g _ (hst.did (E0.same hst.ok (k:=kI k) ?_) (fun _ h=>by cases h) inferInstance (fun _ h=>by cases h) hdn))
 show goInt (Nat.min ys.length l1)=_
 rw[show Nat.min ys.length l1=k from hk.symm]
 rfl
theorem iJ {g:Gh} {a b:d6} {vs:List Value} (h:n8 g [a,b] vs):∃u v,vs=[u,v]/\a g u/\b g v:=by
 match vs,h with
 | [u,v],h=>exact ⟨u,v,rfl,h.1,h.2.1⟩
theorem gC {F C:Nat->Int} {k j:Nat} {z:Int} (hz:z=F k):AL (fun i=>if i<k then F i else C i) k z j=if j<k+1 then F j else C j:=by
 unfold AL
 by_cases e:j=k
 ·subst e; rw[if_pos rfl,if_pos (Nat.lt_succ_self _),hz]
 ·rw[if_neg e]
  show (if j<k then F j else C j)=_
  by_cases h:j<k
  ·rw[if_pos h,if_pos zo]
  ·rw[if_neg h,if_neg zo]
theorem Tr.conC {code:Code} (v:Nat) {ct ct':r8} {dep dep':List Nat} {M':g7} [hl:o8 M v ct dep] (hc:∀g b o,ct g b o->ct' g b o) [hd:y1 ct' dep'] [hup:A4 M v ct' dep' M'] (hs:r7 dep' (tags M)=true) (K:Tr P c S M' code Q):Tr P c S M code Q :=
 fun a g w h=>K a g w (h.conC hc hd hup (y9 hs))
theorem gJ {r r':List d6} (hr:∀g vs,n8 g r vs->n8 g r' vs):∀g b o,j1 ([kB false,j4 (.slice none 0 0),kB false,j4 (.slice none 0 0),kB false,j4 (.slice none 0 0),kB false,j4 (.slice none 0 0)]++r) g b o->j1 (wC (fun _=>0) 0 4++r') g b o:=fun g _ _ ⟨cs,ty,h1,h2⟩=>⟨cs,ty,h1,by
 have hz:∀v,j4 (.slice none 0 0) g v->b7 (eL eI) (d7 (0:Int).natAbs) g v:=fun v h=>by
  cases h
  exact ⟨_,T7 (c:=0),rfl⟩
 match h:cs.toList,h2 with
 | a0::b0::a1::b1::a2::b2::a3::b3::vs,⟨q0,p0,q1,p1,q2,p2,q3,p3,hvs⟩=>exact ⟨q0,hz _ p0,q1,hz _ p1,q2,hz _ p2,q3,hz _ p3,hr _ _ hvs⟩⟩
end
end Go.Fl

/- Contracts: numbers of a field (reduction modulo its polynomial, sums, negatives). -/
namespace Go.Fl
open Go Go.Proofs
open b8 renaming op->tO
open i7 renaming op->rO
set_option maxRecDepth 100000

abbrev z7:=y4×List Int×List Int×Int×Int×Int
abbrev B7:=List (List Int)×List Int
def v9:i5 z7:=eC (fun v:z7=>(v.1,v.2.1,v.2.2.1,v.2.2.2.1,v.2.2.2.2.1,v.2.2.2.2.2,())) (eP E3 (eP (eL eZ) (eP (eL eZ) (eP eZ (eP eZ (eP eZ eU))))))
instance {v:z7}:D5 (b7 v9 v) [b7 (eL eI) (v.1.1),kI (v.1.2.1),kI (v.1.2.2.1),kI (v.1.2.2.2),b7 (eL eZ) (v.2.1),b7 (eL eZ) (v.2.2.1),kB (decide (v.2.2.2.1<0)),b7 (eL eI) (d7 (v.2.2.2.1).natAbs),kB (decide (v.2.2.2.2.1<0)),b7 (eL eI) (d7 (v.2.2.2.2.1).natAbs),kB (decide (v.2.2.2.2.2<0)),b7 (eL eI) (d7 (v.2.2.2.2.2).natAbs)]:=inferInstanceAs (D5 (b7 (eC (fun v:z7=>(v.1,v.2.1,v.2.2.1,v.2.2.2.1,v.2.2.2.2.1,v.2.2.2.2.2,())) (eP E3 (eP (eL eZ) (eP (eL eZ) (eP eZ (eP eZ (eP eZ eU))))))) v) _)
instance {v:z7}:O4 v9 v (b7 v9 v):=⟨fun h=>h⟩
instance {v:z7}:w6 v9 v 0 E3 (v.1) 0:=inferInstanceAs (w6 (eC (fun v:z7=>(v.1,v.2.1,v.2.2.1,v.2.2.2.1,v.2.2.2.2.1,v.2.2.2.2.2,())) (eP E3 (eP (eL eZ) (eP (eL eZ) (eP eZ (eP eZ (eP eZ eU))))))) v 0 _ _ _)
instance {v:z7}:w6 v9 v 1 (eL eZ) (v.2.1) 4:=inferInstanceAs (w6 (eC (fun v:z7=>(v.1,v.2.1,v.2.2.1,v.2.2.2.1,v.2.2.2.2.1,v.2.2.2.2.2,())) (eP E3 (eP (eL eZ) (eP (eL eZ) (eP eZ (eP eZ (eP eZ eU))))))) v 1 _ _ _)
instance {ks r:List d6} {f:y4} {p t:List Int} {a b c:Int} [h:s8 ks (eP E3 (eP (eL eZ) (eP (eL eZ) (eP eZ (eP eZ (eP eZ eU)))))) (f,p,t,a,b,c,()) r]:s8 ks v9 ((f,p,t,a,b,c)) r:=⟨fun h'=>h.imp h'⟩
def m9:i5 B7:=eC (fun v:B7=>(v.1,v.2,())) (eP (eL (eL eI)) (eP (eL eI) eU))
instance {v:B7}:D5 (b7 m9 v) [b7 (eL (eL eI)) (v.1),b7 (eL eI) (v.2)]:=inferInstanceAs (D5 (b7 (eC (fun v:B7=>(v.1,v.2,())) (eP (eL (eL eI)) (eP (eL eI) eU))) v) _)
instance {v:B7}:O4 m9 v (b7 m9 v):=⟨fun h=>h⟩
instance {ks r:List d6} {a:List (List Int)} {b:List Int} [h:s8 ks (eP (eL (eL eI)) (eP (eL eI) eU)) (a,b,()) r]:s8 ks m9 ((a,b)) r:=⟨fun h'=>h.imp h'⟩
instance:VS Tryz.prog 112:=⟨⟨_,Tryz.underlying112⟩⟩
theorem QZ (r:z7) (hn:2<=r.2.1.length/\r.2.1.length<=5):Ct Tryz.prog 160 [r5 v9 r] (kI ((r.2.1.length:Int)-1)):=by
 refine Ct.mk Tryz.func160 rfl Tryz.ntmps160 rfl (fun w J=>?_); refine j3 ?_; refine tO (CM rfl uu) rfl rfl ?_; refine j3 ?_
 exact f0.res1 (fn:=Tryz.f160) rfl (.i rfl zi<|.nil)

theorem kJ (p:List Int) (hn:p.length<=1000000):Q0 Tryz.prog 196 [b7 (eL eZ) p] (fun t=>o7 t p.length) (l3 false 160 eZ p p.length):=by
 refine Q0.mk Tryz.func196 rfl Tryz.ntmps196 rfl (fun w J=>?_); refine l7 ?_; refine tO (JX rfl uu) rfl rfl ?_; refine g8 ?_; refine Tr.exB (s:=4) rfl (fun b1 q1=>?_); refine Tr.cnd rfl ?_ ?_
 ·intro h1
  have he1:[]=p:=(q1 h1).symm
  have he2:0=p.length:=by rw[<- he1]; rfl
  refine n7 ?_; refine Tr.grow (s:=2) rfl rfl 9 rfl 160 eZ rfl ?_; refine g8 ?_
  exact f0.resN (fn:=Tryz.f196) (u:=9) rfl rfl (ES zi zi) (FI zi) inferInstance
 ·intro h1
  refine i1 ?_; refine b8.new (DR eZ 5) rfl rfl rfl rfl ?_; refine g8 ?_; refine jl ?_; refine i1 ?_
  exact f0.resN (fn:=Tryz.f196) (u:=5) rfl rfl (ES zi zi) (FI zi) inferInstance

set_option maxHeartbeats 1000000 in
theorem YI (r:z7) (xs:List Int) (d:Int) (B:Nat) (hn:2<=r.2.1.length/\r.2.1.length<=5) (hL:xs.length<=16) (hc:∀i,dl (b6 xs i)<=B) (hpp:∀i,dl (b6 r.2.1 i)<=1) (hB:B<=600000) (hd:dl d<=700000) (h0:d≠0):Ct Tryz.prog 169 [r5 v9 r,b7 (eL eZ) xs,b7 eW (wh d)] (b7 H7 (loN (T5 r.2.1 xs) d)):=by
 obtain ⟨n,hn1⟩:∃n,r.2.1.length=n+1:=⟨r.2.1.length-1,by omega⟩
 have hn2:r.2.1.length-1=n:=by omega
 refine Ct.mk Tryz.func169 rfl Tryz.ntmps169 rfl (fun w J=>?_); refine g8 ?_; refine jb 5 rfl ?_; refine ja 6 ?_; refine n7 ?_; refine jc (QZ r hn) ?_; refine l5 ?_; refine b8.new (CK 15 (fun hp=>kJ _ zo) (.a rfl uu<|.nil)) rfl rfl rfl rfl ?_; refine j8 ?_; refine tO (U8 rfl uu) rfl rfl ?_; refine i1 ?_
 refine Tr.for1 (σ:=List Int×Nat) [⟨0,true,_,_⟩,⟨1,true,_,_⟩,⟨5,true,_,_⟩,⟨6,true,_,_⟩,⟨7,true,_,_⟩] [⟨5,_,_⟩,⟨6,_,_⟩] (fun (ys,m)=>[⟨8,true,[],kI ((m:Int)-1)⟩]) (fun (ys,m)=>[⟨15,[],l3 false 160 eZ ys xs.length⟩]) (fun (ys,m)=>ys.length=xs.length/\m<=xs.length/\red r.2.1 (ys.take m)=red r.2.1 xs/\(∀j,dl (b6 ys j)<=B+2*(xs.length-m))/\(n<=m\/m=xs.length)) (fun (ys,m)=>ys.length=xs.length/\m=min n xs.length/\red r.2.1 (ys.take m)=red r.2.1 xs/\(∀j,dl (b6 ys j)<=B+2*(xs.length-m))) (fun (ys,m)=>m) ((xs,xs.length)) ⟨rfl,Nat.le_refl _,by rw[List.take_length],fun j=>by have:=hc j; omega,.inr rfl⟩ (d8.mk (.i rfl zi<|zk) (zk) rfl) ?_ ?_
 ·rintro ⟨ys,m⟩ ⟨hl,hm,hr,hy,hnm⟩
  refine jn ?_; refine j3 ?_; refine jq ?_ ?_
  ·intro h4
   refine t6 ?_
   refine Tr.for1 (σ:=Nat) [⟨0,true,_,_⟩,⟨1,true,_,_⟩,⟨5,true,_,_⟩,⟨6,true,_,_⟩,⟨7,true,_,_⟩,⟨8,true,_,_⟩,⟨24,true,_,_⟩] [⟨5,_,_⟩,⟨6,_,_⟩] (fun k=>[⟨25,true,[],kI (k:Int)⟩]) (fun k=>[⟨15,[],l3 false 160 eZ (N1 r.2.1 ys n (m-1) k) xs.length⟩]) (fun k=>k<=n) (fun k=>k=n) (fun k=>n-k) (0) zi (d8.mk (.i rfl zi<|zk) (.a vB zi<|zk) rfl) ?_ ?_
   ·intro k hR1
    refine jn ?_
    have hix:((m:Int)-1-((r.2.1.length:Int)-1)+(k:Int)).toNat=m-1-n+k:=by omega
    have hiy:((m:Int)-1).toNat=m-1:=by omega
    have hsd:=eR (p:=r.2.1) (ys:=ys) (n:=n) (i:=m-1) (k:=k) zo zo hy hpp
    have hsl:(N1 r.2.1 ys n (m-1) k).length=ys.length:=PC
    refine l5 ?_; refine jq ?_ ?_
    ·intro h7
     refine t6 ?_; refine Tr.draw 28 p7 (by kernel_rfl) ?_; refine B1 ?_; refine rO (BH rfl uu rfl rfl rfl rfl) rfl rfl ?_; refine j5 ?_; refine rO (BH rfl uu rfl rfl rfl rfl) rfl rfl ?_; refine i6 ?_; refine rO (CM rfl uu) rfl rfl ?_; refine n7 ?_; refine rO (i9 (fun hp=>I3 _ _ (Nat.le_trans (hsd _) zo) (Nat.le_trans (hpp _) zo)) (.a rfl uu<|.a rfl uu<|.nil)) rfl rfl ?_; refine rO (i9 (fun hp=>BX _) (.a rfl uu<|.nil)) rfl rfl ?_; refine rO (i9 (fun hp=>S5 _ _ (Nat.le_trans (hsd _) zo) (by rw[J5]; exact Nat.le_trans (u7 _ _) (Nat.le_trans (Nat.add_le_add (hsd _) (hpp _)) zo))) (.a rfl uu<|.a rfl uu<|.nil)) rfl rfl ?_
     refine t6 ?_
     exact g6.lp (k+1) zi zo (d8.mk (.i rfl zi<|zk) (.a (by rw[hix,hiy,eS zo zo,eS zo zo]; exact uZ zo zo zo) zi<|zk) rfl)
    ·intro h7
     replace h7:=Int.not_lt.1 h7
     refine i1 ?_
     exact g6.cut (k) zo (d8.mk (.i rfl zi<|zk) (zk) rfl)
   ·rintro k hkn
    refine je ?_; refine j8 ?_
    exact g6.lp ((N1 r.2.1 ys n (m-1) n,m-1)) ⟨PC.trans hl,by omega,(tF hn2 zo zo).trans hr,fun j=>by have:=eR (p:=r.2.1) (n:=n) (i:=m-1) (k:=n) zo zo hy hpp j; omega,.inl zo⟩ (by show m-1<m; omega) (d8.mk (.i rfl zi<|zk) (.a (by rw[hkn]) zi<|zk) rfl)
  ·intro h4
   replace h4:=Int.not_le.1 h4
   refine i1 ?_
   exact g6.cut ((ys,m)) ⟨hl,by omega,hr,hy⟩ (d8.mk (.i rfl zi<|zk) (zk) rfl)
 ·rintro ⟨ys,m⟩ ⟨hl,hm,hr,hy⟩
  refine je ?_
  obtain ⟨X,hX⟩:∃X,X=(if (ys.length:Int)<(r.2.1.length:Int)-1 then (ys.length:Int) else (r.2.1.length:Int)-1).toNat:=⟨_,rfl⟩
  have hXm:X=m:=by split at hX<;>omega
  have U4:∀i,i<4->b6 (red r.2.1 xs) i=(if i<m then b6 ys i else 0)/\dl (b6 (red r.2.1 xs) i)<=B+2*(xs.length-m):=fun i _=>nL hn2 zo zo hr hy i
  have hnt:∀i,i<m->b6 (ys.take X) i=b6 ys i:=fun i h=>N8 zo
  have hpd:∀i,i<4->(if i<m then b6 (ys.take X) i else 0)=b6 (red r.2.1 xs) i:=fun i h=>by rw[(U4 i h).1]; split; (rename_i h2; exact hnt i h2); rfl
  have hdp:∀i,i<4->dl (if i<m then b6 (ys.take X) i else 0)<=700000:=fun i h=>by rw[hpd i h]; have:=(U4 i h).2; omega
  refine j5 ?_; refine ja 10 ?_; refine j5 ?_; refine Tr.conC 10 (ct':=j1 (wC (fun _=>0) 0 4++[kB (decide ((0:Int)<0)),b7 (eL eI) (d7 ((0:Int)).natAbs)])) (gJ (r':=[kB (decide ((0:Int)<0)),b7 (eL eI) (d7 ((0:Int)).natAbs)]) fun _ _ h=>by obtain ⟨u,v,rfl,h1,h2⟩:=iJ h; cases h1; cases h2; exact ⟨rfl,⟨_,T7 (c:=0),rfl⟩,trivial⟩) rfl ?_; refine Tr.frz 15 [1] ⟨rfl,trivial⟩ (by simp only[q7]; omega) rfl ?_; refine jn ?_; refine Tr.draw 9 p7 (by kernel_rfl) ?_; refine g8 ?_; refine rO (rZ rfl uu rfl uu (fun _=>zo)) rfl rfl ?_
  refine i1 ?_; refine rO (cQ rfl uu rfl uu) rfl rfl ?_; refine rO (FH rfl uu rfl uu (fun _=>zo)) rfl rfl ?_; refine i6 ?_; refine b8.cpW (m) rfl rfl (by rw[List.length_take]; split<;>omega) zo rfl rfl ?_; refine Z5 ?_; refine Tr.cnd rfl ?_ ?_
  ·intro h14
   try simp only[decide_eq_true_eq] at h14
   refine j5 ?_; refine jc (BX d) ?_; refine l7 ?_
   refine Tr.for1 (σ:=Nat) [⟨6,true,_,_⟩,⟨10,true,_,_⟩] [⟨6,_,_⟩] (fun k=>[⟨75,true,[],kI (k:Int)⟩]) (fun k=>[⟨10,[],j1 (wC (fun i=>if i<k then -(if i<m then b6 (ys.take X) i else 0) else (if i<m then b6 (ys.take X) i else 0)) 0 4++[kB (decide (-d<0)),b7 (eL eI) (d7 (-d).natAbs)])⟩]) (fun k=>k<=4) (fun k=>k=4) (fun k=>4-k) (0) zi (d8.mk (.i rfl zi<|zk) (.conv (cW (fun j _=>by subst hX; exact (if_neg (Nat.not_lt_zero _)).symm) rfl) rfl<|zk) rfl) ?_ ?_
   ·intro k hR2
    refine jn ?_; refine l5 ?_; refine jq ?_ ?_
    ·intro h17
     refine C6 ?_; refine tO (BG rfl uu rfl uu (fun _=>zo)) rfl rfl ?_; refine tO (HN (k) (fun _=>zo) (fun _=>zo) rfl uu) rfl rfl ?_; refine tO (i9 (fun hp=>BX _) (.a rfl uu<|.nil)) rfl rfl ?_; refine i6 ?_; refine tO (BG rfl uu rfl uu (fun _=>zo)) rfl rfl ?_; refine b8.stW (k) zo zo rfl rfl rfl ?_; refine j8 ?_
     exact g6.lp (k+1) zi zo (d8.mk (.i rfl zi<|zk) (.conv (cW (fun j _=>gC (F:=fun i=>-(if i<m then b6 (ys.take X) i else 0)) (C:=fun i=>(if i<m then b6 (ys.take X) i else 0)) (by rw[if_neg (Nat.lt_irrefl k)])) rfl) rfl<|zk) rfl)
    ·intro h17
     replace h17:=Int.not_lt.1 h17
     refine i1 ?_
     exact g6.cut (k) zo (d8.mk (.i rfl zi<|zk) (zk) rfl)
   ·rintro _ rfl
    refine je ?_; refine i1 ?_
    refine tO (i9 (fun hp=>RC _ _ (BY fun i hi=>by first | (subst hX; exact hdp i hi) | (rw[if_pos hi,J5]; exact hdp i hi)) (by first | exact hd | (rw[J5]; exact hd)) zo) (.se rfl uu rfl rfl<|.nil)) rfl rfl ?_
    refine i1 ?_; exact f0.resC1 (fn:=Tryz.f169) rfl rfl (s6 rfl (by rw[DK (by rw[BD,q9]),<- pZ h0]; refine congrArg (fun l=>loN l (-d)) ?_; simp only[T5,l6,List.map_map]; exact List.map_congr_left fun i hi=>by have hi:=List.mem_range.1 hi; simp only[Function.comp]; rw[if_pos hi,hpd i hi]))
  ·intro h14
   try simp only[decide_eq_false_iff_not,Int.not_lt] at h14
   refine n7 ?_
   refine tO (i9 (fun hp=>RC _ _ (BY fun i hi=>by first | (subst hX; exact hdp i hi) | (rw[if_pos hi,J5]; exact hdp i hi)) (by first | exact hd | (rw[J5]; exact hd)) zo) (.se rfl uu rfl rfl<|.nil)) rfl rfl ?_
   refine i1 ?_; exact f0.resC1 (fn:=Tryz.f169) rfl rfl (s6 rfl (by rw[DK (by rw[BD,q9])]; subst hX; exact congrArg (fun l=>loN l d) (D9 hpd)))

theorem RD (c:List Int) (d:Int):Ct Tryz.prog 141 [b7 H7 (c,d)] (b7 H7 (c.map fun z=>-z,d)):=by
 refine Ct.mk Tryz.func141 rfl Tryz.ntmps141 rfl (fun w J=>?_); refine Tr.fact (s:=0) rfl (fun _ _ h=>MP h) (fun hl=>?_)
 have hl:c.length=4:=hl
 refine g8 ?_; refine jb 1 rfl ?_; refine ja 2 ?_; refine t6 ?_
 refine Tr.for1 (σ:=Nat) [⟨1,true,_,_⟩,⟨2,true,_,_⟩,⟨6,true,_,_⟩] [⟨2,_,_⟩] (fun k=>[⟨7,true,[],kI (k:Int)⟩]) (fun k=>[⟨1,[],j1 (wC (fun i=>if i<k then -b6 c i else b6 c i) 0 4++[kB (decide (d<0)),b7 (eL eI) (d7 (d).natAbs)])⟩]) (fun k=>k<=4) (fun k=>k=4) (fun k=>4-k) (0) zi (d8.mk (.i rfl zi<|zk) (.conv (cW (fun j _=>(if_neg zo).symm) rfl) rfl<|zk) rfl) ?_ ?_
 ·intro k hR0
  refine jn ?_; refine l5 ?_; refine jq ?_ ?_
  ·intro h2
   refine j8 ?_; refine tO (TX rfl uu rfl uu (fun _=>zo)) rfl rfl ?_; refine ja 4 ?_; refine j8 ?_; refine jc (BX (b6 c k)) ?_; refine i6 ?_; refine tO (BG rfl uu rfl uu (fun _=>zo)) rfl rfl ?_; refine b8.stW (k) zo zo rfl rfl rfl ?_; refine j8 ?_
   exact g6.lp (k+1) zi zo (d8.mk (.i rfl zi<|zk) (.conv (cW (fun j _=>gC (F:=fun i=>-b6 c i) (C:=fun i=>b6 c i) rfl) rfl) rfl<|zk) rfl)
  ·intro h2
   replace h2:=Int.not_lt.1 h2
   refine i1 ?_
   exact g6.cut (k) zo (d8.mk (.i rfl zi<|zk) (zk) rfl)
 ·rintro _ rfl
  refine je ?_; refine j3 ?_; exact f0.resC1 (fn:=Tryz.f141) rfl rfl (s6 rfl (by rw[bT hl]; exact Prod.ext (D9 fun i hi=>if_pos hi) rfl))

theorem LZ (x y:List Int×Int) (hx:∀i,dl (b6 x.1 i)<=300000) (hy:∀i,dl (b6 y.1 i)<=300000) (hdx:dl x.2<=300000) (hdy:dl y.2<=300000) (hpx:0<x.2) (hpy:0<y.2):Ct Tryz.prog 140 [b7 H7 x,b7 H7 y] (b7 H7 (H3 x y)):=by
 refine Ct.mk Tryz.func140 rfl Tryz.ntmps140 rfl (fun w J=>?_); refine g8 ?_; refine jb 2 rfl ?_; refine jb 3 rfl ?_; refine ja 4 ?_; refine j3 ?_; refine jc (I3 x.2 y.2 zo zo) ?_; refine tO (w5 (fun hp=>.cons rfl rfl rfl<|.nil)) rfl rfl ?_; refine ja 5 ?_; refine l7 ?_
 refine Tr.for1 (σ:=Nat) [⟨2,true,_,_⟩,⟨3,true,_,_⟩,⟨4,true,_,_⟩,⟨5,true,_,_⟩] [⟨2,_,_⟩,⟨3,_,_⟩,⟨4,_,_⟩] (fun k=>[⟨13,true,[],kI (k:Int)⟩]) (fun k=>[⟨5,[],j1 (wC (fun i=>if i<k then b6 x.1 i*y.2+b6 y.1 i*x.2 else 0) 0 4++[kB (decide (x.2*y.2<0)),b7 (eL eI) (d7 (x.2*y.2).natAbs)])⟩]) (fun k=>k<=4) (fun k=>k=4) (fun k=>4-k) (0) zi (d8.mk (.i rfl zi<|zk) (.conv (gJ (fun _ _ h=>h)) rfl<|zk) rfl) ?_ ?_
 ·intro k hR0
  refine jn ?_
  have h1:=hx k
  have h2:=hy k
  have h3:=u7 (b6 x.1 k) y.2
  have h4:=u7 (b6 y.1 k) x.2
  refine l5 ?_; refine jq ?_ ?_
  ·intro h3
   refine t6 ?_; refine Tr.draw 17 p7 (by kernel_rfl) ?_; refine j5 ?_; refine rO (BG rfl uu rfl uu (fun _=>zo)) rfl rfl ?_; refine rO (HN (k) (fun _=>zo) (fun _=>zo) rfl uu) rfl rfl ?_; refine g8 ?_; refine jd (I3 (b6 x.1 k) y.2 zo zo) ?_; refine g8 ?_; refine rO (BG rfl uu rfl uu (fun _=>zo)) rfl rfl ?_; refine rO (HN (k) (fun _=>zo) (fun _=>zo) rfl uu) rfl rfl ?_; refine g8 ?_; refine jd (I3 (b6 y.1 k) x.2 zo zo) ?_; refine jd (S5 (b6 x.1 k*y.2) (b6 y.1 k*x.2) zo zo) ?_
   refine g8 ?_; refine tO (BG rfl uu rfl uu (fun _=>zo)) rfl rfl ?_; refine b8.stW (k) zo zo rfl rfl rfl ?_; refine j8 ?_
   exact g6.lp (k+1) zi zo (d8.mk (.i rfl zi<|zk) (.conv (cW (fun j _=>by simp only[AL]; by_cases e:j=k; (rw[if_pos e,if_pos zo,e]); (rw[if_neg e]; by_cases e2:j<k; (rw[if_pos e2,if_pos zo]); (rw[if_neg e2,if_neg zo]))) rfl) rfl<|zk) rfl)
  ·intro h3
   replace h3:=Int.not_lt.1 h3
   refine i1 ?_
   exact g6.cut (k) zo (d8.mk (.i rfl zi<|zk) (zk) rfl)
 ·rintro _ rfl
  refine je ?_; refine i1 ?_; refine tO (i9 (fun hp=>RC _ _ (BY fun i hi=>by rw[if_pos hi]; exact Nat.le_trans (nF hx hy hdx hdy i) zo) (by have:=u7 x.2 y.2; omega) (Int.mul_pos hpx hpy)) (.se rfl uu rfl rfl<|.nil)) rfl rfl ?_; refine i1 ?_; exact f0.resC1 (fn:=Tryz.f140) rfl rfl (s6 rfl (by rw[DK (by rw[BD,q9])]; unfold H3; exact congrArg (fun l=>loN l (x.2*y.2)) (D9 fun i hi=>if_pos hi)))

end Go.Fl

/- Numbers of a field: how they are read and handed back; sizes. No program in sight. -/
namespace Go.Fl
open Go
def S6 (d:List Int):Int:=if val d=0 then 1 else val d
theorem MG {d:List Int}:S6 d≠0:=by unfold S6; split<;>omega
def o0 (p:List Int) (x:List (List Int)×List Int):List Int×Int:=loN (T5 p (x.1.map val)) (S6 x.2)
def o4 (v:List Int×Int):List (List Int)×List Int:=((j9 v.1).map j2,j2 v.2)
def I1 (p:List Int):Prop:=(2<=p.length/\p.length<=5)/\∀i,dl (b6 p i)<=1
structure C1 (k:Nat) (x:List (List Int)×List Int):Prop where
 len:x.1.length<=6
 c:∀i,B6 (b6 x.1 i)/\(b6 x.1 i).length<=k
 d:B6 x.2/\x.2.length<=k
structure E7 (k:Nat) (v:List Int×Int):Prop where
 c:∀i,dl (b6 v.1 i)<=k
 d:dl v.2<=k
 pos:0<v.2
 len:v.1.length=4
theorem TV {α:Type} [Inhabited α] {i:Nat}:b6 ([]:List α) i=default:=rfl
theorem w4 {α:Type} [Inhabited α] {xs:List α} {i:Nat} (h:xs.length<=i):b6 xs i=default:=by simp[b6,List.getD,List.getElem?_eq_none h]
theorem TT {xs:List (List Int)} {i:Nat}:b6 (xs.map val) i=val (b6 xs i):=by
 by_cases h:i<xs.length
 ·simp[b6,h]
 ·rw[w4 (by simpa using h),w4 zo]; rfl
theorem vG {xs:List (List Int)}:(l6 xs.length fun i=>val (b6 xs i))=xs.map val:=by
 have h:(xs.map val).length=xs.length:=List.length_map ..
 conv=>rhs; rw[T8 h]
 exact D9 fun i _=>TT.symm
theorem YY {d:List Int} {k:Nat} (h:B6 d) (hl:d.length<=k):dl (S6 d)<=k+3:=by
 unfold S6
 split
 ·have:=RO (n:=1) zo; omega
 ·have:=M5 h; omega
theorem ZB {p:List Int} {n:Nat} (hp:∀i,dl (b6 p i)<=1):∀{f B:Nat} {xs:List Int},(∀i,dl (b6 xs i)<=B)->∀i,dl (b6 (BK p n f xs) i)<=B+2*f
 | 0,B,xs,h,i=>by
  rw[BK,JQ]
  split
  ·have:=h i; omega
  ·rw[E2.2 rfl]; omega
 | f+1,B,xs,h,i=>by
  rw[BK]
  split
  ·rw[JQ]
   split
   ·have:=h i; omega
   ·rw[E2.2 rfl]; omega
  ·have h1:∀j,dl (b6 (FL p n xs) j)<=B+2:=fun j=>by
    unfold FL
    refine BY (fun q _=>?_) j
    split
    ·rw[Int.sub_eq_add_neg]
     have:=ZC (h q) (h (xs.length-1)) (hp (q-(xs.length-1-n)))
     omega
    ·rw[Int.sub_zero]; have:=h q; omega
   have:=ZB (n:=n) hp h1 i (f:=f)
   omega
theorem nK {p xs:List Int} {B:Nat} (hp:∀i,dl (b6 p i)<=1) (h:∀i,dl (b6 xs i)<=B) (i:Nat):dl (b6 (T5 p xs) i)<=B+2*xs.length:=by
 unfold T5
 refine BY (fun j _=>?_) i
 unfold red
 have:=ZB hp h j (n:=p.length-1) (f:=xs.length-(p.length-1))
 omega
theorem qX {a g:Int} (hg:g∣a):(a/g).natAbs<=a.natAbs:=by
 obtain ⟨q,rfl⟩:=hg
 by_cases h:g=0
 ·subst h; simp
 ·rw[Int.mul_ediv_cancel_left _ h,Int.natAbs_mul]
  exact Nat.le_mul_of_pos_left _ zo
theorem YZ {a g:Int} (hg:g∣a):dl (a/g)<=dl a:=J8 (qX hg)
theorem TU {xs:List Int} {i:Nat} (h:i<xs.length):b6 xs i∈xs:=by simp[b6,h]
theorem TD {cs:List Int} {d:Int} {k:Nat} (hc:∀i,dl (b6 cs i)<=k) (hd:dl d<=k) (h0:d≠0) (hl:cs.length=4):E7 k (loN cs d):=by
 refine ⟨fun i=>?_,?_,JM h0,by rw[BD,hl]⟩
 ·by_cases h:i<cs.length
  ·have e:b6 (loN cs d).1 i=b6 cs i/u5 d cs:=by simp[loN,b6,h]
   rw[e]
   exact Nat.le_trans (YZ (AJ (.inr (TU h)))) (hc i)
  ·rw[w4 (by rw[BD]; omega)]
   show dl 0<=k
   rw[E2.2 rfl]; omega
 ·exact Nat.le_trans (YZ (AJ (.inl rfl))) hd
theorem Y1 {p:List Int} {x:List (List Int)×List Int} {k:Nat} (hp:I1 p) (hx:C1 k x):E7 (k+15) (o0 p x):=by
 refine TD (fun i=>?_) ?_ MG HQ
 ·have:=nK (xs:=x.1.map val) (B:=k+3) hp.2 (fun j=>by rw[TT]; have:=M5 (hx.c j).1; have:=(hx.c j).2; omega) i
  rw[List.length_map] at this
  have:=hx.len
  omega
 ·have:=YY hx.d.1 hx.d.2; omega
theorem LC {x y:List Int×Int} {j k:Nat} (hx:E7 j x) (hy:E7 k y):E7 (j+k+1) (H3 x y):=by
 refine TD (BY fun i _=>?_) ?_ ?_ q9
 ·have h1:=u7 (b6 x.1 i) y.2
  have h2:=u7 (b6 y.1 i) x.2
  have h3:=S7 (b6 x.1 i*y.2) (b6 y.1 i*x.2)
  have:=hx.c i; have:=hy.c i; have:=hx.d; have:=hy.d
  omega
 ·have:=u7 x.2 y.2; have:=hx.d; have:=hy.d; omega
 ·have:=Int.mul_pos hx.pos hy.pos; omega
theorem TO {x:List Int×Int} {k:Nat} (hx:E7 k x):E7 k (x.1.map fun z=>-z,x.2):=by
 refine ⟨fun i=>?_,hx.d,hx.pos,by simp[hx.len]⟩
 rw[bT hx.len]
 exact BY (fun j _=>by rw[J5]; exact hx.c j) i
def O0 (c:List Int):Bool:=!(((l6 4 (b6 c)).take 4).drop 1).any fun z=>decide (s7 z 0≠0)
theorem KC {c:List Int} (h:∀i,1<=i->i<4->b6 c i=0):O0 c=true:=by
 have e:l6 4 (b6 c)=[b6 c 0,b6 c 1,b6 c 2,b6 c 3]:=rfl
 unfold O0
 rw[e,h 1 zo zo,h 2 zo zo,h 3 zo zo]
 rfl
theorem UK {c:List Int}:O0 c=true↔∀i,1<=i->i<4->b6 c i=0:=by
 refine ⟨fun h=>?_,KC⟩
 have e:l6 4 (b6 c)=[b6 c 0,b6 c 1,b6 c 2,b6 c 3]:=rfl
 unfold O0 at h
 rw[e] at h
 simp only[List.take_succ_cons,List.take_zero,List.drop_succ_cons,List.drop_zero,List.any_cons,List.any_nil,Bool.or_false,Bool.not_eq_true',Bool.or_eq_false_iff,decide_eq_false_iff_not,Classical.not_not,ne_eq] at h
 intro i h1 h2
 obtain ⟨q1,q2,q3⟩:=h
 rcases (show i=1\/i=2\/i=3 by omega) with rfl | rfl | rfl
 ·exact U0.1 q1
 ·exact U0.1 q2
 ·exact U0.1 q3
theorem TS {cs:List Int} {d:Int} {i:Nat} (h:i<cs.length):b6 (loN cs d).1 i=b6 cs i/u5 d cs:=by simp[loN,b6,h]
theorem dG {x y:List Int×Int} (hx:O0 x.1=true) (hy:O0 y.1=true):O0 (H3 x y).1=true:=by
 refine KC fun i h1 h2=>?_
 unfold H3
 rw[TS (by rw[q9]; exact h2),s9 h2,UK.1 hx i h1 h2,UK.1 hy i h1 h2]
 simp
theorem dH {c:List Int} (h:O0 c=true):O0 (c.map fun z=>-z)=true:=by
 refine KC fun i h1 h2=>?_
 by_cases hl:i<c.length
 ·simp only[b6,List.getD,List.getElem?_map,List.getElem?_eq_getElem hl,Option.map_some,Option.getD_some]
  have:=UK.1 h i h1 h2
  simp only[b6,List.getD,List.getElem?_eq_getElem hl,Option.getD_some] at this
  omega
 ·rw[w4 (by rw[List.length_map]; omega)]; rfl
theorem oQ {c:List Int} {d:Int} {n:Nat} (h:j9 c=c.take n):(l6 n (fun i=>j2 (b6 c i)),j2 d)=o4 (c,d)\/c.length<n:=by
 by_cases hn:n<=c.length
 ·left
  unfold o4
  rw[h]
  refine Prod.ext ?_ rfl
  have hl:(c.take n).length=n:=by rw[List.length_take]; omega
  show _=(c.take n).map j2
  conv=>rhs; rw[T8 hl]
  simp only[l6,List.map_map]
  refine List.map_congr_left fun i hi=>?_
  have hi:i<n:=List.mem_range.1 hi
  simp[Function.comp,N8 hi]
 ·right; omega
theorem nH {n:Int} {k:Nat} (h:dl n<=3) (i:Nat):dl (b6 [n,0,0,0] i)<=k+3:=by
 match i with
 | 0=>show dl n<=_; omega
 | 1=>show dl 0<=_; rw[E2.2 rfl]; omega
 | 2=>show dl 0<=_; rw[E2.2 rfl]; omega
 | 3=>show dl 0<=_; rw[E2.2 rfl]; omega
 | i+4=>rw[w4 (by simp)]; show dl 0<=_; rw[E2.2 rfl]; omega
theorem OO {p xs:List Int} {d:Int} (hp:p.length=2):O0 (loN (T5 p xs) d).1=true:=by
 refine KC fun i h1 h2=>?_
 have e:b6 (loN (T5 p xs) d).1 i=b6 (T5 p xs) i/u5 d (T5 p xs):=by simp[loN,b6,HQ,h2]
 rw[e,cE h2,w4 (by rw[dS,hp]; omega)]
 simp
end Go.Fl

/- Contracts: numbers of a field (reading, handing back; sums, differences; signs of fractions). -/
namespace Go.Fl
open Go Go.Proofs
open b8 renaming op->tO
open i7 renaming op->rO
set_option maxRecDepth 100000

theorem jW (xs:List Int) (f:FuncId) (q:Int->Bool) [d9 Tryz.prog f] (hf:∀z,Ct Tryz.prog f [b7 eW (wh z)] (kB (q z))):Ct Tryz.prog 216 [b7 (eL eZ) xs,j4 (.func (.func f) #[] #[])] (kI (DM q xs)):=by
 refine Ct.mk Tryz.func216 rfl Tryz.ntmps216 rfl (fun w J=>?_); refine Tr.fact (s:=0) rfl (fun _ _ h=>P0 h) (fun hb=>?_); refine B1 ?_
 refine Tr.for1 (σ:=Nat) [⟨0,true,_,_⟩,⟨1,true,_,_⟩,⟨7,true,_,_⟩] [] (fun k=>[⟨8,true,[],kI (k:Int)⟩]) (fun k=>[]) (fun k=>k<=xs.length/\∀i,i<k->q (b6 xs i)=false) (fun k=>∀i,i<xs.length->q (b6 xs i)=false) (fun k=>xs.length-k) (0) ⟨by omega,fun i h=>absurd h zo⟩ (d8.mk (.i rfl zi<|zk) (.nil) rfl) ?_ ?_
 ·rintro k ⟨hk,hR⟩
  refine jn ?_; refine l5 ?_; refine jq ?_ ?_
  ·intro h2
   refine T0 ?_; refine tO (HK rfl uu (fun hp=>hf _) (.a rfl uu<|.nil)) rfl rfl ?_; refine g8 ?_; refine Tr.cnd rfl ?_ ?_
   ·intro h4
    refine B1 ?_; exact f0.res1 (fn:=Tryz.f216) rfl (.i rfl (aE zo hR h4)<|.nil)
   ·intro h4
    refine j8 ?_
    exact g6.lp (k+1) ⟨by omega,fun i hi=>by (rcases Nat.lt_succ_iff_lt_or_eq.1 hi with h | h; exact hR i h; subst h; exact h4)⟩ zo (d8.mk (.i rfl zi<|zk) (.nil) rfl)
  ·intro h2
   replace h2:=Int.not_lt.1 h2
   refine i1 ?_
   exact g6.cut (k) (fun i hi=>hR i zo) (d8.mk (.i rfl zi<|zk) (.nil) rfl)
 ·intro k hE
  refine je ?_; refine j8 ?_; exact f0.res1 (fn:=Tryz.f216) rfl (.i rfl (aF hE)<|.nil)

theorem jT (xs:List Int) (f:FuncId) (q:Int->Bool) [d9 Tryz.prog f] (hf:∀z,Ct Tryz.prog f [b7 eW (wh z)] (kB (q z))):Ct Tryz.prog 199 [b7 (eL eZ) xs,j4 (.func (.func f) #[] #[])] (kB (xs.any q)):=by
 refine Ct.mk Tryz.func199 rfl Tryz.ntmps199 rfl (fun w J=>?_); refine l7 ?_; refine tO (i9 (fun hp=>jW _ f q hf) (.a rfl uu<|.a rfl uu<|.nil)) rfl rfl ?_; refine n7 ?_; exact f0.res1 (fn:=Tryz.f199) rfl (.b rfl aG<|.nil)

theorem mD (z:Int):Ct Tryz.prog 200 [b7 eW (wh z)] (kB (decide (s7 z 0≠0))):=by
 refine Ct.mk Tryz.func200 rfl Tryz.ntmps200 rfl (fun w J=>?_); refine g8 ?_; refine jb 1 rfl ?_; refine l5 ?_; refine jc (Y9 z) ?_; refine n7 ?_
 exact f0.res1 (fn:=Tryz.f200) rfl (.b rfl zi<|.nil)

theorem YG (c:List Int) (d:Int):Ct Tryz.prog 180 [b7 H7 (c,d)] (kB (O0 c)):=by
 refine Ct.mk Tryz.func180 rfl Tryz.ntmps180 rfl (fun w J=>?_); refine g8 ?_; refine jb 1 rfl ?_; refine i1 ?_; refine Tr.frzB 1 [1] H7 ⟨rfl,trivial⟩ rfl ?_; refine jn ?_; refine g8 ?_; refine tO (sA rfl uu rfl uu rfl rfl (fun _=>zo)) rfl rfl ?_; refine tO (i9 (fun hp=>jT _ 200 (fun z=>decide (s7 z 0≠0)) (fun z=>mD z)) (.a rfl uu<|.a rfl uu<|.nil)) rfl rfl ?_; refine n7 ?_; exact f0.res1 (fn:=Tryz.f180) rfl (.b rfl (by rfl)<|.nil)

theorem YM (r:z7) (c:List Int) (d:Int) (hq:O0 c=true):Ct Tryz.prog 139 [r5 v9 r,b7 H7 (c,d)] (kI (s7 (b6 c 0) 0)):=by
 refine Ct.mk Tryz.func139 rfl Tryz.ntmps139 rfl (fun w J=>?_); refine Tr.fact (s:=1) rfl (fun _ _ h=>MP h) (fun hl=>?_)
 have hl:c.length=4:=hl
 refine g8 ?_; refine jb 3 rfl ?_; refine j8 ?_; refine tO (i9 (fun hp=>YG c d) (.se rfl uu rfl (DK (v:=(c,d)) hl)<|.nil)) rfl rfl ?_; refine g8 ?_; refine Tr.cnd rfl ?_ ?_
 ·intro h1
  refine j5 ?_; refine tO (BG rfl uu rfl uu (fun _=>by decide)) rfl rfl ?_; refine tO (HN (0) (fun _=>zo) (fun _=>zo) rfl uu) rfl rfl ?_; refine jc (Y9 (b6 c 0)) ?_; refine n7 ?_; exact f0.res1 (fn:=Tryz.f139) rfl (.i rfl (by rfl)<|.nil)
 ·intro h1
  rw[hq] at h1; cases h1

theorem Y8 (r:z7) (x:B7) (k:Nat) (hpo:I1 r.2.1) (hx:C1 k x) (hk:k<=500000):Ct Tryz.prog 119 [r5 v9 r,b7 m9 x] (b7 H7 (o0 r.2.1 x)):=by
 have hdx:=M5 hx.d.1
 have hld:=hx.d.2
 have hlx:=hx.len
 have hdd:=YY hx.d.1 hx.d.2
 refine Ct.mk Tryz.func119 rfl Tryz.ntmps119 rfl (fun w J=>?_); refine g8 ?_; refine jb 3 rfl ?_; refine ja 4 ?_; refine Z5 ?_; refine Tr.grow (s:=5) rfl rfl 55 rfl 160 eZ rfl ?_
 refine Tr.for1 (σ:=Nat) [⟨0,true,_,_⟩,⟨3,true,_,_⟩,⟨4,true,_,_⟩,⟨10,true,_,_⟩,⟨11,true,_,_⟩] [⟨3,_,_⟩,⟨4,_,_⟩] (fun k2=>[⟨5,true,[55],o7 55 k2⟩,⟨12,true,[],kI (k2:Int)⟩]) (fun k2=>[⟨55,[],l3 true 160 eZ (l6 k2 fun i=>val (b6 x.1 i)) k2⟩]) (fun k2=>k2<=x.1.length) (fun k2=>k2=x.1.length) (fun k2=>x.1.length-k2) (0) zi (d8.mk (.o rfl zi rfl<|.i rfl zi<|zk) (.a (by rfl) zi<|zk) rfl) ?_ ?_
 ·intro k2 hR0
  refine jn ?_
  have hck:=hx.c k2
  refine l5 ?_; refine jq ?_ ?_
  ·intro h3
   refine C6 ?_; refine tO (i9 (fun hp=>RB _ hck.1 zo) (.a rfl uu<|.nil)) rfl rfl ?_; refine b8.new (A1 eZ 19 (fun hp=>.cons rfl<|.nil) rfl rfl rfl rfl) rfl rfl rfl rfl ?_; refine i6 ?_; refine jl ?_; refine j3 ?_
   exact g6.lp (k2+1) zi zo (d8.mk (.o rfl zi rfl<|.i rfl zi<|zk) (.a F9.symm zi<|zk) rfl)
  ·intro h3
   replace h3:=Int.not_lt.1 h3
   refine i1 ?_
   exact g6.cut (k2) zo (d8.mk (.o rfl zi rfl<|.i rfl zi<|zk) (zk) rfl)
 ·rintro _ rfl
  refine je ?_
  have hcm:=vG (xs:=x.1)
  refine n7 ?_; refine tO (i9 (fun hp=>RB _ hx.d.1 zo) (.a rfl uu<|.nil)) rfl rfl ?_; refine ja 8 ?_; refine j8 ?_; refine jc (Y9 (val x.2)) ?_; refine j5 ?_; refine jq ?_ ?_
  ·intro h8
   have hv0:=U0.1 h8
   refine i6 ?_; refine jc (M4 1 zo) ?_; refine j3 ?_; refine b8.frz 55 [5,30] ⟨rfl,rfl,trivial⟩ (by simp only[q7]; omega) rfl ?_; refine jl ?_
   refine tO (i9 (fun hp=>YI r _ (S6 x.2) (k+3) hpo.1 (by rw[q9]; omega) (BY fun i _=>by have:=M5 (hx.c i).1; have:=(hx.c i).2; omega) hpo.2 zo zo MG) (.a rfl uu<|.a rfl uu<|.se rfl uu rfl (by first | (rw[S6,if_pos hv0]; rfl) | (rw[S6,if_neg hv0]; rfl))<|.nil)) rfl rfl ?_
   refine i1 ?_; exact f0.resC1 (fn:=Tryz.f119) rfl rfl (s6 rfl (by rw[DK (by rw[BD,HQ]),hcm]; rfl))
  ·intro h8
   have hv0:val x.2≠0:=fun e=>h8 (U0.2 e)
   refine j8 ?_; refine b8.frz 55 [5,30] ⟨rfl,rfl,trivial⟩ (by simp only[q7]; omega) rfl ?_; refine jl ?_
   refine tO (i9 (fun hp=>YI r _ (S6 x.2) (k+3) hpo.1 (by rw[q9]; omega) (BY fun i _=>by have:=M5 (hx.c i).1; have:=(hx.c i).2; omega) hpo.2 zo zo MG) (.a rfl uu<|.a rfl uu<|.se rfl uu rfl (by first | (rw[S6,if_pos hv0]; rfl) | (rw[S6,if_neg hv0]; rfl))<|.nil)) rfl rfl ?_
   refine i1 ?_; exact f0.resC1 (fn:=Tryz.f119) rfl rfl (s6 rfl (by rw[DK (by rw[BD,HQ]),hcm]; rfl))

end Go.Fl
