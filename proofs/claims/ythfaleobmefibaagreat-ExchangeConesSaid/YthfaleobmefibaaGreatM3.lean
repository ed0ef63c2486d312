/- Laws on walking typed knowledge through code, and contracts. -/
import Derived.Test.YthfaleobmefibaaGreatM2
import Derived.Test.YthfaleobmefibaaGreatChecked
import Derived.KernelRfl
import Derived.Laws.CopyRow

/- The program's types and functions, as our laws ask for them. (Printed by seat.py.) -/
namespace Go.Fl
open Go Go.Proofs

instance:F4 Tryz.prog 3:=F4.mk' Tryz.underlying3 rfl
instance:p6 Tryz.prog 3 1 8 (.int .i64 0):=p6.mk' (by kernel_rfl)
instance:IQ Tryz.prog 3 .i64:=⟨Tryz.underlying3⟩
instance:D4 Tryz.prog 3 [j4 (.int .i64 0)]:=D4.mk' (z:=.int .i64 0) (by kernel_rfl) (fun _=>by simp[n9,j4,Value.cells])
instance:F4 Tryz.prog 4:=F4.mk' Tryz.underlying4 rfl
instance:p6 Tryz.prog 4 1 1 (.bool false):=p6.mk' (by kernel_rfl)
instance:TY Tryz.prog 4:=⟨Tryz.underlying4⟩
instance:F4 Tryz.prog 22:=F4.mk' Tryz.underlying22 rfl
instance:p6 Tryz.prog 22 1 24 (.slice none 0 0):=p6.mk' (by kernel_rfl)
instance:D1 Tryz.prog 22 3:=⟨Tryz.underlying22⟩
instance:D0 Tryz.prog 24:=D0.mk' Tryz.underlying24 rfl
instance:p6 Tryz.prog 24 4 48 (.agg #[.slice none 0 0,.int .i64 0,.int .i64 0,.int .i64 0]):=p6.mk' (by kernel_rfl)
instance:D4 Tryz.prog 24 [j4 (.slice none 0 0),j4 (.int .i64 0),j4 (.int .i64 0),j4 (.int .i64 0)]:=D4.mk' (z:=.agg #[.slice none 0 0,.int .i64 0,.int .i64 0,.int .i64 0]) (by kernel_rfl) (fun _=>by simp[n9,j4,Value.cells])
instance:s8 Tryz.prog 24 0 0:=s8.mk' Tryz.underlying24 rfl rfl (by kernel_rfl)
instance:s8 Tryz.prog 24 1 1:=s8.mk' Tryz.underlying24 rfl rfl (by kernel_rfl)
instance:s8 Tryz.prog 24 2 2:=s8.mk' Tryz.underlying24 rfl rfl (by kernel_rfl)
instance:s8 Tryz.prog 24 3 3:=s8.mk' Tryz.underlying24 rfl rfl (by kernel_rfl)
instance:BM Tryz.prog 24 [(0,1),(1,1),(2,1),(3,1)]:=⟨_,Tryz.underlying24,by kernel_rfl⟩
instance:F4 Tryz.prog 25:=F4.mk' Tryz.underlying25 rfl
instance:p6 Tryz.prog 25 1 24 (.slice none 0 0):=p6.mk' (by kernel_rfl)
instance:D1 Tryz.prog 25 30:=⟨Tryz.underlying25⟩
instance:D0 Tryz.prog 27:=D0.mk' Tryz.underlying27 rfl
instance:p6 Tryz.prog 27 7 120 (.agg #[.slice none 0 0,.int .i64 0,.int .i64 0,.int .i64 0,.slice none 0 0,.slice none 0 0,.slice none 0 0]):=p6.mk' (by kernel_rfl)
instance:D4 Tryz.prog 27 [j4 (.slice none 0 0),j4 (.int .i64 0),j4 (.int .i64 0),j4 (.int .i64 0),j4 (.slice none 0 0),j4 (.slice none 0 0),j4 (.slice none 0 0)]:=D4.mk' (z:=.agg #[.slice none 0 0,.int .i64 0,.int .i64 0,.int .i64 0,.slice none 0 0,.slice none 0 0,.slice none 0 0]) (by kernel_rfl) (fun _=>by simp[n9,j4,Value.cells])
instance:s8 Tryz.prog 27 0 0:=s8.mk' Tryz.underlying27 rfl rfl (by kernel_rfl)
instance:s8 Tryz.prog 27 1 4:=s8.mk' Tryz.underlying27 rfl rfl (by kernel_rfl)
instance:s8 Tryz.prog 27 2 5:=s8.mk' Tryz.underlying27 rfl rfl (by kernel_rfl)
instance:s8 Tryz.prog 27 3 6:=s8.mk' Tryz.underlying27 rfl rfl (by kernel_rfl)
instance:BM Tryz.prog 27 [(0,4),(4,1),(5,1),(6,1)]:=⟨_,Tryz.underlying27,by kernel_rfl⟩
instance:F4 Tryz.prog 28:=F4.mk' Tryz.underlying28 rfl
instance:p6 Tryz.prog 28 1 24 (.slice none 0 0):=p6.mk' (by kernel_rfl)
instance:D1 Tryz.prog 28 22:=⟨Tryz.underlying28⟩
instance:D0 Tryz.prog 30:=D0.mk' Tryz.underlying30 rfl
instance:p6 Tryz.prog 30 2 48 (.agg #[.slice none 0 0,.slice none 0 0]):=p6.mk' (by kernel_rfl)
instance:D4 Tryz.prog 30 [j4 (.slice none 0 0),j4 (.slice none 0 0)]:=D4.mk' (z:=.agg #[.slice none 0 0,.slice none 0 0]) (by kernel_rfl) (fun _=>by simp[n9,j4,Value.cells])
instance:s8 Tryz.prog 30 0 0:=s8.mk' Tryz.underlying30 rfl rfl (by kernel_rfl)
instance:s8 Tryz.prog 30 1 1:=s8.mk' Tryz.underlying30 rfl rfl (by kernel_rfl)
instance:BM Tryz.prog 30 [(0,1),(1,1)]:=⟨_,Tryz.underlying30,by kernel_rfl⟩
instance:D0 Tryz.prog 49:=D0.mk' Tryz.underlying49 rfl
instance:p6 Tryz.prog 49 4 48 (.agg #[.slice none 0 0,.int .i64 0,.int .i64 0,.int .i64 0]):=p6.mk' (by kernel_rfl)
instance:D4 Tryz.prog 49 [j4 (.slice none 0 0),j4 (.int .i64 0),j4 (.int .i64 0),j4 (.int .i64 0)]:=D4.mk' (z:=.agg #[.slice none 0 0,.int .i64 0,.int .i64 0,.int .i64 0]) (by kernel_rfl) (fun _=>by simp[n9,j4,Value.cells])
instance:s8 Tryz.prog 49 0 0:=s8.mk' Tryz.underlying49 rfl rfl (by kernel_rfl)
instance:BM Tryz.prog 49 [(0,4)]:=⟨_,Tryz.underlying49,by kernel_rfl⟩
instance:D0 Tryz.prog 88:=D0.mk' Tryz.underlying88 rfl
instance:p6 Tryz.prog 88 2 48 (.agg #[.slice none 0 0,.slice none 0 0]):=p6.mk' (by kernel_rfl)
instance:D4 Tryz.prog 88 [j4 (.slice none 0 0),j4 (.slice none 0 0)]:=D4.mk' (z:=.agg #[.slice none 0 0,.slice none 0 0]) (by kernel_rfl) (fun _=>by simp[n9,j4,Value.cells])
instance:s8 Tryz.prog 88 0 0:=s8.mk' Tryz.underlying88 rfl rfl (by kernel_rfl)
instance:s8 Tryz.prog 88 1 1:=s8.mk' Tryz.underlying88 rfl rfl (by kernel_rfl)
instance:BM Tryz.prog 88 [(0,1),(1,1)]:=⟨_,Tryz.underlying88,by kernel_rfl⟩
instance:F4 Tryz.prog 109:=F4.mk' Tryz.underlying109 rfl
instance:p6 Tryz.prog 109 1 8 (.pointer none):=p6.mk' (by kernel_rfl)
instance:D4 Tryz.prog 109 [j4 (.pointer none)]:=D4.mk' (z:=.pointer none) (by kernel_rfl) (fun _=>by simp[n9,j4,Value.cells])
instance:F4 Tryz.prog 112:=F4.mk' Tryz.underlying112 rfl
instance:D4 Tryz.prog 114 [j4 (.pointer none),j4 (.slice none 0 0),j4 (.slice none 0 0),j4 (.slice none 0 0),j4 (.slice none 0 0),j4 (.slice none 0 0),j4 (.slice none 0 0),j4 (.slice none 0 0),j4 (.slice none 0 0)]:=D4.mk' (z:=.agg #[.pointer none,.slice none 0 0,.slice none 0 0,.slice none 0 0,.slice none 0 0,.slice none 0 0,.slice none 0 0,.slice none 0 0,.slice none 0 0]) (by kernel_rfl) (fun _=>by simp[n9,j4,Value.cells])
instance:s8 Tryz.prog 114 0 0:=s8.mk' Tryz.underlying114 rfl rfl (by kernel_rfl)
instance:s8 Tryz.prog 114 1 1:=s8.mk' Tryz.underlying114 rfl rfl (by kernel_rfl)
instance:s8 Tryz.prog 114 2 3:=s8.mk' Tryz.underlying114 rfl rfl (by kernel_rfl)
instance:s8 Tryz.prog 114 3 4:=s8.mk' Tryz.underlying114 rfl rfl (by kernel_rfl)
instance:s8 Tryz.prog 114 4 5:=s8.mk' Tryz.underlying114 rfl rfl (by kernel_rfl)
instance:s8 Tryz.prog 114 5 6:=s8.mk' Tryz.underlying114 rfl rfl (by kernel_rfl)
instance:s8 Tryz.prog 114 6 7:=s8.mk' Tryz.underlying114 rfl rfl (by kernel_rfl)
instance:BM Tryz.prog 114 [(0,1),(1,2),(3,1),(4,1),(5,1),(6,1),(7,2)]:=⟨_,Tryz.underlying114,by kernel_rfl⟩
instance:D0 Tryz.prog 121:=D0.mk' Tryz.underlying121 rfl
instance:p6 Tryz.prog 121 3 72 (.agg #[.slice none 0 0,.slice none 0 0,.slice none 0 0]):=p6.mk' (by kernel_rfl)
instance:D4 Tryz.prog 121 [j4 (.slice none 0 0),j4 (.slice none 0 0),j4 (.slice none 0 0)]:=D4.mk' (z:=.agg #[.slice none 0 0,.slice none 0 0,.slice none 0 0]) (by kernel_rfl) (fun _=>by simp[n9,j4,Value.cells])
instance:s8 Tryz.prog 121 0 0:=s8.mk' Tryz.underlying121 rfl rfl (by kernel_rfl)
instance:s8 Tryz.prog 121 1 1:=s8.mk' Tryz.underlying121 rfl rfl (by kernel_rfl)
instance:s8 Tryz.prog 121 2 2:=s8.mk' Tryz.underlying121 rfl rfl (by kernel_rfl)
instance:BM Tryz.prog 121 [(0,1),(1,1),(2,1)]:=⟨_,Tryz.underlying121,by kernel_rfl⟩
instance:D1 Tryz.prog 145 22:=⟨Tryz.underlying145⟩
instance:D0 Tryz.prog 160:=D0.mk' Tryz.underlying160 rfl
instance:p6 Tryz.prog 160 2 32 (.agg #[.bool false,.slice none 0 0]):=p6.mk' (by kernel_rfl)
instance:D4 Tryz.prog 160 [j4 (.bool false),j4 (.slice none 0 0)]:=D4.mk' (z:=.agg #[.bool false,.slice none 0 0]) (by kernel_rfl) (fun _=>by simp[n9,j4,Value.cells])
instance:s8 Tryz.prog 160 0 0:=s8.mk' Tryz.underlying160 rfl rfl (by kernel_rfl)
instance:s8 Tryz.prog 160 1 1:=s8.mk' Tryz.underlying160 rfl rfl (by kernel_rfl)
instance:BM Tryz.prog 160 [(0,1),(1,1)]:=⟨_,Tryz.underlying160,by kernel_rfl⟩
instance:D0 Tryz.prog 161:=D0.mk' Tryz.underlying161 rfl
instance:p6 Tryz.prog 161 8 128 (.agg #[.bool false,.slice none 0 0,.bool false,.slice none 0 0,.bool false,.slice none 0 0,.bool false,.slice none 0 0]):=p6.mk' (by kernel_rfl)
instance:AO Tryz.prog 161 4 160:=⟨Tryz.underlying161⟩
instance:D4 Tryz.prog 161 [j4 (.bool false),j4 (.slice none 0 0),j4 (.bool false),j4 (.slice none 0 0),j4 (.bool false),j4 (.slice none 0 0),j4 (.bool false),j4 (.slice none 0 0)]:=D4.mk' (z:=.agg #[.bool false,.slice none 0 0,.bool false,.slice none 0 0,.bool false,.slice none 0 0,.bool false,.slice none 0 0]) (by kernel_rfl) (fun _=>by simp[n9,j4,Value.cells])
instance:D0 Tryz.prog 163:=D0.mk' Tryz.underlying163 rfl
instance:p6 Tryz.prog 163 10 160 (.agg #[.bool false,.slice none 0 0,.bool false,.slice none 0 0,.bool false,.slice none 0 0,.bool false,.slice none 0 0,.bool false,.slice none 0 0]):=p6.mk' (by kernel_rfl)
instance:D4 Tryz.prog 163 [j4 (.bool false),j4 (.slice none 0 0),j4 (.bool false),j4 (.slice none 0 0),j4 (.bool false),j4 (.slice none 0 0),j4 (.bool false),j4 (.slice none 0 0),j4 (.bool false),j4 (.slice none 0 0)]:=D4.mk' (z:=.agg #[.bool false,.slice none 0 0,.bool false,.slice none 0 0,.bool false,.slice none 0 0,.bool false,.slice none 0 0,.bool false,.slice none 0 0]) (by kernel_rfl) (fun _=>by simp[n9,j4,Value.cells])
instance:s8 Tryz.prog 163 0 0:=s8.mk' Tryz.underlying163 rfl rfl (by kernel_rfl)
instance:s8 Tryz.prog 163 1 8:=s8.mk' Tryz.underlying163 rfl rfl (by kernel_rfl)
instance:BM Tryz.prog 163 [(0,8),(8,2)]:=⟨_,Tryz.underlying163,by kernel_rfl⟩
instance:AO Tryz.prog 172 4 22:=⟨Tryz.underlying172⟩
instance:D4 Tryz.prog 172 [j4 (.slice none 0 0),j4 (.slice none 0 0),j4 (.slice none 0 0),j4 (.slice none 0 0)]:=D4.mk' (z:=.agg #[.slice none 0 0,.slice none 0 0,.slice none 0 0,.slice none 0 0]) (by kernel_rfl) (fun _=>by simp[n9,j4,Value.cells])
instance:F4 Tryz.prog 173:=F4.mk' Tryz.underlying173 rfl
instance:p6 Tryz.prog 173 1 24 (.slice none 0 0):=p6.mk' (by kernel_rfl)
instance:D1 Tryz.prog 173 22:=⟨Tryz.underlying173⟩
instance:F4 Tryz.prog 192:=F4.mk' Tryz.underlying192 rfl
instance:p6 Tryz.prog 192 1 24 (.slice none 0 0):=p6.mk' (by kernel_rfl)
instance:D1 Tryz.prog 192 160:=⟨Tryz.underlying192⟩
instance:F4 Tryz.prog 193:=F4.mk' Tryz.underlying193 rfl
instance:p6 Tryz.prog 193 1 24 (.slice none 0 0):=p6.mk' (by kernel_rfl)
instance:D1 Tryz.prog 193 160:=⟨Tryz.underlying193⟩
instance:D0 Tryz.prog 197:=D0.mk' Tryz.underlying197 rfl
instance:p6 Tryz.prog 197 12 192 (.agg #[.slice none 0 0,.int .i64 0,.int .i64 0,.int .i64 0,.slice none 0 0,.slice none 0 0,.bool false,.slice none 0 0,.bool false,.slice none 0 0,.bool false,.slice none 0 0]):=p6.mk' (by kernel_rfl)
instance:D4 Tryz.prog 197 [j4 (.slice none 0 0),j4 (.int .i64 0),j4 (.int .i64 0),j4 (.int .i64 0),j4 (.slice none 0 0),j4 (.slice none 0 0),j4 (.bool false),j4 (.slice none 0 0),j4 (.bool false),j4 (.slice none 0 0),j4 (.bool false),j4 (.slice none 0 0)]:=D4.mk' (z:=.agg #[.slice none 0 0,.int .i64 0,.int .i64 0,.int .i64 0,.slice none 0 0,.slice none 0 0,.bool false,.slice none 0 0,.bool false,.slice none 0 0,.bool false,.slice none 0 0]) (by kernel_rfl) (fun _=>by simp[n9,j4,Value.cells])
instance:s8 Tryz.prog 197 0 0:=s8.mk' Tryz.underlying197 rfl rfl (by kernel_rfl)
instance:s8 Tryz.prog 197 1 4:=s8.mk' Tryz.underlying197 rfl rfl (by kernel_rfl)
instance:s8 Tryz.prog 197 2 5:=s8.mk' Tryz.underlying197 rfl rfl (by kernel_rfl)
instance:s8 Tryz.prog 197 3 6:=s8.mk' Tryz.underlying197 rfl rfl (by kernel_rfl)
instance:s8 Tryz.prog 197 4 8:=s8.mk' Tryz.underlying197 rfl rfl (by kernel_rfl)
instance:s8 Tryz.prog 197 5 10:=s8.mk' Tryz.underlying197 rfl rfl (by kernel_rfl)
instance:BM Tryz.prog 197 [(0,4),(4,1),(5,1),(6,2),(8,2),(10,2)]:=⟨_,Tryz.underlying197,by kernel_rfl⟩
instance:D1 Tryz.prog 206 173:=⟨Tryz.underlying206⟩
instance:D1 Tryz.prog 217 4:=⟨Tryz.underlying217⟩
instance:F4 Tryz.prog 242:=F4.mk' Tryz.underlying242 rfl
instance:p6 Tryz.prog 242 1 24 (.slice none 0 0):=p6.mk' (by kernel_rfl)
instance:D1 Tryz.prog 242 193:=⟨Tryz.underlying242⟩
instance:D4 Tryz.prog 242 [j4 (.slice none 0 0)]:=D4.mk' (z:=.slice none 0 0) (by kernel_rfl) (fun _=>by simp[n9,j4,Value.cells])
instance:f0 Tryz.prog 13:=f0.mk' Tryz.func13 (by kernel_rfl) (by kernel_rfl)
instance:f0 Tryz.prog 14:=f0.mk' Tryz.func14 (by kernel_rfl) (by kernel_rfl)
instance:f0 Tryz.prog 17:=f0.mk' Tryz.func17 (by kernel_rfl) (by kernel_rfl)
instance:f0 Tryz.prog 18:=f0.mk' Tryz.func18 (by kernel_rfl) (by kernel_rfl)
instance:f0 Tryz.prog 22:=f0.mk' Tryz.func22 (by kernel_rfl) (by kernel_rfl)
instance:f0 Tryz.prog 23:=f0.mk' Tryz.func23 (by kernel_rfl) (by kernel_rfl)
instance:f0 Tryz.prog 24:=f0.mk' Tryz.func24 (by kernel_rfl) (by kernel_rfl)
instance:f0 Tryz.prog 25:=f0.mk' Tryz.func25 (by kernel_rfl) (by kernel_rfl)
instance:f0 Tryz.prog 28:=f0.mk' Tryz.func28 (by kernel_rfl) (by kernel_rfl)
instance:f0 Tryz.prog 32:=f0.mk' Tryz.func32 (by kernel_rfl) (by kernel_rfl)
instance:f0 Tryz.prog 34:=f0.mk' Tryz.func34 (by kernel_rfl) (by kernel_rfl)
instance:f0 Tryz.prog 45:=f0.mk' Tryz.func45 (by kernel_rfl) (by kernel_rfl)
instance:f0 Tryz.prog 46:=f0.mk' Tryz.func46 (by kernel_rfl) (by kernel_rfl)
instance:f0 Tryz.prog 47:=f0.mk' Tryz.func47 (by kernel_rfl) (by kernel_rfl)
instance:f0 Tryz.prog 48:=f0.mk' Tryz.func48 (by kernel_rfl) (by kernel_rfl)
instance:f0 Tryz.prog 51:=f0.mk' Tryz.func51 (by kernel_rfl) (by kernel_rfl)
instance:f0 Tryz.prog 52:=f0.mk' Tryz.func52 (by kernel_rfl) (by kernel_rfl)
instance:f0 Tryz.prog 54:=f0.mk' Tryz.func54 (by kernel_rfl) (by kernel_rfl)
instance:f0 Tryz.prog 55:=f0.mk' Tryz.func55 (by kernel_rfl) (by kernel_rfl)
instance:f0 Tryz.prog 56:=f0.mk' Tryz.func56 (by kernel_rfl) (by kernel_rfl)
instance:f0 Tryz.prog 58:=f0.mk' Tryz.func58 (by kernel_rfl) (by kernel_rfl)
instance:f0 Tryz.prog 62:=f0.mk' Tryz.func62 (by kernel_rfl) (by kernel_rfl)
instance:f0 Tryz.prog 63:=f0.mk' Tryz.func63 (by kernel_rfl) (by kernel_rfl)
instance:f0 Tryz.prog 64:=f0.mk' Tryz.func64 (by kernel_rfl) (by kernel_rfl)
instance:f0 Tryz.prog 65:=f0.mk' Tryz.func65 (by kernel_rfl) (by kernel_rfl)
instance:f0 Tryz.prog 66:=f0.mk' Tryz.func66 (by kernel_rfl) (by kernel_rfl)
instance:f0 Tryz.prog 69:=f0.mk' Tryz.func69 (by kernel_rfl) (by kernel_rfl)
instance:f0 Tryz.prog 70:=f0.mk' Tryz.func70 (by kernel_rfl) (by kernel_rfl)
instance:f0 Tryz.prog 71:=f0.mk' Tryz.func71 (by kernel_rfl) (by kernel_rfl)
instance:f0 Tryz.prog 72:=f0.mk' Tryz.func72 (by kernel_rfl) (by kernel_rfl)
instance:f0 Tryz.prog 74:=f0.mk' Tryz.func74 (by kernel_rfl) (by kernel_rfl)
instance:f0 Tryz.prog 75:=f0.mk' Tryz.func75 (by kernel_rfl) (by kernel_rfl)
instance:f0 Tryz.prog 76:=f0.mk' Tryz.func76 (by kernel_rfl) (by kernel_rfl)
instance:f0 Tryz.prog 77:=f0.mk' Tryz.func77 (by kernel_rfl) (by kernel_rfl)
instance:f0 Tryz.prog 78:=f0.mk' Tryz.func78 (by kernel_rfl) (by kernel_rfl)
instance:f0 Tryz.prog 79:=f0.mk' Tryz.func79 (by kernel_rfl) (by kernel_rfl)
instance:f0 Tryz.prog 81:=f0.mk' Tryz.func81 (by kernel_rfl) (by kernel_rfl)
instance:f0 Tryz.prog 82:=f0.mk' Tryz.func82 (by kernel_rfl) (by kernel_rfl)
instance:f0 Tryz.prog 83:=f0.mk' Tryz.func83 (by kernel_rfl) (by kernel_rfl)
instance:f0 Tryz.prog 84:=f0.mk' Tryz.func84 (by kernel_rfl) (by kernel_rfl)
instance:f0 Tryz.prog 85:=f0.mk' Tryz.func85 (by kernel_rfl) (by kernel_rfl)
instance:f0 Tryz.prog 86:=f0.mk' Tryz.func86 (by kernel_rfl) (by kernel_rfl)
instance:f0 Tryz.prog 87:=f0.mk' Tryz.func87 (by kernel_rfl) (by kernel_rfl)
instance:f0 Tryz.prog 93:=f0.mk' Tryz.func93 (by kernel_rfl) (by kernel_rfl)
instance:f0 Tryz.prog 94:=f0.mk' Tryz.func94 (by kernel_rfl) (by kernel_rfl)
instance:f0 Tryz.prog 95:=f0.mk' Tryz.func95 (by kernel_rfl) (by kernel_rfl)
instance:f0 Tryz.prog 96:=f0.mk' Tryz.func96 (by kernel_rfl) (by kernel_rfl)
instance:f0 Tryz.prog 98:=f0.mk' Tryz.func98 (by kernel_rfl) (by kernel_rfl)
instance:f0 Tryz.prog 99:=f0.mk' Tryz.func99 (by kernel_rfl) (by kernel_rfl)
instance:f0 Tryz.prog 100:=f0.mk' Tryz.func100 (by kernel_rfl) (by kernel_rfl)
instance:f0 Tryz.prog 101:=f0.mk' Tryz.func101 (by kernel_rfl) (by kernel_rfl)
instance:f0 Tryz.prog 102:=f0.mk' Tryz.func102 (by kernel_rfl) (by kernel_rfl)
instance:f0 Tryz.prog 103:=f0.mk' Tryz.func103 (by kernel_rfl) (by kernel_rfl)
instance:f0 Tryz.prog 104:=f0.mk' Tryz.func104 (by kernel_rfl) (by kernel_rfl)
instance:f0 Tryz.prog 105:=f0.mk' Tryz.func105 (by kernel_rfl) (by kernel_rfl)
instance:f0 Tryz.prog 106:=f0.mk' Tryz.func106 (by kernel_rfl) (by kernel_rfl)
instance:f0 Tryz.prog 107:=f0.mk' Tryz.func107 (by kernel_rfl) (by kernel_rfl)
instance:f0 Tryz.prog 108:=f0.mk' Tryz.func108 (by kernel_rfl) (by kernel_rfl)
instance:f0 Tryz.prog 109:=f0.mk' Tryz.func109 (by kernel_rfl) (by kernel_rfl)
instance:f0 Tryz.prog 110:=f0.mk' Tryz.func110 (by kernel_rfl) (by kernel_rfl)
instance:f0 Tryz.prog 111:=f0.mk' Tryz.func111 (by kernel_rfl) (by kernel_rfl)
instance:f0 Tryz.prog 112:=f0.mk' Tryz.func112 (by kernel_rfl) (by kernel_rfl)
instance:f0 Tryz.prog 113:=f0.mk' Tryz.func113 (by kernel_rfl) (by kernel_rfl)
instance:f0 Tryz.prog 114:=f0.mk' Tryz.func114 (by kernel_rfl) (by kernel_rfl)
instance:f0 Tryz.prog 115:=f0.mk' Tryz.func115 (by kernel_rfl) (by kernel_rfl)
instance:f0 Tryz.prog 116:=f0.mk' Tryz.func116 (by kernel_rfl) (by kernel_rfl)
instance:f0 Tryz.prog 118:=f0.mk' Tryz.func118 (by kernel_rfl) (by kernel_rfl)
instance:f0 Tryz.prog 119:=f0.mk' Tryz.func119 (by kernel_rfl) (by kernel_rfl)
instance:f0 Tryz.prog 120:=f0.mk' Tryz.func120 (by kernel_rfl) (by kernel_rfl)
instance:f0 Tryz.prog 121:=f0.mk' Tryz.func121 (by kernel_rfl) (by kernel_rfl)
instance:f0 Tryz.prog 122:=f0.mk' Tryz.func122 (by kernel_rfl) (by kernel_rfl)
instance:f0 Tryz.prog 123:=f0.mk' Tryz.func123 (by kernel_rfl) (by kernel_rfl)
instance:f0 Tryz.prog 124:=f0.mk' Tryz.func124 (by kernel_rfl) (by kernel_rfl)
instance:f0 Tryz.prog 125:=f0.mk' Tryz.func125 (by kernel_rfl) (by kernel_rfl)
instance:f0 Tryz.prog 126:=f0.mk' Tryz.func126 (by kernel_rfl) (by kernel_rfl)
instance:f0 Tryz.prog 127:=f0.mk' Tryz.func127 (by kernel_rfl) (by kernel_rfl)
instance:f0 Tryz.prog 128:=f0.mk' Tryz.func128 (by kernel_rfl) (by kernel_rfl)
instance:f0 Tryz.prog 129:=f0.mk' Tryz.func129 (by kernel_rfl) (by kernel_rfl)
instance:f0 Tryz.prog 130:=f0.mk' Tryz.func130 (by kernel_rfl) (by kernel_rfl)
instance:f0 Tryz.prog 131:=f0.mk' Tryz.func131 (by kernel_rfl) (by kernel_rfl)
instance:f0 Tryz.prog 132:=f0.mk' Tryz.func132 (by kernel_rfl) (by kernel_rfl)
instance:f0 Tryz.prog 136:=f0.mk' Tryz.func136 (by kernel_rfl) (by kernel_rfl)
instance:f0 Tryz.prog 137:=f0.mk' Tryz.func137 (by kernel_rfl) (by kernel_rfl)
instance:f0 Tryz.prog 138:=f0.mk' Tryz.func138 (by kernel_rfl) (by kernel_rfl)
instance:f0 Tryz.prog 139:=f0.mk' Tryz.func139 (by kernel_rfl) (by kernel_rfl)
instance:f0 Tryz.prog 140:=f0.mk' Tryz.func140 (by kernel_rfl) (by kernel_rfl)
instance:f0 Tryz.prog 141:=f0.mk' Tryz.func141 (by kernel_rfl) (by kernel_rfl)
instance:f0 Tryz.prog 142:=f0.mk' Tryz.func142 (by kernel_rfl) (by kernel_rfl)
instance:f0 Tryz.prog 143:=f0.mk' Tryz.func143 (by kernel_rfl) (by kernel_rfl)
instance:f0 Tryz.prog 144:=f0.mk' Tryz.func144 (by kernel_rfl) (by kernel_rfl)
instance:f0 Tryz.prog 145:=f0.mk' Tryz.func145 (by kernel_rfl) (by kernel_rfl)
instance:f0 Tryz.prog 147:=f0.mk' Tryz.func147 (by kernel_rfl) (by kernel_rfl)
instance:f0 Tryz.prog 148:=f0.mk' Tryz.func148 (by kernel_rfl) (by kernel_rfl)
instance:f0 Tryz.prog 149:=f0.mk' Tryz.func149 (by kernel_rfl) (by kernel_rfl)
instance:f0 Tryz.prog 150:=f0.mk' Tryz.func150 (by kernel_rfl) (by kernel_rfl)
instance:f0 Tryz.prog 151:=f0.mk' Tryz.func151 (by kernel_rfl) (by kernel_rfl)
instance:f0 Tryz.prog 152:=f0.mk' Tryz.func152 (by kernel_rfl) (by kernel_rfl)
instance:f0 Tryz.prog 153:=f0.mk' Tryz.func153 (by kernel_rfl) (by kernel_rfl)
instance:f0 Tryz.prog 154:=f0.mk' Tryz.func154 (by kernel_rfl) (by kernel_rfl)
instance:f0 Tryz.prog 155:=f0.mk' Tryz.func155 (by kernel_rfl) (by kernel_rfl)
instance:f0 Tryz.prog 156:=f0.mk' Tryz.func156 (by kernel_rfl) (by kernel_rfl)
instance:f0 Tryz.prog 157:=f0.mk' Tryz.func157 (by kernel_rfl) (by kernel_rfl)
instance:f0 Tryz.prog 158:=f0.mk' Tryz.func158 (by kernel_rfl) (by kernel_rfl)
instance:f0 Tryz.prog 159:=f0.mk' Tryz.func159 (by kernel_rfl) (by kernel_rfl)
instance:f0 Tryz.prog 160:=f0.mk' Tryz.func160 (by kernel_rfl) (by kernel_rfl)
instance:f0 Tryz.prog 161:=f0.mk' Tryz.func161 (by kernel_rfl) (by kernel_rfl)
instance:f0 Tryz.prog 162:=f0.mk' Tryz.func162 (by kernel_rfl) (by kernel_rfl)
instance:f0 Tryz.prog 163:=f0.mk' Tryz.func163 (by kernel_rfl) (by kernel_rfl)
instance:f0 Tryz.prog 164:=f0.mk' Tryz.func164 (by kernel_rfl) (by kernel_rfl)
instance:f0 Tryz.prog 165:=f0.mk' Tryz.func165 (by kernel_rfl) (by kernel_rfl)
instance:f0 Tryz.prog 166:=f0.mk' Tryz.func166 (by kernel_rfl) (by kernel_rfl)
instance:f0 Tryz.prog 167:=f0.mk' Tryz.func167 (by kernel_rfl) (by kernel_rfl)
instance:f0 Tryz.prog 168:=f0.mk' Tryz.func168 (by kernel_rfl) (by kernel_rfl)
instance:f0 Tryz.prog 169:=f0.mk' Tryz.func169 (by kernel_rfl) (by kernel_rfl)
instance:f0 Tryz.prog 170:=f0.mk' Tryz.func170 (by kernel_rfl) (by kernel_rfl)
instance:f0 Tryz.prog 171:=f0.mk' Tryz.func171 (by kernel_rfl) (by kernel_rfl)
instance:f0 Tryz.prog 172:=f0.mk' Tryz.func172 (by kernel_rfl) (by kernel_rfl)
instance:f0 Tryz.prog 173:=f0.mk' Tryz.func173 (by kernel_rfl) (by kernel_rfl)
instance:f0 Tryz.prog 174:=f0.mk' Tryz.func174 (by kernel_rfl) (by kernel_rfl)
instance:f0 Tryz.prog 175:=f0.mk' Tryz.func175 (by kernel_rfl) (by kernel_rfl)
instance:f0 Tryz.prog 176:=f0.mk' Tryz.func176 (by kernel_rfl) (by kernel_rfl)
instance:f0 Tryz.prog 177:=f0.mk' Tryz.func177 (by kernel_rfl) (by kernel_rfl)
instance:f0 Tryz.prog 178:=f0.mk' Tryz.func178 (by kernel_rfl) (by kernel_rfl)
instance:f0 Tryz.prog 179:=f0.mk' Tryz.func179 (by kernel_rfl) (by kernel_rfl)
instance:f0 Tryz.prog 180:=f0.mk' Tryz.func180 (by kernel_rfl) (by kernel_rfl)
instance:f0 Tryz.prog 181:=f0.mk' Tryz.func181 (by kernel_rfl) (by kernel_rfl)
instance:f0 Tryz.prog 182:=f0.mk' Tryz.func182 (by kernel_rfl) (by kernel_rfl)
instance:f0 Tryz.prog 183:=f0.mk' Tryz.func183 (by kernel_rfl) (by kernel_rfl)
instance:f0 Tryz.prog 184:=f0.mk' Tryz.func184 (by kernel_rfl) (by kernel_rfl)
instance:f0 Tryz.prog 185:=f0.mk' Tryz.func185 (by kernel_rfl) (by kernel_rfl)
instance:f0 Tryz.prog 186:=f0.mk' Tryz.func186 (by kernel_rfl) (by kernel_rfl)
instance:f0 Tryz.prog 187:=f0.mk' Tryz.func187 (by kernel_rfl) (by kernel_rfl)
instance:f0 Tryz.prog 188:=f0.mk' Tryz.func188 (by kernel_rfl) (by kernel_rfl)
instance:f0 Tryz.prog 189:=f0.mk' Tryz.func189 (by kernel_rfl) (by kernel_rfl)
instance:f0 Tryz.prog 190:=f0.mk' Tryz.func190 (by kernel_rfl) (by kernel_rfl)
instance:f0 Tryz.prog 191:=f0.mk' Tryz.func191 (by kernel_rfl) (by kernel_rfl)
instance:f0 Tryz.prog 192:=f0.mk' Tryz.func192 (by kernel_rfl) (by kernel_rfl)
instance:f0 Tryz.prog 193:=f0.mk' Tryz.func193 (by kernel_rfl) (by kernel_rfl)
instance:f0 Tryz.prog 194:=f0.mk' Tryz.func194 (by kernel_rfl) (by kernel_rfl)
instance:f0 Tryz.prog 195:=f0.mk' Tryz.func195 (by kernel_rfl) (by kernel_rfl)
instance:f0 Tryz.prog 196:=f0.mk' Tryz.func196 (by kernel_rfl) (by kernel_rfl)
instance:f0 Tryz.prog 197:=f0.mk' Tryz.func197 (by kernel_rfl) (by kernel_rfl)
instance:f0 Tryz.prog 198:=f0.mk' Tryz.func198 (by kernel_rfl) (by kernel_rfl)
instance:f0 Tryz.prog 199:=f0.mk' Tryz.func199 (by kernel_rfl) (by kernel_rfl)
instance:f0 Tryz.prog 200:=f0.mk' Tryz.func200 (by kernel_rfl) (by kernel_rfl)
instance:f0 Tryz.prog 201:=f0.mk' Tryz.func201 (by kernel_rfl) (by kernel_rfl)
instance:f0 Tryz.prog 202:=f0.mk' Tryz.func202 (by kernel_rfl) (by kernel_rfl)
instance:f0 Tryz.prog 203:=f0.mk' Tryz.func203 (by kernel_rfl) (by kernel_rfl)
instance:f0 Tryz.prog 204:=f0.mk' Tryz.func204 (by kernel_rfl) (by kernel_rfl)
instance:f0 Tryz.prog 205:=f0.mk' Tryz.func205 (by kernel_rfl) (by kernel_rfl)
instance:f0 Tryz.prog 206:=f0.mk' Tryz.func206 (by kernel_rfl) (by kernel_rfl)
instance:f0 Tryz.prog 209:=f0.mk' Tryz.func209 (by kernel_rfl) (by kernel_rfl)
instance:f0 Tryz.prog 210:=f0.mk' Tryz.func210 (by kernel_rfl) (by kernel_rfl)
instance:f0 Tryz.prog 211:=f0.mk' Tryz.func211 (by kernel_rfl) (by kernel_rfl)
instance:f0 Tryz.prog 212:=f0.mk' Tryz.func212 (by kernel_rfl) (by kernel_rfl)
instance:f0 Tryz.prog 213:=f0.mk' Tryz.func213 (by kernel_rfl) (by kernel_rfl)
instance:f0 Tryz.prog 214:=f0.mk' Tryz.func214 (by kernel_rfl) (by kernel_rfl)
instance:f0 Tryz.prog 215:=f0.mk' Tryz.func215 (by kernel_rfl) (by kernel_rfl)
instance:f0 Tryz.prog 216:=f0.mk' Tryz.func216 (by kernel_rfl) (by kernel_rfl)
instance:f0 Tryz.prog 217:=f0.mk' Tryz.func217 (by kernel_rfl) (by kernel_rfl)
instance:f0 Tryz.prog 218:=f0.mk' Tryz.func218 (by kernel_rfl) (by kernel_rfl)
instance:f0 Tryz.prog 219:=f0.mk' Tryz.func219 (by kernel_rfl) (by kernel_rfl)
instance:f0 Tryz.prog 221:=f0.mk' Tryz.func221 (by kernel_rfl) (by kernel_rfl)
instance:f0 Tryz.prog 222:=f0.mk' Tryz.func222 (by kernel_rfl) (by kernel_rfl)
instance:f0 Tryz.prog 223:=f0.mk' Tryz.func223 (by kernel_rfl) (by kernel_rfl)
instance:f0 Tryz.prog 224:=f0.mk' Tryz.func224 (by kernel_rfl) (by kernel_rfl)
instance:f0 Tryz.prog 225:=f0.mk' Tryz.func225 (by kernel_rfl) (by kernel_rfl)
instance:f0 Tryz.prog 227:=f0.mk' Tryz.func227 (by kernel_rfl) (by kernel_rfl)
instance:f0 Tryz.prog 228:=f0.mk' Tryz.func228 (by kernel_rfl) (by kernel_rfl)
theorem o0:Tryz.prog.follows .mixedOrders=true:=by kernel_rfl
end Go.Fl

/- Contracts, printed by gen.py. -/
namespace Go.Fl
open Go Go.Proofs
open d5 renaming op->tO
open i9 renaming op->rO
set_option maxRecDepth 100000


theorem yE {S:List Int} {x:Int} (h:S.Nodup) (hx:decide (x∈S)=false):(S++[x]).Nodup :=
 List.nodup_append.2 ⟨h,by simp,fun a ha b hb=>by simp at hb; subst hb; exact fun e=>of_decide_eq_false hx (e▸ha)⟩
theorem CY (p:List Int) (hn:p.length<=1000000):Ct Tryz.prog 143 [b8 (eL eI) p] (b8 (eL eI) p):=by
 refine Ct.mk Tryz.func143 rfl Tryz.ntmps143 rfl (fun w J=>?_); refine m9 ?_; refine tO (ND rfl uu) rfl rfl ?_; refine g8 ?_; refine Tr.exB (s:=4) rfl (fun b1 q1=>?_); refine Tr.cnd rfl ?_ ?_
 ·intro h1
  refine j3 ?_; exact g6.res1 (fn:=Tryz.f143) rfl (.n rfl (q1 h1).symm<|.nil)
 ·intro h1
  refine g9 ?_; refine d5.new (AX eI 5) rfl rfl rfl rfl ?_; refine g8 ?_; refine jl ?_; refine i7 ?_; refine Tr.frz 5 [2] ⟨rfl,trivial⟩ (by simp only[p9]; omega) rfl ?_; refine i5 ?_
  exact g6.res1 (fn:=Tryz.f143) rfl (.r rfl zi<|.nil)

end Go.Fl

/- Integers as digits to the base 10^8. Plain Lean, no program in sight. -/
namespace Go.Fl
def val:List Int->Int
 | []=>0
 | x::xs=>x+100000000*val xs
abbrev BP (n:Nat):Int:=100000000 ^ n
theorem U7 (n:Nat):0<BP n:=Int.pow_pos zo
theorem U8 (n:Nat):BP (n+1)=100000000*BP n:=by unfold BP; rw[Int.pow_succ,Int.mul_comm]
theorem NW (m n:Nat):BP (m+n)=BP m*BP n:=Int.pow_add ..
theorem IE {m n:Nat} (h:m<=n):BP m<=BP n:=by
 obtain ⟨k,rfl⟩:=Nat.exists_eq_add_of_le h
 have h1:BP m*1<=BP m*BP k:=Int.mul_le_mul_of_nonneg_left (by have:=U7 k; omega) (Int.le_of_lt (U7 m))
 rw[NW]; omega
theorem LA:∀{xs ys:List Int},val (xs++ys)=val xs+BP xs.length*val ys
 | [],ys=>by simp[val,BP]
 | x::xs,ys=>by
  rw[List.cons_append,val,val,LA,List.length_cons,U8,Int.mul_add,Int.mul_assoc]; omega
theorem Y6 {xs:List Int} {y:Int}:val (xs++[y])=val xs+BP xs.length*y:=by rw[LA]; simp[val]
def Dg (xs:List Int):Prop:=∀x∈xs,0<=x/\x<100000000
theorem Dg.nil:Dg []:=fun _ h=>by cases h
theorem Dg.snoc {xs:List Int} {y:Int} (h:Dg xs) (h0:0<=y) (h1:y<100000000):Dg (xs++[y]):=fun x hx=>by
 rcases List.mem_append.1 hx with hx | hx
 ·exact h x hx
 ·simp at hx; subst hx; exact ⟨h0,h1⟩
theorem Dg.at {xs:List Int} (h:Dg xs) {i:Nat} (hi:i<xs.length):0<=b6 xs i/\b6 xs i<100000000:=h _ (E6 hi)
theorem Dg.tail {x:Int} {xs:List Int} (h:Dg (x::xs)):Dg xs:=fun y hy=>h y (List.mem_cons_of_mem _ hy)
theorem Dg.take {xs:List Int} (h:Dg xs) (n:Nat):Dg (xs.take n):=fun y hy=>h y (List.mem_of_mem_take hy)
theorem Dg.val0:∀{xs:List Int},Dg xs->0<=val xs
 | [],_=>Int.le_refl _
 | x::xs,h=>by
  have:=h x List.mem_cons_self
  have:=Dg.val0 h.tail
  rw[val]; omega
theorem Dg.val1:∀{xs:List Int},Dg xs->val xs<BP xs.length
 | [],_=>by simp[val,BP]
 | x::xs,h=>by
  have:=h x List.mem_cons_self
  have:=Dg.val1 h.tail
  rw[val,List.length_cons,U8]; omega
structure Nm (xs:List Int):Prop where
 dg:Dg xs
 last:∀h:xs≠[],xs.getLast h≠0
theorem Nm.nil:Nm []:=⟨Dg.nil,fun h=>absurd rfl h⟩
theorem Nm.tail {x:Int} {xs:List Int} (h:Nm (x::xs)):Nm xs:=⟨h.dg.tail,fun hn=>by
 have:=h.last (by simp)
 rwa [List.getLast_cons hn] at this⟩
theorem Nm.pos:∀{xs:List Int},Nm xs->xs≠[]->0<val xs
 | [],_,h=>absurd rfl h
 | x::xs,h,_=>by
  have h1:=h.dg x List.mem_cons_self
  rw[val]
  by_cases hn:xs=[]
  ·subst hn
   have:=h.last (by simp)
   simp at this
   simp[val]; omega
  ·have:=Nm.pos h.tail hn
   omega
theorem Nm.uniq:∀{xs ys:List Int},Nm xs->Nm ys->val xs=val ys->xs=ys
 | [],[],_,_,_=>rfl
 | [],y::ys,_,h,e=>by have:=h.pos (by simp); rw[<- e] at this; simp[val] at this
 | x::xs,[],h,_,e=>by have:=h.pos (by simp); rw[e] at this; simp[val] at this
 | x::xs,y::ys,h,k,e=>by
  have h1:=h.dg x List.mem_cons_self
  have h2:=k.dg y List.mem_cons_self
  rw[val,val] at e
  obtain rfl:x=y:=by omega
  rw[Nm.uniq h.tail k.tail zo]
def JE:Nat->Nat->List Int
 | 0,_=>[]
 | f+1,n=>if n=0 then [] else ((n%100000000:Nat):Int)::JE f (n/100000000)
theorem VR:∀{f n:Nat},n<=f->Nm (JE f n)/\val (JE f n)=n
 | 0,n,h=>by
  obtain rfl:n=0:=by omega
  exact ⟨Nm.nil,rfl⟩
 | f+1,n,h=>by
  rw[JE]
  by_cases e:n=0
  ·rw[if_pos e]; subst e; exact ⟨Nm.nil,rfl⟩
  ·rw[if_neg e]
   obtain ⟨h1,h2⟩:=VR (f:=f) (n:=n/100000000) zo
   refine ⟨⟨fun x hx=>?_,fun hn=>?_⟩,?_⟩
   ·rcases List.mem_cons.1 hx with rfl | hx
    ·omega
    ·exact h1.dg x hx
   ·by_cases hq:JE f (n/100000000)=[]
    ·have:n/100000000=0:=by rw[hq] at h2; simp[val] at h2; omega
     simp only[hq,List.getLast_singleton]; omega
    ·rw[List.getLast_cons hq]; exact h1.last hq
   ·rw[val,h2]; omega
def d8 (n:Nat):List Int:=JE n n
theorem O8 (n:Nat):Nm (d8 n):=(VR (Nat.le_refl n)).1
theorem y4 (n:Nat):val (d8 n)=n:=(VR (Nat.le_refl n)).2
theorem y0 (n:Nat):Dg (d8 n):=(O8 n).dg
theorem PR {xs:List Int} {n:Nat} (h:Nm xs) (e:val xs=n):xs=d8 n:=h.uniq (O8 n) (by rw[y4,e])
theorem dY:d8 0=[]:=rfl
theorem uA {n:Nat}:d8 n=[]↔n=0:=⟨fun h=>by have:=y4 n; rw[h] at this; simp[val] at this; omega,fun h=>by subst h; rfl⟩
theorem JF {n:Nat}:(d8 n).length=0↔n=0:=by rw[List.length_eq_zero_iff,uA]
def dl (z:Int):Nat:=(d8 z.natAbs).length
theorem JG (z:Int):(z.natAbs:Int)<BP (dl z):=by
 have:=(y0 z.natAbs).val1
 rwa [y4] at this
theorem Nm.low:∀{xs:List Int},Nm xs->xs≠[]->BP (xs.length-1)<=val xs
 | [],_,h=>absurd rfl h
 | x::xs,h,_=>by
  have h1:=h.dg x List.mem_cons_self
  rw[val,List.length_cons,Nat.add_sub_cancel]
  by_cases hn:xs=[]
  ·subst hn
   have:=h.pos (by simp)
   simp[val,BP] at this ⊢; omega
  ·have:=Nm.low h.tail hn
   have hl:xs.length=(xs.length-1)+1:=by have:=List.length_pos_iff.2 hn; omega
   rw[hl,U8]; omega
theorem O9 {z:Int} {k:Nat} (h:(z.natAbs:Int)<BP k):dl z<=k:=by
 by_cases hn:d8 z.natAbs=[]
 ·unfold dl; rw[hn]; exact Nat.zero_le _
 ·have h1:=(O8 z.natAbs).low hn
  rw[y4] at h1
  have hl:0<dl z:=List.length_pos_iff.2 hn
  rcases Nat.lt_or_ge k (dl z) with h2 | h2
  ·have:=IE (show k<=dl z-1 by omega)
   unfold dl at *; omega
  ·exact h2
theorem Q3 (a b:Int):dl (a+b)<=max (dl a) (dl b)+1:=by
 refine O9 ?_
 have h1:=JG a; have h2:=JG b
 have h3:=IE (Nat.le_max_left (dl a) (dl b)); have h4:=IE (Nat.le_max_right (dl a) (dl b))
 rw[U8]; omega
theorem s7 (a b:Int):dl (a*b)<=dl a+dl b:=by
 refine O9 ?_
 have h1:=JG a; have h2:=JG b
 rw[Int.natAbs_mul,NW]
 push_cast
 by_cases hb:b.natAbs=0
 ·rw[hb]; simp; exact Int.mul_pos (U7 _) (U7 _)
 ·exact Int.lt_of_lt_of_le (Int.mul_lt_mul_of_pos_right h1 zo) (Int.mul_le_mul_of_nonneg_left (Int.le_of_lt h2) (Int.le_of_lt (U7 _)))
theorem K6 (a:Int):dl (-a)=dl a:=by unfold dl; rw[Int.natAbs_neg]
theorem C5 {a:Int}:dl a=0↔a=0:=by unfold dl; rw[JF]; omega
def j6:List Int->List Int
 | []=>[]
 | x::xs=>if j6 xs=[]/\x=0 then [] else x::j6 xs
theorem ZV:∀{xs:List Int},val (j6 xs)=val xs
 | []=>rfl
 | x::xs=>by
  have ih:=ZV (xs:=xs)
  rw[j6]
  split
  ·rename_i h
   rw[h.1] at ih
   show 0=x+100000000*val xs
   rw[<- ih,h.2]; simp[val]
  ·rw[val,val,ih]
theorem T3:∀{xs:List Int},(j6 xs).length<=xs.length
 | []=>Nat.le_refl _
 | x::xs=>by
  have:=T3 (xs:=xs)
  rw[j6]; split
  ·simp
  ·simp only[List.length_cons]; omega
theorem TJ:∀{xs:List Int} {x:Int},x∈j6 xs->x∈xs
 | [],_,h=>h
 | y::ys,x,h=>by
  rw[j6] at h
  split at h
  ·cases h
  ·rcases List.mem_cons.1 h with rfl | h
   ·exact List.mem_cons_self
   ·exact List.mem_cons_of_mem _ (TJ h)
theorem KZ:∀{xs:List Int} (h:j6 xs≠[]),(j6 xs).getLast h≠0
 | [],h=>absurd rfl h
 | x::xs,h=>by
  have e:j6 (x::xs)=x::j6 xs:=by
   rw[j6] at h ⊢
   split
   ·rename_i hh; rw[if_pos hh] at h; exact absurd rfl h
   ·rfl
  by_cases hn:j6 xs=[]
  ·have hx:x≠0:=fun hx=>by rw[j6,if_pos ⟨hn,hx⟩] at h; exact h rfl
   simp only[e,hn,List.getLast_singleton]; exact hx
  ·simp only[e,List.getLast_cons hn]; exact KZ hn
theorem mJ {xs:List Int} (h:Dg xs):Nm (j6 xs):=⟨fun x hx=>h x (TJ hx),KZ⟩
theorem DM {xs:List Int} (h:Dg xs) {n:Nat} (e:val xs=n):j6 xs=d8 n:=PR (mJ h) (by rw[ZV,e])
theorem TK:∀{xs:List Int},(∀i,i<xs.length->b6 xs i=0)->j6 xs=[]
 | [],_=>rfl
 | x::xs,h=>by
  rw[j6,if_pos ⟨TK fun i hi=>h (i+1) (by simpa using hi),h 0 (by simp)⟩]
theorem GF:∀{xs:List Int} {m:Nat},m<=xs.length->(∀i,m<=i->i<xs.length->b6 xs i=0)->(m=0\/b6 xs (m-1)≠0)->j6 xs=xs.take m
 | xs,0,_,h,_=>by rw[List.take_zero]; exact TK fun i hi=>h i (Nat.zero_le _) hi
 | [],m+1,hm,_,_=>by simp at hm
 | x::xs,m+1,hm,h,hl=>by
  have hz:∀i,m<=i->i<xs.length->b6 xs i=0:=fun i h1 h2=>h (i+1) zo (by simpa using h2)
  rw[List.take_succ_cons,j6]
  rcases Nat.eq_zero_or_pos m with rfl | hm0
  ·have hx:x≠0:=by rcases hl with hl | hl; omega; exact hl
   rw[if_neg (fun hh=>hx hh.2),TK fun i hi=>hz i (Nat.zero_le _) hi]; rfl
  ·have hl':b6 xs (m-1)≠0:=by
    rcases hl with hl | hl
    ·omega
    ·rw[show m+1-1=(m-1)+1 by omega] at hl; exact hl
   have ih:=GF (xs:=xs) (m:=m) (by simpa using hm) hz (.inr hl')
   have hne:j6 xs≠[]:=by rw[ih]; exact fun hh=>by (have h5:=congrArg List.length hh; rw[List.length_take,List.length_nil] at h5; rw[List.length_cons] at hm; omega)
   rw[if_neg (fun hh=>hne hh.1),ih]
def B1 (xs:List Int) (i:Nat):Int:=if i<xs.length then b6 xs i else 0
def r9 (xs:List Int):Nat->List Int×Int
 | 0=>([],0)
 | i+1=>((r9 xs i).1++[(B1 xs i+(r9 xs i).2)%100000000],(B1 xs i+(r9 xs i).2)/100000000)
theorem Y0 {xs:List Int}:∀{i:Nat},(r9 xs i).1.length=i
 | 0=>rfl
 | i+1=>by rw[r9,List.length_append,Y0]; rfl
theorem AC {xs:List Int}:∀{i:Nat},Dg (r9 xs i).1
 | 0=>Dg.nil
 | i+1=>by rw[r9]; exact AC.snoc (Int.emod_nonneg _ zo) (Int.emod_lt_of_pos _ zo)
theorem CM {xs:List Int} {i:Nat}:val (xs.take (i+1))=val (xs.take i)+BP i*B1 xs i:=by
 unfold B1
 by_cases h:i<xs.length
 ·rw[if_pos h,W8 h,Y6,List.length_take,Nat.min_eq_left zo]
 ·rw[if_neg h,List.take_of_length_le zo,List.take_of_length_le zo]; simp
theorem YU {xs:List Int}:∀{i:Nat},val (r9 xs i).1+BP i*(r9 xs i).2=val (xs.take i)
 | 0=>by simp[r9,val]
 | i+1=>by
  have ih:=YU (xs:=xs) (i:=i)
  rw[r9,CM,<- ih,Y6,Y0,U8]
  generalize B1 xs i=x
  generalize (r9 xs i).2=c
  have h:=Int.emod_add_mul_ediv (x+c) 100000000
  have h2:BP i*(x+c)=BP i*((x+c)%100000000)+BP i*(100000000*((x+c)/100000000)):=by rw[<- Int.mul_add,h]
  have h3:100000000*BP i*((x+c)/100000000)=BP i*(100000000*((x+c)/100000000)):=by rw[Int.mul_comm 100000000 (BP i),Int.mul_assoc]
  rw[h3]
  rw[Int.mul_add] at h2
  omega
def w8 (xs:List Int):Prop:=∀i,i<xs.length->-9223372036854775808<=b6 xs i/\b6 xs i<=9223372036854775807
theorem w8.x {xs:List Int} (h:w8 xs) (i:Nat):-9223372036854775808<=B1 xs i/\B1 xs i<=9223372036854775807:=by
 unfold B1
 split
 ·exact h i (by assumption)
 ·omega
theorem Dg.inI {xs:List Int} (h:Dg xs):w8 xs:=fun i hi=>by have:=h.at hi; omega
theorem NI {xs:List Int} (h:w8 xs):∀{i:Nat},-100000000000<=(r9 xs i).2/\(r9 xs i).2<=100000000000
 | 0=>by simp[r9]
 | i+1=>by
  have:=NI h (i:=i)
  have:=h.x i
  rw[r9]; simp only; omega
theorem kG {xs:List Int} {i:Nat}:B1 xs i/100000000+(B1 xs i%100000000+(r9 xs i).2)/100000000=(r9 xs (i+1)).2/\(B1 xs i%100000000+(r9 xs i).2)%100000000=(B1 xs i+(r9 xs i).2)%100000000:=by
 rw[r9]; simp only; omega
theorem kF {xs:List Int} {i:Nat} (hi:xs.length<=i) (h:(r9 xs i).2=0):val xs=val (r9 xs i).1:=by
 have:=YU (xs:=xs) (i:=i)
 rw[h,Int.mul_zero,Int.add_zero,List.take_of_length_le hi] at this
 exact this.symm
theorem kD {xs:List Int} {i:Nat} (hi:xs.length<=i) (h:(r9 xs i).2=-1):val xs=val (r9 xs i).1-BP i:=by
 have:=YU (xs:=xs) (i:=i)
 rw[h,List.take_of_length_le hi] at this
 omega
def bw (ds:List Int):Nat->Int
 | 0=>0
 | k+1=>if -(b6 ds k)-bw ds k<0 then 1 else 0
theorem LT {ds:List Int}:∀{k:Nat},bw ds k=0\/bw ds k=1
 | 0=>.inl rfl
 | k+1=>by rw[bw]; split; exact .inr rfl; exact .inl rfl
def Q0 (ds:List Int) (j:Nat):Int:=if -(b6 ds j)-bw ds j<0 then -(b6 ds j)-bw ds j+100000000 else -(b6 ds j)-bw ds j
def F5 (ds:List Int) (k:Nat):List Int:=j8 ds.length fun j=>if j<k then Q0 ds j else b6 ds j
theorem bO {ds:List Int} {k:Nat}:(F5 ds k).length=ds.length:=p8
theorem oZ {ds:List Int}:ds=F5 ds 0:=by
 unfold F5
 exact (U5 rfl).trans (B5 fun j _=>by rw[if_neg zo])
theorem UT {ds:List Int} {k:Nat} (h:k<ds.length):b6 (F5 ds k) k=b6 ds k:=by unfold F5; rw[r5 h,if_neg zo]
theorem bP {ds:List Int} {k:Nat}:(F5 ds k).set k (Q0 ds k)=F5 ds (k+1):=by
 unfold F5
 rw[GE]
 refine B5 fun j _=>?_
 by_cases e:j=k
 ·subst e; rw[if_pos rfl,if_pos zo]
 ·rw[if_neg e]
  by_cases h:j<k
  ·rw[if_pos h,if_pos zo]
  ·rw[if_neg h,if_neg zo]
theorem US {ds:List Int} (h:Dg ds) {j:Nat} (hj:j<ds.length):0<=Q0 ds j/\Q0 ds j<100000000:=by
 have:=h.at hj
 unfold Q0
 rcases LT (ds:=ds) (k:=j) with e | e<;>rw[e]<;>split<;>omega
theorem UV {ds:List Int} (h:Dg ds):∀{k:Nat},k<=ds.length->val (j8 k (Q0 ds))=BP k*bw ds k-val (ds.take k)/\(bw ds k=0->val (ds.take k)=0)
 | 0,_=>by simp[j8,val,bw]
 | k+1,hk=>by
  obtain ⟨ih,ih0⟩:=UV h (k:=k) zo
  have hr:=h.at (i:=k) zo
  rw[H0,Y6,p8,ih,W8 zo,Y6,List.length_take,Nat.min_eq_left zo,U8,bw]
  have h01:=LT (ds:=ds) (k:=k)
  have hp:=U7 k
  unfold Q0
  split
  ·rename_i hn
   refine ⟨?_,fun hh=>absurd hh zo⟩
   rw[Int.mul_add (BP k),Int.mul_sub (BP k),Int.mul_neg]
   rw[Int.mul_comm 100000000 (BP k),Int.mul_assoc]
   omega
  ·rename_i hn
   have h0:b6 ds k=0/\bw ds k=0:=by omega
   rw[h0.1,h0.2,ih0 h0.2]
   simp
theorem pA {ds:List Int} (h:Dg ds) (e:bw ds ds.length≠0):Dg (F5 ds ds.length)/\val (F5 ds ds.length)=BP ds.length-val ds:=by
 have e1:F5 ds ds.length=j8 ds.length (Q0 ds):=B5 fun j hj=>if_pos hj
 have hv:=(UV h (Nat.le_refl ds.length)).1
 rw[List.take_length,(LT.resolve_left e),Int.mul_one] at hv
 rw[e1]
 refine ⟨fun x hx=>?_,hv⟩
 obtain ⟨j,hj,rfl⟩:=BY hx
 rw[p8] at hj
 rw[r5 hj]; exact US h hj
theorem pB {ds:List Int} (h:Dg ds) (e:bw ds ds.length=0):Dg (F5 ds ds.length++[1])/\val (F5 ds ds.length++[1])=BP ds.length-val ds:=by
 have e1:F5 ds ds.length=j8 ds.length (Q0 ds):=B5 fun j hj=>if_pos hj
 obtain ⟨hv,hz⟩:=UV h (Nat.le_refl ds.length)
 have hz:=hz e
 rw[List.take_length] at hv hz
 rw[e,hz] at hv
 rw[e1]
 refine ⟨Dg.snoc (fun x hx=>?_) zo zo,?_⟩
 ·obtain ⟨j,hj,rfl⟩:=BY hx
  rw[p8] at hj
  rw[r5 hj]; exact US h hj
 ·rw[Y6,p8,hv,hz]; simp
def g7 (z:Int):List Int:=if z<0 then (d8 z.natAbs).map (fun x=>-x) else d8 z.natAbs
theorem mX:∀{xs:List Int},val (xs.map fun x=>-x)=-val xs
 | []=>rfl
 | x::xs=>by rw[List.map_cons,val,val,mX]; omega
theorem q8 (z:Int):val (g7 z)=z:=by
 unfold g7
 split
 ·rw[mX,y4]; omega
 ·rw[y4]; omega
theorem r8 (z:Int):(g7 z).length=dl z:=by unfold g7 dl; split<;>simp
theorem xB:g7 0=[]:=rfl
theorem u7 (z:Int):w8 (g7 z):=fun i hi=>by
 unfold g7 at hi ⊢
 split
 ·rename_i h
  rw[if_pos h,List.length_map] at hi
  rw[HK hi]
  have:=(y0 z.natAbs).at hi
  omega
 ·rename_i h
  rw[if_neg h] at hi
  have:=(y0 z.natAbs).at hi
  omega
end Go.Fl

/- Sums, differences, comparisons and products of digits. Plain Lean, no program in sight. -/
namespace Go.Fl
theorem iJ {xs:List Int} (h:Dg xs) (k:xs≠[]->BP (xs.length-1)<=val xs):Nm xs:=by
 refine ⟨h,fun hn e=>?_⟩
 have e2:xs=xs.dropLast++[xs.getLast hn]:=(List.dropLast_concat_getLast hn).symm
 have h1:=k hn
 rw[e] at e2
 have h2:Dg xs.dropLast:=fun x hx=>h x ((List.dropLast_sublist xs).subset hx)
 have h3:=h2.val1
 rw[e2,Y6,Int.mul_zero,Int.add_zero] at h1
 rw[List.length_append,List.length_singleton,Nat.add_sub_cancel] at h1
 omega
theorem DN {xs:List Int} {i:Nat} (h:i<xs.length):val (xs.drop i)=b6 xs i+100000000*val (xs.drop (i+1)):=by
 rw[List.drop_eq_getElem_cons h,val,BZ (List.getElem?_eq_getElem h)]
theorem GJ {xs:List Int} {i:Nat} (h:i<=xs.length):val xs=val (xs.take i)+BP i*val (xs.drop i):=by
 conv=>lhs; rw[<- List.take_append_drop i xs]
 rw[LA,List.length_take,Nat.min_eq_left h]
theorem NU:∀{xs:List Int} {i:Nat} {v:Int},i<xs.length->val (xs.set i v)=val xs+BP i*(v-b6 xs i)
 | [],_,_,h=>by simp at h
 | x::xs,0,v,_=>by simp only[List.set_cons_zero,val,BP,Int.pow_zero]; show _=_+1*(v-x); omega
 | x::xs,i+1,v,h=>by
  rw[List.set_cons_succ,val,val,NU (by simpa using h),U8,Int.mul_add,Int.mul_assoc]
  show _=_+100000000*(BP i*(v-b6 xs i))
  omega
theorem Dg.set {xs:List Int} (h:Dg xs) {i:Nat} {v:Int} (h0:0<=v) (h1:v<100000000):Dg (xs.set i v):=fun x hx=>by
 rcases List.mem_or_eq_of_mem_set hx with hx | rfl
 ·exact h x hx
 ·exact ⟨h0,h1⟩
theorem Dg.x {xs:List Int} (h:Dg xs) (i:Nat):0<=B1 xs i/\B1 xs i<100000000:=by
 unfold B1; split
 ·exact h.at (by assumption)
 ·omega
theorem U6 {xs:List Int} {i:Nat} (h:i<xs.length):B1 xs i=b6 xs i:=if_pos h
theorem ID {xs:List Int} {i:Nat} (h:¬i<xs.length):B1 xs i=0:=if_neg h
theorem VQ {n:Nat}:Dg (List.replicate n 0):=fun x hx=>by rw[List.eq_of_mem_replicate hx]; omega
theorem TN {n:Nat}:val (List.replicate n 0)=0:=by
 induction n with
 | zero=>rfl
 | succ n ih=>rw[List.replicate_succ,val,ih]; omega
def G0 (a b:List Int):Nat->List Int×Int
 | 0=>([],0)
 | i+1=>((G0 a b i).1++[(b6 a i+(G0 a b i).2+B1 b i)%100000000],(b6 a i+(G0 a b i).2+B1 b i)/100000000)
theorem IR {a b:List Int}:∀{i:Nat},(G0 a b i).1.length=i
 | 0=>rfl
 | i+1=>by rw[G0,List.length_append,IR]; rfl
theorem OJ {a b:List Int}:∀{i:Nat},Dg (G0 a b i).1
 | 0=>Dg.nil
 | i+1=>by rw[G0]; exact OJ.snoc (Int.emod_nonneg _ zo) (Int.emod_lt_of_pos _ zo)
theorem LO {a b:List Int} (ha:Dg a) (hb:Dg b):∀{i:Nat},i<=a.length->0<=(G0 a b i).2/\(G0 a b i).2<=1
 | 0,_=>by simp[G0]
 | i+1,h=>by
  have:=LO ha hb (i:=i) zo
  have:=ha.at (i:=i) zo
  have:=hb.x i
  rw[G0]; simp only; omega
theorem XQ {n:Nat} (x:Int):BP n*x=BP n*(x%100000000)+BP (n+1)*(x/100000000):=by
 have h:=Int.emod_add_mul_ediv x 100000000
 rw[U8,Int.mul_comm 100000000 (BP n),Int.mul_assoc,<- Int.mul_add,h]
theorem TZ {a b:List Int}:∀{i:Nat},i<=a.length->val (G0 a b i).1+BP i*(G0 a b i).2=val (a.take i)+val (b.take i)
 | 0,_=>by simp[G0,val]
 | i+1,h=>by
  have ih:=TZ (a:=a) (b:=b) (i:=i) zo
  have e:=XQ (n:=i) (b6 a i+(G0 a b i).2+B1 b i)
  rw[Int.mul_add,Int.mul_add] at e
  rw[G0,CM (xs:=a),CM (xs:=b),Y6,IR,U6 (xs:=a) zo]
  dsimp only
  omega
theorem add_zero {a b:List Int} (ha:Nm a) (hb:Nm b) (hl:b.length<=a.length) (h:(G0 a b a.length).2=0):(G0 a b a.length).1=d8 (val a+val b).toNat:=by
 have hv:=TZ (a:=a) (b:=b) (Nat.le_refl _)
 rw[h,Int.mul_zero,Int.add_zero,List.take_length,List.take_of_length_le hl] at hv
 have h0:=ha.dg.val0; have h1:=hb.dg.val0
 refine PR (iJ OJ fun hn=>?_) (by rw[hv]; omega)
 have hne:a≠[]:=fun e=>hn (List.eq_nil_of_length_eq_zero (by rw[IR,e]; rfl))
 have:=ha.low hne
 rw[IR,hv]; omega
theorem nX {a b:List Int} (ha:Nm a) (hb:Nm b) (hl:b.length<=a.length) (h:(G0 a b a.length).2=1):(G0 a b a.length).1++[1]=d8 (val a+val b).toNat:=by
 have hv:=TZ (a:=a) (b:=b) (Nat.le_refl _)
 rw[h,Int.mul_one,List.take_length,List.take_of_length_le hl] at hv
 have h0:=ha.dg.val0; have h1:=hb.dg.val0
 have h2:val ((G0 a b a.length).1++[1])=val a+val b:=by rw[Y6,IR]; omega
 refine PR (iJ (OJ.snoc zo zo) fun _=>?_) (by rw[h2]; omega)
 have:=(OJ (a:=a) (b:=b) (i:=a.length)).val0
 rw[h2,List.length_append,IR,List.length_singleton,Nat.add_sub_cancel]; omega
def sb (a b:List Int):Nat->Int
 | 0=>0
 | k+1=>if b6 a k-sb a b k-B1 b k<0 then 1 else 0
theorem ZA {a b:List Int}:∀{k:Nat},sb a b k=0\/sb a b k=1
 | 0=>.inl rfl
 | k+1=>by rw[sb]; split; exact .inr rfl; exact .inl rfl
def CJ (a b:List Int) (j:Nat):Int:=if b6 a j-sb a b j-B1 b j<0 then b6 a j-sb a b j-B1 b j+100000000 else b6 a j-sb a b j-B1 b j
def D3 (a b:List Int) (k:Nat):List Int:=j8 a.length fun j=>if j<k then CJ a b j else b6 a j
theorem HT {a b:List Int} {k:Nat}:(D3 a b k).length=a.length:=p8
theorem ad8 {a b:List Int}:a=D3 a b 0:=by
 unfold D3
 exact (U5 rfl).trans (B5 fun j _=>by rw[if_neg zo])
theorem SY {a b:List Int} {k:Nat} (h:k<a.length):b6 (D3 a b k) k=b6 a k:=by unfold D3; rw[r5 h,if_neg zo]
theorem kY {a b:List Int} {k:Nat}:(D3 a b k).set k (CJ a b k)=D3 a b (k+1):=by
 unfold D3
 rw[GE]
 refine B5 fun j _=>?_
 by_cases e:j=k
 ·subst e; rw[if_pos rfl,if_pos zo]
 ·rw[if_neg e]
  by_cases h:j<k
  ·rw[if_pos h,if_pos zo]
  ·rw[if_neg h,if_neg zo]
theorem ad7 {a b:List Int} (ha:Dg a) (hb:Dg b) {j:Nat} (hj:j<a.length):0<=CJ a b j/\CJ a b j<100000000:=by
 have:=ha.at hj
 have:=hb.x j
 unfold CJ
 rcases ZA (a:=a) (b:=b) (k:=j) with e | e<;>rw[e]<;>split<;>omega
theorem lC {a b:List Int}:∀{k:Nat},k<=a.length->val (j8 k (CJ a b))=val (a.take k)-val (b.take k)+BP k*sb a b k
 | 0,_=>by simp[j8,val,sb]
 | k+1,hk=>by
  have ih:=lC (a:=a) (b:=b) (k:=k) zo
  rw[H0,Y6,p8,ih,CM (xs:=a),CM (xs:=b),U6 (xs:=a) zo,U8,sb]
  unfold CJ
  rw[Int.mul_comm 100000000 (BP k),Int.mul_assoc]
  split
  ·rw[Int.mul_add,Int.mul_sub,Int.mul_sub]; omega
  ·rw[Int.mul_sub,Int.mul_sub]; simp; omega
theorem ah8 {a b:List Int} (ha:Dg a) (hb:Dg b) (hl:b.length<=a.length) (hle:val b<=val a):j6 (D3 a b a.length)=d8 (val a-val b).toNat:=by
 have e1:D3 a b a.length=j8 a.length (CJ a b):=B5 fun j hj=>if_pos hj
 have hd:Dg (j8 a.length (CJ a b)):=fun x hx=>by
  obtain ⟨j,hj,rfl⟩:=BY hx
  rw[p8] at hj
  rw[r5 hj]; exact ad7 ha hb hj
 have hv:=lC (a:=a) (b:=b) (Nat.le_refl _)
 rw[List.take_length,List.take_of_length_le hl] at hv
 have h1:=hd.val1
 rw[p8] at h1
 have hz:sb a b a.length=0:=by
  rcases ZA (a:=a) (b:=b) (k:=a.length) with e | e
  ·exact e
  ·rw[e,Int.mul_one] at hv; omega
 rw[hz,Int.mul_zero,Int.add_zero] at hv
 rw[e1]
 exact DM hd (by rw[hv]; omega)
theorem PB {a b:List Int} (ha:Nm a) (hb:Nm b) (h:a.length<b.length):val a<val b:=by
 have h1:=ha.dg.val1
 have h2:=hb.low (fun e=>by rw[e] at h; simp at h)
 have:=IE (show a.length<=b.length-1 by omega)
 omega
theorem PA {a b:List Int} (ha:Dg a) (hb:Dg b) (hl:a.length=b.length) {i:Nat} (hi:i<a.length) (h:∀j,i<j->j<a.length->b6 a j=b6 b j) (hlt:b6 a i<b6 b i):val a<val b:=by
 have e:a.drop (i+1)=b.drop (i+1):=by
  refine D6 (by simp[hl]) fun j hj=>?_
  rw[List.length_drop] at hj
  have:=h (i+1+j) zo zo
  unfold b6 at this ⊢
  simpa [List.getD_eq_getElem?_getD,List.getElem?_drop] using this
 have h1:=GJ (xs:=a) (i:=i) zo
 have h2:=GJ (xs:=b) (i:=i) zo
 rw[DN hi] at h1
 rw[DN zo,<- e] at h2
 have h3:=(ha.take i).val1
 have h4:=(hb.take i).val0
 rw[List.length_take,Nat.min_eq_left zo] at h3
 have h5:BP i*(b6 a i+100000000*val (a.drop (i+1))+1)<=BP i*(b6 b i+100000000*val (a.drop (i+1))):=Int.mul_le_mul_of_nonneg_left zo (Int.le_of_lt (U7 i))
 rw[Int.mul_add,Int.mul_one] at h5
 omega
theorem bT {a b:List Int} (hl:a.length=b.length) (h:∀j,j<a.length->b6 a j=b6 b j):a=b:=D6 hl h
def q9 (x y:Int):Int:=if x<y then -1 else if y<x then 1 else 0
structure AM (a b o:List Int) (i k:Nat) (c:Int):Prop where
 len:o.length=a.length+b.length
 dg:Dg o
 c0:0<=c/\c<100000000
 z:∀j,i+b.length<=j->j<o.length->b6 o j=0
 v:val o+BP (i+k)*c=val (a.take i)*val b+BP i*b6 a i*val (b.take k)
structure V0 (a b o:List Int) (i:Nat):Prop where
 len:o.length=a.length+b.length
 dg:Dg o
 z:∀j,i+b.length<=j->j<o.length->b6 o j=0
 v:val o=val (a.take i)*val b
section
variable {a b o:List Int} {i k:Nat} {c:Int}
theorem V0.start:V0 a b (List.replicate (a.length+b.length) 0) 0 :=
 ⟨by simp,VQ,fun j _ hj=>RM (by simpa using hj),by rw[TN]; simp[val]⟩
theorem V0.row (h:V0 a b o i):AM a b o i 0 0:=⟨h.len,h.dg,by omega,h.z,by rw[h.v]; simp[val]⟩
theorem AM.n (ha:Dg a) (hb:Dg b) (h:AM a b o i k c) (hi:i<a.length) (hk:k<b.length):0<=b6 o (i+k)/\b6 o (i+k)<100000000/\0<=b6 a i*b6 b k/\b6 a i*b6 b k<=9999999800000001:=by
 have h1:=h.dg.at (i:=i+k) (by rw[h.len]; omega)
 have h2:=ha.at hi
 have h3:=hb.at hk
 refine ⟨h1.1,h1.2,Int.mul_nonneg h2.1 h3.1,?_⟩
 have:b6 a i*b6 b k<=99999999*99999999:=Int.mul_le_mul zo zo h3.1 zo
 omega
theorem AM.next (ha:Dg a) (hb:Dg b) (h:AM a b o i k c) (hi:i<a.length) (hk:k<b.length):AM a b (o.set (i+k) ((b6 o (i+k)+b6 a i*b6 b k+c)%100000000)) i (k+1) ((b6 o (i+k)+b6 a i*b6 b k+c)/100000000):=by
 obtain ⟨n1,n2,n3,n4⟩:=h.n ha hb hi hk
 have hc:=h.c0
 have hik:i+k<o.length:=by rw[h.len]; omega
 refine ⟨by rw[List.length_set]; exact h.len,h.dg.set (Int.emod_nonneg _ zo) (Int.emod_lt_of_pos _ zo),by omega,fun j h1 h2=>?_,?_⟩
 ·rw[List.length_set] at h2
  rw[N6 h2,if_neg zo]; exact h.z j h1 h2
 ·have e:=XQ (n:=i+k) (b6 o (i+k)+b6 a i*b6 b k+c)
  rw[Int.mul_add,Int.mul_add] at e
  have hv:=h.v
  have e2:BP i*b6 a i*val (b.take (k+1))=BP i*b6 a i*val (b.take k)+BP (i+k)*(b6 a i*b6 b k):=by
   rw[CM,U6 hk,Int.mul_add,NW]
   congr 1
   rw[Int.mul_assoc,Int.mul_assoc,Int.mul_left_comm (b6 a i)]
  rw[NU hik,e2,Int.mul_sub,<- Nat.add_assoc]
  omega
theorem AM.done (h:AM a b o i b.length c) (hi:i<a.length):V0 a b (o.set (i+b.length) c) (i+1):=by
 have hl:i+b.length<o.length:=by rw[h.len]; omega
 have hz:=h.z (i+b.length) (Nat.le_refl _) hl
 refine ⟨by rw[List.length_set]; exact h.len,h.dg.set h.c0.1 h.c0.2,fun j h1 h2=>?_,?_⟩
 ·rw[List.length_set] at h2
  rw[N6 h2,if_neg zo]; exact h.z j zo h2
 ·have hv:=h.v
  rw[List.take_length] at hv
  rw[NU hl,hz,Int.sub_zero,CM,U6 hi,Int.add_mul]; exact hv
theorem V0.fin (h:V0 a b o a.length) (ha:Dg a) (hb:Dg b):j6 o=d8 (val a*val b).toNat:=by
 have hv:=h.v
 rw[List.take_length] at hv
 have:=Int.mul_nonneg ha.val0 hb.val0
 exact DM h.dg (by rw[hv]; omega)
end
structure N2 (a o:List Int) (n:Int) (i:Nat) (r:Int):Prop where
 len:o.length=a.length
 dg:Dg o
 r0:0<=r/\r<n
 z:∀j,j<i->j<o.length->b6 o j=0
 v:val (a.drop i)=n*val (o.drop i)+r
section
variable {a o:List Int} {n r:Int} {i:Nat}
theorem N2.start (hn:0<n):N2 a (List.replicate a.length 0) n a.length 0 :=
 ⟨by simp,VQ,by omega,fun j h _=>RM h,by rw[List.drop_length,List.drop_of_length_le (by simp)]; simp[val]⟩
theorem N2.q (ha:Dg a) (h:N2 a o n (i+1) r) (hi:i<a.length):0<=(r*100000000+b6 a i)/n/\(r*100000000+b6 a i)/n<100000000/\0<=(r*100000000+b6 a i)%n/\(r*100000000+b6 a i)%n<n:=by
 have h1:=ha.at hi
 have h2:=h.r0
 refine ⟨Int.ediv_nonneg zo zo,Int.ediv_lt_of_lt_mul zo ?_,Int.emod_nonneg _ zo,Int.emod_lt_of_pos _ zo⟩
 have:(r+1)*100000000<=n*100000000:=Int.mul_le_mul_of_nonneg_right zo zo
 rw[Int.mul_comm 100000000 n]; omega
theorem N2.next (ha:Dg a) (h:N2 a o n (i+1) r) (hi:i<a.length):N2 a (o.set i ((r*100000000+b6 a i)/n)) n i ((r*100000000+b6 a i)%n):=by
 obtain ⟨q1,q2,q3,q4⟩:=h.q ha hi
 have hl:=h.len
 refine ⟨by rw[List.length_set]; exact hl,h.dg.set q1 q2,⟨q3,q4⟩,fun j h1 h2=>?_,?_⟩
 ·rw[List.length_set] at h2
  rw[N6 h2,if_neg zo]; exact h.z j zo h2
 ·have e:=Int.emod_add_mul_ediv (r*100000000+b6 a i) n
  rw[DN hi,h.v,DN (xs:=o.set i _) (by rw[List.length_set]; omega),N6 zo,if_pos rfl,List.drop_set_of_lt zo,Int.mul_add,Int.mul_add,Int.mul_left_comm n 100000000]
  omega
theorem N2.fin (h:N2 a o n 0 r):j6 o=d8 (val a/n).toNat/\r=val a%n:=by
 have hv:=h.v
 rw[List.drop_zero,List.drop_zero] at hv
 have hr:=h.r0
 have e1:val a/n=val o:=by rw[hv,Int.mul_add_ediv_left _ _ zo,Int.ediv_eq_zero_of_lt hr.1 hr.2]; omega
 have e2:val a%n=r:=by rw[hv,Int.mul_add_emod_self_left,Int.emod_eq_of_lt hr.1 hr.2]
 have h0:=h.dg.val0
 exact ⟨DM h.dg (by rw[e1]; omega),e2.symm⟩
end
end Go.Fl

/- Long division of digits. Plain Lean, no program in sight. -/
namespace Go.Fl
theorem vU {xs:List Int} (h:Dg xs) {n:Nat} (hv:val xs<BP n) {k:Nat} (hk:n<=k) (hl:k<xs.length):b6 xs k=0:=by
 have h1:=h.at hl
 have h2:=GJ (xs:=xs) (i:=k) zo
 have h3:=(h.take k).val0
 have hd:Dg (xs.drop (k+1)):=fun x hx=>h x (List.mem_of_mem_drop hx)
 have h4:=hd.val0
 rw[DN hl] at h2
 have h5:=IE hk
 refine Classical.byContradiction fun hne=>?_
 have h6:BP k*1<=BP k*(b6 xs k+100000000*val (xs.drop (k+1))):=Int.mul_le_mul_of_nonneg_left zo (Int.le_of_lt (U7 k))
 omega
structure P5 (u0 v:List Int) (j:Nat) (s:Int) (u:List Int) (i:Nat) (c:Int):Prop where
 len:u.length=u0.length
 same:∀k,k<j\/j+i<=k->b6 u k=b6 u0 k
 dg:∀k,j<=k->k<j+i->0<=b6 u k/\b6 u k<100000000
 v:val u+BP (j+i)*c=val u0+s*BP j*val (v.take i)
 cb:-100000000<=c/\c<=1
section
variable {u0 v u:List Int} {j i:Nat} {s c:Int}
theorem P5.start:P5 u0 v j s u0 0 0:=⟨rfl,fun _ _=>rfl,fun _ _ _=>by omega,by simp[val],by omega⟩
theorem P5.b (hv:Dg v) (hs:-99999999<=s/\s<=1) (hi:i<v.length):-9999999800000001<=s*b6 v i/\s*b6 v i<=99999999:=by
 have h1:=hv.at hi
 constructor
 ·have h2:(-s)*b6 v i<=99999999*99999999:=by
   by_cases hp:0<=-s
   ·exact Int.mul_le_mul zo zo h1.1 zo
   ·have:(-s)*b6 v i<=0*b6 v i:=Int.mul_le_mul_of_nonneg_right zo h1.1
    omega
  rw[Int.neg_mul] at h2; omega
 ·have h2:s*b6 v i<=1*b6 v i:=Int.mul_le_mul_of_nonneg_right hs.2 h1.1
  omega
theorem P5.next (hv:Dg v) (hs:-99999999<=s/\s<=1) (h:P5 u0 v j s u i c) (hi:i<v.length) (hl:j+i<u0.length) (hu:0<=b6 u0 (j+i)/\b6 u0 (j+i)<100000000) :
  b6 u (j+i)=b6 u0 (j+i)/\P5 u0 v j s (u.set (j+i) ((b6 u0 (j+i)+s*b6 v i+c)%100000000)) (i+1) ((b6 u0 (j+i)+s*b6 v i+c)/100000000):=by
 have hb:=P5.b hv hs hi
 have hc:=h.cb
 have he:=h.same (j+i) (.inr (Nat.le_refl _))
 have hul:=h.len
 refine ⟨he,by rw[List.length_set]; exact hul,fun k hk=>?_,fun k h1 h2=>?_,?_,?_⟩
 ·by_cases hkl:k<u.length
  ·rw[N6 hkl,if_neg zo]; exact h.same k zo
  ·have e1:∀y:Int,b6 (u.set (j+i) y) k=b6 u k:=fun y=>by
    unfold b6
    simp only[List.getD_eq_getElem?_getD]
    rw[List.getElem?_eq_none (show (u.set (j+i) y).length<=k by rw[List.length_set]; omega),List.getElem?_eq_none (show u.length<=k by omega)]
   rw[e1]; exact h.same k zo
 ·have hkl:k<u.length:=by omega
  rw[N6 hkl]
  by_cases e:j+i=k
  ·rw[if_pos e]; exact ⟨Int.emod_nonneg _ zo,Int.emod_lt_of_pos _ zo⟩
  ·rw[if_neg e]; exact h.dg k h1 zo
 ·have e:=XQ (n:=j+i) (b6 u0 (j+i)+s*b6 v i+c)
  rw[Int.mul_add,Int.mul_add] at e
  have hv':=h.v
  have e2:s*BP j*val (v.take (i+1))=s*BP j*val (v.take i)+BP (j+i)*(s*b6 v i):=by
   rw[CM,U6 hi,Int.mul_add,NW]
   congr 1
   rw[Int.mul_comm s (BP j),Int.mul_assoc,Int.mul_assoc,Int.mul_left_comm s]
  rw[NU zo,he,e2,Int.mul_sub,<- Nat.add_assoc]
  omega
 ·constructor
  ·omega
  ·omega
theorem P5.done (h:P5 u0 v j s u v.length c) (hl:j+v.length<u0.length):b6 u (j+v.length)=b6 u0 (j+v.length)/\val (u.set (j+v.length) (b6 u (j+v.length)+c))=val u0+s*BP j*val v:=by
 have hv:=h.v
 rw[List.take_length] at hv
 refine ⟨h.same _ (.inr (Nat.le_refl _)),?_⟩
 rw[NU (by rw[h.len]; exact hl),<- hv]
 congr 1
 rw[Int.add_comm (b6 u _),Int.add_sub_cancel]
end
structure O4 (u0:List Int) (j n:Nat) (T V:Int) (u:List Int) (g:Int):Prop where
 len:u.length=u0.length
 dg:∀k,k<u.length->k≠j+n->0<=b6 u k/\b6 u k<100000000
 hi:∀k,j+n<k->k<u.length->b6 u k=0
 low:u.take j=u0.take j
 v:val u=val u0-g*BP j*V
 g0:T/V<=g
 g1:g<=99999999
section
variable {u0 u:List Int} {j n:Nat} {T V g:Int}
theorem O4.t (h:O4 u0 j n T V u g) (hl:j+n<u0.length) (hT:T=val (u0.drop j)):val (u.drop j)=T-g*V:=by
 have h1:=GJ (xs:=u) (i:=j) (by rw[h.len]; omega)
 have h2:=GJ (xs:=u0) (i:=j) zo
 have h3:=h.v
 rw[h1,h2,h.low,<- hT] at h3
 have h4:BP j*val (u.drop j)=BP j*(T-g*V):=by
  rw[Int.mul_sub,show BP j*(g*V)=g*BP j*V by rw[Int.mul_comm g (BP j),Int.mul_assoc]]; omega
 exact Int.eq_of_mul_eq_mul_left (by have:=U7 j; omega) h4
theorem O4.top (h:O4 u0 j n T V u g) (hl:j+n<u0.length):∃lo,0<=lo/\lo<BP n/\val (u.drop j)=lo+BP n*b6 u (j+n):=by
 have hlen:=h.len
 have h1:=GJ (xs:=u.drop j) (i:=n) (by rw[List.length_drop]; omega)
 have hd:Dg ((u.drop j).take n):=fun x hx=>by
  obtain ⟨i,hi,rfl⟩:=BY hx
  rw[List.length_take,List.length_drop] at hi
  have e:b6 ((u.drop j).take n) i=b6 u (j+i):=by
   unfold b6
   simp only[List.getD_eq_getElem?_getD,List.getElem?_take,List.getElem?_drop]
   rw[if_pos zo]
  rw[e]; exact h.dg _ zo zo
 have hz:val ((u.drop j).drop n)=b6 u (j+n):=by
  rw[List.drop_drop,DN zo]
  have:val (u.drop (j+n+1))=0:=by
   have hr:u.drop (j+n+1)=List.replicate (u.drop (j+n+1)).length 0:=List.eq_replicate_of_mem fun x hx=>by
    obtain ⟨i,hi,rfl⟩:=BY hx
    rw[List.length_drop] at hi
    have e:b6 (u.drop (j+n+1)) i=b6 u (j+n+1+i):=by
     unfold b6
     simp only[List.getD_eq_getElem?_getD,List.getElem?_drop]
    rw[e]; exact h.hi _ zo zo
   rw[hr,TN]
  rw[this]; omega
 have h2:=hd.val1
 rw[List.length_take,List.length_drop,Nat.min_eq_left zo] at h2
 exact ⟨_,hd.val0,h2,by rw[h1,hz]⟩
theorem O4.lt (h:O4 u0 j n T V u g) (hl:j+n<u0.length) (hT:T=val (u0.drop j)) (hn:b6 u (j+n)<0) (hV:0<V):T/V<g:=by
 obtain ⟨lo,h1,h2,h3⟩:=h.top hl
 rw[h.t hl hT] at h3
 have h4:BP n*b6 u (j+n)<=BP n*(-1):=Int.mul_le_mul_of_nonneg_left zo (Int.le_of_lt (U7 n))
 have h5:T<g*V:=by omega
 exact Int.ediv_lt_of_lt_mul hV h5
theorem O4.ge (h:O4 u0 j n T V u g) (hl:j+n<u0.length) (hT:T=val (u0.drop j)) (hn:0<=b6 u (j+n)) (hV:0<V) (hVn:V<BP n):g=T/V/\Dg u/\val (u.drop j)<V:=by
 obtain ⟨lo,h1,h2,h3⟩:=h.top hl
 have h4:0<=BP n*b6 u (j+n):=Int.mul_nonneg (Int.le_of_lt (U7 n)) hn
 have ht:=h.t hl hT
 have h5:g*V<=T:=by omega
 have hg:g=T/V:=Int.le_antisymm ((Int.le_ediv_iff_mul_le hV).2 h5) h.g0
 have h6:val (u.drop j)<V:=by
  rw[ht,hg]
  have:=Int.emod_lt_of_pos T hV
  have e:=Int.emod_add_mul_ediv T V
  rw[Int.mul_comm] at e
  omega
 refine ⟨hg,fun x hx=>?_,h6⟩
 obtain ⟨k,hk,rfl⟩:=BY hx
 by_cases e:k=j+n
 ·subst e
  refine ⟨hn,?_⟩
  have:b6 u (j+n)=0:=by
   refine Classical.byContradiction fun hne=>?_
   have:BP n*1<=BP n*b6 u (j+n):=Int.mul_le_mul_of_nonneg_left zo (Int.le_of_lt (U7 n))
   omega
  omega
 ·exact h.dg k hk e
end
theorem vP {T V t vt:Int} {n:Nat} (hV:vt*BP n<=V) (hvt:0<vt) (hT:T<(t+1)*BP n) (hT2:T<100000000*V) (h0:0<=T):T/V<=(if 99999999<t/vt then 99999999 else t/vt)/\0<=T/V:=by
 have hp:=U7 n
 have hVp:0<V:=by
  have:0<vt*BP n:=Int.mul_pos hvt hp
  omega
 have h1:T/V<100000000:=Int.ediv_lt_of_lt_mul hVp hT2
 have hq0:0<=T/V:=Int.ediv_nonneg h0 zo
 have h2:T/V*V<=T:=Int.ediv_mul_le T zo
 have h3:T/V*(vt*BP n)<=T/V*V:=Int.mul_le_mul_of_nonneg_left hV hq0
 have h4:T/V*vt*BP n<(t+1)*BP n:=by rw[Int.mul_assoc]; omega
 have h5:T/V*vt<t+1:=Int.lt_of_mul_lt_mul_right h4 (Int.le_of_lt hp)
 have h6:T/V<=t/vt:=(Int.le_ediv_iff_mul_le hvt).2 zo
 refine ⟨?_,hq0⟩
 split<;>omega
structure X1 (A V:Int) (n:Nat) (u out:List Int) (j:Nat):Prop where
 lu:u.length=out.length+n
 dg:Dg u
 do_:Dg out
 jo:j<=out.length
 lt:val (u.drop j)<V
 v:A=V*BP j*val (out.drop j)+val u
section
variable {A V T g:Int} {n j:Nat} {u out u' v:List Int}
theorem X1.gs (hv:Nm v) (hn:v.length=n) (h2:2<=n) (h:X1 A (val v) n u out (j+1)) :
  val (u.drop j)/val v<=(if 99999999<(b6 u (j+n)*100000000+b6 u (j+n-1))/b6 v (n-1) then 99999999 else (b6 u (j+n)*100000000+b6 u (j+n-1))/b6 v (n-1))/\0<=val (u.drop j)/val v/\0<b6 v (n-1)/\(∀k,j+n<k->k<u.length->b6 u k=0)/\val v<BP n:=by
 have hlu:=h.lu
 have hjo:=h.jo
 have hne:v≠[]:=fun e=>by rw[e] at hn; simp at hn; omega
 have hvlt:=hv.dg.val1
 rw[hn] at hvlt
 have hd1:Dg (u.drop (j+1)):=fun x hx=>h.dg x (List.mem_of_mem_drop hx)
 have hd0:Dg (u.drop j):=fun x hx=>h.dg x (List.mem_of_mem_drop hx)
 have hz:∀k,j+n<k->k<u.length->b6 u k=0:=fun k h3 h4=>by
  have:=vU hd1 (n:=n) (by have:=h.lt; omega) (k:=k-(j+1)) zo (by rw[List.length_drop]; omega)
  unfold b6 at this ⊢
  simp only[List.getD_eq_getElem?_getD,List.getElem?_drop] at this ⊢
  rwa [show j+1+(k-(j+1))=k by omega] at this
 have hvt:0<b6 v (n-1):=by
  have h3:=hv.last hne
  have h4:b6 v (n-1)=v.getLast hne:=by
   rw[List.getLast_eq_getElem]
   exact BZ (by rw[<- hn]; exact List.getElem?_eq_getElem _)
  rw[h4]
  have:=hv.dg _ (List.getLast_mem hne)
  omega
 have hV:b6 v (n-1)*BP (n-1)<=val v:=by
  have h3:=GJ (xs:=v) (i:=n-1) zo
  have h4:=(hv.dg.take (n-1)).val0
  have h5:v.drop (n-1)=[b6 v (n-1)]:=by
   rw[List.drop_eq_getElem_cons zo,List.drop_of_length_le zo]
   congr 1
   exact (BZ (List.getElem?_eq_getElem zo)).symm
  rw[h5] at h3
  simp only[val,Int.mul_zero,Int.add_zero] at h3
  rw[Int.mul_comm]; omega
 have hT0:=hd0.val0
 have hT1:val (u.drop j)<100000000*val v:=by
  rw[DN zo]
  have:=h.dg.at (i:=j) zo
  have:=h.lt
  omega
 have hT2:val (u.drop j)<(b6 u (j+n)*100000000+b6 u (j+n-1)+1)*BP (n-1):=by
  have h3:=GJ (xs:=u.drop j) (i:=n-1) (by rw[List.length_drop]; omega)
  have hdt:Dg ((u.drop j).take (n-1)):=hd0.take _
  have h4:=hdt.val1
  rw[List.length_take,List.length_drop,Nat.min_eq_left zo] at h4
  have h6:=DN (xs:=u) (i:=j+(n-1)) zo
  have h7:=DN (xs:=u) (i:=j+n) zo
  rw[show j+(n-1)+1=j+n by omega] at h6
  rw[List.drop_drop,h6,h7] at h3
  have h5:val (u.drop (j+n+1))=0:=by
   have hr:u.drop (j+n+1)=List.replicate (u.drop (j+n+1)).length 0:=List.eq_replicate_of_mem fun x hx=>by
    obtain ⟨i,hi,rfl⟩:=BY hx
    rw[List.length_drop] at hi
    have e:b6 (u.drop (j+n+1)) i=b6 u (j+n+1+i):=by
     unfold b6
     simp only[List.getD_eq_getElem?_getD,List.getElem?_drop]
    rw[e]; exact hz _ zo zo
   rw[hr,TN]
  rw[h5,Int.mul_zero,Int.add_zero] at h3
  rw[h3,show j+(n-1)=j+n-1 by omega,Int.add_mul,Int.one_mul,Int.mul_comm (b6 u (j+n)*100000000+b6 u (j+n-1)),Int.mul_comm 100000000 (b6 u (j+n)),Int.add_comm (b6 u (j+n)*100000000)]
  omega
 obtain ⟨g1,g2⟩:=vP hV hvt hT2 hT1 hT0
 exact ⟨g1,g2,hvt,hz,hvlt⟩
theorem O4.mk' (h:X1 A V n u out (j+1)) (_hn:j+n<u.length) {s:Int} (hs:P5 u v j (-s) u' n T) (hvn:v.length=n) (hV:val v=V) (hz:∀k,j+n<k->k<u.length->b6 u k=0) (hg:val (u.drop j)/V<=s) (hg1:s<=99999999) :
  O4 u j n (val (u.drop j)) V (u'.set (j+n) (b6 u' (j+n)+T)) s:=by
 have hl:=hs.len
 subst hvn
 obtain ⟨e1,e2⟩:=hs.done zo
 refine ⟨by rw[List.length_set]; exact hl,fun k hk hne=>?_,fun k h1 h2=>?_,?_,?_,hg,hg1⟩
 ·rw[List.length_set] at hk
  rw[N6 hk,if_neg (fun e=>hne e.symm)]
  by_cases hc:k<j\/j+v.length<=k
  ·rw[hs.same k hc]; exact h.dg.at zo
  ·exact hs.dg k zo zo
 ·rw[List.length_set] at h2
  rw[N6 h2,if_neg zo,hs.same k zo]
  exact hz k h1 zo
 ·refine D6 (by simp[hl]) fun k hk=>?_
  rw[List.length_take,List.length_set] at hk
  have e:∀{xs:List Int},b6 (xs.take j) k=b6 xs k:=fun {xs}=>by
   unfold b6
   simp only[List.getD_eq_getElem?_getD,List.getElem?_take]
   rw[if_pos zo]
  rw[e,e,N6 zo,if_neg zo]
  exact hs.same k (.inl zo)
 ·rw[e2,hV,Int.neg_mul,Int.neg_mul]; omega
theorem O4.back (h:O4 u j n T V u' g) (hl:j+n<u.length) (hT:T=val (u.drop j)) (hn:b6 u' (j+n)<0) (hVp:0<V) {u2:List Int} {c:Int} (hs:P5 u' v j 1 u2 n c) (hvn:v.length=n) (hV:val v=V) :
  O4 u j n T V (u2.set (j+n) (b6 u2 (j+n)+c)) (g-1):=by
 have hlt:=h.lt hl hT hn hVp
 have hlen:=h.len
 have hl2:=hs.len
 subst hvn
 obtain ⟨e1,e2⟩:=hs.done zo
 refine ⟨by rw[List.length_set]; omega,fun k hk hne=>?_,fun k h1 h2=>?_,?_,?_,by omega,by have:=h.g1; omega⟩
 ·rw[List.length_set] at hk
  rw[N6 hk,if_neg (fun e=>hne e.symm)]
  by_cases hc:k<j\/j+v.length<=k
  ·rw[hs.same k hc]; exact h.dg k zo hne
  ·exact hs.dg k zo zo
 ·rw[List.length_set] at h2
  rw[N6 h2,if_neg zo,hs.same k zo]
  exact h.hi k h1 zo
 ·rw[<- h.low]
  refine D6 (by simp[hl2]) fun k hk=>?_
  rw[List.length_take,List.length_set] at hk
  have e:∀{xs:List Int},b6 (xs.take j) k=b6 xs k:=fun {xs}=>by
   unfold b6
   simp only[List.getD_eq_getElem?_getD,List.getElem?_take]
   rw[if_pos zo]
  rw[e,e,N6 zo,if_neg zo]
  exact hs.same k (.inl zo)
 ·rw[e2,h.v,hV,Int.one_mul,Int.sub_mul,Int.sub_mul,Int.one_mul]; omega
theorem X1.next (h:X1 A V n u out (j+1)) (hw:O4 u j n (val (u.drop j)) V u' g) (hl:j+n<u.length) (hn:0<=b6 u' (j+n)) (hV:0<V) (hVn:V<BP n):X1 A V n u' (out.set j g) j:=by
 obtain ⟨e1,e2,e3⟩:=hw.ge hl rfl hn hV hVn
 have hjo:=h.jo
 have h0:Dg (u.drop j):=fun x hx=>h.dg x (List.mem_of_mem_drop hx)
 have hg0:0<=g:=by rw[e1]; exact Int.ediv_nonneg h0.val0 zo
 have:=hw.g1
 refine ⟨by rw[hw.len,h.lu,List.length_set],e2,h.do_.set hg0 zo,by rw[List.length_set]; omega,e3,?_⟩
 rw[DN (xs:=out.set j g) (by rw[List.length_set]; omega),N6 zo,if_pos rfl,List.drop_set_of_lt zo,hw.v,h.v,U8,Int.mul_add,show V*BP j*g=g*BP j*V by rw[Int.mul_comm V,Int.mul_comm (BP j*V),Int.mul_assoc],show V*(100000000*BP j)=V*BP j*100000000 by rw[Int.mul_comm 100000000 (BP j),Int.mul_assoc],Int.mul_assoc (V*BP j)]
 omega
theorem X1.fin (h:X1 A V n u out 0) (hV:0<V):val out=A/V/\val u=A%V/\Dg out/\Dg u:=by
 have hv:=h.v
 have hlt:=h.lt
 rw[List.drop_zero] at hv hlt
 simp only[BP,Int.pow_zero,Int.mul_one] at hv
 have h0:=h.dg.val0
 refine ⟨?_,?_,h.do_,h.dg⟩
 ·rw[hv,Int.mul_add_ediv_left _ _ zo,Int.ediv_eq_zero_of_lt h0 hlt]; omega
 ·rw[hv,Int.mul_add_emod_self_left,Int.emod_eq_of_lt h0 hlt]
theorem X1.start {x:Int} (hx:0<=x) (hv:Nm v) (hn:v.length=n) (h2:2<=n) (hle:n<=(d8 x.toNat).length):X1 x (val v) n (d8 x.toNat++[0,0]) (List.replicate ((d8 x.toNat).length+2-n) 0) ((d8 x.toNat).length+2-n):=by
 have hd:=y0 x.toNat
 have hD:Dg (d8 x.toNat++[0,0]):=fun y hy=>by
  rcases List.mem_append.1 hy with hy | hy
  ·exact hd y hy
  ·simp at hy; subst hy; omega
 have hval:val (d8 x.toNat++[0,0])=x:=by rw[LA,y4]; simp[val]; omega
 have hne:v≠[]:=fun e=>by rw[e] at hn; simp at hn; omega
 refine ⟨by simp; omega,hD,VQ,by simp,?_,?_⟩
 ·have h1:=hv.low hne
  rw[hn] at h1
  have e:(d8 x.toNat++[0,0]).drop ((d8 x.toNat).length+2-n)=(d8 x.toNat).drop ((d8 x.toNat).length+2-n)++[0,0]:=List.drop_append_of_le_length zo
  rw[e,LA]
  have hdd:Dg ((d8 x.toNat).drop ((d8 x.toNat).length+2-n)):=fun y hy=>hd y (List.mem_of_mem_drop hy)
  have h3:=hdd.val1
  rw[List.length_drop] at h3
  have h4:=IE (show (d8 x.toNat).length-((d8 x.toNat).length+2-n)<=n-1 by omega)
  simp only[val]
  omega
 ·rw[List.drop_of_length_le (by simp),hval]
  simp[val]
end
end Go.Fl

/- Integers: what the contracts of the package field lean on. Plain Lean, no program in sight. -/
namespace Go.Fl
theorem iS {α:Type} [Inhabited α] {xs:List α} {i m:Nat} (h:i<m):b6 (xs.take m) i=b6 xs i:=by simp[b6,List.getD,List.getElem?_take_of_lt h]
def wh (z:Int):Bool×List Int:=(decide (z<0),d8 z.natAbs)
theorem GK {b:Bool} {ds:List Int} {z:Int} (hb:b=decide (z<0)) (hd:ds=d8 z.natAbs):(b,ds)=wh z:=by unfold wh; rw[hb,hd]
theorem nI {ds:List Int} {z:Int} {n:Nat} (hz:z=n) (hd:ds=d8 n):(false,ds)=wh z:=by subst hz; exact GK (by simp) (by simpa using hd)
theorem nH {ds:List Int} {z:Int} {n:Nat} (hz:z=-(n:Int)) (h0:0<n) (hd:ds=d8 n):(true,ds)=wh z:=GK (by simp; omega) (by rw[hd,hz,Int.natAbs_neg,Int.natAbs_natCast])
theorem NR (n:Int):n=100000000*n.tdiv 100000000+n.tmod 100000000/\(0<=n->0<=n.tmod 100000000/\n.tmod 100000000<100000000)/\(n<=0->-100000000<n.tmod 100000000/\n.tmod 100000000<=0):=by
 have h:=Int.mul_tdiv_add_tmod n 100000000
 refine ⟨by omega,fun h0=>⟨Int.tmod_nonneg _ h0,?_⟩,fun h0=>?_⟩
 ·exact Int.tmod_lt_of_pos n zo
 ·have h1:=Int.tmod_nonneg 100000000 (show 0<=-n by omega)
  have h2:=Int.tmod_lt_of_pos (-n) (show (0:Int)<100000000 by omega)
  rw[Int.neg_tmod] at h1 h2
  omega
theorem kK {xs:List Int} {i:Nat} (hi:xs.length<=i) (h:(r9 xs i).2=0):(false,j6 (r9 xs i).1)=wh (val xs):=by
 have h1:=kF hi h
 have h0:=(AC (xs:=xs) (i:=i)).val0
 exact nI (n:=(val xs).toNat) zo (DM AC zo)
theorem UK {ds:List Int} {k:Nat}:bw ds (k+1)=if -(b6 ds k)-bw ds k<0 then 1 else 0:=rfl
theorem UU {ds:List Int} {k:Nat} (hk:k<ds.length):b6 ((F5 ds k).set k (-b6 (F5 ds k) k-bw ds k)) k=-b6 ds k-bw ds k:=by
 rw[N6 (by rw[bO]; exact hk),if_pos rfl,UT hk]
theorem bR {ds:List Int} {k:Nat} (hk:k<ds.length) (h:b6 ((F5 ds k).set k (-b6 (F5 ds k) k-bw ds k)) k<0) :
  ((F5 ds k).set k (-b6 (F5 ds k) k-bw ds k)).set k (b6 ((F5 ds k).set k (-b6 (F5 ds k) k-bw ds k)) k+100000000)=F5 ds (k+1)/\(1:Int)=bw ds (k+1):=by
 rw[UU hk] at h ⊢
 refine ⟨?_,by rw[UK,if_pos h]⟩
 rw[List.set_set,<- bP]
 congr 1
 unfold Q0; rw[if_pos h]
theorem bQ {ds:List Int} {k:Nat} (hk:k<ds.length) (h:0<=b6 ((F5 ds k).set k (-b6 (F5 ds k) k-bw ds k)) k):(F5 ds k).set k (-b6 (F5 ds k) k-bw ds k)=F5 ds (k+1)/\(0:Int)=bw ds (k+1):=by
 rw[UU hk] at h
 refine ⟨?_,by rw[UK,if_neg zo]⟩
 rw[<- bP,UT hk]
 congr 1
 unfold Q0; rw[if_neg zo]
theorem kJ {xs:List Int} {i:Nat} (hi:xs.length<=i) (h:(r9 xs i).2=-1) (hb:bw (r9 xs i).1 i≠0):(true,j6 (F5 (r9 xs i).1 i))=wh (val xs):=by
 have h1:=kD hi h
 have hl:(r9 xs i).1.length=i:=Y0
 have hd:=AC (xs:=xs) (i:=i)
 have hlt:=hd.val1
 have h2:=pA hd (by rw[hl]; exact hb)
 rw[hl] at h2 hlt
 exact nH (n:=(-val xs).toNat) zo zo (DM h2.1 zo)
theorem kH {xs:List Int} {i:Nat} (hi:xs.length<=i) (h:(r9 xs i).2=-1) (hb:bw (r9 xs i).1 i=0):(true,j6 (F5 (r9 xs i).1 i++[1]))=wh (val xs):=by
 have h1:=kD hi h
 have hl:(r9 xs i).1.length=i:=Y0
 have hd:=AC (xs:=xs) (i:=i)
 have hlt:=hd.val1
 have h2:=pB hd (by rw[hl]; exact hb)
 rw[hl] at h2 hlt
 exact nH (n:=(-val xs).toNat) zo zo (DM h2.1 zo)
def S6 (ds:List Int) (k:Nat):List Int:=j8 ds.length fun j=>if j<k then -(b6 ds j) else b6 ds j
theorem XV {ds:List Int}:ds=S6 ds 0:=by
 unfold S6
 exact (U5 rfl).trans (B5 fun j _=>by rw[if_neg zo])
theorem XU {ds:List Int} {k:Nat} (h:k<ds.length):b6 (S6 ds k) k=b6 ds k:=by unfold S6; rw[r5 h,if_neg zo]
theorem iH {ds:List Int} {k:Nat} (h:k<ds.length):(S6 ds k).set k (-(b6 (S6 ds k) k))=S6 ds (k+1):=by
 rw[XU h]
 unfold S6
 rw[GE]
 refine B5 fun j _=>?_
 by_cases e:j=k
 ·subst e; rw[if_pos rfl,if_pos zo]
 ·rw[if_neg e]
  by_cases h:j<k
  ·rw[if_pos h,if_pos zo]
  ·rw[if_neg h,if_neg zo]
theorem iG {ds:List Int}:S6 ds ds.length=ds.map fun x=>-x:=by
 refine D6 (by unfold S6; rw[p8,List.length_map]) fun j hj=>?_
 unfold S6 at hj ⊢
 rw[p8] at hj
 rw[r5 hj,if_pos hj,HK hj]
theorem xA {z:Int} (h:decide (z<0)=false):d8 z.natAbs=g7 z:=by unfold g7; rw[if_neg (of_decide_eq_false h)]
theorem wY {z:Int} (h:decide (z<0)=true):S6 (d8 z.natAbs) (d8 z.natAbs).length=g7 z:=by rw[iG]; unfold g7; rw[if_pos (of_decide_eq_true h)]
theorem uJ {z:Int}:(d8 z.natAbs).length=dl z:=rfl
theorem DB {z:Int}:0<dl z↔z≠0:=by have:=C5 (a:=z); omega
theorem ak4 {z:Int}:(!decide (z<0)&&decide ((0:Int)<((d8 z.natAbs).length:Nat)),d8 z.natAbs)=wh (-z):=by
 refine GK ?_ (by rw[Int.natAbs_neg])
 have:=DB (z:=z)
 rw[uJ]
 by_cases h:z<0
 ·simp[h]; omega
 ·by_cases e:z=0
  ·subst e; simp[C5.2 rfl]
  ·have h2:(0:Int)<(dl z:Nat):=by omega
   simp[h]; omega
theorem I3 {n:Int}:val [n]=n:=by simp[val]
theorem HA {x y:Int} (h:x<y):q9 x y=-1:=if_pos h
theorem GZ {x y:Int} (h:y<x):q9 x y=1:=by unfold q9; rw[if_neg zo,if_pos h]
theorem OZ {x y:Int} (h:x=y):q9 x y=0:=by unfold q9; rw[if_neg zo,if_neg zo]
theorem pJ {x y:Int}:q9 (x-y) 0=q9 x y:=by
 unfold q9
 by_cases h:x<y
 ·rw[if_pos h,if_pos zo]
 ·rw[if_neg h,if_neg zo]
  by_cases h2:y<x
  ·rw[if_pos h2,if_pos zo]
  ·rw[if_neg h2,if_neg zo]
theorem pF {m n:Nat} (h:(d8 m).length≠(d8 n).length):q9 ((d8 m).length:Nat) ((d8 n).length:Nat)=q9 m n:=by
 have h1:=y4 m; have h2:=y4 n
 rcases Nat.lt_or_ge (d8 m).length (d8 n).length with h3 | h3
 ·have:=PB (O8 m) (O8 n) h3
  rw[HA zo,HA zo]
 ·have:=PB (O8 n) (O8 m) zo
  rw[GZ zo,GZ zo]
theorem pE {m n:Nat} (hl:(d8 m).length=(d8 n).length) {i:Nat} (hi:i<(d8 m).length) (h:∀j,i<j->j<(d8 m).length->b6 (d8 m) j=b6 (d8 n) j) (hne:b6 (d8 m) i≠b6 (d8 n) i):q9 (b6 (d8 m) i) (b6 (d8 n) i)=q9 m n:=by
 have h1:=y4 m; have h2:=y4 n
 rcases Int.lt_or_gt_of_ne hne with h3 | h3
 ·have:=PA (y0 m) (y0 n) hl hi h h3
  rw[HA h3,HA zo]
 ·have:=PA (y0 n) (y0 m) hl.symm zo (fun j h4 h5=>(h j h4 zo).symm) h3
  rw[GZ h3,GZ zo]
theorem pD {m n:Nat} (hl:(d8 m).length=(d8 n).length) (h:∀j,0<=j->j<(d8 m).length->b6 (d8 m) j=b6 (d8 n) j):(0:Int)=q9 m n:=by
 have e:=bT hl (fun j hj=>h j (Nat.zero_le _) hj)
 have h1:=y4 m; have h2:=y4 n
 rw[e,h2] at h1
 rw[OZ h1.symm]
end Go.Fl

/- Contracts: the library, for integers. -/
namespace Go.Fl
open Go Go.Proofs
open d5 renaming op->tO
open i9 renaming op->rO
set_option maxRecDepth 100000

theorem cR (x:Int):Ct Tryz.prog 224 [kI x] (kB false):=by
 refine Ct.mk Tryz.func224 rfl Tryz.ntmps224 rfl (fun w J=>?_); refine D7 ?_; exact g6.res1 (fn:=Tryz.f224) rfl (.b rfl (by simp)<|.nil)

theorem cE (x y:Int):Ct Tryz.prog 214 [kI x,kI y] (kI (q9 x y)):=by
 refine Ct.mk Tryz.func214 rfl Tryz.ntmps214 rfl (fun w J=>?_); refine j1 ?_; refine tO (i6 (fun hp=>cR _) (.a rfl uu<|.nil)) rfl rfl ?_; refine l3 ?_; refine tO (i6 (fun hp=>cR _) (.a rfl uu<|.nil)) rfl rfl ?_; refine m9 ?_; refine Tr.cnd rfl ?_ ?_
 ·intro h3
  simp at h3
 ·intro h3
  refine j1 ?_; refine Tr.cnd rfl ?_ ?_
  ·intro h7
   simp at h7
  ·intro h7
   refine u5 ?_; refine jq ?_ ?_
   ·intro h9
    refine j3 ?_; exact g6.res1 (fn:=Tryz.f214) rfl (.i rfl (HA h9).symm<|.nil)
   ·intro h9
    replace h9:=Int.not_lt.1 h9
    refine u5 ?_; refine jq ?_ ?_
    ·intro h11
     refine j3 ?_; exact g6.res1 (fn:=Tryz.f214) rfl (.i rfl (GZ zo).symm<|.nil)
    ·intro h11
     replace h11:=Int.not_lt.1 h11
     refine j1 ?_; exact g6.res1 (fn:=Tryz.f214) rfl (.i rfl (OZ zo).symm<|.nil)

theorem PD (p:List Int) (hn:p.length<=1000000) (h0:0<p.length):U9 Tryz.prog 143 [b8 (eL eI) p] (fun t=>o9 t p.length) (l5 false 3 eI p p.length):=by
 refine U9.mk Tryz.func143 rfl Tryz.ntmps143 rfl (fun w J=>?_); refine m9 ?_; refine tO (ND rfl uu) rfl rfl ?_; refine g8 ?_; refine Tr.exB (s:=4) rfl (fun b1 q1=>?_); refine Tr.cnd rfl ?_ ?_
 ·intro h1
  exact absurd (congrArg List.length (q1 h1)) (by simp only[List.length_nil]; omega)
 ·intro h1
  refine g9 ?_; refine d5.new (AX eI 5) rfl rfl rfl rfl ?_; refine g8 ?_; refine jl ?_; refine g9 ?_
  exact g6.resN (fn:=Tryz.f143) (u:=5) rfl rfl (GY zi zi) (HO zi) inferInstance

end Go.Fl

/- Contracts: integers of the package field (reading, normal form). -/
namespace Go.Fl
open Go Go.Proofs
open d5 renaming op->tO
open i9 renaming op->rO
set_option maxRecDepth 100000

def eW:i8 (Bool×List Int):=eC (fun v:Bool×List Int=>(v.1,v.2,())) (eP BU (eP (eL eI) eU))
instance {v:Bool×List Int}:E9 (b8 eW v) [kB (v.1),b8 (eL eI) (v.2)]:=inferInstanceAs (E9 (b8 (eC (fun v:Bool×List Int=>(v.1,v.2,())) (eP BU (eP (eL eI) eU))) v) _)
instance {v:Bool×List Int} {tl:List d7}:H6 eW v tl (kB (v.1)::b8 (eL eI) (v.2)::tl):=inferInstanceAs (H6 (eC (fun v:Bool×List Int=>(v.1,v.2,())) (eP BU (eP (eL eI) eU))) v tl _)
instance {v:Bool×List Int}:v6 eW v 1 (eL eI) (v.2) 1:=inferInstanceAs (v6 (eC (fun v:Bool×List Int=>(v.1,v.2,())) (eP BU (eP (eL eI) eU))) v 1 _ _ _)
instance {ks r:List d7} {b:Bool} {l:List Int} [h:t6 ks (eP BU (eP (eL eI) eU)) (b,l,()) r]:t6 ks eW ((b,l)) r:=⟨fun h'=>h.imp h'⟩
instance {z:Int}:v6 eW (wh z) 1 (eL eI) (d8 z.natAbs) 1:=inferInstanceAs (v6 eW (wh z) 1 (eL eI) ((wh z).2) _)
instance {z:Int}:E9 (b8 eW (wh z)) [kB (decide (z<0)),b8 (eL eI) (d8 z.natAbs)]:=inferInstanceAs (E9 (b8 eW (wh z)) [kB ((wh z).1),b8 (eL eI) ((wh z).2)])
instance {z:Int} {tl:List d7}:H6 eW (wh z) tl (kB (decide (z<0))::b8 (eL eI) (d8 z.natAbs)::tl):=inferInstanceAs (H6 eW (wh z) tl (kB ((wh z).1)::b8 (eL eI) ((wh z).2)::tl))
theorem PE (n:Int) (hn:-9223372036854775808<=n/\n<=9223372036854775807):Ct Tryz.prog 195 [kI n] (z6 [kI (n/100000000),kI (n%100000000)]):=by
 obtain ⟨hq1,hq2,hq3⟩:=NR n
 refine Ct.mk Tryz.func195 rfl Tryz.ntmps195 rfl (fun w J=>?_); refine m9 ?_; refine tO (CC rfl uu rfl uu (fun _=>zo)) rfl rfl ?_; refine i5 ?_; refine tO (EN rfl uu rfl uu (fun _=>zo)) rfl rfl ?_; refine y8 ?_; refine jq ?_ ?_
 ·intro h2
  refine v9 ?_; exact g6.res (fn:=Tryz.f195) (ts:=[2,3]) rfl rfl (.i rfl zo<|.i rfl zo<|.nil)
 ·intro h2
  replace h2:=Int.not_lt.1 h2
  refine y8 ?_; exact g6.res (fn:=Tryz.f195) (ts:=[2,3]) rfl rfl (.i rfl zo<|.i rfl zo<|.nil)

theorem PO (xs:List Int) (ad:Option Addr) (cp:Nat):Ct Tryz.prog 190 [K4 eI ad cp xs] (K4 eI ad cp (j6 xs)):=by
 refine Ct.mk Tryz.func190 rfl Tryz.ntmps190 rfl (fun w J=>?_); refine Tr.fact (s:=0) rfl (fun _ _ h=>S4 h.2) (fun hb=>?_); refine l6 ?_; refine Tr.for (σ:=Nat) [] [] (fun m=>[⟨0,true,[],K4 eI ad cp (xs.take m)⟩]) (fun m=>[]) (fun m=>m<=xs.length/\∀i,m<=i->i<xs.length->b6 xs i=0) (fun m=>j6 xs=xs.take m) (fun m=>m) (xs.length) ⟨by omega,fun i h1 h2=>absurd h1 zo⟩ (d6.mk (.v rfl (List.take_length).symm<|.nil) (.nil) rfl) ?_ ?_
 ·rintro m ⟨hm,hz⟩
  refine jn ?_
  have hl:(xs.take m).length=m:=by rw[List.length_take]; omega
  have hat:0<m->b6 (xs.take m) ((((xs.take m).length:Nat):Int)-1).toNat=b6 xs (m-1):=fun h=>by rw[hl,show (((m:Nat):Int)-1).toNat=m-1 by omega]; exact iS zo
  refine g9 ?_; refine tO (YF rfl uu) rfl rfl ?_; refine g9 ?_; refine d5.gd rfl rfl rfl (YF rfl id) rfl rfl ?_; refine d5.gd rfl rfl rfl (AZ rfl id rfl uu (fun hp=>by simp at hp; omega)) rfl rfl ?_; refine d5.gd rfl rfl rfl (yT rfl id rfl id rfl (fun hp=>by simp at hp; omega)) rfl rfl ?_; refine l6 ?_; refine Tr.cnd rfl ?_ ?_
  ·intro h1
   try simp only[decide_eq_true_eq,Bool.and_eq_true] at h1
   refine l3 ?_; refine tO (YF rfl uu) rfl rfl ?_; refine i5 ?_; refine tO (zA rfl uu rfl uu (fun _=>zo)) rfl rfl ?_; refine i7 ?_; exact d9.lp (m-1) ⟨by omega,fun i h2 h3=>by (by_cases e:i=m-1; subst e; rw[<- hat zo]; exact h1.2; exact hz i zo h3)⟩ zo (d6.mk (.v rfl (by rw[List.take_take]; congr 1; omega)<|.nil) (.nil) rfl)
  ·intro h1
   try simp only[decide_eq_true_eq,decide_eq_false_iff_not,Bool.and_eq_false_imp] at h1
   refine g9 ?_
   exact d9.cut (m) (GF hm hz (by by_cases e:m=0; exact .inl e; exact .inr (by rw[<- hat zo]; exact h1 zo))) (d6.mk (.v rfl zi<|.nil) (.nil) rfl)
 ·intro m hE0
  refine jn ?_; refine j3 ?_; exact g6.res1 (fn:=Tryz.f190) rfl (.v rfl hE0.symm<|.nil)

theorem JD (xs:List Int):Ct Tryz.prog 190 [b8 (eL eI) xs] (b8 (eL eI) (j6 xs)):=Ct.ofSlv fun ad cp=>PO xs ad cp

set_option maxHeartbeats 1000000 in
theorem VD (xs:List Int) (hx:w8 xs) (hn:xs.length<=1000000):Ct Tryz.prog 167 [b8 (eL eI) xs] (b8 eW (wh (val xs))):=by
 refine Ct.mk Tryz.func167 rfl Tryz.ntmps167 rfl (fun w J=>?_); refine g8 ?_; refine ja 2 ?_; refine FP ?_; refine Tr.grow (s:=3) rfl rfl 3 rfl 3 eI rfl ?_
 refine Tr.for1 (σ:=Nat) [⟨0,true,_,_⟩,⟨2,true,_,_⟩] [⟨2,_,_⟩] (fun i=>[⟨3,true,[3],o9 3 i⟩,⟨4,true,[],kI (r9 xs i).2⟩,⟨5,true,[],kI (i:Int)⟩]) (fun i=>[⟨3,[],l5 true 3 eI (r9 xs i).1 i⟩]) (fun i=>(i:Int)+(r9 xs i).2.natAbs<=xs.length+100000000000) (fun i=>xs.length<=i/\((r9 xs i).2=0\/(r9 xs i).2=-1)/\i<=xs.length+100000000000) (fun i=>(xs.length-i)*1000000000000+(r9 xs i).2.natAbs) (0) (by simp[r9]; omega) (d6.mk (.o rfl zi rfl<|.i rfl zi<|.i rfl zi<|zk) (.a zi zi<|zk) rfl) ?_ ?_
 ·rintro i hi
  refine jn ?_
  have hc1:=NI hx (i:=i)
  have hc2:=NI hx (i:=i+1)
  have hx1:=hx.x i
  have hs:=kG (xs:=xs) (i:=i)
  have hs2:(r9 xs (i+1)).2=(B1 xs i+(r9 xs i).2)/100000000:=rfl
  have hxo:¬i<xs.length->B1 xs i=0:=ID
  refine B3 ?_; refine d5.gd rfl rfl rfl (RR rfl id rfl (fun hp h=>QK (id hp) h)) rfl rfl ?_; refine i7 ?_; refine Tr.cnd rfl ?_ ?_
  ·intro h4
   try simp only[decide_eq_true_eq,Bool.and_eq_true,Bool.or_eq_true,ne_eq] at h4
   refine u5 ?_; refine Tr.meet2 (σ:=Unit) [⟨0,true,_,_⟩,⟨2,true,_,_⟩,⟨3,true,_,_⟩,⟨4,true,_,_⟩,⟨5,true,_,_⟩] [⟨2,_,_⟩,⟨3,_,_⟩] (zk) (zk) (fun _=>[⟨6,true,[],kI (B1 xs i/100000000)⟩,⟨7,true,[],kI (B1 xs i%100000000)⟩]) (fun _=>[]) (fun _=>True) ?_ ?_
   ·skip
    refine j1 ?_; refine jq ?_ ?_
    ·intro h7
     refine l6 ?_; refine tO (i6 (fun hp=>PE _ (by have:=hx i zo; omega)) (.a rfl uu<|.nil)) rfl rfl ?_; refine l3 ?_
     exact d9.cut (()) zi (d6.mk (.i rfl (by rw[U6 zo])<|.i rfl (by rw[U6 zo])<|zk) (zk) rfl)
    ·intro h7
     replace h7:=Int.not_lt.1 h7
     refine i5 ?_
     exact d9.cut (()) zi (d6.mk (.i rfl (by rw[hxo zo]; rfl)<|.i rfl (by rw[hxo zo]; rfl)<|zk) (zk) rfl)
   ·intro _ hM
    refine jn ?_; refine l6 ?_; refine tO (i6 (fun hp=>PE _ zo) (.a rfl uu<|.nil)) rfl rfl ?_; refine u5 ?_; refine d5.new (y7 eI 48 (fun hp=>.cons rfl<|.nil) rfl rfl rfl rfl) rfl rfl rfl rfl ?_; refine i5 ?_; refine jl ?_; refine B3 ?_
    exact d9.lp (i+1) zo zo (d6.mk (.o rfl zi rfl<|.i rfl hs.1<|.i rfl zi<|zk) (.a (by rw[r9,<- hs.2]) zi<|zk) rfl)
  ·intro h4
   try simp only[decide_eq_true_eq,decide_eq_false_iff_not,Bool.and_eq_false_imp,Bool.or_eq_false_iff,Int.not_lt,ne_eq,Classical.not_not] at h4
   refine g9 ?_
   exact d9.cut (i) ⟨by omega,by omega,by omega⟩ (d6.mk (.o rfl zi rfl<|.i rfl zi<|.i rfl zi<|zk) (.a zi zi<|zk) rfl)
 ·rintro i ⟨hi,hc,hb⟩
  refine je ?_; refine j1 ?_; refine jq ?_ ?_
  ·intro h11
   refine i7 ?_
   refine d5.frz 3 [3,55] ⟨rfl,rfl,trivial⟩ (by first | (simp only[p9]; omega) | (simp only[p9,List.length_singleton]; omega)) rfl ?_
   refine jl ?_; refine tO (i6 (fun hp=>JD _) (.a rfl uu<|.nil)) rfl rfl ?_; refine tO (A1 (fun hp=>.cons rfl rfl rfl<|.nil)) rfl rfl ?_; refine l6 ?_; exact g6.resC1 (fn:=Tryz.f167) rfl rfl (t7 rfl (kK hi h11))
  ·intro h11
   refine y8 ?_; refine tO (U1 rfl uu) rfl rfl ?_; refine i7 ?_
   refine Tr.for1 (σ:=Nat) [⟨2,true,_,_⟩,⟨3,true,_,_⟩,⟨58,true,_,_⟩,⟨59,true,_,_⟩] [⟨2,_,_⟩] (fun k=>[⟨10,true,[],kI (bw (r9 xs i).1 k)⟩,⟨60,true,[],kI (k:Int)⟩]) (fun k=>[⟨3,[],l5 true 3 eI (F5 (r9 xs i).1 k) i⟩]) (fun k=>k<=i) (fun k=>k=i) (fun k=>i-k) (0) zi (d6.mk (.i rfl zi<|.i rfl zi<|zk) (.a oZ zi<|zk) rfl) ?_ ?_
   ·rintro k hk
    refine jn ?_
    have hl:(r9 xs i).1.length=i:=Y0
    have hd:=fun (h:k<i)=>(AC (xs:=xs) (i:=i)).at (i:=k) zo
    have hb01:=LT (ds:=(r9 xs i).1) (k:=k)
    have hat:=fun (h:k<i)=>UT (ds:=(r9 xs i).1) (k:=k) zo
    have hcl:=bO (ds:=(r9 xs i).1) (k:=k)
    have hsv:=fun (h:k<i)=>UU (ds:=(r9 xs i).1) (k:=k) zo
    refine l3 ?_; refine jq ?_ ?_
    ·intro h15
     refine FP ?_; refine tO (EM rfl uu (fun _=>zo)) rfl rfl ?_; refine JP ?_; refine jq ?_ ?_
     ·intro h19
      refine JP ?_
      exact d9.lp (k+1) zi zo (d6.mk (.i rfl (bR zo h19).2<|.i rfl zi<|zk) (.a (bR zo h19).1 zi<|zk) rfl)
     ·intro h19
      replace h19:=Int.not_lt.1 h19
      refine j3 ?_
      exact d9.lp (k+1) zi zo (d6.mk (.i rfl (bQ zo h19).2<|.i rfl zi<|zk) (.a (bQ zo h19).1 zi<|zk) rfl)
    ·intro h15
     replace h15:=Int.not_lt.1 h15
     refine g9 ?_
     exact d9.cut (k) zo (d6.mk (.i rfl zi<|.i rfl zi<|zk) (.a zi zi<|zk) rfl)
   ·rintro _ rfl
    refine je ?_; refine j1 ?_; refine jq ?_ ?_
    ·intro h23
     refine g8 ?_; refine d5.new (y7 eI 87 (fun hp=>.cons rfl<|.nil) rfl rfl rfl rfl) rfl rfl rfl rfl ?_; refine i5 ?_; refine jl ?_; refine l3 ?_
     refine d5.frz 3 [3,88,89] ⟨rfl,rfl,rfl,trivial⟩ (by first | (simp only[p9]; omega) | (simp only[p9,List.length_singleton]; omega)) rfl ?_
     refine jl ?_; refine tO (i6 (fun hp=>JD _) (.a rfl uu<|.nil)) rfl rfl ?_; refine tO (A1 (fun hp=>.cons rfl rfl rfl<|.cons rfl rfl rfl<|.nil)) rfl rfl ?_; refine g9 ?_; exact g6.resC1 (fn:=Tryz.f167) rfl rfl (t7 rfl (kH hi zo zo))
    ·intro h23
     refine l6 ?_
     refine d5.frz 3 [3,58,89] ⟨rfl,rfl,rfl,trivial⟩ (by first | (simp only[p9]; omega) | (simp only[p9,List.length_singleton]; omega)) rfl ?_
     refine jl ?_; refine tO (i6 (fun hp=>JD _) (.a rfl uu<|.nil)) rfl rfl ?_; refine tO (A1 (fun hp=>.cons rfl rfl rfl<|.cons rfl rfl rfl<|.nil)) rfl rfl ?_; refine g9 ?_; exact g6.resC1 (fn:=Tryz.f167) rfl rfl (t7 rfl (kJ hi zo zo))

end Go.Fl

/- Contracts: integers of the package field (normal form, signs, comparisons). -/
namespace Go.Fl
open Go Go.Proofs
open d5 renaming op->tO
open i9 renaming op->rO
set_option maxRecDepth 100000

theorem tP  : Ct Tryz.prog 170 [b8 eW (wh 0)] (b8 (eL eI) []):=by
 refine Ct.mk Tryz.func170 rfl Tryz.ntmps170 rfl (fun w J=>?_); refine g8 ?_; refine jb 1 rfl ?_; refine j3 ?_; refine tO (i6 (fun hp=>CY _ (by simp[dY])) (.a rfl uu<|.nil)) rfl rfl ?_; refine u5 ?_; refine Tr.cnd rfl ?_ ?_
 ·intro h2
  exact absurd (of_decide_eq_true h2) zo
 ·intro h2
  refine u5 ?_; refine Tr.cnd rfl ?_ ?_
  ·intro h8
   refine j3 ?_; exact g6.res1 (fn:=Tryz.f170) rfl (.n rfl rfl<|.nil)
  ·intro h8
   exact absurd h8 (by simp[dY])

theorem tN (z:Int) (hz:z≠0) (hn:dl z<=1000000):Ct Tryz.prog 170 [b8 eW (wh z)] (b8 (eL eI) (g7 z)):=by
 have hp:=DB.2 hz
 have hl:(d8 z.natAbs).length=dl z:=rfl
 refine Ct.mk Tryz.func170 rfl Tryz.ntmps170 rfl (fun w J=>?_); refine g8 ?_; refine jb 1 rfl ?_; refine j3 ?_; refine d5.new (EJ 7 (fun hp=>PD _ zo zo) (.a rfl uu<|.nil)) rfl rfl rfl rfl ?_; refine u5 ?_; refine Tr.cnd rfl ?_ ?_
 ·intro h2
  refine i7 ?_; refine tO (U1 rfl uu) rfl rfl ?_; refine i7 ?_
  refine Tr.for1 (σ:=Nat) [⟨3,true,_,_⟩,⟨11,true,_,_⟩] [] (fun k=>[⟨12,true,[],kI (k:Int)⟩]) (fun k=>[⟨7,[],l5 false 3 eI (S6 (d8 z.natAbs) k) (dl z)⟩]) (fun k=>k<=dl z) (fun k=>k=dl z) (fun k=>dl z-k) (0) (Nat.zero_le _) (d6.mk (.i rfl zi<|zk) (.a XV zi<|.nil) rfl) ?_ ?_
  ·intro k hR0
   refine jn ?_
   have hd:=fun (h:k<dl z)=>(y0 z.natAbs).at (i:=k) zo
   have hat:=fun (h:k<dl z)=>XU (ds:=(d8 z.natAbs)) (k:=k) zo
   refine l3 ?_; refine jq ?_ ?_
   ·intro h4
    refine P1 ?_; refine tO (EM rfl uu (fun _=>zo)) rfl rfl ?_; refine m9 ?_
    exact d9.lp (k+1) zi zo (d6.mk (.i rfl zi<|zk) (.a (iH zo) zi<|.nil) rfl)
   ·intro h4
    replace h4:=Int.not_lt.1 h4
    refine g9 ?_
    exact d9.cut (k) zo (d6.mk (.i rfl zi<|zk) (.a zi zi<|.nil) rfl)
  ·rintro _ rfl
   refine je ?_; refine l6 ?_; refine tO (U1 rfl uu) rfl rfl ?_; refine i7 ?_; refine jq ?_ ?_
   ·intro h8
    omega
   ·intro h8
    refine j1 ?_; refine Tr.frz 7 [2] ⟨rfl,trivial⟩ (by simp only[p9]; omega) rfl ?_; refine i5 ?_; exact g6.res1 (fn:=Tryz.f170) rfl (.r rfl (wY h2)<|.nil)
 ·intro h2
  refine l3 ?_; refine tO (U1 rfl uu) rfl rfl ?_; refine i7 ?_; refine jq ?_ ?_
  ·intro h8
   omega
  ·intro h8
   refine j1 ?_; refine Tr.frz 7 [2] ⟨rfl,trivial⟩ (by simp only[p9]; omega) rfl ?_; refine i5 ?_; exact g6.res1 (fn:=Tryz.f170) rfl (.r rfl (xA h2)<|.nil)

theorem dV (z:Int) (hn:dl z<=1000000):Ct Tryz.prog 170 [b8 eW (wh z)] (b8 (eL eI) (g7 z)):=by
 by_cases h:z=0
 ·subst h; exact tP
 ·exact tN z h hn

theorem BQ (z:Int):Ct Tryz.prog 168 [b8 eW (wh z)] (kI (q9 z 0)):=by
 have hp:=DB (z:=z)
 have hl:(d8 z.natAbs).length=dl z:=rfl
 refine Ct.mk Tryz.func168 rfl Tryz.ntmps168 rfl (fun w J=>?_); refine g8 ?_; refine jb 1 rfl ?_; refine D7 ?_; refine Tr.cnd rfl ?_ ?_
 ·intro h1
  try simp only[decide_eq_true_eq] at h1
  refine j1 ?_; exact g6.res1 (fn:=Tryz.f168) rfl (.i rfl (OZ zo).symm<|.nil)
 ·intro h1
  try simp only[decide_eq_false_iff_not] at h1
  refine j3 ?_; refine Tr.cnd rfl ?_ ?_
  ·intro h3
   refine j1 ?_; exact g6.res1 (fn:=Tryz.f168) rfl (.i rfl (HA (of_decide_eq_true h3)).symm<|.nil)
  ·intro h3
   refine m9 ?_; exact g6.res1 (fn:=Tryz.f168) rfl (.i rfl (GZ (by have:=of_decide_eq_false h3; omega)).symm<|.nil)

theorem DX (z:Int):Ct Tryz.prog 163 [b8 eW (wh z)] (b8 eW (wh (-z))):=by
 refine Ct.mk Tryz.func163 rfl Tryz.ntmps163 rfl (fun w J=>?_); refine g8 ?_; refine jb 1 rfl ?_; refine ja 2 ?_; refine gK ?_; exact g6.resC1 (fn:=Tryz.f163) rfl rfl (t7 rfl ak4)

theorem Q2 (n:Int) (hn:-9223372036854775808<=n/\n<=9223372036854775807):Ct Tryz.prog 159 [kI n] (b8 eW (wh n)):=by
 refine Ct.mk Tryz.func159 rfl Tryz.ntmps159 rfl (fun w J=>?_); refine g8 ?_; refine ja 2 ?_; refine l6 ?_; refine tO (N0 eI (fun hp=>.cons rfl<|.nil) rfl rfl rfl rfl) rfl rfl ?_; refine jc (VD [n] (fun i hi=>by (simp at hi; subst hi; exact hn)) (by simp)) ?_; refine g9 ?_; exact g6.resC1 (fn:=Tryz.f159) rfl rfl (t7 rfl (by rw[I3]; rfl))

theorem dS (m n:Nat) (hm:(d8 m).length<=10000000) (_:(d8 n).length<=10000000):Ct Tryz.prog 191 [b8 (eL eI) (d8 m),b8 (eL eI) (d8 n)] (kI (q9 m n)):=by
 refine Ct.mk Tryz.func191 rfl Tryz.ntmps191 rfl (fun w J=>?_); refine K3 ?_; refine jq ?_ ?_
 ·intro h1
  refine l3 ?_; refine tO (i6 (fun hp=>cE _ _) (.a rfl uu<|.a rfl uu<|.nil)) rfl rfl ?_; refine l6 ?_; exact g6.res1 (fn:=Tryz.f191) rfl (.i rfl (pF zo)<|.nil)
 ·intro h1
  replace h1:=Classical.not_not.1 h1
  refine y8 ?_
  refine Tr.for1 (σ:=Nat) [⟨0,true,_,_⟩,⟨1,true,_,_⟩] [] (fun i=>[⟨5,true,[],kI ((i:Int)-1)⟩]) (fun i=>[]) (fun i=>i<=(d8 m).length/\∀j,i<=j->j<(d8 m).length->b6 (d8 m) j=b6 (d8 n) j) (fun i=>i=0/\∀j,i<=j->j<(d8 m).length->b6 (d8 m) j=b6 (d8 n) j) (fun i=>i) ((d8 m).length) ⟨by omega,fun j h1 h2=>absurd h1 zo⟩ (d6.mk (.i rfl zi<|zk) (.nil) rfl) ?_ ?_
  ·rintro i ⟨hi,hR⟩
   refine jn ?_
   have e1:((i:Int)-1).toNat=i-1:=by omega
   refine j3 ?_; refine jq ?_ ?_
   ·intro h4
    refine l6 ?_; refine Tr.draw 8 o0 (by kernel_rfl) ?_; refine v9 ?_; refine jq ?_ ?_
    ·intro h6
     refine i5 ?_; refine Tr.draw 8 o0 (by kernel_rfl) ?_; refine m9 ?_; refine tO (i6 (fun hp=>cE _ _) (.a rfl uu<|.a rfl uu<|.nil)) rfl rfl ?_; refine u5 ?_; exact g6.res1 (fn:=Tryz.f191) rfl (.i rfl (by rw[e1]; exact pE zo zo (fun j h1 h2=>hR j zo h2) (by rw[<- e1]; exact h6))<|.nil)
    ·intro h6
     replace h6:=Classical.not_not.1 h6
     refine j1 ?_
     exact d9.lp (i-1) ⟨by omega,fun j h1 h2=>by (by_cases e:j=i-1; subst e; rw[<- e1]; exact h6; exact hR j zo h2)⟩ zo (d6.mk (.i rfl zi<|zk) (.nil) rfl)
   ·intro h4
    replace h4:=Int.not_le.1 h4
    refine g9 ?_
    exact d9.cut (i) ⟨by omega,hR⟩ (d6.mk (.i rfl zi<|zk) (.nil) rfl)
  ·rintro i ⟨hi,hR⟩
   refine je ?_; refine j3 ?_; exact g6.res1 (fn:=Tryz.f191) rfl (.i rfl (by subst hi; exact pD zo hR)<|.nil)

theorem dQ (a:List Int) (n:Int) (ha:Dg a) (hl:a.length<=10000000) (hn:0<n/\n<=100000000):Ct Tryz.prog 218 [b8 (eL eI) a,kI n] (z6 [b8 (eL eI) (d8 (val a/n).toNat),kI (val a%n)]):=by
 refine Ct.mk Tryz.func218 rfl Tryz.ntmps218 rfl (fun w J=>?_); refine u5 ?_; refine d5.new (FX eI 11 rfl uu rfl uu rfl rfl rfl (fun _=>zo)) rfl rfl rfl rfl ?_; refine B3 ?_
 refine Tr.for1 (σ:=Nat×List Int×Int) [⟨0,true,_,_⟩,⟨1,true,_,_⟩,⟨6,true,_,_⟩] [] (fun (i,o,r)=>[⟨7,true,[],kI r⟩,⟨8,true,[],kI ((i:Int)-1)⟩]) (fun (i,o,r)=>[⟨11,[],l5 false 3 eI o a.length⟩]) (fun (i,o,r)=>i<=a.length/\N2 a o n i r) (fun (i,o,r)=>i=0/\N2 a o n 0 r) (fun (i,o,r)=>i) ((a.length,List.replicate a.length 0,0)) ⟨Nat.le_refl _,N2.start hn.1⟩ (d6.mk (.i rfl zi<|.i rfl zi<|zk) (.a zi zi<|.nil) rfl) ?_ ?_
 ·rintro ⟨i,o,r⟩ ⟨hi,hs⟩
  refine jn ?_
  have e1:((i:Int)-1).toNat=i-1:=by omega
  have hr0:=hs.r0
  have hq:=fun (h:0<i)=>N2.q (i:=i-1) ha (by rw[show i-1+1=i by omega]; exact hs) zo
  have ha1:=fun (h:0<i)=>ha.at (i:=i-1) zo
  refine j3 ?_; refine jq ?_ ?_
  ·intro h3
   refine l3 ?_
   have ha2:=ha1 zo
   rw[<- e1] at ha2
   refine u5 ?_; refine Tr.drawS 9 11 o0 (by kernel_rfl) ?_
   obtain ⟨q1,q2,q3,q4⟩:=hq zo
   rw[<- e1] at q1 q2
   rw[<- Int.tdiv_eq_ediv_of_nonneg zo] at q1 q2
   refine n8.opA (G7 rfl uu) (by kernel_rfl) rfl rfl ?_; refine n8.opA (G7 rfl uu) (by kernel_rfl) rfl rfl ?_; refine n8.opA (G7 rfl uu) (by kernel_rfl) rfl rfl ?_; refine n8.opA (G7 rfl uu) (by kernel_rfl) rfl rfl ?_; refine n8.opA (CC rfl uu rfl uu (fun _=>zo)) (by kernel_rfl) rfl rfl ?_; refine n8.op (G7 rfl uu) rfl rfl ?_; refine n8.op (G7 rfl uu) rfl rfl ?_; refine n8.op (EN rfl uu rfl uu (fun _=>zo)) rfl rfl ?_
   first | refine n8.opA (KG rfl uu rfl uu (fun _=>zo)) (by kernel_rfl) rfl rfl ?_ | refine n8.opA (HN rfl uu rfl uu (fun _=>zo)) (by kernel_rfl) rfl rfl ?_
   refine n8.z (ah2 rfl rfl rfl rfl rfl) rfl rfl rfl ?_; refine m9 ?_
   exact d9.lp ((i-1,o.set (i-1) ((r*100000000+b6 a (i-1))/n),(r*100000000+b6 a (i-1))%n)) ⟨by omega,N2.next ha (by rw[show i-1+1=i by omega]; exact hs) zo⟩ (by show i-1<i; omega) (d6.mk (.i rfl (by rw[e1,Int.tmod_eq_emod_of_nonneg zo])<|.i rfl zi<|zk) (.a (by rw[e1,Int.tdiv_eq_ediv_of_nonneg zo]) zi<|.nil) rfl)
  ·intro h3
   replace h3:=Int.not_le.1 h3
   refine g9 ?_
   exact d9.cut ((i,o,r)) (by obtain rfl:i=0:=zo; exact ⟨rfl,hs⟩) (d6.mk (.i rfl zi<|.i rfl zi<|zk) (.a zi zi<|.nil) rfl)
 ·rintro ⟨i,o,r⟩ ⟨rfl,hs⟩
  refine je ?_; refine g9 ?_; refine d5.frz 11 [6,35] ⟨rfl,rfl,trivial⟩ (by simp only[p9]; omega) rfl ?_; refine jl ?_; refine tO (i6 (fun hp=>JD _) (.a rfl uu<|.nil)) rfl rfl ?_; refine l3 ?_; exact g6.res (fn:=Tryz.f218) (ts:=[4,5]) rfl rfl (.r rfl hs.fin.1<|.i rfl hs.fin.2<|.nil)

end Go.Fl

/- Integers: differences in place, sums and products, as the contracts want them. Plain Lean, no program in sight. -/
namespace Go.Fl
def U4 (a b:List Int) (k:Nat):Int:=b6 a k-sb a b k-B1 b k
section
variable {a b:List Int} {k:Nat}
theorem lA:sb a b (k+1)=if U4 a b k<0 then 1 else 0:=rfl
theorem ad9 (hk:k<a.length) (hb:k<b.length):((D3 a b k).set k (b6 (D3 a b k) k-sb a b k)).set k (b6 ((D3 a b k).set k (b6 (D3 a b k) k-sb a b k)) k-b6 b k)=(D3 a b k).set k (U4 a b k):=by
 rw[List.set_set,N6 (by rw[HT]; exact hk),if_pos rfl,SY hk]
 unfold U4
 rw[U6 hb]
theorem ae0 (hk:k<a.length) (hb:¬k<b.length):(D3 a b k).set k (b6 (D3 a b k) k-sb a b k)=(D3 a b k).set k (U4 a b k):=by
 rw[SY hk]
 unfold U4
 rw[ID hb,Int.sub_zero]
theorem ae1 (hk:k<a.length):b6 ((D3 a b k).set k (b6 (D3 a b k) k-sb a b k)) k=b6 a k-sb a b k:=by rw[N6 (by rw[HT]; exact hk),if_pos rfl,SY hk]
theorem ZB (hk:k<a.length):b6 ((D3 a b k).set k (U4 a b k)) k=U4 a b k:=by rw[N6 (by rw[HT]; exact hk),if_pos rfl]
theorem lB (hk:k<a.length) (h:b6 ((D3 a b k).set k (U4 a b k)) k<0):((D3 a b k).set k (U4 a b k)).set k (b6 ((D3 a b k).set k (U4 a b k)) k+100000000)=D3 a b (k+1)/\(1:Int)=sb a b (k+1):=by
 rw[ZB hk] at h ⊢
 refine ⟨?_,by rw[lA,if_pos h]⟩
 rw[List.set_set,<- kY]
 congr 1
 unfold U4 at h ⊢; unfold CJ; rw[if_pos h]
theorem kZ (hk:k<a.length) (h:0<=b6 ((D3 a b k).set k (U4 a b k)) k):(D3 a b k).set k (U4 a b k)=D3 a b (k+1)/\(0:Int)=sb a b (k+1):=by
 rw[ZB hk] at h
 refine ⟨?_,by rw[lA,if_neg zo]⟩
 rw[<- kY]
 congr 1
 unfold CJ; rw[if_neg (by unfold U4 at h; omega)]; rfl
end
theorem IA:∀{xs:List Int},xs.take (j6 xs).length=j6 xs
 | []=>rfl
 | x::xs=>by
  rw[j6]
  split
  ·rfl
  ·rw[List.length_cons,List.take_succ_cons,IA]
theorem N4 {m n:Nat} (h:n<=m):(d8 n).length<=(d8 m).length:=by
 have h1:=JG (m:Int)
 exact O9 (z:=(n:Int)) (k:=(d8 m).length) (by rw[Int.natAbs_natCast]; rw[Int.natAbs_natCast] at h1; exact Int.lt_of_le_of_lt zo h1)
theorem lR {m n:Nat} (h:n<=m):List.take (j6 (D3 (d8 m) (d8 n) (d8 m).length)).length (D3 (d8 m) (d8 n) (d8 m).length)=d8 (m-n):=by
 have hm:=y4 m; have hn:=y4 n
 have hle:=N4 h
 rw[IA,ah8 (y0 m) (y0 n) hle zo]
 congr 1; omega
structure BF (a b:Int) (X Y:List Int):Prop where
 nx:Nm X
 ny:Nm Y
 le:Y.length<=X.length
 hi:X.length<=10000000
 v:val X+val Y=a.natAbs+b.natAbs
section
variable {a b:Int} {X Y:List Int}
theorem BF.l (h:(d8 b.natAbs).length<=(d8 a.natAbs).length) (hi:dl a<=10000000):BF a b (d8 a.natAbs) (d8 b.natAbs):=⟨O8 _,O8 _,h,hi,by rw[y4,y4]⟩
theorem BF.r (h:(d8 a.natAbs).length<(d8 b.natAbs).length) (hi:dl b<=10000000):BF a b (d8 b.natAbs) (d8 a.natAbs):=⟨O8 _,O8 _,by omega,hi,by rw[y4,y4,Int.add_comm]⟩
theorem nJ (hs:decide (a<0)=decide (b<0)) {ds:List Int} (hd:ds=d8 (a.natAbs+b.natAbs)):(decide (a<0),ds)=wh (a+b):=by
 have e:(a<0)=(b<0):=by simpa using hs
 refine GK ?_ ?_
 ·by_cases h:a<0
  ·have:b<0:=e▸h
   simp[h]; omega
  ·have:¬b<0:=e▸h
   simp[h]; omega
 ·rw[hd]
  congr 1
  by_cases h:a<0
  ·have:b<0:=e▸h
   omega
  ·have:¬b<0:=e▸h
   omega
theorem BF.zero (h:BF a b X Y) (hs:decide (a<0)=decide (b<0)) (hc:(G0 X Y X.length).2<=0):(decide (a<0),(G0 X Y X.length).1)=wh (a+b):=by
 have h1:=LO h.nx.dg h.ny.dg (Nat.le_refl X.length)
 refine nJ hs ?_
 rw[add_zero h.nx h.ny h.le zo,h.v]; congr 1
theorem BF.one (h:BF a b X Y) (hs:decide (a<0)=decide (b<0)) (hc:0<(G0 X Y X.length).2):(decide (a<0),(G0 X Y X.length).1++[(G0 X Y X.length).2])=wh (a+b):=by
 have h1:=LO h.nx.dg h.ny.dg (Nat.le_refl X.length)
 have h2:(G0 X Y X.length).2=1:=by omega
 refine nJ hs ?_
 rw[h2,nX h.nx h.ny h.le h2,h.v]; congr 1
theorem ak7 (hs:decide (a<0)≠decide (b<0)) (h:q9 (a.natAbs:Nat) (b.natAbs:Nat)=0):(false,[])=wh (a+b):=by
 have e:a.natAbs=b.natAbs:=by unfold q9 at h; split at h<;>(try split at h)<;>omega
 have:a+b=0:=by
  by_cases h1:a<0<;>by_cases h2:b<0
  ·exact absurd (by simp[h1,h2]) hs
  ·omega
  ·omega
  ·exact absurd (by simp[h1,h2]) hs
 rw[this]; rfl
theorem pC {m n:Int} (h:q9 m n=1):n<m:=by unfold q9 at h; split at h<;>(try split at h)<;>omega
theorem pG {m n:Int} (h0:q9 m n≠0) (h:q9 m n≠1):m<n:=by unfold q9 at h h0; split at h<;>(try split at h)<;>omega
theorem nG (hs:decide (a<0)≠decide (b<0)) (h:b.natAbs<a.natAbs) {ds:List Int} (hd:ds=d8 (a.natAbs-b.natAbs)):(decide (a<0),ds)=wh (a+b):=by
 have h3:(a<0/\¬b<0)\/(¬a<0/\b<0):=by
  by_cases h1:a<0<;>by_cases h2:b<0
  ·exact absurd (by simp[h1,h2]) hs
  ·exact .inl ⟨h1,h2⟩
  ·exact .inr ⟨h1,h2⟩
  ·exact absurd (by simp[h1,h2]) hs
 refine GK ?_ (by rw[hd]; congr 1; omega)
 by_cases h1:a<0
 ·simp[h1]; omega
 ·simp[h1]; omega
theorem ak8 (hs:decide (a<0)≠decide (b<0)) (h:a.natAbs<b.natAbs) {ds:List Int} (hd:ds=d8 (b.natAbs-a.natAbs)):(decide (b<0),ds)=wh (a+b):=by
 rw[Int.add_comm]; exact nG (fun e=>hs e.symm) h hd
end
theorem ak5 {a b:Int} (ha:a≠0) (hb:b≠0) {o:List Int} (h:V0 (d8 a.natAbs) (d8 b.natAbs) o (d8 a.natAbs).length):(decide (decide (a<0)≠decide (b<0)),j6 o)=wh (a*b):=by
 have e:=h.fin (y0 _) (y0 _)
 rw[y4,y4] at e
 refine GK ?_ (by rw[e]; congr 1; rw[Int.natAbs_mul]; omega)
 by_cases h1:a<0<;>by_cases h2:b<0
 ·have:=Int.mul_pos_of_neg_of_neg h1 h2; simp[h1,h2]; omega
 ·have:=Int.mul_neg_of_neg_of_pos h1 (show 0<b by omega); simp[h1,h2]; omega
 ·have:=Int.mul_neg_of_pos_of_neg (show 0<a by omega) h2; simp[h1,h2]; omega
 ·have:=Int.mul_pos (show 0<a by omega) (show 0<b by omega); simp[h1,h2]; omega
theorem ak6 {a b:Int} (h:a=0\/b=0):(false,[])=wh (a*b):=by
 rcases h with rfl | rfl
 ·rw[Int.zero_mul]; rfl
 ·rw[Int.mul_zero]; rfl
theorem XP {a b:Int} {o:List Int} (h:V0 (d8 a.natAbs) (d8 b.natAbs) o (d8 a.natAbs).length):j6 o=d8 (a*b).natAbs:=by
 have e:=h.fin (y0 _) (y0 _)
 rw[y4,y4] at e
 rw[e]; congr 1; rw[Int.natAbs_mul]; omega
end Go.Fl

/- Contracts: integers of the package field (differences in place, sums, products). -/
namespace Go.Fl
open Go Go.Proofs
open d5 renaming op->tO
open i9 renaming op->rO
set_option maxRecDepth 100000

theorem cL (a b:List Int) (ha:Dg a) (hb:Dg b) (_:b.length<=a.length) (h0:0<a.length) (hn:a.length<=10000000):LF Tryz.prog 192 (a.length) [b8 (eL eI) b] (l5 false 3 eI a a.length) (l5 false 3 eI (D3 a b a.length) a.length) (C7 0 1 0 (j6 (D3 a b a.length)).length):=by
 refine LF.mk Tryz.func192 rfl Tryz.ntmps192 rfl (fun w J bb cap=>?_); refine B3 ?_; refine tO (KI rfl uu) rfl rfl ?_; refine tO (U1 rfl uu) rfl rfl ?_; refine i7 ?_
 refine Tr.for1 (σ:=Nat) [⟨0,true,_,_⟩,⟨1,true,_,_⟩,⟨8,true,_,_⟩] [] (fun k=>[⟨9,true,[],kI (k:Int)⟩,⟨5,true,[],kI (sb a b k)⟩]) (fun k=>[⟨0,[],l5 false 3 eI (D3 a b k) a.length⟩]) (fun k=>k<=a.length) (fun k=>k=a.length) (fun k=>a.length-k) (0) (Nat.zero_le _) (d6.mk (.i rfl zi<|.i rfl zi<|zk) (.a ad8 zi<|.nil) rfl) ?_ ?_
 ·intro k hR0
  refine jn ?_
  have hbx:=hb.x k
  have h01:=ZA (a:=a) (b:=b) (k:=k)
  have hcl:=HT (a:=a) (b:=b) (k:=k)
  have had:=fun (h:k<a.length)=>ha.at (i:=k) h
  have hat:=fun (h:k<a.length)=>SY (a:=a) (b:=b) h
  have hw:=fun (h:k<a.length)=>ae1 (b:=b) h
  have hv:=fun (h:k<a.length)=>ZB (b:=b) h
  have hbi:=fun (h:k<b.length)=>U6 h
  have hU:U4 a b k=b6 a k-sb a b k-B1 b k:=rfl
  refine l3 ?_; refine jq ?_ ?_
  ·intro h3
   refine v9 ?_; refine tO (KI rfl uu) rfl rfl ?_; refine m9 ?_; refine Tr.meet2 (σ:=Unit) [⟨0,true,_,_⟩,⟨1,true,_,_⟩,⟨6,true,_,_⟩,⟨8,true,_,_⟩,⟨9,true,_,_⟩] [] (zk) (.nil) (fun _=>[]) (fun _=>[⟨0,[],l5 false 3 eI ((D3 a b k).set k (U4 a b k)) a.length⟩]) (fun _=>True) ?_ ?_
   ·skip
    refine j1 ?_; refine jq ?_ ?_
    ·intro h6
     refine Tr.draw 8 o0 (by kernel_rfl) ?_; refine rO (KI rfl uu) rfl rfl ?_; refine v9 ?_
     exact d9.cut (()) zi (d6.mk (zk) (.a (ad9 zo zo) zi<|.nil) rfl)
    ·intro h6
     replace h6:=Int.not_lt.1 h6
     refine i5 ?_
     exact d9.cut (()) zi (d6.mk (zk) (.a (ae0 zo zo) zi<|.nil) rfl)
   ·intro _ hM
    refine jn ?_; refine j3 ?_; refine tO (KI rfl uu) rfl rfl ?_; refine l3 ?_; refine jq ?_ ?_
    ·intro h9
     refine g8 ?_; refine tO (KI rfl uu) rfl rfl ?_; refine P1 ?_
     exact d9.lp (k+1) zi zo (d6.mk (.i rfl zi<|.i rfl (lB zo h9).2<|zk) (.a (lB zo h9).1 zi<|.nil) rfl)
    ·intro h9
     replace h9:=Int.not_lt.1 h9
     refine j3 ?_
     exact d9.lp (k+1) zi zo (d6.mk (.i rfl zi<|.i rfl (kZ zo h9).2<|zk) (.a (kZ zo h9).1 zi<|.nil) rfl)
  ·intro h3
   replace h3:=Int.not_lt.1 h3
   refine g9 ?_
   exact d9.cut (k) zo (d6.mk (.i rfl zi<|.i rfl zi<|zk) (.a zi zi<|.nil) rfl)
 ·rintro _ rfl
  refine je ?_; refine i7 ?_; refine tO (KI rfl uu) rfl rfl ?_; refine tO (YG (n:=1) (fun ad cap=>PO (D3 a b a.length) ad cap) rfl uu (fun _=>⟨by omega,by simp only[p9]; omega,by have:=T3 (xs:=D3 a b a.length); rw[HT] at this; exact this⟩)) rfl rfl ?_; refine g9 ?_; exact g6.mutR (s:=0) (fn:=Tryz.f192) rfl rfl rfl (fun _ _ h=>h) (fun _ _ hm h=>jF hm h)

set_option maxHeartbeats 1000000 in
theorem X3 (a b:Int) (ha:dl a<=1000000) (hb:dl b<=1000000):Ct Tryz.prog 162 [b8 eW (wh a),b8 eW (wh b)] (b8 eW (wh (a+b))):=by
 have hal:(d8 a.natAbs).length=dl a:=rfl
 have hbl:(d8 b.natAbs).length=dl b:=rfl
 refine Ct.mk Tryz.func162 rfl Tryz.ntmps162 rfl (fun w J=>?_); refine g8 ?_; refine jb 2 rfl ?_; refine jb 3 rfl ?_; refine ja 4 ?_; refine m9 ?_; refine tO (yP rfl uu rfl uu) rfl rfl ?_; refine g8 ?_; refine Tr.cnd rfl ?_ ?_
 ·intro h1
  have hs:=of_decide_eq_true h1
  refine i5 ?_; refine Tr.draw 5 o0 (by kernel_rfl) ?_; refine m9 ?_; refine Tr.meet2 (σ:=List Int×List Int) [⟨2,true,_,_⟩,⟨4,true,_,_⟩] [⟨2,_,_⟩,⟨4,_,_⟩] (zk) (zk) (fun (X,Y)=>[⟨5,true,[],b8 (eL eI) X⟩,⟨6,true,[],b8 (eL eI) Y⟩]) (fun (X,Y)=>[]) (fun (X,Y)=>BF a b X Y) ?_ ?_
  ·skip
   refine m9 ?_; refine jq ?_ ?_
   ·intro h3
    refine l3 ?_; exact d9.cut (((d8 b.natAbs),(d8 a.natAbs))) (BF.r zo zo) (d6.mk (.r rfl rfl<|.r rfl rfl<|zk) (zk) rfl)
   ·intro h3
    replace h3:=Int.not_lt.1 h3
    refine i5 ?_; exact d9.cut (((d8 a.natAbs),(d8 b.natAbs))) (BF.l zo zo) (d6.mk (.r rfl rfl<|.r rfl rfl<|zk) (zk) rfl)
  ·rintro ⟨X,Y⟩ hA
   refine jn ?_
   have hXl:=hA.hi
   have hYl:=hA.le
   refine l6 ?_; refine d5.new (yX eI 30 rfl uu rfl uu rfl (fun _=>zo)) rfl rfl rfl rfl ?_; refine Z2 ?_
   refine Tr.for1 (σ:=Nat) [⟨2,true,_,_⟩,⟨4,true,_,_⟩,⟨6,true,_,_⟩,⟨31,true,_,_⟩,⟨32,true,_,_⟩] [⟨2,_,_⟩,⟨4,_,_⟩] (fun k=>[⟨33,true,[],kI (k:Int)⟩,⟨7,true,[30],o9 30 k⟩,⟨8,true,[],kI (G0 X Y k).2⟩]) (fun k=>[⟨30,[],l5 false 3 eI (G0 X Y k).1 k⟩]) (fun k=>k<=X.length) (fun k=>k=X.length) (fun k=>X.length-k) (0) (Nat.zero_le _) (d6.mk (.i rfl zi<|.o rfl zi rfl<|.i rfl zi<|zk) (.a zi zi<|zk) rfl) ?_ ?_
   ·intro k hR0
    refine jn ?_
    have hXd:=fun (h:k<X.length)=>hA.nx.dg.at (i:=k) h
    have hYx:=hA.ny.dg.x k
    have hcc:=fun (h:k<=X.length)=>LO hA.nx.dg hA.ny.dg (i:=k) h
    have hYi:=fun (h:k<Y.length)=>U6 h
    have hYo:=fun (h:¬k<Y.length)=>ID h
    refine l3 ?_; refine jq ?_ ?_
    ·intro h8
     refine WT ?_; refine Tr.meet2 (σ:=Unit) [⟨2,true,_,_⟩,⟨4,true,_,_⟩,⟨6,true,_,_⟩,⟨7,true,_,_⟩,⟨31,true,_,_⟩,⟨32,true,_,_⟩,⟨33,true,_,_⟩] [⟨2,_,_⟩,⟨4,_,_⟩,⟨30,_,_⟩] (zk) (zk) (fun _=>[⟨10,true,[],kI (b6 X k+(G0 X Y k).2+B1 Y k)⟩]) (fun _=>[]) (fun _=>True) ?_ ?_
     ·skip
      refine j1 ?_; refine jq ?_ ?_
      ·intro h11
       refine m9 ?_
       exact d9.cut (()) zi (d6.mk (.i rfl (by rw[U6 zo])<|zk) (zk) rfl)
      ·intro h11
       replace h11:=Int.not_lt.1 h11
       refine i5 ?_
       exact d9.cut (()) zi (d6.mk (.i rfl (by rw[ID zo,Int.add_zero])<|zk) (zk) rfl)
     ·intro _ hM
      refine jn ?_; refine g8 ?_
      obtain ⟨hq1,hq2,hq3⟩:=NR (b6 X k+(G0 X Y k).2+B1 Y k)
      refine i5 ?_; refine tO (CC rfl uu rfl uu (fun _=>zo)) rfl rfl ?_; refine l3 ?_; refine tO (EN rfl uu rfl uu (fun _=>zo)) rfl rfl ?_; refine d5.new (y7 eI 56 (fun hp=>.cons rfl<|.nil) rfl rfl rfl rfl) rfl rfl rfl rfl ?_; refine i5 ?_; refine jl ?_; refine j1 ?_
      exact d9.lp (k+1) zi zo (d6.mk (.i rfl zi<|.o rfl zi rfl<|.i rfl (by rw[Int.tdiv_eq_ediv_of_nonneg zo]; rfl)<|zk) (.a (by rw[Int.tmod_eq_emod_of_nonneg zo]; rfl) zi<|zk) rfl)
    ·intro h8
     replace h8:=Int.not_lt.1 h8
     refine g9 ?_
     exact d9.cut (k) zo (d6.mk (.i rfl zi<|.o rfl zi rfl<|.i rfl zi<|zk) (.a zi zi<|zk) rfl)
   ·rintro _ rfl
    refine je ?_
    have hcc:=LO hA.nx.dg hA.ny.dg (Nat.le_refl X.length)
    refine j1 ?_; refine jq ?_ ?_
    ·intro h16
     refine i7 ?_; refine d5.new (y7 eI 63 (fun hp=>.cons rfl<|.nil) rfl rfl rfl rfl) rfl rfl rfl rfl ?_; refine i5 ?_; refine jl ?_; refine j1 ?_; refine tO (A1 (fun hp=>.cons rfl rfl rfl<|.cons rfl rfl rfl<|.nil)) rfl rfl ?_; refine i7 ?_
     refine Tr.frzC 30 4 (by simp only[p9]; first | omega | (rw[List.length_singleton]; omega)) rfl rfl ?_
     refine g8 ?_; exact g6.resC1 (fn:=Tryz.f162) rfl rfl (t7 rfl (hA.one hs h16))
    ·intro h16
     replace h16:=Int.not_lt.1 h16
     refine j3 ?_; refine tO (A1 (fun hp=>.cons rfl rfl rfl<|.cons rfl rfl rfl<|.nil)) rfl rfl ?_; refine i7 ?_
     refine Tr.frzC 30 4 (by simp only[p9]; first | omega | (rw[List.length_singleton]; omega)) rfl rfl ?_
     refine g8 ?_; exact g6.resC1 (fn:=Tryz.f162) rfl rfl (t7 rfl (hA.zero hs zo))
 ·intro h1
  have hs:=of_decide_eq_false h1
  refine m9 ?_; refine jc (dS a.natAbs b.natAbs zo zo) ?_; refine m9 ?_; refine Tr.cnd rfl ?_ ?_
  ·intro h20
   try simp only[decide_eq_true_eq] at h20
   have hc0:q9 (a.natAbs:Nat) (b.natAbs:Nat)=0:=by omega
   refine g8 ?_; refine tO (A1 (fun hp=>.nil)) rfl rfl ?_; refine l3 ?_; exact g6.resC1 (fn:=Tryz.f162) rfl rfl (t7 rfl (ak7 hs hc0))
  ·intro h20
   try simp only[decide_eq_false_iff_not] at h20
   refine l3 ?_; refine Tr.cnd rfl ?_ ?_
   ·intro h22
    try simp only[decide_eq_true_eq] at h22
    have hlt:=pC h22
    have hp1:=DB (z:=a)
    have hlz:a≠0:=by omega
    have hp2:=hp1.2 hlz
    refine i5 ?_; refine Tr.ent (S':=[⟨0,true,_,_⟩,⟨1,true,_,_⟩,⟨2,true,_,_⟩,⟨3,true,_,_⟩,⟨4,true,_,_⟩,⟨11,true,_,_⟩,⟨12,true,_,_⟩,⟨13,true,_,_⟩,⟨14,true,_,_⟩,⟨15,true,_,_⟩,⟨69,true,_,_⟩,⟨70,true,_,_⟩,⟨71,true,_,_⟩,⟨72,true,_,_⟩,⟨73,true,_,_⟩,⟨75,true,_,_⟩,⟨74,true,_,_⟩,⟨78,true,_,_⟩,⟨77,true,_,_⟩]) (M':=[⟨2,_,_⟩,⟨3,_,_⟩,⟨4,_,_⟩]) (d6.mk (zk) (zk) rfl) ?_; refine Tr.drawQ [⟨2,_,_⟩,⟨3,_,_⟩] [⟨4,_,_⟩] rfl o0 #[false,false,false,false,false,false,false,false,false,false] rfl fun f=>?_
    simp only[N9,List.map_cons,List.map_nil,List.cons_append,List.nil_append]
    refine b7.take 0 #[true,false,false,false,false,false,false,false,false,false] (by kernel_rfl) (by kernel_rfl) (by kernel_rfl) rfl rfl (GL rfl) rfl rfl ?_; refine b7.take 1 #[true,true,false,false,false,false,false,false,false,false] (by kernel_rfl) (by kernel_rfl) (by kernel_rfl) rfl rfl (LD rfl rfl) rfl rfl ?_; refine b7.take 2 #[true,true,true,false,false,false,false,false,false,false] (by kernel_rfl) (by kernel_rfl) (by kernel_rfl) rfl rfl (GL rfl) rfl rfl ?_; refine b7.take 3 #[true,true,true,true,false,false,false,false,false,false] (by kernel_rfl) (by kernel_rfl) (by kernel_rfl) rfl rfl (LD rfl rfl) rfl rfl ?_
    refine b7.take 5 #[true,true,true,true,false,true,false,false,false,false] (by kernel_rfl) (by kernel_rfl) (by kernel_rfl) rfl rfl (GL rfl) rfl rfl ?_; refine b7.take 6 #[true,true,true,true,false,true,true,false,false,false] (by kernel_rfl) (by kernel_rfl) (by kernel_rfl) rfl rfl (LD rfl rfl) rfl rfl ?_; refine b7.one 4 (by kernel_rfl) rfl ?_; refine d5.new (EJ 83 (fun hp=>PD _ zo zo) (.a rfl uu<|.nil)) rfl rfl rfl rfl ?_; refine b7.k #[true,true,true,true,true,true,true,false,false,false] rfl (EQ (by intro e he; simp only[N9,List.map_cons,List.map_nil,List.mem_cons,List.not_mem_nil,or_false] at he; rcases he with rfl | rfl<;>simp)) ?_
    refine b7.one 7 (by kernel_rfl) rfl ?_; refine d5.mutR (cL _ _ (y0 _) (y0 _) (N4 zo) zo zo) rfl zo (.a rfl uu<|.nil) rfl (fun _ _ _ _ h=>h) (fun h=>h) rfl ?_; refine jl ?_; refine d5.frzQ 83 [86] ⟨rfl,trivial⟩ (⟨by have:=T3 (xs:=D3 (d8 a.natAbs) (d8 b.natAbs) (d8 a.natAbs).length); rw[HT] at this; exact this,by simp only[p9]; omega⟩) rfl ?_; refine jl ?_; refine b7.k #[true,true,true,true,true,true,true,true,false,false] rfl (EQ (by intro e he; simp only[N9,List.map_cons,List.map_nil,List.mem_cons,List.not_mem_nil,or_false] at he; rcases he with rfl | rfl<;>simp)) ?_
    refine b7.one 8 (by kernel_rfl) rfl ?_; refine tO (A1 (fun hp=>.cons rfl rfl rfl<|.cons rfl rfl rfl<|.nil)) rfl rfl ?_; refine b7.k #[true,true,true,true,true,true,true,true,true,false] rfl (EQ (by intro e he; simp only[N9,List.map_cons,List.map_nil,List.mem_cons,List.not_mem_nil,or_false] at he; rcases he with rfl | rfl<;>simp)) ?_; refine b7.one 9 (by kernel_rfl) rfl ?_; refine d5.stB rfl rfl rfl rfl ?_; refine b7.k #[true,true,true,true,true,true,true,true,true,true] rfl (EQ (by intro e he; simp only[N9,List.map_cons,List.map_nil,List.mem_cons,List.not_mem_nil,or_false] at he; rcases he with rfl | rfl<;>simp)) ?_
    refine b7.done (by kernel_rfl) ?_; refine d9.nxt (Tr.ret (g6.out (g6.thn ?_))); exact g6.resC1 (fn:=Tryz.f162) rfl rfl (t7 rfl (nG hs zo (lR zo)))
   ·intro h22
    try simp only[decide_eq_false_iff_not] at h22
    have hlt:=pG h20 h22
    have hp1:=DB (z:=b)
    have hlz:b≠0:=by omega
    have hp2:=hp1.2 hlz
    refine g9 ?_; refine Tr.ent (S':=[⟨0,true,_,_⟩,⟨1,true,_,_⟩,⟨2,true,_,_⟩,⟨3,true,_,_⟩,⟨4,true,_,_⟩,⟨11,true,_,_⟩,⟨12,true,_,_⟩,⟨13,true,_,_⟩,⟨14,true,_,_⟩,⟨15,true,_,_⟩,⟨69,true,_,_⟩,⟨70,true,_,_⟩,⟨71,true,_,_⟩,⟨72,true,_,_⟩,⟨73,true,_,_⟩,⟨75,true,_,_⟩,⟨74,true,_,_⟩,⟨78,true,_,_⟩,⟨77,true,_,_⟩]) (M':=[⟨2,_,_⟩,⟨3,_,_⟩,⟨4,_,_⟩]) (d6.mk (zk) (zk) rfl) ?_; refine Tr.drawQ [⟨2,_,_⟩,⟨3,_,_⟩] [⟨4,_,_⟩] rfl o0 #[false,false,false,false,false,false,false,false,false,false] rfl fun f=>?_
    simp only[N9,List.map_cons,List.map_nil,List.cons_append,List.nil_append]
    refine b7.take 0 #[true,false,false,false,false,false,false,false,false,false] (by kernel_rfl) (by kernel_rfl) (by kernel_rfl) rfl rfl (GL rfl) rfl rfl ?_; refine b7.take 1 #[true,true,false,false,false,false,false,false,false,false] (by kernel_rfl) (by kernel_rfl) (by kernel_rfl) rfl rfl (LD rfl rfl) rfl rfl ?_; refine b7.take 2 #[true,true,true,false,false,false,false,false,false,false] (by kernel_rfl) (by kernel_rfl) (by kernel_rfl) rfl rfl (GL rfl) rfl rfl ?_; refine b7.take 3 #[true,true,true,true,false,false,false,false,false,false] (by kernel_rfl) (by kernel_rfl) (by kernel_rfl) rfl rfl (LD rfl rfl) rfl rfl ?_
    refine b7.take 5 #[true,true,true,true,false,true,false,false,false,false] (by kernel_rfl) (by kernel_rfl) (by kernel_rfl) rfl rfl (GL rfl) rfl rfl ?_; refine b7.take 6 #[true,true,true,true,false,true,true,false,false,false] (by kernel_rfl) (by kernel_rfl) (by kernel_rfl) rfl rfl (LD rfl rfl) rfl rfl ?_; refine b7.one 4 (by kernel_rfl) rfl ?_; refine d5.new (EJ 92 (fun hp=>PD _ zo zo) (.a rfl uu<|.nil)) rfl rfl rfl rfl ?_; refine b7.k #[true,true,true,true,true,true,true,false,false,false] rfl (EQ (by intro e he; simp only[N9,List.map_cons,List.map_nil,List.mem_cons,List.not_mem_nil,or_false] at he; rcases he with rfl | rfl<;>simp)) ?_
    refine b7.one 7 (by kernel_rfl) rfl ?_; refine d5.mutR (cL _ _ (y0 _) (y0 _) (N4 zo) zo zo) rfl zo (.a rfl uu<|.nil) rfl (fun _ _ _ _ h=>h) (fun h=>h) rfl ?_; refine jl ?_; refine d5.frzQ 92 [95] ⟨rfl,trivial⟩ (⟨by have:=T3 (xs:=D3 (d8 b.natAbs) (d8 a.natAbs) (d8 b.natAbs).length); rw[HT] at this; exact this,by simp only[p9]; omega⟩) rfl ?_; refine jl ?_; refine b7.k #[true,true,true,true,true,true,true,true,false,false] rfl (EQ (by intro e he; simp only[N9,List.map_cons,List.map_nil,List.mem_cons,List.not_mem_nil,or_false] at he; rcases he with rfl | rfl<;>simp)) ?_
    refine b7.one 8 (by kernel_rfl) rfl ?_; refine tO (A1 (fun hp=>.cons rfl rfl rfl<|.cons rfl rfl rfl<|.nil)) rfl rfl ?_; refine b7.k #[true,true,true,true,true,true,true,true,true,false] rfl (EQ (by intro e he; simp only[N9,List.map_cons,List.map_nil,List.mem_cons,List.not_mem_nil,or_false] at he; rcases he with rfl | rfl<;>simp)) ?_; refine b7.one 9 (by kernel_rfl) rfl ?_; refine d5.stB rfl rfl rfl rfl ?_; refine b7.k #[true,true,true,true,true,true,true,true,true,true] rfl (EQ (by intro e he; simp only[N9,List.map_cons,List.map_nil,List.mem_cons,List.not_mem_nil,or_false] at he; rcases he with rfl | rfl<;>simp)) ?_
    refine b7.done (by kernel_rfl) ?_; refine g8 ?_; exact g6.resC1 (fn:=Tryz.f162) rfl rfl (t7 rfl (ak8 hs zo (lR zo)))

end Go.Fl

/- Contracts: integers of the package field (products). -/
namespace Go.Fl
open Go Go.Proofs
open d5 renaming op->tO
open i9 renaming op->rO
set_option maxRecDepth 100000

set_option maxHeartbeats 1000000 in
theorem L7 (a b:Int) (ha:dl a<=1000000) (hb:dl b<=1000000):Ct Tryz.prog 161 [b8 eW (wh a),b8 eW (wh b)] (b8 eW (wh (a*b))):=by
 have hal:(d8 a.natAbs).length=dl a:=rfl
 have hbl:(d8 b.natAbs).length=dl b:=rfl
 have hap:=DB (z:=a)
 have hbp:=DB (z:=b)
 refine Ct.mk Tryz.func161 rfl Tryz.ntmps161 rfl (fun w J=>?_); refine g8 ?_; refine jb 2 rfl ?_; refine jb 3 rfl ?_; refine ja 4 ?_; refine P1 ?_; refine Tr.cnd rfl ?_ ?_
 ·intro h1
  try simp only[decide_eq_true_eq,Bool.or_eq_true] at h1
  refine g8 ?_; refine tO (A1 (fun hp=>.nil)) rfl rfl ?_; refine l6 ?_; exact g6.resC1 (fn:=Tryz.f161) rfl rfl (t7 rfl (ak6 zo))
 ·intro h1
  try simp only[decide_eq_false_iff_not,Bool.or_eq_false_iff] at h1
  refine y8 ?_; refine d5.new (SF eI 30 rfl uu rfl uu rfl rfl (fun _=>zo)) rfl rfl rfl rfl ?_; refine v9 ?_
  refine Tr.for1 (σ:=Nat×List Int) [⟨2,true,_,_⟩,⟨3,true,_,_⟩,⟨4,true,_,_⟩,⟨32,true,_,_⟩,⟨33,true,_,_⟩] [⟨2,_,_⟩,⟨3,_,_⟩,⟨4,_,_⟩] (fun (i,o)=>[⟨5,true,[30],o9 30 ((d8 a.natAbs).length+(d8 b.natAbs).length)⟩,⟨34,true,[],kI (i:Int)⟩]) (fun (i,o)=>[⟨30,[],l5 false 3 eI o ((d8 a.natAbs).length+(d8 b.natAbs).length)⟩]) (fun (i,o)=>i<=(d8 a.natAbs).length/\V0 (d8 a.natAbs) (d8 b.natAbs) o i) (fun (i,o)=>i=(d8 a.natAbs).length/\V0 (d8 a.natAbs) (d8 b.natAbs) o (d8 a.natAbs).length) (fun (i,o)=>(d8 a.natAbs).length-i) ((0,List.replicate ((d8 a.natAbs).length+(d8 b.natAbs).length) 0)) ⟨by omega,V0.start⟩ (d6.mk (.o rfl zo rfl<|.i rfl zi<|zk) (.a (by congr 1) zo<|zk) rfl) ?_ ?_
  ·rintro ⟨i,o⟩ ⟨hi,hR⟩
   refine jn ?_
   have hAd:=fun (h:i<(d8 a.natAbs).length)=>(y0 a.natAbs).at (i:=i) h
   refine l3 ?_; refine jq ?_ ?_
   ·intro h5
    refine gM ?_
    refine Tr.for1 (σ:=Nat×List Int×Int) [⟨2,true,_,_⟩,⟨3,true,_,_⟩,⟨4,true,_,_⟩,⟨5,true,_,_⟩,⟨6,true,_,_⟩,⟨7,true,_,_⟩,⟨32,true,_,_⟩,⟨33,true,_,_⟩,⟨34,true,_,_⟩,⟨40,true,_,_⟩,⟨41,true,_,_⟩] [⟨2,_,_⟩,⟨3,_,_⟩,⟨4,_,_⟩] (fun (k,o2,c)=>[⟨8,true,[],kI c⟩,⟨42,true,[],kI (k:Int)⟩]) (fun (k,o2,c)=>[⟨30,[],l5 false 3 eI o2 ((d8 a.natAbs).length+(d8 b.natAbs).length)⟩]) (fun (k,o2,c)=>k<=(d8 b.natAbs).length/\AM (d8 a.natAbs) (d8 b.natAbs) o2 i k c) (fun (k,o2,c)=>AM (d8 a.natAbs) (d8 b.natAbs) o2 i (d8 b.natAbs).length c) (fun (k,o2,c)=>(d8 b.natAbs).length-k) ((0,o,0)) ⟨by omega,hR.row⟩ (d6.mk (.i rfl zi<|.i rfl zi<|zk) (.a zi zi<|zk) rfl) ?_ ?_
    ·rintro ⟨k,o2,c⟩ ⟨hk,hS⟩
     refine jn ?_
     have hn:=fun (h:k<(d8 b.natAbs).length)=>hS.n (y0 _) (y0 _) zo h
     have hc0:=hS.c0
     refine l3 ?_; refine jq ?_ ?_
     ·intro h9
      refine K3 ?_
      obtain ⟨n1,n2,n3,n4⟩:=hn zo
      refine Z2 ?_
      obtain ⟨hq1,hq2,hq3⟩:=NR (b6 o2 (i+k)+b6 (d8 a.natAbs) i*b6 (d8 b.natAbs) k+c)
      refine l6 ?_; refine tO (EN rfl uu rfl uu (fun _=>zo)) rfl rfl ?_; refine i5 ?_; refine tO (CC rfl uu rfl uu (fun _=>zo)) rfl rfl ?_; refine u5 ?_
      exact d9.lp ((k+1,o2.set (i+k) ((b6 o2 (i+k)+b6 (d8 a.natAbs) i*b6 (d8 b.natAbs) k+c)%100000000),(b6 o2 (i+k)+b6 (d8 a.natAbs) i*b6 (d8 b.natAbs) k+c)/100000000)) ⟨by omega,hS.next (y0 _) (y0 _) zo zo⟩ (by show (d8 b.natAbs).length-(k+1)<(d8 b.natAbs).length-k; omega) (d6.mk (.i rfl (by rw[Int.tdiv_eq_ediv_of_nonneg zo])<|.i rfl zi<|zk) (.a (by rw[Int.tmod_eq_emod_of_nonneg zo]) zi<|zk) rfl)
     ·intro h9
      replace h9:=Int.not_lt.1 h9
      refine g9 ?_
      exact d9.cut ((k,o2,c)) (by obtain rfl:k=(d8 b.natAbs).length:=zo; exact hS) (d6.mk (.i rfl zi<|.i rfl zi<|zk) (.a zi zi<|zk) rfl)
    ·rintro ⟨k,o2,c⟩ hS
     refine je ?_
     have hc0:=hS.c0
     refine FP ?_
     exact d9.lp ((i+1,o2.set (i+(d8 b.natAbs).length) c)) ⟨by omega,hS.done zo⟩ (by show (d8 a.natAbs).length-(i+1)<(d8 a.natAbs).length-i; omega) (d6.mk (.o rfl zi rfl<|.i rfl zi<|zk) (.a rfl zi<|zk) rfl)
   ·intro h5
    replace h5:=Int.not_lt.1 h5
    refine g9 ?_
    exact d9.cut ((i,o)) (by obtain rfl:i=(d8 a.natAbs).length:=zo; exact ⟨rfl,hR⟩) (d6.mk (.o rfl zi rfl<|.i rfl zi<|zk) (.a zi zi<|zk) rfl)
  ·rintro ⟨i,o⟩ ⟨rfl,hR⟩
   refine je ?_; refine g8 ?_; refine Tr.frz 30 [5] ⟨rfl,trivial⟩ (by simp only[p9]; omega) rfl ?_; refine Tr.draw 7 o0 (by kernel_rfl) ?_; refine g9 ?_; refine rO (SH rfl uu rfl uu) rfl rfl ?_; refine i5 ?_; refine rO (i6 (fun hp=>JD _) (.a rfl uu<|.nil)) rfl rfl ?_; refine i5 ?_; refine tO (A1 (fun hp=>.cons rfl rfl rfl<|.cons rfl rfl rfl<|.nil)) rfl rfl ?_; refine g9 ?_; exact g6.resC1 (fn:=Tryz.f161) rfl rfl (t7 rfl (ak5 (hap.1 zo) (hbp.1 zo) hR))

set_option maxHeartbeats 1000000 in
theorem tQ (a b:Int) (ha:dl a<=1000000) (hb:dl b<=1000000) (h0:a≠0/\b≠0):U9 Tryz.prog 161 [b8 eW (wh a),b8 eW (wh b)] (fun t=>H9 [kB (decide (decide (a<0)≠decide (b<0))),C7 t 1 0 (d8 (a*b).natAbs).length]) (l5 false 3 eI (d8 (a*b).natAbs) (d8 (a*b).natAbs).length):=by
 have hal:(d8 a.natAbs).length=dl a:=rfl
 have hbl:(d8 b.natAbs).length=dl b:=rfl
 have hap:=DB (z:=a)
 have hbp:=DB (z:=b)
 refine U9.mk Tryz.func161 rfl Tryz.ntmps161 rfl (fun w J=>?_); refine g8 ?_; refine jb 2 rfl ?_; refine jb 3 rfl ?_; refine ja 4 ?_; refine P1 ?_; refine Tr.cnd rfl ?_ ?_
 ·intro h1
  try simp only[decide_eq_true_eq,Bool.or_eq_true] at h1
  omega
 ·intro h1
  try simp only[decide_eq_false_iff_not,Bool.or_eq_false_iff] at h1
  refine y8 ?_; refine d5.new (SF eI 30 rfl uu rfl uu rfl rfl (fun _=>zo)) rfl rfl rfl rfl ?_; refine v9 ?_
  refine Tr.for1 (σ:=Nat×List Int) [⟨2,true,_,_⟩,⟨3,true,_,_⟩,⟨4,true,_,_⟩,⟨32,true,_,_⟩,⟨33,true,_,_⟩] [⟨2,_,_⟩,⟨3,_,_⟩,⟨4,_,_⟩] (fun (i,o)=>[⟨5,true,[30],o9 30 ((d8 a.natAbs).length+(d8 b.natAbs).length)⟩,⟨34,true,[],kI (i:Int)⟩]) (fun (i,o)=>[⟨30,[],l5 false 3 eI o ((d8 a.natAbs).length+(d8 b.natAbs).length)⟩]) (fun (i,o)=>i<=(d8 a.natAbs).length/\V0 (d8 a.natAbs) (d8 b.natAbs) o i) (fun (i,o)=>i=(d8 a.natAbs).length/\V0 (d8 a.natAbs) (d8 b.natAbs) o (d8 a.natAbs).length) (fun (i,o)=>(d8 a.natAbs).length-i) ((0,List.replicate ((d8 a.natAbs).length+(d8 b.natAbs).length) 0)) ⟨by omega,V0.start⟩ (d6.mk (.o rfl zo rfl<|.i rfl zi<|zk) (.a (by congr 1) zo<|zk) rfl) ?_ ?_
  ·rintro ⟨i,o⟩ ⟨hi,hR⟩
   refine jn ?_
   have hAd:=fun (h:i<(d8 a.natAbs).length)=>(y0 a.natAbs).at (i:=i) h
   refine l3 ?_; refine jq ?_ ?_
   ·intro h5
    refine gM ?_
    refine Tr.for1 (σ:=Nat×List Int×Int) [⟨2,true,_,_⟩,⟨3,true,_,_⟩,⟨4,true,_,_⟩,⟨5,true,_,_⟩,⟨6,true,_,_⟩,⟨7,true,_,_⟩,⟨32,true,_,_⟩,⟨33,true,_,_⟩,⟨34,true,_,_⟩,⟨40,true,_,_⟩,⟨41,true,_,_⟩] [⟨2,_,_⟩,⟨3,_,_⟩,⟨4,_,_⟩] (fun (k,o2,c)=>[⟨8,true,[],kI c⟩,⟨42,true,[],kI (k:Int)⟩]) (fun (k,o2,c)=>[⟨30,[],l5 false 3 eI o2 ((d8 a.natAbs).length+(d8 b.natAbs).length)⟩]) (fun (k,o2,c)=>k<=(d8 b.natAbs).length/\AM (d8 a.natAbs) (d8 b.natAbs) o2 i k c) (fun (k,o2,c)=>AM (d8 a.natAbs) (d8 b.natAbs) o2 i (d8 b.natAbs).length c) (fun (k,o2,c)=>(d8 b.natAbs).length-k) ((0,o,0)) ⟨by omega,hR.row⟩ (d6.mk (.i rfl zi<|.i rfl zi<|zk) (.a zi zi<|zk) rfl) ?_ ?_
    ·rintro ⟨k,o2,c⟩ ⟨hk,hS⟩
     refine jn ?_
     have hn:=fun (h:k<(d8 b.natAbs).length)=>hS.n (y0 _) (y0 _) zo h
     have hc0:=hS.c0
     refine l3 ?_; refine jq ?_ ?_
     ·intro h9
      refine K3 ?_
      obtain ⟨n1,n2,n3,n4⟩:=hn zo
      refine Z2 ?_
      obtain ⟨hq1,hq2,hq3⟩:=NR (b6 o2 (i+k)+b6 (d8 a.natAbs) i*b6 (d8 b.natAbs) k+c)
      refine l6 ?_; refine tO (EN rfl uu rfl uu (fun _=>zo)) rfl rfl ?_; refine i5 ?_; refine tO (CC rfl uu rfl uu (fun _=>zo)) rfl rfl ?_; refine u5 ?_
      exact d9.lp ((k+1,o2.set (i+k) ((b6 o2 (i+k)+b6 (d8 a.natAbs) i*b6 (d8 b.natAbs) k+c)%100000000),(b6 o2 (i+k)+b6 (d8 a.natAbs) i*b6 (d8 b.natAbs) k+c)/100000000)) ⟨by omega,hS.next (y0 _) (y0 _) zo zo⟩ (by show (d8 b.natAbs).length-(k+1)<(d8 b.natAbs).length-k; omega) (d6.mk (.i rfl (by rw[Int.tdiv_eq_ediv_of_nonneg zo])<|.i rfl zi<|zk) (.a (by rw[Int.tmod_eq_emod_of_nonneg zo]) zi<|zk) rfl)
     ·intro h9
      replace h9:=Int.not_lt.1 h9
      refine g9 ?_
      exact d9.cut ((k,o2,c)) (by obtain rfl:k=(d8 b.natAbs).length:=zo; exact hS) (d6.mk (.i rfl zi<|.i rfl zi<|zk) (.a zi zi<|zk) rfl)
    ·rintro ⟨k,o2,c⟩ hS
     refine je ?_
     have hc0:=hS.c0
     refine FP ?_
     exact d9.lp ((i+1,o2.set (i+(d8 b.natAbs).length) c)) ⟨by omega,hS.done zo⟩ (by show (d8 a.natAbs).length-(i+1)<(d8 a.natAbs).length-i; omega) (d6.mk (.o rfl zi rfl<|.i rfl zi<|zk) (.a rfl zi<|zk) rfl)
   ·intro h5
    replace h5:=Int.not_lt.1 h5
    refine g9 ?_
    exact d9.cut ((i,o)) (by obtain rfl:i=(d8 a.natAbs).length:=zo; exact ⟨rfl,hR⟩) (d6.mk (.o rfl zi rfl<|.i rfl zi<|zk) (.a zi zi<|zk) rfl)
  ·rintro ⟨i,o⟩ ⟨rfl,hR⟩
   refine je ?_; refine g8 ?_; refine Tr.draw 7 o0 (by kernel_rfl) ?_; refine g9 ?_; refine rO (SH rfl uu rfl uu) rfl rfl ?_; refine i5 ?_; refine rO (YG (n:=1) (fun ad cap=>PO o ad cap) rfl uu (fun _=>⟨by omega,by simp only[p9]; omega,by have:=T3 (xs:=o); rw[hR.len] at this; exact this⟩)) rfl rfl ?_; refine i5 ?_; refine tO (A1 (fun hp=>.cons rfl rfl rfl<|.cons rfl rfl rfl<|.nil)) rfl rfl ?_; refine g9 ?_; exact g6.resNC (fn:=Tryz.f161) (u:=30) rfl rfl (fun _ _ _ h=>oO (by have:=T3 (xs:=o); rw[hR.len,XP hR] at this; exact this) (by rw[<- XP hR,IA]) h) (oF rfl (by rw[XP hR])) inferInstance

end Go.Fl

/- Integers: long division, as its contract wants it. Plain Lean, no program in sight. -/
namespace Go.Fl
theorem Nm.top {xs:List Int} (h:Nm xs) (h0:0<xs.length):0<b6 xs (xs.length-1):=by
 have hne:xs≠[]:=List.length_pos_iff.1 h0
 have h3:=h.last hne
 have h4:b6 xs (xs.length-1)=xs.getLast hne:=by
  rw[List.getLast_eq_getElem]
  exact BZ (List.getElem?_eq_getElem _)
 rw[h4]
 have:=h.dg _ (List.getLast_mem hne)
 omega
def QX (n:Nat):Int:=(100000000:Int).tdiv (b6 (d8 n) (((d8 n).length:Int)-1).toNat+1)
theorem gS {n:Nat} (h:0<(d8 n).length):0<b6 (d8 n) (((d8 n).length:Int)-1).toNat/\b6 (d8 n) (((d8 n).length:Int)-1).toNat<100000000:=by
 have e:(((d8 n).length:Int)-1).toNat=(d8 n).length-1:=by omega
 rw[e]
 exact ⟨(O8 n).top h,((y0 n).at zo).2⟩
theorem ZO {a b:Int} (ha:0<=a) (hb:0<b):0<=a.tdiv b/\a.tdiv b<=a:=by
 rw[Int.tdiv_eq_ediv_of_nonneg ha]
 exact ⟨Int.ediv_nonneg ha zo,Int.ediv_le_self _ ha⟩
theorem wN {n:Nat} (h:0<(d8 n).length):0<QX n/\QX n<=50000000:=by
 have h1:=gS h
 unfold QX
 generalize b6 (d8 n) (((d8 n).length:Int)-1).toNat=t at *
 rw[Int.tdiv_eq_ediv_of_nonneg zo]
 refine ⟨Int.le_ediv_of_mul_le zo zo,Int.le_of_lt_add_one (Int.ediv_lt_of_lt_mul zo zo)⟩
def JL (x y z:Int):Int:=if 99999999<(x*100000000+y).tdiv z then 99999999 else (x*100000000+y).tdiv z
theorem vO {x y z:Int} (hx:0<=x) (hy:0<=y) (hz:0<z):0<=JL x y z/\JL x y z<=99999999:=by
 have:=ZO (a:=x*100000000+y) zo hz
 unfold JL
 split<;>omega
theorem vN {T x y z:Int} (hx:0<=x) (hy:0<=y) (h:T<=(if 99999999<(x*100000000+y)/z then 99999999 else (x*100000000+y)/z)):T<=JL x y z:=by
 unfold JL
 rw[Int.tdiv_eq_ediv_of_nonneg zo]
 exact h
theorem O4.bd {u0 u:List Int} {j n:Nat} {T V g:Int} (h:O4 u0 j n T V u g) (hl:j+n<u0.length) (hT:T=val (u0.drop j)) (h0:0<=T) (hV:0<V) (hVn:V<BP n):-100000000<b6 u (j+n):=by
 obtain ⟨lo,l0,l1,e⟩:=h.top hl
 have ht:=h.t hl hT
 have hg:=h.g1
 have h1:g*V<=99999999*V:=Int.mul_le_mul_of_nonneg_right hg zo
 refine Classical.byContradiction fun hh=>?_
 have h2:BP n*b6 u (j+n)<=BP n*(-100000000):=Int.mul_le_mul_of_nonneg_left zo (Int.le_of_lt (U7 n))
 omega
theorem wP {m n:Nat} {F:Int} (hF:0<F) (h:n<=m):((n:Int)*F).natAbs<=((m:Int)*F).natAbs/\n<=((n:Int)*F).natAbs:=by
 have h1:(n:Int)*F<=m*F:=Int.mul_le_mul_of_nonneg_right zo zo
 have h2:(n:Int)*1<=n*F:=Int.mul_le_mul_of_nonneg_left zo zo
 omega
theorem wO {m n x y nn:Nat} {F:Int} {u out:List Int} (hF:0<F) (hx:x=((m:Int)*F).natAbs) (hy:y=((n:Int)*F).natAbs) (hn:0<n) (h:X1 (x:Int) (val (d8 y)) nn u out 0) :
  j6 out=d8 (m/n)/\d8 (val (j6 u)/F).toNat=d8 (m%n)/\Dg (j6 u):=by
 have e1:(x:Int)=F*m:=by rw[hx,Int.mul_comm,Int.natAbs_of_nonneg (Int.mul_nonneg zo zo)]
 have e2:(y:Int)=F*n:=by rw[hy,Int.mul_comm,Int.natAbs_of_nonneg (Int.mul_nonneg zo zo)]
 have h0:(0:Int)<F*n:=Int.mul_pos hF zo
 obtain ⟨h1,h2,h3,h4⟩:=h.fin (by rw[y4]; omega)
 rw[y4,e1,e2] at h1 h2
 rw[Int.mul_ediv_mul_of_pos _ _ hF] at h1
 rw[Int.mul_emod_mul_of_pos _ _ hF] at h2
 refine ⟨DM h3 (by rw[h1]; rfl),?_,(mJ h4).dg⟩
 rw[ZV,h2,Int.mul_ediv_cancel_left _ zo]
 congr 1
theorem IC {n:Nat}:(false,d8 n)=wh (n:Int):=nI rfl rfl
theorem K1 {F:Int} (h0:0<=F) (h:F<100000000):dl F<=1:=O9 (by simp[BP]; omega)
end Go.Fl

/- Contracts: integers of the package field (long division). -/
namespace Go.Fl
open Go Go.Proofs
open d5 renaming op->tO
open i9 renaming op->rO
set_option maxRecDepth 100000

set_option maxHeartbeats 4000000 in
theorem rK (m n:Nat) (h2:2<=(d8 n).length) (hnm:n<=m) (hm:(d8 m).length<=900000):Ct Tryz.prog 219 [b8 (eL eI) (d8 m),b8 (eL eI) (d8 n)] (z6 [b8 (eL eI) (d8 (m/n)),b8 (eL eI) (d8 (m%n))]):=by
 have h00:([0,0]:List Int).length=2:=rfl
 obtain ⟨F,hF⟩:∃F,F=QX n:=⟨_,rfl⟩
 obtain ⟨x,hx⟩:∃x:Nat,x=((m:Int)*F).natAbs:=⟨_,rfl⟩
 obtain ⟨y,hy⟩:∃y:Nat,y=((n:Int)*F).natAbs:=⟨_,rfl⟩
 obtain ⟨lu,hlu⟩:∃k,k=(d8 x).length:=⟨_,rfl⟩
 obtain ⟨nn,hnn⟩:∃k,k=(d8 y).length:=⟨_,rfl⟩
 have hFr:=wN (n:=n) zo
 rw[<- hF] at hFr
 have hlD:=gS (n:=n) zo
 have hlx:=wP hFr.1 hnm
 have hn0:0<n:=by have:=JF (n:=n); omega
 have hle:=N4 hnm
 have hny:=N4 (n:=n) (m:=y) zo
 have hyx:=N4 (n:=y) (m:=x) zo
 have hdm:dl (m:Int)=(d8 m).length:=rfl
 have hdn:dl (n:Int)=(d8 n).length:=rfl
 have hdF:=K1 (F:=F) zo zo
 have hdx:dl ((m:Int)*F)=lu:=by rw[hlu,hx]; rfl
 have hlb:=s7 (m:Int) F
 have hdx2:(d8 ((m:Int)*F).natAbs).length=lu:=by rw[hlu,hx]
 have hV0:0<val (d8 y):=by rw[y4]; omega
 have hVn:val (d8 y)<BP nn:=by rw[hnn]; exact (y0 y).val1
 have hqF:=ZO (a:=100000000) (b:=b6 (d8 n) (((d8 n).length:Int)-1).toNat+1) zo zo
 refine Ct.mk Tryz.func219 rfl Tryz.ntmps219 rfl (fun w J=>?_); refine K3 ?_; refine tO (CC rfl uu rfl uu (fun _=>zo)) rfl rfl ?_; refine g9 ?_; refine Tr.rwI (s:=6) rfl (show _=F from hF.symm) ?_; refine g8 ?_; refine tO (A1 (fun hp=>.cons rfl rfl rfl<|.nil)) rfl rfl ?_; refine i5 ?_; refine jc (Q2 F zo) ?_; refine d5.new (EJ 34 (fun hp=>tQ (m:Int) F zo zo zo) (.se rfl uu rfl IC<|.a rfl uu<|.nil)) rfl rfl rfl rfl ?_; refine tO (yQ Tryz.underlying160 rfl (ft:=22) (off:=1) rfl rfl rfl uu rfl) rfl rfl ?_
 refine d5.new (y7 eI 36 (fun hp=>.cons rfl<|.cons rfl<|.nil) rfl rfl rfl rfl) rfl rfl rfl rfl ?_; refine d5.appQ rfl (Nat.zero_add _) rfl rfl (fun _ _=>inferInstance) rfl rfl (by decide) rfl rfl (by have h:([0,0]:List Int).length=2:=rfl; omega) (by have h:([0,0]:List Int).length=2:=rfl; omega) (fun L2 o2 hq2=>?_); refine jl ?_
 obtain rfl:o2=0:=by omega
 obtain rfl:L2=d8 ((m:Int)*F).natAbs++[0,0]:=by simpa using hq2
 refine g9 ?_
 rw[<- hx,<- hlu]
 refine g8 ?_; refine tO (A1 (fun hp=>.cons rfl rfl rfl<|.nil)) rfl rfl ?_; refine i5 ?_; refine jc (Q2 F zo) ?_; refine tO (i6 (fun hp=>L7 (n:Int) F zo zo) (.se rfl uu rfl IC<|.a rfl uu<|.nil)) rfl rfl ?_; refine tO (yR Tryz.underlying160 rfl (ft:=22) (off:=1) rfl rfl rfl uu rfl rfl) rfl rfl ?_; refine g9 ?_
 rw[<- hy]
 refine j3 ?_
 rw[<- hnn]
 refine g8 ?_; refine tO (Z6 rfl uu) rfl rfl ?_; refine g8 ?_; refine tO (iZ rfl uu rfl uu) rfl rfl ?_; refine d5.new (SF eI 51 rfl uu rfl uu rfl rfl (fun _=>zo)) rfl rfl rfl rfl ?_; refine j3 ?_; refine tO (U1 rfl uu) rfl rfl ?_; refine g9 ?_
 refine Tr.for1 (σ:=Nat×List Int×List Int) [⟨6,true,_,_⟩,⟨8,true,_,_⟩] [] (fun (j,u,out)=>[⟨7,true,[34],o9 34 (lu+2)⟩,⟨9,true,[],kI (nn:Int)⟩,⟨10,true,[51],o9 51 (lu+2-nn)⟩,⟨11,true,[],kI ((j:Int)-1)⟩]) (fun (j,u,out)=>[⟨34,[],l5 false 3 eI u (lu+2)⟩,⟨51,[],l5 false 3 eI out (lu+2-nn)⟩]) (fun (j,u,out)=>u.length=lu+2/\out.length=lu+2-nn/\X1 (x:Int) (val (d8 y)) nn u out j) (fun (j,u,out)=>j=0/\u.length=lu+2/\out.length=lu+2-nn/\X1 (x:Int) (val (d8 y)) nn u out 0) (fun (j,u,out)=>j) ((lu+2-nn,d8 x++[0,0],List.replicate (lu+2-nn) 0)) ⟨by rw[List.length_append,<- hlu]; rfl,by simp,by rw[hlu]; exact X1.start (x:=(x:Int)) zo (O8 y) hnn.symm zo (by show nn<=(d8 x).length; omega)⟩ (d6.mk (.conv rfl rfl (fun g v h=>wI zo h) rfl<|.i rfl zi<|.o rfl (by split<;>omega) rfl<|.i rfl (by split<;>omega)<|zk) (.a zi zi<|.a (by congr 1; split<;>omega) (by split<;>omega)<|.nil) rfl) ?_ ?_
 ·rintro ⟨j,u,out⟩ ⟨hul,hol,hR⟩
  refine jn ?_; refine j3 ?_; refine jq ?_ ?_
  ·intro h7
   obtain ⟨j0,rfl⟩:∃j0,j=j0+1:=⟨j-1,by omega⟩
   have hjo:=hR.jo
   obtain ⟨hg1,hg2,hvt,hz,hvlt⟩:=hR.gs (O8 y) hnn.symm zo
   have hT0:0<=val (u.drop j0):=Dg.val0 fun z hz=>hR.dg z (List.mem_of_mem_drop hz)
   have e1:((j0:Int)+nn-1).toNat=j0+nn-1:=by omega
   have e2:((nn:Int)-1).toNat=nn-1:=by omega
   have hu1:=hR.dg.at (i:=j0+nn) zo
   have hu2:=hR.dg.at (i:=((j0:Int)+nn-1).toNat) zo
   have hvt2:0<b6 (d8 y) ((nn:Int)-1).toNat:=by rw[e2]; exact hvt
   have hq0:=ZO (a:=b6 u (j0+nn)*100000000+b6 u ((j0:Int)+nn-1).toNat) zo hvt2
   refine Tr.rwI (s:=11) rfl (show (((j0+1:Nat):Int)-1)=(j0:Int) by omega) ?_; refine l6 ?_; refine Tr.draw 20 o0 (by kernel_rfl) ?_; refine WT ?_; refine tO (CC rfl uu rfl uu (fun _=>zo)) rfl rfl ?_; refine tO (jA rfl uu rfl uu) rfl rfl ?_; refine g9 ?_
   obtain ⟨g,hg⟩:∃g,g=JL (b6 u (j0+nn)) (b6 u ((j0:Int)+nn-1).toNat) (b6 (d8 y) ((nn:Int)-1).toNat):=⟨_,rfl⟩
   refine Tr.rwI (s:=12) rfl (show _=g from hg.symm) ?_
   have hgr:=vO hu1.1 hu2.1 hvt2
   rw[<- hg] at hgr
   have hgT:val (u.drop j0)/val (d8 y)<=g:=by rw[hg]; exact vN hu1.1 hu2.1 (by rw[e1,e2]; exact hg1)
   refine y8 ?_
   refine Tr.for1 (σ:=Nat×List Int×Int) [⟨6,true,_,_⟩,⟨7,true,_,_⟩,⟨8,true,_,_⟩,⟨9,true,_,_⟩,⟨10,true,_,_⟩,⟨11,true,_,_⟩,⟨12,true,_,_⟩,⟨81,true,_,_⟩] [⟨51,_,_⟩] (fun (i,u1,c)=>[⟨13,true,[],kI c⟩,⟨82,true,[],kI (i:Int)⟩]) (fun (i,u1,c)=>[⟨34,[],l5 false 3 eI u1 (lu+2)⟩]) (fun (i,u1,c)=>i<=nn/\P5 u (d8 y) j0 (-g) u1 i c) (fun (i,u1,c)=>P5 u (d8 y) j0 (-g) u1 nn c) (fun (i,u1,c)=>nn-i) ((0,u,0)) ⟨by omega,P5.start⟩ (d6.mk (.i rfl zi<|.i rfl zi<|zk) (.a zi zi<|zk) rfl) ?_ ?_
   ·rintro ⟨i,u1,c⟩ ⟨hi,hS⟩
    refine jn ?_
    have hsl:=hS.len
    have hcb:=hS.cb
    refine l3 ?_; refine jq ?_ ?_
    ·intro h12
     refine y8 ?_; refine Tr.draw 20 o0 (by kernel_rfl) ?_
     obtain ⟨s1,s2⟩:=hS.next (y0 y) ⟨zo,zo⟩ zo zo (hR.dg.at zo)
     have hb:=P5.b (y0 y) (s:=-g) ⟨zo,zo⟩ (show i<(d8 y).length by omega)
     have hng:-g*b6 (d8 y) i=-(g*b6 (d8 y) i):=Int.neg_mul _ _
     have hu3:b6 u1 (i+j0)=b6 u (j0+i):=by rw[Nat.add_comm]; exact s1
     have hu4:=hR.dg.at (i:=j0+i) zo
     have hval:b6 u1 (i+j0)-g*b6 (d8 y) i+c=b6 u (j0+i)+-g*b6 (d8 y) i+c:=by omega
     refine K3 ?_; refine rO (i6 (fun hp=>PE _ zo) (.a rfl uu<|.nil)) rfl rfl ?_; refine WU ?_
     exact d9.lp ((i+1,u1.set (j0+i) ((b6 u (j0+i)+-g*b6 (d8 y) i+c)%100000000),(b6 u (j0+i)+-g*b6 (d8 y) i+c)/100000000)) ⟨by omega,s2⟩ (by show nn-(i+1)<nn-i; omega) (d6.mk (.i rfl (by rw[hval])<|.i rfl zi<|zk) (.a (by rw[hval,Nat.add_comm i j0]) zi<|zk) rfl)
    ·intro h12
     replace h12:=Int.not_lt.1 h12
     refine g9 ?_
     exact d9.cut ((i,u1,c)) (by obtain rfl:i=nn:=zo; exact hS) (d6.mk (.i rfl zi<|.i rfl zi<|zk) (.a zi zi<|zk) rfl)
   ·rintro ⟨i,u1,c⟩ hS
    refine je ?_
    have hsl:=hS.len
    have hcb:=hS.cb
    have hst:=hS.same (j0+nn) (.inr (Nat.le_refl _))
    refine K3 ?_
    refine Tr.for (σ:=List Int×Int) [⟨6,true,_,_⟩,⟨7,true,_,_⟩,⟨8,true,_,_⟩,⟨9,true,_,_⟩,⟨10,true,_,_⟩,⟨11,true,_,_⟩] [⟨51,_,_⟩] (fun (u2,g2)=>[⟨12,true,[],kI g2⟩]) (fun (u2,g2)=>[⟨34,[],l5 false 3 eI u2 (lu+2)⟩]) (fun (u2,g2)=>O4 u j0 nn (val (u.drop j0)) (val (d8 y)) u2 g2) (fun (u2,g2)=>O4 u j0 nn (val (u.drop j0)) (val (d8 y)) u2 g2/\0<=b6 u2 (j0+nn)) (fun (u2,g2)=>g2.toNat) ((u1.set (j0+nn) (b6 u1 (j0+nn)+c),g)) (O4.mk' hR zo hS hnn.symm rfl hz hgT hgr.2) (d6.mk (.i rfl zi<|zk) (.a zi zi<|zk) rfl) ?_ ?_
    ·rintro ⟨u2,g2⟩ hW
     refine jn ?_
     have hwl:=hW.len
     have hwg:=hW.g1
     have hwb:=hW.bd zo rfl hT0 hV0 hVn
     refine v9 ?_; refine jq ?_ ?_
     ·intro h18
      have hlt:=hW.lt zo rfl h18 hV0
      refine gJ ?_
      refine Tr.for1 (σ:=Nat×List Int×Int) [⟨6,true,_,_⟩,⟨7,true,_,_⟩,⟨8,true,_,_⟩,⟨9,true,_,_⟩,⟨10,true,_,_⟩,⟨11,true,_,_⟩,⟨12,true,_,_⟩,⟨130,true,_,_⟩] [⟨51,_,_⟩] (fun (i,u3,c3)=>[⟨13,true,[],kI c3⟩,⟨131,true,[],kI (i:Int)⟩]) (fun (i,u3,c3)=>[⟨34,[],l5 false 3 eI u3 (lu+2)⟩]) (fun (i,u3,c3)=>i<=nn/\P5 u2 (d8 y) j0 1 u3 i c3) (fun (i,u3,c3)=>P5 u2 (d8 y) j0 1 u3 nn c3) (fun (i,u3,c3)=>nn-i) ((0,u2,0)) ⟨by omega,P5.start⟩ (d6.mk (.i rfl zi<|.i rfl zi<|zk) (.a zi zi<|zk) rfl) ?_ ?_
      ·rintro ⟨i,u3,c3⟩ ⟨hi,hS3⟩
       refine jn ?_
       have hsl3:=hS3.len
       have hcb3:=hS3.cb
       refine l3 ?_; refine jq ?_ ?_
       ·intro h22
        refine y8 ?_; refine Tr.draw 18 o0 (by kernel_rfl) ?_
        have hu4:=hW.dg (j0+i) zo zo
        obtain ⟨t1,t2⟩:=hS3.next (y0 y) ⟨zo,zo⟩ zo zo hu4
        have hvd:=(y0 y).at (i:=i) zo
        have hu3:b6 u3 (i+j0)=b6 u2 (j0+i):=by rw[Nat.add_comm]; exact t1
        have hval3:b6 u3 (i+j0)+b6 (d8 y) i+c3=b6 u2 (j0+i)+1*b6 (d8 y) i+c3:=by omega
        refine B3 ?_; refine rO (i6 (fun hp=>PE _ zo) (.a rfl uu<|.nil)) rfl rfl ?_; refine WU ?_
        exact d9.lp ((i+1,u3.set (j0+i) ((b6 u2 (j0+i)+1*b6 (d8 y) i+c3)%100000000),(b6 u2 (j0+i)+1*b6 (d8 y) i+c3)/100000000)) ⟨by omega,t2⟩ (by show nn-(i+1)<nn-i; omega) (d6.mk (.i rfl (by rw[hval3])<|.i rfl zi<|zk) (.a (by rw[hval3,Nat.add_comm i j0]) zi<|zk) rfl)
       ·intro h22
        replace h22:=Int.not_lt.1 h22
        refine g9 ?_
        exact d9.cut ((i,u3,c3)) (by obtain rfl:i=nn:=zo; exact hS3) (d6.mk (.i rfl zi<|.i rfl zi<|zk) (.a zi zi<|zk) rfl)
      ·rintro ⟨i,u3,c3⟩ hS3
       refine je ?_
       have hsl3:=hS3.len
       have hcb3:=hS3.cb
       have hst3:=hS3.same (j0+nn) (.inr (Nat.le_refl _))
       refine D7 ?_
       exact d9.lp ((u3.set (j0+nn) (b6 u3 (j0+nn)+c3),g2-1)) (hW.back zo rfl h18 hV0 hS3 hnn.symm rfl) (by show (g2-1).toNat<g2.toNat; omega) (d6.mk (.i rfl zi<|zk) (.a zi zi<|zk) rfl)
     ·intro h18
      replace h18:=Int.not_lt.1 h18
      refine g9 ?_
      exact d9.cut ((u2,g2)) ⟨hW,by omega⟩ (d6.mk (.i rfl zi<|zk) (.a zi zi<|zk) rfl)
    ·rintro ⟨u2,g2⟩ ⟨hW,hW0⟩
     refine jn ?_
     have hwl:=hW.len
     have hwg:=hW.g1
     refine D7 ?_
     exact d9.lp ((j0,u2,out.set j0 g2)) ⟨by rw[hW.len]; exact hul,by rw[List.length_set]; exact hol,hR.next hW zo zo hV0 hVn⟩ (by show j0<j0+1; omega) (d6.mk (.o rfl zi rfl<|.i rfl zi<|.o rfl zi rfl<|.i rfl zi<|zk) (.a zi zi<|.a zi zi<|.nil) rfl)
  ·intro h7
   replace h7:=Int.not_le.1 h7
   refine g9 ?_
   exact d9.cut ((j,u,out)) (by obtain rfl:j=0:=zo; exact ⟨rfl,hul,hol,hR⟩) (d6.mk (.o rfl zi rfl<|.i rfl zi<|.o rfl zi rfl<|.i rfl zi<|zk) (.a zi zi<|.a zi zi<|.nil) rfl)
 ·rintro ⟨_,u,out⟩ ⟨rfl,hul,hol,hR⟩
  refine je ?_
  have hfin:=wO hFr.1 hx hy hn0 hR
  refine g9 ?_; refine tO (YG (n:=1) (fun ad cap=>PO u ad cap) rfl uu (fun _=>⟨by omega,by simp only[p9]; omega,by have:=T3 (xs:=u); omega⟩)) rfl rfl ?_; refine d5.frzQ 34 [174] ⟨rfl,trivial⟩ ⟨by have:=T3 (xs:=u); omega,by simp only[p9]; omega⟩ rfl ?_; refine jl ?_; refine i5 ?_; refine jc (dQ (u.take (j6 u).length) F (by rw[IA]; exact hfin.2.2) (by have:=T3 (xs:=u); rw[List.length_take]; omega) zo) ?_; refine u5 ?_; refine d5.frz 51 [10,179] ⟨rfl,rfl,trivial⟩ (by simp only[p9]; omega) rfl ?_
  refine jl ?_; refine tO (i6 (fun hp=>JD _) (.a rfl uu<|.nil)) rfl rfl ?_; refine l3 ?_; exact g6.res (fn:=Tryz.f219) (ts:=[4,5]) rfl rfl (.r rfl hfin.1<|.r rfl (by rw[IA]; exact hfin.2.1)<|.nil)

end Go.Fl

/- Integers: quotient and rest with signs. Plain Lean, no program in sight. -/
namespace Go.Fl
theorem jH {a b q r:Int} (hb:b≠0) (h:a=b*q+r) (h0:0<=r) (h1:r<b.natAbs):a/b=q/\a%b=r:=by
 rcases Int.lt_or_gt_of_ne hb with hn | hp
 ·have h2:=(Int.ediv_emod_unique (a:=a) (b:=-b) (q:=-q) (r:=r) zo).2 ⟨by rw[Int.neg_mul_neg]; omega,h0,by omega⟩
  rw[Int.ediv_neg,Int.emod_neg] at h2
  exact ⟨by omega,h2.2⟩
 ·exact (Int.ediv_emod_unique hp).2 ⟨by omega,h0,by omega⟩
abbrev BD (a b:Int):Prop:=decide (a<0)≠decide (b<0)
theorem nK {a b z:Int} {Q:Nat} (hz:z=if BD a b then -(Q:Int) else Q):(decide ((0:Int)<((d8 Q).length:Nat))&&decide (decide (a<0)≠decide (b<0)),d8 Q)=wh z:=by
 have hl:=JF (n:=Q)
 by_cases h:BD a b
 ·rw[if_pos h] at hz
  refine GK ?_ (by rw[hz]; congr 1; omega)
  have h2:decide (decide (a<0)≠decide (b<0))=true:=decide_eq_true h
  rw[h2,Bool.and_true,decide_eq_decide]
  omega
 ·rw[if_neg h] at hz
  refine GK ?_ (by rw[hz]; congr 1)
  have h2:decide (decide (a<0)≠decide (b<0))=false:=decide_eq_false h
  rw[h2,Bool.and_false]
  exact (decide_eq_false zo).symm
section
variable {a b:Int}
theorem iF:(a.natAbs:Int)=b.natAbs*((a.natAbs/b.natAbs:Nat):Int)+((a.natAbs%b.natAbs:Nat):Int):=by
 have:=Nat.div_add_mod a.natAbs b.natAbs
 rw[<- Int.natCast_mul,<- Int.natCast_add,this]
theorem BE:BD a b↔((a<0/\¬b<0)\/(¬a<0/\b<0)):=by
 unfold BD
 by_cases h1:a<0<;>by_cases h2:b<0<;>simp[h1,h2]
theorem YK (hb:b≠0) (h:¬(a<0/\0<a.natAbs%b.natAbs)):a/b=(if BD a b then -((a.natAbs/b.natAbs:Nat):Int) else ((a.natAbs/b.natAbs:Nat):Int))/\a%b=((a.natAbs%b.natAbs:Nat):Int):=by
 have e:=iF (a:=a) (b:=b)
 have hlt:a.natAbs%b.natAbs<b.natAbs:=Nat.mod_lt _ zo
 generalize hq:((a.natAbs/b.natAbs:Nat):Int)=q at *
 refine jH hb ?_ zo zo
 have hB:(b.natAbs:Int)=if b<0 then -b else b:=by split<;>omega
 have hA:(a.natAbs:Int)=if a<0 then -a else a:=by split<;>omega
 by_cases h1:a<0<;>by_cases h2:b<0
 ·rw[if_pos h1] at hA; rw[if_pos h2] at hB
  rw[if_neg (by rw[BE]; omega)]
  rw[hA,hB,Int.neg_mul] at e; omega
 ·rw[if_pos h1] at hA; rw[if_neg h2] at hB
  rw[if_pos (by rw[BE]; omega)]
  rw[hA,hB] at e; rw[Int.mul_neg]; omega
 ·rw[if_neg h1] at hA; rw[if_pos h2] at hB
  rw[if_pos (by rw[BE]; omega)]
  rw[hA,hB,Int.neg_mul] at e; rw[Int.mul_neg]; omega
 ·rw[if_neg h1] at hA; rw[if_neg h2] at hB
  rw[if_neg (by rw[BE]; omega)]
  rw[hA,hB] at e; omega
theorem jG (hb:b≠0) (ha:a<0) (hr:0<a.natAbs%b.natAbs):a/b=(if BD a b then -((a.natAbs/b.natAbs+1:Nat):Int) else ((a.natAbs/b.natAbs+1:Nat):Int))/\a%b=(b.natAbs:Int)+-((a.natAbs%b.natAbs:Nat):Int):=by
 have e:=iF (a:=a) (b:=b)
 have hlt:a.natAbs%b.natAbs<b.natAbs:=Nat.mod_lt _ zo
 rw[Int.natCast_add]
 generalize hq:((a.natAbs/b.natAbs:Nat):Int)=q at *
 refine jH hb ?_ zo zo
 have hB:(b.natAbs:Int)=if b<0 then -b else b:=by split<;>omega
 have hA:(a.natAbs:Int)=-a:=by omega
 by_cases h2:b<0
 ·rw[if_pos h2] at hB
  rw[if_neg (by rw[BE]; omega)]
  rw[hA,hB,Int.neg_mul] at e; rw[Int.mul_add]; omega
 ·rw[if_neg h2] at hB
  rw[if_pos (by rw[BE]; omega)]
  rw[hA,hB] at e; rw[Int.mul_neg,Int.mul_add]; omega
end
theorem jD {n:Nat} (h:(d8 n).length=1):b6 (d8 n) 0=n:=by
 have hv:=y4 n
 match hd:d8 n,h with
 | [x],_=>rw[hd] at hv; simpa [val,b6] using hv
theorem ag3 {m n:Nat} (h:(d8 n).length=1):d8 (val (d8 m)/b6 (d8 n) 0).toNat=d8 (m/n)/\val (d8 m)%b6 (d8 n) 0=((m%n:Nat):Int):=by
 rw[jD h,y4]
 exact ⟨by congr 1,by rw[Int.natCast_emod]⟩
theorem uF {x y:Int} (hy:y≠0):dl (x%y)<=dl y:=N4 (by have:=Int.emod_nonneg x hy; have:=Int.emod_lt x hy; omega)
theorem pH {x y:Int} (h:q9 x y<0):x<y:=by unfold q9 at h; split at h<;>(try split at h)<;>omega
theorem pI {x y:Int} (h:0<=q9 x y):y<=x:=by unfold q9 at h; split at h<;>(try split at h)<;>omega
theorem mV:∀{xs:List Int},w8 xs->-(10000000000000000000*BP xs.length-10000000000000000000)<=val xs/\val xs<=10000000000000000000*BP xs.length-10000000000000000000
 | [],_=>by simp[val,BP]
 | x::xs,h=>by
  have h1:=h 0 (by simp)
  have ih:=mV (xs:=xs) fun i hi=>h (i+1) (by simpa using hi)
  have e:b6 (x::xs) 0=x:=rfl
  rw[e] at h1
  rw[val,List.length_cons,U8]
  omega
theorem N5 {xs:List Int} (h:w8 xs):dl (val xs)<=xs.length+3:=by
 refine O9 ?_
 have h1:=mV h
 have h2:=U7 xs.length
 rw[U8,U8,U8]
 omega
theorem VT {n:Int} (h:-9223372036854775808<=n/\n<=9223372036854775807):dl n<=3:=O9 (by simp[BP]; omega)
end Go.Fl

/- Contracts: integers of the package field (quotient and rest, what the package offers). -/
namespace Go.Fl
open Go Go.Proofs
open d5 renaming op->tO
open i9 renaming op->rO
set_option maxRecDepth 100000

set_option maxHeartbeats 2000000 in
theorem VP (a b:Int) (hb0:b≠0) (ha:dl a<=800000) (hb:dl b<=800000):Ct Tryz.prog 206 [b8 eW (wh a),b8 eW (wh b)] (z6 [b8 eW (wh (a/b)),b8 eW (wh (a%b))]):=by
 have hal:(d8 a.natAbs).length=dl a:=rfl
 have hbl:(d8 b.natAbs).length=dl b:=rfl
 have hbp:=(DB (z:=b)).2 hb0
 have hlt:a.natAbs%b.natAbs<b.natAbs:=Nat.mod_lt _ zo
 have hql:=N4 (m:=a.natAbs) (n:=a.natAbs/b.natAbs) (Nat.div_le_self _ _)
 have hrl:=N4 (m:=b.natAbs) (n:=a.natAbs%b.natAbs) zo
 have hrz:=JF (n:=a.natAbs%b.natAbs)
 have hdq:dl ((a.natAbs/b.natAbs:Nat):Int)=(d8 (a.natAbs/b.natAbs)).length:=rfl
 have Z1:dl ((a.natAbs%b.natAbs:Nat):Int)=(d8 (a.natAbs%b.natAbs)).length:=rfl
 have hdb:dl (b.natAbs:Int)=dl b:=rfl
 have hd1:=K1 (F:=1) zo zo
 refine Ct.mk Tryz.func206 rfl Tryz.ntmps206 rfl (fun w J=>?_); refine g8 ?_; refine jb 2 rfl ?_; refine jb 3 rfl ?_; refine ja 4 ?_; refine ja 5 ?_; refine g8 ?_; refine Tr.meet2 (σ:=Unit) [⟨2,true,_,_⟩,⟨3,true,_,_⟩,⟨4,true,_,_⟩,⟨5,true,_,_⟩] [⟨2,_,_⟩,⟨3,_,_⟩] (zk) (zk) (fun _=>[]) (fun _=>[⟨4,[],j5 [kB false,b8 (eL eI) (d8 (a.natAbs/b.natAbs))]⟩,⟨5,[],j5 [kB false,b8 (eL eI) (d8 (a.natAbs%b.natAbs))]⟩]) (fun _=>True) ?_ ?_
 ·skip
  refine j3 ?_; refine jc (dS a.natAbs b.natAbs zo zo) ?_; refine g9 ?_; refine Tr.cnd rfl ?_ ?_
  ·intro h2
   try simp only[decide_eq_true_eq] at h2
   have hc:=pH h2
   refine j3 ?_
   exact d9.cut (()) zi (d6.mk (zk) (.conv (fun _ _ _ h=>oP rfl (by rw[Nat.div_eq_of_lt zo]; rfl) h) rfl<|.conv (fun _ _ _ h=>LU rfl (by rw[Nat.mod_eq_of_lt zo]) h) rfl<|zk) rfl)
  ·intro h2
   try simp only[decide_eq_false_iff_not,Int.not_lt] at h2
   have hc:=pI h2
   refine m9 ?_; refine Tr.cnd rfl ?_ ?_
   ·intro h4
    try simp only[decide_eq_true_eq] at h4
    refine l3 ?_; refine Tr.drawS 11 4 o0 (by kernel_rfl) ?_
    have hd0:=(y0 b.natAbs).at (i:=0) zo
    have h1d:=jD (n:=b.natAbs) zo
    refine n8.opA (S9 rfl uu) (by kernel_rfl) rfl rfl ?_; refine n8.opA (E2 rfl uu rfl) (by kernel_rfl) rfl rfl ?_; refine n8.opA (S9 rfl uu) (by kernel_rfl) rfl rfl ?_; refine n8.opA (E2 rfl uu rfl) (by kernel_rfl) rfl rfl ?_
    first | refine n8.opA (F6 rfl uu rfl uu rfl (fun _=>zo)) (by kernel_rfl) rfl rfl ?_ | refine n8.opA (AY rfl uu rfl uu rfl (fun _=>zo)) (by kernel_rfl) rfl rfl ?_
    refine n8.opA (v8 rfl uu rfl) (by kernel_rfl) rfl rfl ?_; refine n8.opA (i6 (fun hp=>dQ (d8 a.natAbs) (b6 (d8 b.natAbs) 0) (y0 _) zo zo) (.a rfl uu<|.a rfl uu<|.nil)) (by kernel_rfl) rfl rfl ?_; refine n8.opA (G7 rfl uu) (by kernel_rfl) rfl rfl ?_; refine n8.opA (FV rfl uu rfl) (by kernel_rfl) rfl rfl ?_; refine n8.op (FV rfl uu rfl) rfl rfl ?_; refine n8.opA (S9 rfl uu) (by kernel_rfl) rfl rfl ?_; refine n8.z (DL rfl rfl rfl) rfl rfl rfl ?_; refine g9 ?_
    have sh:=ag3 (m:=a.natAbs) (n:=b.natAbs) zo
    refine i5 ?_; refine tO (i6 (fun hp=>Q2 _ (by rw[sh.2]; omega)) (.a rfl uu<|.nil)) rfl rfl ?_; refine i7 ?_
    exact d9.cut (()) zi (d6.mk (zk) (.conv (fun _ _ _ h=>LU rfl sh.1 h) rfl<|.conv (fun _ _ _ h=>LU (by rw[sh.2]; exact decide_eq_false zo) (by rw[sh.2]; rfl) h) rfl<|zk) rfl)
   ·intro h4
    try simp only[decide_eq_false_iff_not] at h4
    refine l6 ?_; refine jc (rK a.natAbs b.natAbs zo zo zo) ?_; refine m9 ?_
    exact d9.cut (()) zi (d6.mk (zk) (.conv (fun _ _ _ h=>LU rfl rfl h) rfl<|.conv (fun _ _ _ h=>LU rfl rfl h) rfl<|zk) rfl)
 ·intro _ hM
  refine jn ?_; refine B3 ?_; refine Tr.cnd rfl ?_ ?_
  ·intro h8
   try simp only[decide_eq_true_eq,Bool.and_eq_true] at h8
   have hrp:0<a.natAbs%b.natAbs:=by omega
   obtain ⟨o1,o2⟩:=jG hb0 h8.1 hrp
   refine i5 ?_; refine Tr.draw 2 o0 (by kernel_rfl) ?_; refine i5 ?_; refine jd (Q2 1 zo) ?_; refine i5 ?_; refine tO (i6 (fun hp=>X3 ((a.natAbs/b.natAbs:Nat):Int) 1 zo zo) (.se rfl uu rfl IC<|.a rfl uu<|.nil)) rfl rfl ?_; refine i7 ?_; refine Tr.draw 5 o0 (by kernel_rfl) ?_; refine g8 ?_; refine rO (A1 (fun hp=>.cons rfl rfl rfl<|.nil)) rfl rfl ?_; refine i5 ?_; refine rO (i6 (fun hp=>DX ((a.natAbs%b.natAbs:Nat):Int)) (.se rfl uu rfl IC<|.nil)) rfl rfl ?_; refine i5 ?_; refine tO (i6 (fun hp=>X3 (b.natAbs:Int) (-((a.natAbs%b.natAbs:Nat):Int)) zo (by rw[K6]; omega)) (.se rfl uu rfl IC<|.a rfl uu<|.nil)) rfl rfl ?_
   refine D7 ?_; refine d5.gd rfl rfl rfl (SH rfl id rfl id) rfl rfl ?_; refine l3 ?_; refine Tr.drawS 2 4 o0 (by kernel_rfl) ?_; refine n8.opA (Q9 rfl uu) (by kernel_rfl) rfl rfl ?_; refine n8.op (Q9 rfl uu) rfl rfl ?_; refine n8.z (DL rfl rfl rfl) rfl rfl rfl ?_; refine g9 ?_; exact g6.resC2 (fn:=Tryz.f206) rfl rfl rfl (t7 rfl (nK o1)) (t7 rfl (by rw[o2]; rfl))
  ·intro h8
   try simp only[decide_eq_true_eq,decide_eq_false_iff_not,Bool.and_eq_false_imp,Int.not_lt] at h8
   obtain ⟨o1,o2⟩:=YK hb0 (fun hh=>by have:=h8 hh.1; omega)
   refine B3 ?_; refine d5.gd rfl rfl rfl (SH rfl id rfl id) rfl rfl ?_; refine l3 ?_; refine Tr.drawS 2 4 o0 (by kernel_rfl) ?_; refine n8.opA (Q9 rfl uu) (by kernel_rfl) rfl rfl ?_; refine n8.op (Q9 rfl uu) rfl rfl ?_; refine n8.z (DL rfl rfl rfl) rfl rfl rfl ?_; refine g9 ?_; exact g6.resC2 (fn:=Tryz.f206) rfl rfl rfl (t7 rfl (nK o1)) (t7 rfl (by rw[o2]; exact IC))

theorem cK (a b:Int) (ha:dl a<=800000) (hb:dl b<=800000):Ct Tryz.prog 203 [b8 eW (wh a),b8 eW (wh b)] (kI (q9 a b)):=by
 refine Ct.mk Tryz.func203 rfl Tryz.ntmps203 rfl (fun w J=>?_); refine g8 ?_; refine jb 2 rfl ?_; refine jb 3 rfl ?_; refine g9 ?_; refine Tr.draw 3 o0 (by kernel_rfl) ?_; refine g8 ?_; refine jd (DX b) ?_; refine i5 ?_; refine jc (X3 a (-b) zo (by rw[K6]; omega)) ?_; refine jc (BQ (a+-b)) ?_; refine g9 ?_; exact g6.res1 (fn:=Tryz.f203) rfl (.i rfl (by rw[<- Int.sub_eq_add_neg]; exact pJ)<|.nil)

end Go.Fl

/- Integers: what the contracts of the reference's integers lean on. Plain Lean, no program in sight. -/
namespace Go.Fl
def W0 (xs:List Int) (neg:Bool):List Int:=if neg=true then (j6 xs).map (fun x=>-x) else j6 xs
theorem af0 {xs:List Int} {neg:Bool} (h:neg=true):S6 (j6 xs) (j6 xs).length=W0 xs neg:=by unfold W0; rw[if_pos h,iG]
theorem ae9 {xs:List Int} {neg:Bool} (h:neg=false):j6 xs=W0 xs neg:=by unfold W0; rw[if_neg (by rw[h]; simp)]
theorem mK {xs:List Int} (h:Nm xs):j6 xs=xs:=by
 have h0:=h.dg.val0
 have e:val xs=((val xs).toNat:Nat):=by omega
 rw[DM h.dg e]
 exact (PR h e).symm
theorem ZT:∀{xs:List Int},j6 (xs.map fun x=>-x)=(j6 xs).map fun x=>-x
 | []=>rfl
 | x::xs=>by
  rw[List.map_cons,j6,j6,ZT]
  by_cases h:j6 xs=[]/\x=0
  ·rw[if_pos h,if_pos ⟨by rw[h.1]; rfl,by omega⟩]; rfl
  ·rw[if_neg h,if_neg (fun hh=>h ⟨by simpa using hh.1,by omega⟩)]; rfl
theorem mI (z:Int):j6 (g7 z)=g7 z:=by
 unfold g7
 split
 ·rw[ZT,mK (O8 _)]
 ·exact mK (O8 _)
theorem RA {z:Int} (h:0<=z):g7 z=d8 z.toNat:=by unfold g7; rw[if_neg zo]; congr 1; omega
theorem RB (n:Nat):g7 (n:Int)=d8 n:=RA zo
theorem wZ {z:Int} (h:0<=z):Nm (g7 z):=by rw[RA h]; exact O8 _
theorem XG:∀(xs:List Int),(xs.map fun x=>-x).map (fun x=>-x)=xs
 | []=>rfl
 | x::xs=>by rw[List.map_cons,List.map_cons,XG,Int.neg_neg]
theorem af1 (z:Int):W0 (g7 z) true=g7 (-z):=by
 unfold W0
 rw[if_pos rfl,mI]
 by_cases h:z=0
 ·subst h; rfl
 ·unfold g7
  by_cases h1:z<0
  ·rw[if_pos h1,if_neg zo,XG,Int.natAbs_neg]
  ·rw[if_neg h1,if_pos zo,Int.natAbs_neg]
theorem af2 (z:Int):W0 (g7 z) (decide (z<0))=d8 z.natAbs:=by
 unfold W0
 rw[mI]
 unfold g7
 by_cases h:z<0
 ·rw[if_pos h,if_pos (by simpa using h),XG]
 ·rw[if_neg h,if_neg (by simpa using h)]
theorem XE {z:Int}:(g7 z).length=0↔z=0:=by rw[r8]; exact C5
theorem wX {z:Int} (h:0<(g7 z).length):b6 (g7 z) (((g7 z).length:Int)-1).toNat<0↔z<0:=by
 have e:(((g7 z).length:Int)-1).toNat=(g7 z).length-1:=by omega
 rw[e]
 rw[r8] at h ⊢
 have ht:=(O8 z.natAbs).top (by exact h)
 unfold g7
 by_cases h1:z<0
 ·rw[if_pos h1,HK (show dl z-1<(d8 z.natAbs).length by unfold dl at h ⊢; omega)]
  unfold dl
  omega
 ·rw[if_neg h1]
  unfold dl
  omega
theorem xT {z:Int} (h:0<(g7 z).length->(b6 (g7 z) (((g7 z).length:Int)-1).toNat<0↔z<0)):(decide ((0:Int)<((g7 z).length:Nat))&&decide (b6 (g7 z) (((g7 z).length:Int)-1).toNat<0))=decide (z<0):=by
 by_cases h0:0<(g7 z).length
 ·rw[decide_eq_true (show (0:Int)<((g7 z).length:Nat) by omega),Bool.true_and,decide_eq_decide]
  exact h h0
 ·have:z=0:=XE.1 zo
  subst this
  rfl
theorem yB {xs:List Int} {i:Nat} (hi:xs.length<=i) (h:(r9 xs i).2=0):j6 (r9 xs i).1=g7 (val xs):=by
 have h1:=kK hi h
 have h2:=kF hi h
 have h0:=(AC (xs:=xs) (i:=i)).val0
 rw[RA zo]
 exact DM AC zo
theorem iI {xs ds:List Int} (h:(true,j6 ds)=wh (val xs)):W0 ds true=g7 (val xs):=by
 unfold wh at h
 have h1:true=decide (val xs<0):=congrArg Prod.fst h
 have h2:j6 ds=d8 (val xs).natAbs:=congrArg Prod.snd h
 unfold W0 g7
 rw[if_pos rfl,if_pos (of_decide_eq_true h1.symm),h2]
theorem bS {ds:List Int} {k:Nat} (h:k=ds.length):j8 k (Q0 ds)=F5 ds k:=by
 subst h
 unfold F5
 exact B5 fun j hj=>by rw[if_pos hj]
theorem yA {xs:List Int} {i:Nat} (hi:xs.length<=i) (h:(r9 xs i).2=-1) (hb:bw (r9 xs i).1 i≠0):W0 (j8 i (Q0 (r9 xs i).1)) true=g7 (val xs):=by
 rw[bS Y0.symm]; exact iI (kJ hi h hb)
theorem xZ {xs:List Int} {i:Nat} (hi:xs.length<=i) (h:(r9 xs i).2=-1) (hb:bw (r9 xs i).1 i=0):W0 (j8 i (Q0 (r9 xs i).1)++[1]) true=g7 (val xs):=by
 rw[bS Y0.symm]; exact iI (kH hi h hb)
def GT (xs ys:List Int) (n:Nat):List Int:=j8 n fun i=>B1 xs i+B1 ys i
theorem mY {f g:Nat->Int}:∀{n:Nat},val (j8 n fun i=>f i+g i)=val (j8 n f)+val (j8 n g)
 | 0=>rfl
 | n+1=>by
  rw[H0,H0,H0,Y6,Y6,Y6,mY,p8,p8,p8,Int.mul_add]; omega
theorem aA {xs:List Int}:∀{n:Nat},val (j8 n (B1 xs))=val (xs.take n)
 | 0=>rfl
 | n+1=>by rw[H0,Y6,p8,aA,CM]
theorem nU {xs ys:List Int} {n:Nat} (h1:xs.length<=n) (h2:ys.length<=n):val (GT xs ys n)=val xs+val ys:=by
 unfold GT
 rw[mY,aA,aA,List.take_of_length_le h1,List.take_of_length_le h2]
theorem nT {x y:Int} {n:Nat}:w8 (GT (g7 x) (g7 y) n):=fun i hi=>by
 unfold GT at hi ⊢
 rw[p8] at hi
 rw[r5 hi]
 have b:∀z:Int,∀j,-100000000<B1 (g7 z) j/\B1 (g7 z) j<100000000:=fun z j=>by
  unfold B1
  split
  ·rename_i hj
   rw[r8] at hj
   have:=(y0 z.natAbs).at (i:=j) hj
   unfold g7
   split
   ·rw[HK hj]; omega
   ·omega
  ·omega
 have:=b x i; have:=b y i
 omega
theorem EF {z:Int} {j:Nat} (hj:j<(g7 z).length):-100000000<b6 (g7 z) j/\b6 (g7 z) j<100000000:=by
 rw[r8] at hj
 have:=(y0 z.natAbs).at (i:=j) hj
 unfold g7
 split
 ·rw[HK hj]; omega
 ·omega
theorem hO {x y:Int} (hx:-100000000<x/\x<100000000) (hy:-100000000<y/\y<100000000):-10000000000000000<=x*y/\x*y<=10000000000000000:=by
 have h:(x*y).natAbs<=100000000*100000000:=by rw[Int.natAbs_mul]; exact Nat.mul_le_mul zo zo
 omega
def Q7 (xs ys:List Int) (i k:Nat):List Int:=List.replicate i 0++j8 k fun j=>b6 xs i*b6 ys j
theorem XO {xs ys:List Int} {i k:Nat}:(Q7 xs ys i k).length=i+k:=by unfold Q7; rw[List.length_append,List.length_replicate,p8]
theorem xJ {xs ys:List Int} {i k:Nat}:Q7 xs ys i k++[b6 xs i*b6 ys k]=Q7 xs ys i (k+1):=by unfold Q7; rw[H0,List.append_assoc]
theorem xL {xs ys:List Int} {i:Nat}:List.replicate i 0=Q7 xs ys i 0:=by unfold Q7; simp[j8]
theorem mW {c:Int} {ys:List Int}:∀{k:Nat},k<=ys.length->val (j8 k fun j=>c*b6 ys j)=c*val (ys.take k)
 | 0,_=>by simp[j8,val]
 | k+1,h=>by rw[H0,Y6,p8,mW zo,CM,U6 zo,Int.mul_add,Int.mul_left_comm]
theorem xK {xs ys:List Int} {i:Nat}:val (Q7 xs ys i ys.length)=BP i*(b6 xs i*val ys):=by
 unfold Q7
 rw[LA,TN,List.length_replicate,mW (Nat.le_refl _),List.take_length]; omega
theorem xI {x y:Int} {i k:Nat} (hi:i<(g7 x).length) (hk:k<=(g7 y).length):w8 (Q7 (g7 x) (g7 y) i k):=fun j hj=>by
 rw[XO] at hj
 have hm:b6 (Q7 (g7 x) (g7 y) i k) j∈Q7 (g7 x) (g7 y) i k:=E6 (by rw[XO]; exact hj)
 unfold Q7 at hm
 rcases List.mem_append.1 hm with h | h
 ·have e:=List.eq_of_mem_replicate h
  unfold Q7; omega
 ·obtain ⟨q,hq,e⟩:=BY h
  unfold Q7
  rw[p8] at hq
  rw[r5 hq] at e
  have:=hO (EF hi) (EF (z:=y) (j:=q) zo)
  omega
theorem xN {xs ys:List Int} {i:Nat} (h:i<xs.length):val (xs.take i)*val ys+val (Q7 xs ys i ys.length)=val (xs.take (i+1))*val ys:=by
 rw[xK,CM,U6 h,Int.add_mul,Int.mul_assoc]
theorem wM {a b:List Int} (ha:Nm a) (hb:Nm b) (h:a.length≠b.length):decide ((a.length:Int)<(b.length:Nat))=decide (val a<val b):=by
 rw[decide_eq_decide]
 rcases Nat.lt_or_gt_of_ne h with h1 | h1
 ·have:=PB ha hb h1
  omega
 ·have:=PB hb ha h1
  omega
theorem wL {a b:List Int} (ha:Dg a) (hb:Dg b) (hl:a.length=b.length) {i:Nat} (hi:i<a.length) (h:∀j,i<j->j<a.length->b6 a j=b6 b j) (hne:b6 a i≠b6 b i):decide (b6 a i<b6 b i)=decide (val a<val b):=by
 rw[decide_eq_decide]
 rcases Int.lt_or_gt_of_ne hne with h1 | h1
 ·have:=PA ha hb hl hi h h1
  omega
 ·have:=PA hb ha hl.symm zo (fun j h2 h3=>(h j h2 zo).symm) h1
  omega
theorem wK {a b:List Int} (hl:a.length=b.length) (h:∀j,0<=j->j<a.length->b6 a j=b6 b j):false=decide (val a<val b):=by
 rw[bT hl fun j hj=>h j (Nat.zero_le _) hj]
 exact (decide_eq_false (Int.lt_irrefl _)).symm
theorem uT {r x:Int} (hr:0<=r) (hx:0<=x/\x<100000000):j6 (x::d8 r.toNat)=d8 (r*100000000+x).toNat:=by
 refine DM (fun y hy=>?_) ?_
 ·rcases List.mem_cons.1 hy with rfl | hy
  ·exact hx
  ·exact y0 _ y hy
 ·rw[val,y4]; omega
theorem uN {T n:Int} (_:0<n):(T-n*(T/n))=T%n:=by have:=Int.mul_ediv_add_emod T n; omega
theorem uR {T n m:Int} (hn:0<n) (h:¬T<n*m):m<=T/n:=Int.le_ediv_of_mul_le hn (by rw[Int.mul_comm]; omega)
theorem uQ {T n m:Int} (hn:0<n) (h:T<n*m):T/n<=m-1:=by have:=Int.ediv_lt_of_lt_mul hn (show T<m*n by rw[Int.mul_comm]; exact h); omega
def TX (xs:List Int):Prop:=∀x∈xs,-100000000<x/\x<100000000
theorem Dg.sm {xs:List Int} (h:Dg xs):TX xs:=fun x hx=>by have:=h x hx; omega
theorem gY (z:Int):TX (g7 z):=fun x hx=>by
 obtain ⟨j,hj,rfl⟩:=BY hx
 exact EF hj
theorem OY {ds:List Int} (h:Dg ds) {k:Nat} (hk:k=ds.length):Dg (j8 k (Q0 ds)):=fun x hx=>by
 obtain ⟨j,hj,rfl⟩:=BY hx
 rw[p8] at hj
 rw[r5 hj]; exact US h zo
theorem ae8 {xs:List Int} {neg:Bool} {i:Nat} (hi:i<=(j6 xs).length) (hg:0<i->neg=true) (h:i<(j6 xs).length->neg=false):S6 (j6 xs) i=W0 xs neg:=by
 cases hn:neg with
 | true =>
  have e:i=(j6 xs).length:=by
   rcases Nat.lt_or_ge i (j6 xs).length with h1 | h1
   ·rw[h h1] at hn; cases hn
   ·omega
  rw[e]; exact af0 rfl
 | false =>
  have e:i=0:=by
   rcases Nat.eq_zero_or_pos i with h1 | h1
   ·exact h1
   ·rw[hg h1] at hn; cases hn
  rw[e,<- XV]; exact ae9 rfl
theorem w8.take {xs:List Int} (h:w8 xs) (n:Nat):w8 (xs.take n):=fun j hj=>by
 rw[List.length_take] at hj
 rw[iS zo]; exact h j zo
theorem uS {m n:Nat} {o:List Int} {R:Int} {i:Nat} (h:N2 (d8 m) o (n:Int) (i+1) R) (hi:i<(d8 m).length):0<=R*100000000+b6 (d8 m) i/\0<=(R*100000000+b6 (d8 m) i)/n/\(R*100000000+b6 (d8 m) i)/n<100000000:=by
 have h1:=h.q (y0 m) hi
 have h2:=(y0 m).at hi
 have h3:=h.r0
 exact ⟨by omega,h1.1,h1.2.1⟩
theorem eR {m n:Nat} {o:List Int} {R:Int} (h:N2 (d8 m) o (n:Int) 0 R):j6 o=d8 (m/n)/\d8 R.toNat=d8 (m%n):=by
 have h1:=h.fin
 rw[y4] at h1
 refine ⟨h1.1,?_⟩
 rw[h1.2]
 congr 1
theorem uP {T:Int} {n:Nat} (h:(T/n)<100000000) (hn:0<n) (h0:0<=T):dl T<=dl (n:Int)+1:=by
 refine O9 ?_
 have h1:=JG (n:Int)
 have h2:=Int.lt_mul_of_ediv_lt (show (0:Int)<n by omega) h
 rw[U8]
 have:(T.natAbs:Int)=T:=by omega
 omega
theorem uO {R:Int} {n:Nat} (h:0<=R/\R<n):dl R<=dl (n:Int):=N4 zo
theorem eA {z:Int} (h:0<=z):(d8 z.toNat).length=dl z:=by unfold dl; congr 2; omega
theorem vH {x y:Nat}:Nat.gcd y (x%y)=Nat.gcd x y:=by rw[Nat.gcd_comm,<- Nat.gcd_rec,Nat.gcd_comm]
theorem V7 {x:Int} (h:-9223372036854775808<=x/\x<=9223372036854775807):w8 [x]:=fun j hj=>by
 have e:j=0:=by simpa using hj
 subst e
 exact h
theorem VU {q:Nat}:(g7 (val (g7 (-val (d8 q)))-val [1])).length<=dl (q:Int)+2:=by
 rw[r8,q8,I3,y4,Int.sub_eq_add_neg]
 have h1:=Q3 (-(q:Int)) (-1)
 rw[K6] at h1
 have h2:dl (-1)<=1:=K1 (F:=1) zo zo
 omega
theorem VV {q:Nat}:(g7 (-val (d8 q))).length=dl (q:Int):=by rw[r8,y4,K6]
end Go.Fl

/- Contracts: integers of the reference of chapter 1. -/
namespace Go.Fl
open Go Go.Proofs
open d5 renaming op->tO
open i9 renaming op->rO
set_option maxRecDepth 100000

theorem VL (n:Int) (hn:-9223372036854775808<=n/\n<=9223372036854775807):Ct Tryz.prog 174 [kI n] (z6 [kI (n/100000000),kI (n%100000000)]):=by
 obtain ⟨hq1,hq2,hq3⟩:=NR n
 refine Ct.mk Tryz.func174 rfl Tryz.ntmps174 rfl (fun w J=>?_); refine m9 ?_; refine tO (CC rfl uu rfl uu (fun _=>zo)) rfl rfl ?_; refine i5 ?_; refine tO (EN rfl uu rfl uu (fun _=>zo)) rfl rfl ?_; refine y8 ?_; refine jq ?_ ?_
 ·intro h2
  refine v9 ?_; exact g6.res (fn:=Tryz.f174) (ts:=[2,3]) rfl rfl (.i rfl zo<|.i rfl zo<|.nil)
 ·intro h2
  replace h2:=Int.not_lt.1 h2
  refine y8 ?_; exact g6.res (fn:=Tryz.f174) (ts:=[2,3]) rfl rfl (.i rfl zo<|.i rfl zo<|.nil)

theorem VM (xs:List Int) (hn:xs.length<=10000000):Ct Tryz.prog 175 [b8 (eL eI) xs] (b8 (eL eI) (j6 xs)):=by
 refine Ct.mk Tryz.func175 rfl Tryz.ntmps175 rfl (fun w J=>?_); refine v9 ?_
 refine Tr.for (σ:=Nat) [⟨0,true,_,_⟩] [] (fun m=>[⟨3,true,[],kI (m:Int)⟩]) (fun m=>[]) (fun m=>m<=xs.length/\∀i,m<=i->i<xs.length->b6 xs i=0) (fun m=>m<=xs.length/\j6 xs=xs.take m) (fun m=>m) (xs.length) ⟨by omega,fun i h1 h2=>absurd h1 zo⟩ (d6.mk (.i rfl zi<|zk) (.nil) rfl) ?_ ?_
 ·rintro m ⟨hm,hz⟩
  refine jn ?_
  have e1:0<m->((m:Int)-1).toNat=m-1:=fun h=>by omega
  refine j1 ?_; refine d5.gd rfl rfl rfl (AZ rfl id rfl uu (fun hp=>by simp at hp; omega)) rfl rfl ?_
  first | refine d5.gd rfl rfl rfl (F6 rfl id rfl id rfl (fun hp=>by simp at hp; omega)) rfl rfl ?_ | refine d5.gd rfl rfl rfl (AY rfl id rfl id rfl (fun hp=>by simp at hp; omega)) rfl rfl ?_
  refine l6 ?_; refine Tr.cnd rfl ?_ ?_
  ·intro h2
   try simp only[decide_eq_true_eq,Bool.and_eq_true] at h2
   refine m9 ?_
   exact d9.lp (m-1) ⟨by omega,fun i h3 h4=>by (by_cases e:i=m-1; subst e; rw[<- e1 zo]; exact h2.2; exact hz i zo h4)⟩ zo (d6.mk (.i rfl zi<|zk) (.nil) rfl)
  ·intro h2
   try simp only[decide_eq_true_eq,decide_eq_false_iff_not,Bool.and_eq_false_imp] at h2
   refine g9 ?_
   exact d9.cut (m) ⟨hm,GF hm hz (by by_cases e:m=0; exact .inl e; exact .inr (by rw[<- e1 zo]; exact h2 zo))⟩ (d6.mk (.i rfl zi<|zk) (.nil) rfl)
 ·rintro m ⟨hm,hE⟩
  refine jn ?_
  have htl:=T3 (xs:=xs)
  have hz0:([]:List Int).length=0:=rfl
  have htk:(xs.take m).length=m:=by rw[List.length_take]; omega
  have e2:((m:Nat):Int).toNat=m:=rfl
  refine g8 ?_; refine d5.new (AX eI 18) rfl rfl rfl rfl ?_; refine g8 ?_; refine tO (FY rfl uu rfl uu (fun _=>zo)) rfl rfl ?_; refine d5.app rfl rfl rfl rfl rfl rfl rfl rfl (by rw[e2]; omega) (by rw[e2]; omega) ?_; refine jl ?_; refine i7 ?_; refine Tr.frz 18 [2] ⟨rfl,trivial⟩ (by rw[e2]; simp only[p9]; omega) rfl ?_; refine i5 ?_; exact g6.res1 (fn:=Tryz.f175) rfl (.r rfl (by rw[List.nil_append,hE]; rfl)<|.nil)

theorem sZ (xs:List Int) (hn:xs.length<=10000000):U9 Tryz.prog 175 [b8 (eL eI) xs] (fun t=>o9 t (j6 xs).length) (l5 false 3 eI (j6 xs) (j6 xs).length):=by
 refine U9.mk Tryz.func175 rfl Tryz.ntmps175 rfl (fun w J=>?_); refine v9 ?_
 refine Tr.for (σ:=Nat) [⟨0,true,_,_⟩] [] (fun m=>[⟨3,true,[],kI (m:Int)⟩]) (fun m=>[]) (fun m=>m<=xs.length/\∀i,m<=i->i<xs.length->b6 xs i=0) (fun m=>m<=xs.length/\j6 xs=xs.take m) (fun m=>m) (xs.length) ⟨by omega,fun i h1 h2=>absurd h1 zo⟩ (d6.mk (.i rfl zi<|zk) (.nil) rfl) ?_ ?_
 ·rintro m ⟨hm,hz⟩
  refine jn ?_
  have e1:0<m->((m:Int)-1).toNat=m-1:=fun h=>by omega
  refine j1 ?_; refine d5.gd rfl rfl rfl (AZ rfl id rfl uu (fun hp=>by simp at hp; omega)) rfl rfl ?_
  first | refine d5.gd rfl rfl rfl (F6 rfl id rfl id rfl (fun hp=>by simp at hp; omega)) rfl rfl ?_ | refine d5.gd rfl rfl rfl (AY rfl id rfl id rfl (fun hp=>by simp at hp; omega)) rfl rfl ?_
  refine l6 ?_; refine Tr.cnd rfl ?_ ?_
  ·intro h2
   try simp only[decide_eq_true_eq,Bool.and_eq_true] at h2
   refine m9 ?_
   exact d9.lp (m-1) ⟨by omega,fun i h3 h4=>by (by_cases e:i=m-1; subst e; rw[<- e1 zo]; exact h2.2; exact hz i zo h4)⟩ zo (d6.mk (.i rfl zi<|zk) (.nil) rfl)
  ·intro h2
   try simp only[decide_eq_true_eq,decide_eq_false_iff_not,Bool.and_eq_false_imp] at h2
   refine g9 ?_
   exact d9.cut (m) ⟨hm,GF hm hz (by by_cases e:m=0; exact .inl e; exact .inr (by rw[<- e1 zo]; exact h2 zo))⟩ (d6.mk (.i rfl zi<|zk) (.nil) rfl)
 ·rintro m ⟨hm,hE⟩
  refine jn ?_
  have htl:=T3 (xs:=xs)
  have hz0:([]:List Int).length=0:=rfl
  have htk:(xs.take m).length=m:=by rw[List.length_take]; omega
  have e2:((m:Nat):Int).toNat=m:=rfl
  refine g8 ?_; refine d5.new (AX eI 18) rfl rfl rfl rfl ?_; refine g8 ?_; refine tO (FY rfl uu rfl uu (fun _=>zo)) rfl rfl ?_; refine d5.app rfl rfl rfl rfl rfl rfl rfl rfl (by rw[e2]; omega) (by rw[e2]; omega) ?_; refine jl ?_; refine g9 ?_; exact g6.resN (fn:=Tryz.f175) (u:=18) rfl rfl (GY (by rw[List.nil_append,hE]; rfl) (by rw[hE,e2]; omega)) (HO (by rw[hE,e2]; omega)) inferInstance

theorem PM (xs:List Int) (neg:Bool) (hn:xs.length<=10000000) (hx:TX xs):Ct Tryz.prog 176 [b8 (eL eI) xs,kB neg] (b8 (eL eI) (W0 xs neg)):=by
 have htl:=T3 (xs:=xs)
 refine Ct.mk Tryz.func176 rfl Tryz.ntmps176 rfl (fun w J=>?_); refine j1 ?_; refine d5.new (EJ 8 (fun hp=>sZ _ zo) (.a rfl uu<|.nil)) rfl rfl rfl rfl ?_; refine m9 ?_
 refine Tr.for1 (σ:=Nat) [⟨1,true,_,_⟩,⟨5,true,_,_⟩] [] (fun i=>[⟨6,true,[],kI (i:Int)⟩]) (fun i=>[⟨8,[],l5 false 3 eI (S6 (j6 xs) i) (j6 xs).length⟩]) (fun i=>i<=(j6 xs).length/\(0<i->neg=true)) (fun i=>i<=(j6 xs).length/\S6 (j6 xs) i=W0 xs neg) (fun i=>(j6 xs).length-i) (0) ⟨by omega,fun h=>absurd h zo⟩ (d6.mk (.i rfl zi<|zk) (.a XV zi<|.nil) rfl) ?_ ?_
 ·rintro i ⟨hi,hg⟩
  refine jn ?_
  have hat:=fun (h:i<(j6 xs).length)=>XU (ds:=j6 xs) (k:=i) h
  have hxi:=fun (h:i<(j6 xs).length)=>hx _ (TJ (E6 h))
  refine l6 ?_; refine tO (U1 rfl uu) rfl rfl ?_; refine l3 ?_; refine Tr.cnd rfl ?_ ?_
  ·intro h3
   try simp only[decide_eq_true_eq,Bool.and_eq_true] at h3
   refine y8 ?_; refine tO (EM rfl uu (fun _=>zo)) rfl rfl ?_; refine u5 ?_
   exact d9.lp (i+1) ⟨by omega,fun _=>h3.2⟩ zo (d6.mk (.i rfl zi<|zk) (.a (iH zo) zi<|.nil) rfl)
  ·intro h3
   try simp only[decide_eq_true_eq,Bool.and_eq_false_imp] at h3
   refine g9 ?_
   exact d9.cut (i) ⟨hi,ae8 hi hg (fun hh=>h3 zo)⟩ (d6.mk (.i rfl zi<|zk) (.a zi zi<|.nil) rfl)
 ·rintro i ⟨hi,hE⟩
  refine je ?_; refine j3 ?_; refine Tr.frz 8 [4] ⟨rfl,trivial⟩ (by simp only[p9]; omega) rfl ?_; refine i5 ?_; exact g6.res1 (fn:=Tryz.f176) rfl (.r rfl hE<|.nil)

set_option maxHeartbeats 1000000 in
theorem Y9 (xs:List Int) (hx:w8 xs) (hn:xs.length<=1000000):Ct Tryz.prog 128 [b8 (eL eI) xs] (b8 (eL eI) (g7 (val xs))):=by
 have h1l:([1]:List Int).length=1:=rfl
 refine Ct.mk Tryz.func128 rfl Tryz.ntmps128 rfl (fun w J=>?_); refine WT ?_; refine Tr.grow (s:=3) rfl rfl 3 rfl 3 eI rfl ?_
 refine Tr.for1 (σ:=Nat) [⟨0,true,_,_⟩] [] (fun i=>[⟨5,true,[],kI (i:Int)⟩,⟨3,true,[3],o9 3 i⟩,⟨4,true,[],kI (r9 xs i).2⟩]) (fun i=>[⟨3,[],l5 true 3 eI (r9 xs i).1 i⟩]) (fun i=>i<=xs.length) (fun i=>i=xs.length) (fun i=>xs.length-i) (0) (Nat.zero_le _) (d6.mk (.i rfl zi<|.o rfl zi rfl<|.i rfl zi<|zk) (.a zi zi<|.nil) rfl) ?_ ?_
 ·intro i hR0
  refine jn ?_
  have hc1:=NI hx (i:=i)
  have hxx:=hx i
  have hs:=kG (xs:=xs) (i:=i)
  have hxi:=fun (h:i<xs.length)=>U6 h
  refine m9 ?_; refine jq ?_ ?_
  ·intro h4
   refine u5 ?_; refine tO (i6 (fun hp=>VL _ (by have:=hxx zo; omega)) (.a rfl uu<|.nil)) rfl rfl ?_; refine v9 ?_; refine tO (i6 (fun hp=>VL _ zo) (.a rfl uu<|.nil)) rfl rfl ?_; refine y8 ?_; refine d5.new (y7 eI 39 (fun hp=>.cons rfl<|.nil) rfl rfl rfl rfl) rfl rfl rfl rfl ?_; refine i5 ?_; refine jl ?_; refine Z2 ?_
   exact d9.lp (i+1) zi zo (d6.mk (.i rfl zi<|.o rfl zi rfl<|.i rfl (by rw[<- hs.1,hxi zo])<|zk) (.a (by rw[r9,<- hs.2,hxi zo]) zi<|.nil) rfl)
  ·intro h4
   replace h4:=Int.not_lt.1 h4
   refine g9 ?_
   exact d9.cut (i) zo (d6.mk (.i rfl zi<|.o rfl zi rfl<|.i rfl zi<|zk) (.a zi zi<|.nil) rfl)
 ·rintro _ rfl
  refine je ?_; refine i5 ?_
  refine Tr.for (σ:=Nat) [] [] (fun i=>[⟨3,true,[3],o9 3 i⟩,⟨4,true,[],kI (r9 xs i).2⟩]) (fun i=>[⟨3,[],l5 true 3 eI (r9 xs i).1 i⟩]) (fun i=>xs.length<=i/\(i=xs.length\/(i=xs.length+1/\(r9 xs i).2.natAbs<=2000)\/(i=xs.length+2/\((r9 xs i).2=0\/(r9 xs i).2=-1)))) (fun i=>xs.length<=i/\((r9 xs i).2=0\/(r9 xs i).2=-1)/\i<=xs.length+2) (fun i=>xs.length+2-i) (xs.length) ⟨zo,zo⟩ (d6.mk (.o rfl zi rfl<|.i rfl zi<|.nil) (.a zi zi<|.nil) rfl) ?_ ?_
  ·rintro i ⟨hi,hm⟩
   refine jn ?_
   have hc1:=NI hx (i:=i)
   have hxo:=ID (xs:=xs) (i:=i) zo
   have hs2:(r9 xs (i+1)).2=(B1 xs i+(r9 xs i).2)/100000000:=rfl
   rw[hxo,Int.zero_add] at hs2
   have hrl:(r9 xs i).1.length=i:=Y0
   refine y8 ?_; refine Tr.cnd rfl ?_ ?_
   ·intro h10
    try simp only[decide_eq_true_eq,Bool.and_eq_true,ne_eq] at h10
    refine l3 ?_; refine tO (i6 (fun hp=>VL _ zo) (.a rfl uu<|.nil)) rfl rfl ?_; refine y8 ?_; refine d5.new (y7 eI 57 (fun hp=>.cons rfl<|.nil) rfl rfl rfl rfl) rfl rfl rfl rfl ?_; refine i5 ?_; refine jl ?_; refine j1 ?_
    exact d9.lp (i+1) ⟨zo,zo⟩ zo (d6.mk (.o rfl zi rfl<|.i rfl hs2.symm<|.nil) (.a (by rw[r9,hxo,Int.zero_add]) zi<|.nil) rfl)
   ·intro h10
    try simp only[decide_eq_true_eq,decide_eq_false_iff_not,Bool.and_eq_false_imp,ne_eq,Classical.not_not] at h10
    refine g9 ?_
    exact d9.cut (i) ⟨hi,by omega,by omega⟩ (d6.mk (.o rfl zi rfl<|.i rfl zi<|.nil) (.a zi zi<|.nil) rfl)
  ·rintro i ⟨hi,hc,hb⟩
   refine jn ?_
   have hrl:(r9 xs i).1.length=i:=Y0
   refine j3 ?_; refine jq ?_ ?_
   ·intro h14
    refine i7 ?_; refine d5.frz 3 [3,62] ⟨rfl,rfl,trivial⟩ (by simp only[p9]; omega) rfl ?_; refine jl ?_; refine tO (i6 (fun hp=>VM _ zo) (.a rfl uu<|.nil)) rfl rfl ?_; refine l6 ?_; exact g6.res1 (fn:=Tryz.f128) rfl (.r rfl (yB hi h14)<|.nil)
   ·intro h14
    refine FP ?_; refine Tr.grow (s:=12) rfl rfl 12 rfl 3 eI rfl ?_
    refine Tr.for1 (σ:=Nat) [⟨3,true,_,_⟩] [⟨3,_,_⟩] (fun k=>[⟨14,true,[],kI (k:Int)⟩,⟨12,true,[12],o9 12 k⟩,⟨13,true,[],kI (bw (r9 xs i).1 k)⟩]) (fun k=>[⟨12,[],l5 true 3 eI (j8 k (Q0 (r9 xs i).1)) k⟩]) (fun k=>k<=i) (fun k=>k=i) (fun k=>i-k) (0) (Nat.zero_le _) (d6.mk (.i rfl zi<|.o rfl zi rfl<|.i rfl zi<|zk) (.a zi zi<|zk) rfl) ?_ ?_
    ·intro k hR2
     refine jn ?_
     have hl:(r9 xs i).1.length=i:=Y0
     have hd:=fun (h:k<i)=>(AC (xs:=xs) (i:=i)).at (i:=k) zo
     have hb01:=LT (ds:=(r9 xs i).1) (k:=k)
     have hbs:=UK (ds:=(r9 xs i).1) (k:=k)
     refine l6 ?_; refine tO (U1 rfl uu) rfl rfl ?_; refine i7 ?_; refine jq ?_ ?_
     ·intro h19
      refine u5 ?_; refine tO (EM rfl uu (fun _=>zo)) rfl rfl ?_; refine P1 ?_; refine jq ?_ ?_
      ·intro h23
       refine u5 ?_; refine d5.new (y7 eI 83 (fun hp=>.cons rfl<|.nil) rfl rfl rfl rfl) rfl rfl rfl rfl ?_; refine i5 ?_; refine jl ?_; refine m9 ?_
       exact d9.lp (k+1) zi zo (d6.mk (.i rfl zi<|.o rfl zi rfl<|.i rfl (by rw[hbs,if_pos h23])<|zk) (.a (by rw[H0]; congr 2; unfold Q0; rw[if_pos h23]) zi<|zk) rfl)
      ·intro h23
       replace h23:=Int.not_lt.1 h23
       refine l6 ?_; refine d5.new (y7 eI 83 (fun hp=>.cons rfl<|.nil) rfl rfl rfl rfl) rfl rfl rfl rfl ?_; refine i5 ?_; refine jl ?_; refine m9 ?_
       exact d9.lp (k+1) zi zo (d6.mk (.i rfl zi<|.o rfl zi rfl<|.i rfl (by rw[hbs,if_neg zo])<|zk) (.a (by rw[H0]; congr 2; unfold Q0; rw[if_neg zo]) zi<|zk) rfl)
     ·intro h19
      replace h19:=Int.not_lt.1 h19
      refine g9 ?_
      exact d9.cut (k) zo (d6.mk (.i rfl zi<|.o rfl zi rfl<|.i rfl zi<|zk) (.a zi zi<|zk) rfl)
    ·rintro _ rfl
     refine je ?_; refine j1 ?_; refine jq ?_ ?_
     ·intro h26
      refine g8 ?_; refine d5.new (y7 eI 88 (fun hp=>.cons rfl<|.nil) rfl rfl rfl rfl) rfl rfl rfl rfl ?_; refine i5 ?_; refine jl ?_; refine l3 ?_; refine d5.frz 12 [12,89,90] ⟨rfl,rfl,rfl,trivial⟩ (by simp only[p9]; omega) rfl ?_; refine jl ?_
      refine tO (i6 (fun hp=>PM _ true (by first | (rw[p8]; omega) | (rw[List.length_append,p8]; omega)) (by first | exact (OY AC Y0.symm).sm | exact ((OY AC Y0.symm).snoc zo zo).sm)) (.a rfl uu<|.a rfl uu<|.nil)) rfl rfl ?_
      refine g9 ?_; exact g6.res1 (fn:=Tryz.f128) rfl (.r rfl (xZ hi zo zo)<|.nil)
     ·intro h26
      refine l6 ?_; refine d5.frz 12 [12,90] ⟨rfl,rfl,trivial⟩ (by simp only[p9]; omega) rfl ?_; refine jl ?_
      refine tO (i6 (fun hp=>PM _ true (by first | (rw[p8]; omega) | (rw[List.length_append,p8]; omega)) (by first | exact (OY AC Y0.symm).sm | exact ((OY AC Y0.symm).snoc zo zo).sm)) (.a rfl uu<|.a rfl uu<|.nil)) rfl rfl ?_
      refine g9 ?_; exact g6.res1 (fn:=Tryz.f128) rfl (.r rfl (yA hi zo zo)<|.nil)

end Go.Fl

/- Contracts: integers of the reference of chapter 1 (signs, sums, products). -/
namespace Go.Fl
open Go Go.Proofs
open d5 renaming op->tO
open i9 renaming op->rO
set_option maxRecDepth 100000

theorem JB (z:Int):Ct Tryz.prog 129 [b8 (eL eI) (g7 z)] (kB (decide (z<0))):=by
 refine Ct.mk Tryz.func129 rfl Tryz.ntmps129 rfl (fun w J=>?_); refine Tr.fact (s:=0) rfl (fun _ _ h=>S4 h) (fun hb=>?_); refine D7 ?_; refine d5.gd rfl rfl rfl (AZ rfl id rfl uu (fun hp=>by simp at hp; omega)) rfl rfl ?_
 first | refine d5.gd rfl rfl rfl (F6 rfl id rfl id rfl (fun hp=>by simp at hp; omega)) rfl rfl ?_ | refine d5.gd rfl rfl rfl (AY rfl id rfl id rfl (fun hp=>by simp at hp; omega)) rfl rfl ?_
 refine j3 ?_; exact g6.res1 (fn:=Tryz.f129) rfl (.b rfl (xT fun h=>wX h)<|.nil)

theorem MC (z:Int) (hn:dl z<=10000000):Ct Tryz.prog 178 [b8 (eL eI) (g7 z)] (b8 (eL eI) (d8 z.natAbs)):=by
 refine Ct.mk Tryz.func178 rfl Tryz.ntmps178 rfl (fun w J=>?_); refine m9 ?_; refine tO (i6 (fun hp=>JB _) (.a rfl uu<|.nil)) rfl rfl ?_; refine tO (i6 (fun hp=>PM _ _ (by rw[r8]; exact hn) (gY z)) (.a rfl uu<|.a rfl uu<|.nil)) rfl rfl ?_; refine g9 ?_; exact g6.res1 (fn:=Tryz.f178) rfl (.r rfl (af2 z)<|.nil)

theorem tE (a b:List Int) (ha:Nm a) (hb:Nm b) (hm:a.length<=10000000) (_:b.length<=10000000):Ct Tryz.prog 198 [b8 (eL eI) a,b8 (eL eI) b] (kB (decide (val a<val b))):=by
 refine Ct.mk Tryz.func198 rfl Tryz.ntmps198 rfl (fun w J=>?_); refine K3 ?_; refine jq ?_ ?_
 ·intro h1
  refine v9 ?_; exact g6.res1 (fn:=Tryz.f198) rfl (.b rfl (wM ha hb zo)<|.nil)
 ·intro h1
  replace h1:=Classical.not_not.1 h1
  refine y8 ?_
  refine Tr.for1 (σ:=Nat) [⟨0,true,_,_⟩,⟨1,true,_,_⟩] [] (fun i=>[⟨5,true,[],kI ((i:Int)-1)⟩]) (fun i=>[]) (fun i=>i<=a.length/\∀j,i<=j->j<a.length->b6 a j=b6 b j) (fun i=>i=0/\∀j,i<=j->j<a.length->b6 a j=b6 b j) (fun i=>i) (a.length) ⟨by omega,fun j h1 h2=>absurd h1 zo⟩ (d6.mk (.i rfl zi<|zk) (.nil) rfl) ?_ ?_
  ·rintro i ⟨hi,hR⟩
   refine jn ?_
   have e1:((i:Int)-1).toNat=i-1:=by omega
   refine j3 ?_; refine jq ?_ ?_
   ·intro h4
    refine l6 ?_; refine Tr.draw 8 o0 (by kernel_rfl) ?_; refine v9 ?_; refine jq ?_ ?_
    ·intro h6
     refine i5 ?_; refine Tr.draw 8 o0 (by kernel_rfl) ?_; refine JP ?_; exact g6.res1 (fn:=Tryz.f198) rfl (.b rfl (by rw[e1]; exact wL ha.dg hb.dg zo zo (fun j h1 h2=>hR j zo h2) (by rw[<- e1]; exact h6))<|.nil)
    ·intro h6
     replace h6:=Classical.not_not.1 h6
     refine j1 ?_
     exact d9.lp (i-1) ⟨by omega,fun j h1 h2=>by (by_cases e:j=i-1; subst e; rw[<- e1]; exact h6; exact hR j zo h2)⟩ zo (d6.mk (.i rfl zi<|zk) (.nil) rfl)
   ·intro h4
    replace h4:=Int.not_le.1 h4
    refine g9 ?_
    exact d9.cut (i) ⟨by omega,hR⟩ (d6.mk (.i rfl zi<|zk) (.nil) rfl)
  ·rintro i ⟨hi,hR⟩
   refine je ?_; refine j3 ?_; exact g6.res1 (fn:=Tryz.f198) rfl (.b rfl (by subst hi; exact wK zo hR)<|.nil)

set_option maxHeartbeats 1000000 in
theorem DW (xs ys:List Int) (hx:w8 xs) (hy:w8 ys) (hn:xs.length<=900000) (hm:ys.length<=900000):Ct Tryz.prog 122 [b8 (eL eI) xs,b8 (eL eI) ys] (b8 (eL eI) (g7 (val xs+val ys))):=by
 have hdx:=N5 hx
 have hdy:=N5 hy
 have hlx:=r8 (val xs)
 have hly:=r8 (val ys)
 refine Ct.mk Tryz.func122 rfl Tryz.ntmps122 rfl (fun w J=>?_); refine j1 ?_; refine tO (i6 (fun hp=>Y9 _ (by assumption) zo) (.a rfl uu<|.nil)) rfl rfl ?_; refine i5 ?_; refine tO (i6 (fun hp=>Y9 _ (by assumption) zo) (.a rfl uu<|.nil)) rfl rfl ?_; refine K3 ?_; refine Tr.grow (s:=5) rfl rfl 5 rfl 3 eI rfl ?_
 refine Tr.for1 (σ:=Nat) [⟨0,true,_,_⟩,⟨1,true,_,_⟩] [] (fun i=>[⟨5,true,[5],o9 5 i⟩,⟨6,true,[],kI (i:Int)⟩]) (fun i=>[⟨5,[],l5 true 3 eI (GT (g7 (val xs)) (g7 (val ys)) i) i⟩]) (fun i=>i<=max (g7 (val xs)).length (g7 (val ys)).length) (fun i=>i=max (g7 (val xs)).length (g7 (val ys)).length) (fun i=>max (g7 (val xs)).length (g7 (val ys)).length-i) (0) zo (d6.mk (.o rfl zi rfl<|.i rfl zi<|zk) (.a zi zi<|.nil) rfl) ?_ ?_
 ·intro i hR0
  refine jn ?_
  have hbx:=fun (h:i<(g7 (val xs)).length)=>EF h
  have hby:=fun (h:i<(g7 (val ys)).length)=>EF h
  have hxi:=fun (h:i<(g7 (val xs)).length)=>U6 h
  have hyi:=fun (h:i<(g7 (val ys)).length)=>U6 h
  have hxo:=fun (h:¬i<(g7 (val xs)).length)=>ID h
  have hyo:=fun (h:¬i<(g7 (val ys)).length)=>ID h
  refine K3 ?_; refine Tr.cnd rfl ?_ ?_
  ·intro h4
   try simp only[decide_eq_true_eq,Bool.or_eq_true] at h4
   refine m9 ?_; refine Tr.meet2 (σ:=Unit) [⟨0,true,_,_⟩,⟨1,true,_,_⟩,⟨5,true,_,_⟩,⟨6,true,_,_⟩] [⟨5,_,_⟩] (zk) (zk) (fun _=>[⟨7,true,[],kI (B1 (g7 (val xs)) i)⟩]) (fun _=>[]) (fun _=>True) ?_ ?_
   ·skip
    refine j1 ?_; refine jq ?_ ?_
    ·intro h7
     refine j3 ?_
     exact d9.cut (()) zi (d6.mk (.i rfl (hxi zo).symm<|zk) (zk) rfl)
    ·intro h7
     replace h7:=Int.not_lt.1 h7
     refine i5 ?_
     exact d9.cut (()) zi (d6.mk (.i rfl (hxo zo).symm<|zk) (zk) rfl)
   ·intro _ hM
    refine jn ?_; refine Tr.meet2 (σ:=Unit) [⟨0,true,_,_⟩,⟨1,true,_,_⟩,⟨5,true,_,_⟩,⟨6,true,_,_⟩] [⟨5,_,_⟩] (zk) (zk) (fun _=>[⟨7,true,[],kI (B1 (g7 (val xs)) i+B1 (g7 (val ys)) i)⟩]) (fun _=>[]) (fun _=>True) ?_ ?_
    ·skip
     refine j1 ?_; refine jq ?_ ?_
     ·intro h9
      refine i5 ?_
      have hxb:-100000000<B1 (g7 (val xs)) i/\B1 (g7 (val xs)) i<100000000:=by (by_cases hh:i<(g7 (val xs)).length; rw[hxi hh]; exact hbx hh; rw[hxo hh]; omega)
      refine j1 ?_
      exact d9.cut (()) zi (d6.mk (.i rfl (by rw[hyi zo])<|zk) (zk) rfl)
     ·intro h9
      replace h9:=Int.not_lt.1 h9
      refine i5 ?_
      exact d9.cut (()) zi (d6.mk (.i rfl (by rw[hyo zo,Int.add_zero])<|zk) (zk) rfl)
    ·intro _ hM
     refine jn ?_; refine i7 ?_; refine d5.new (y7 eI 44 (fun hp=>.cons rfl<|.nil) rfl rfl rfl rfl) rfl rfl rfl rfl ?_; refine i5 ?_; refine jl ?_; refine m9 ?_
     exact d9.lp (i+1) zo zo (d6.mk (.o rfl zi rfl<|.i rfl zi<|zk) (.a (by unfold GT; rw[H0]) zi<|.nil) rfl)
  ·intro h4
   try simp only[decide_eq_false_iff_not,Bool.or_eq_false_iff,Int.not_lt] at h4
   refine g9 ?_
   exact d9.cut (i) zo (d6.mk (.o rfl zi rfl<|.i rfl zi<|zk) (.a zi zi<|.nil) rfl)
 ·rintro _ rfl
  refine je ?_
  have hxl:=Nat.le_max_left (g7 (val xs)).length (g7 (val ys)).length
  have hyl:=Nat.le_max_right (g7 (val xs)).length (g7 (val ys)).length
  have hal:(GT (g7 (val xs)) (g7 (val ys)) (max (g7 (val xs)).length (g7 (val ys)).length)).length=max (g7 (val xs)).length (g7 (val ys)).length:=p8
  refine g9 ?_; refine d5.frz 5 [5,46] ⟨rfl,rfl,trivial⟩ (by simp only[p9]; omega) rfl ?_; refine jl ?_; refine tO (i6 (fun hp=>Y9 _ nT zo) (.a rfl uu<|.nil)) rfl rfl ?_; refine g9 ?_; exact g6.res1 (fn:=Tryz.f122) rfl (.r rfl (by rw[nU hxl hyl,q8,q8])<|.nil)

theorem FI (xs:List Int) (hx:w8 xs) (hn:xs.length<=1000000):Ct Tryz.prog 136 [b8 (eL eI) xs] (b8 (eL eI) (g7 (-val xs))):=by
 have hdx:=N5 hx
 refine Ct.mk Tryz.func136 rfl Tryz.ntmps136 rfl (fun w J=>?_); refine j1 ?_; refine tO (i6 (fun hp=>Y9 _ (by assumption) zo) (.a rfl uu<|.nil)) rfl rfl ?_; refine tO (i6 (fun hp=>PM _ true (by rw[r8]; omega) (gY _)) (.a rfl uu<|.a rfl uu<|.nil)) rfl rfl ?_; refine g9 ?_; exact g6.res1 (fn:=Tryz.f136) rfl (.r rfl (af1 _)<|.nil)

theorem LY (xs ys:List Int) (hx:w8 xs) (hy:w8 ys) (hn:xs.length<=800000) (hm:ys.length<=800000):Ct Tryz.prog 145 [b8 (eL eI) xs,b8 (eL eI) ys] (b8 (eL eI) (g7 (val xs-val ys))):=by
 have hdx:=N5 hx
 have hdy:=N5 hy
 have hlx:=r8 (val xs)
 have hly:=r8 (val ys)
 refine Ct.mk Tryz.func145 rfl Tryz.ntmps145 rfl (fun w J=>?_); refine m9 ?_; refine tO (i6 (fun hp=>FI _ (by assumption) zo) (.a rfl uu<|.nil)) rfl rfl ?_; refine tO (i6 (fun hp=>DW xs (g7 (-val ys)) (by assumption) (u7 _) zo (by rw[r8,K6]; omega)) (.a rfl uu<|.a rfl uu<|.nil)) rfl rfl ?_; refine g9 ?_; exact g6.res1 (fn:=Tryz.f145) rfl (.r rfl (by rw[q8,Int.sub_eq_add_neg])<|.nil)

set_option maxHeartbeats 1000000 in
theorem I7 (xs ys:List Int) (hx:w8 xs) (hy:w8 ys) (hn:xs.length<=400000) (hm:ys.length<=400000):Ct Tryz.prog 123 [b8 (eL eI) xs,b8 (eL eI) ys] (b8 (eL eI) (g7 (val xs*val ys))):=by
 have hdx:=N5 hx
 have hdy:=N5 hy
 have hlx:=r8 (val xs)
 have hly:=r8 (val ys)
 refine Ct.mk Tryz.func123 rfl Tryz.ntmps123 rfl (fun w J=>?_); refine j1 ?_; refine tO (i6 (fun hp=>Y9 _ (by assumption) zo) (.a rfl uu<|.nil)) rfl rfl ?_; refine i5 ?_; refine tO (i6 (fun hp=>Y9 _ (by assumption) zo) (.a rfl uu<|.nil)) rfl rfl ?_; refine K3 ?_
 refine Tr.for1 (σ:=Nat) [⟨0,true,_,_⟩,⟨1,true,_,_⟩] [] (fun i=>[⟨6,true,[],kI (i:Int)⟩,⟨5,true,[],b8 (eL eI) (g7 (val ((g7 (val xs)).take i)*val (g7 (val ys))))⟩]) (fun i=>[]) (fun i=>i<=(g7 (val xs)).length) (fun i=>i=(g7 (val xs)).length) (fun i=>(g7 (val xs)).length-i) (0) (Nat.zero_le _) (d6.mk (.i rfl zi<|.n rfl (by simp[val,xB])<|zk) (.nil) rfl) ?_ ?_
 ·intro i hR0
  refine jn ?_
  have hbx:=fun (h:i<(g7 (val xs)).length)=>EF h
  have hdo:=s7 (val ((g7 (val xs)).take i)) (val (g7 (val ys)))
  have hdt:=N5 ((u7 (val xs)).take i)
  have htl:((g7 (val xs)).take i).length<=i:=by rw[List.length_take]; omega
  have hdv:dl (val (g7 (val ys)))=dl (val ys):=by rw[q8]
  refine m9 ?_; refine jq ?_ ?_
  ·intro h4
   refine j3 ?_; refine d5.new (FX eI 20 rfl uu rfl uu rfl rfl rfl (fun _=>zo)) rfl rfl rfl rfl ?_; refine m9 ?_
   refine Tr.for1 (σ:=Nat) [⟨0,true,_,_⟩,⟨1,true,_,_⟩,⟨5,true,_,_⟩,⟨6,true,_,_⟩] [] (fun k=>[⟨8,true,[],kI (k:Int)⟩,⟨7,true,[20],o9 20 (i+k)⟩]) (fun k=>[⟨20,[],l5 false 3 eI (Q7 (g7 (val xs)) (g7 (val ys)) i k) (i+k)⟩]) (fun k=>k<=(g7 (val ys)).length) (fun k=>k=(g7 (val ys)).length) (fun k=>(g7 (val ys)).length-k) (0) (Nat.zero_le _) (d6.mk (.i rfl zi<|.o rfl zi rfl<|zk) (.a xL zi<|.nil) rfl) ?_ ?_
   ·intro k hR1
    refine jn ?_
    have hby:=fun (h:k<(g7 (val ys)).length)=>EF h
    have hb:=fun (h:i<(g7 (val xs)).length) (h2:k<(g7 (val ys)).length)=>hO (EF h) (EF h2)
    refine m9 ?_; refine jq ?_ ?_
    ·intro h8
     refine g9 ?_; refine Tr.draw 11 o0 (by kernel_rfl) ?_
     have hbb:=hb zo zo
     refine u5 ?_; refine i9.new (y7 eI 37 (fun hp=>.cons rfl<|.nil) rfl rfl rfl rfl) rfl rfl rfl rfl ?_; refine g8 ?_; refine jl ?_; refine m9 ?_
     exact d9.lp (k+1) zi zo (d6.mk (.i rfl zi<|.o rfl zi rfl<|zk) (.a xJ zi<|.nil) rfl)
    ·intro h8
     replace h8:=Int.not_lt.1 h8
     refine g9 ?_
     exact d9.cut (k) zo (d6.mk (.i rfl zi<|.o rfl zi rfl<|zk) (.a zi zi<|.nil) rfl)
   ·rintro _ rfl
    refine je ?_
    have hrl:=XO (xs:=(g7 (val xs))) (ys:=(g7 (val ys))) (i:=i) (k:=(g7 (val ys)).length)
    refine g9 ?_; refine d5.frz 20 [7,40] ⟨rfl,rfl,trivial⟩ (by simp only[p9]; omega) rfl ?_; refine jl ?_; refine tO (i6 (fun hp=>DW _ (Q7 (g7 (val xs)) (g7 (val ys)) i (g7 (val ys)).length) (u7 _) (xI zo (Nat.le_refl _)) (by rw[r8]; omega) (by rw[hrl]; omega)) (.a rfl uu<|.a rfl uu<|.nil)) rfl rfl ?_; refine m9 ?_
    exact d9.lp (i+1) zi zo (d6.mk (.i rfl zi<|.r rfl (by rw[q8,xN zo])<|zk) (.nil) rfl)
  ·intro h4
   replace h4:=Int.not_lt.1 h4
   refine g9 ?_
   exact d9.cut (i) zo (d6.mk (.i rfl zi<|.r rfl zi<|zk) (.nil) rfl)
 ·rintro _ rfl
  refine je ?_
  have hfin:val ((g7 (val xs)).take (g7 (val xs)).length)=val xs:=by rw[List.take_length,q8]
  refine g9 ?_; refine tO (i6 (fun hp=>Y9 _ (u7 _) (by rw[r8,hfin,q8]; have:=s7 (val xs) (val ys); omega)) (.a rfl uu<|.nil)) rfl rfl ?_; refine g9 ?_; exact g6.res1 (fn:=Tryz.f123) rfl (.r rfl (by rw[hfin,q8,q8])<|.nil)

theorem BN (xs:List Int) (hx:w8 xs) (hn:xs.length<=1000000):Ct Tryz.prog 75 [b8 (eL eI) xs] (kI (q9 (val xs) 0)):=by
 have hl0:=XE (z:=val xs)
 refine Ct.mk Tryz.func75 rfl Tryz.ntmps75 rfl (fun w J=>?_); refine j1 ?_; refine tO (i6 (fun hp=>Y9 _ (by assumption) zo) (.a rfl uu<|.nil)) rfl rfl ?_; refine y8 ?_; refine jq ?_ ?_
 ·intro h2
  refine j3 ?_; exact g6.res1 (fn:=Tryz.f75) rfl (.i rfl (OZ zo).symm<|.nil)
 ·intro h2
  refine l3 ?_; refine tO (i6 (fun hp=>JB _) (.a rfl uu<|.nil)) rfl rfl ?_; refine g8 ?_; refine Tr.cnd rfl ?_ ?_
  ·intro h4
   refine j3 ?_; exact g6.res1 (fn:=Tryz.f75) rfl (.i rfl (HA (of_decide_eq_true h4)).symm<|.nil)
  ·intro h4
   refine j1 ?_; exact g6.res1 (fn:=Tryz.f75) rfl (.i rfl (GZ (by have:=of_decide_eq_false h4; omega)).symm<|.nil)

end Go.Fl

/- Contracts: the rational field is one. -/
namespace Go.Fl
open Go Go.Proofs
open d5 renaming op->tO
open i9 renaming op->rO
set_option maxRecDepth 100000

abbrev u8:=List Int×Int×Int×Int
def A8:i8 u8:=eC (fun v:u8=>(v.1,v.2.1,v.2.2.1,v.2.2.2,())) (eP (eL eI) (eP eI (eP eI (eP eI eU))))
instance {v:u8}:E9 (b8 A8 v) [b8 (eL eI) (v.1),kI (v.2.1),kI (v.2.2.1),kI (v.2.2.2)]:=inferInstanceAs (E9 (b8 (eC (fun v:u8=>(v.1,v.2.1,v.2.2.1,v.2.2.2,())) (eP (eL eI) (eP eI (eP eI (eP eI eU))))) v) _)
instance {v:u8} {tl:List d7}:H6 A8 v tl (b8 (eL eI) (v.1)::kI (v.2.1)::kI (v.2.2.1)::kI (v.2.2.2)::tl):=inferInstanceAs (H6 (eC (fun v:u8=>(v.1,v.2.1,v.2.2.1,v.2.2.2,())) (eP (eL eI) (eP eI (eP eI (eP eI eU))))) v tl _)
instance {v:u8}:P8 A8 v (b8 A8 v):=⟨fun h=>h⟩
instance {v:u8}:v6 A8 v 0 (eL eI) (v.1) 0:=inferInstanceAs (v6 (eC (fun v:u8=>(v.1,v.2.1,v.2.2.1,v.2.2.2,())) (eP (eL eI) (eP eI (eP eI (eP eI eU))))) v 0 _ _ _)
instance {v:u8}:v6 A8 v 1 eI (v.2.1) 1:=inferInstanceAs (v6 (eC (fun v:u8=>(v.1,v.2.1,v.2.2.1,v.2.2.2,())) (eP (eL eI) (eP eI (eP eI (eP eI eU))))) v 1 _ _ _)
instance {v:u8}:v6 A8 v 2 eI (v.2.2.1) 2:=inferInstanceAs (v6 (eC (fun v:u8=>(v.1,v.2.1,v.2.2.1,v.2.2.2,())) (eP (eL eI) (eP eI (eP eI (eP eI eU))))) v 2 _ _ _)
instance {v:u8}:v6 A8 v 3 eI (v.2.2.2) 3:=inferInstanceAs (v6 (eC (fun v:u8=>(v.1,v.2.1,v.2.2.1,v.2.2.2,())) (eP (eL eI) (eP eI (eP eI (eP eI eU))))) v 3 _ _ _)
instance {ks r:List d7} {a:List Int} {b c d:Int} [h:t6 ks (eP (eL eI) (eP eI (eP eI (eP eI eU)))) (a,b,c,d,()) r]:t6 ks A8 ((a,b,c,d)) r:=⟨fun h'=>h.imp h'⟩
def KN:u8:=([0,1],0,0,1)
def CF (c:Int):Bool:=!decide (-1000<=c/\c<=1000)
theorem pZ (xs:List Int) (f:FuncId) (q:Int->Bool) [f0 Tryz.prog f] (hf:∀x,Ct Tryz.prog f [kI x] (kB (q x))):Ct Tryz.prog 149 [b8 (eL eI) xs,j4 (.func (.func f) #[] #[])] (kI (FN q xs)):=by
 refine Ct.mk Tryz.func149 rfl Tryz.ntmps149 rfl (fun w J=>?_); refine Tr.fact (s:=0) rfl (fun _ _ h=>S4 h) (fun hb=>?_); refine B3 ?_
 refine Tr.for1 (σ:=Nat) [⟨0,true,_,_⟩,⟨1,true,_,_⟩,⟨7,true,_,_⟩] [] (fun k=>[⟨8,true,[],kI (k:Int)⟩]) (fun k=>[]) (fun k=>k<=xs.length/\∀i,i<k->q (b6 xs i)=false) (fun k=>∀i,i<xs.length->q (b6 xs i)=false) (fun k=>xs.length-k) (0) ⟨by omega,fun i h=>absurd h zo⟩ (d6.mk (.i rfl zi<|zk) (.nil) rfl) ?_ ?_
 ·rintro k ⟨hk,hR⟩
  refine jn ?_; refine l3 ?_; refine jq ?_ ?_
  ·intro h2
   refine P1 ?_; refine tO (KF rfl uu (fun hp=>hf _) (.a rfl uu<|.nil)) rfl rfl ?_; refine g8 ?_; refine Tr.cnd rfl ?_ ?_
   ·intro h4
    refine B3 ?_; exact g6.res1 (fn:=Tryz.f149) rfl (.i rfl (fT zo hR h4)<|.nil)
   ·intro h4
    refine j3 ?_
    exact d9.lp (k+1) ⟨by omega,fun i hi=>by (rcases Nat.lt_succ_iff_lt_or_eq.1 hi with h | h; exact hR i h; subst h; exact h4)⟩ zo (d6.mk (.i rfl zi<|zk) (.nil) rfl)
  ·intro h2
   replace h2:=Int.not_lt.1 h2
   refine g9 ?_
   exact d9.cut (k) (fun i hi=>hR i zo) (d6.mk (.i rfl zi<|zk) (.nil) rfl)
 ·intro k hE
  refine je ?_; refine j3 ?_; exact g6.res1 (fn:=Tryz.f149) rfl (.i rfl (fU hE)<|.nil)

theorem pW (xs:List Int) (f:FuncId) (q:Int->Bool) [f0 Tryz.prog f] (hf:∀x,Ct Tryz.prog f [kI x] (kB (q x))):Ct Tryz.prog 99 [b8 (eL eI) xs,j4 (.func (.func f) #[] #[])] (kB (xs.any q)):=by
 refine Ct.mk Tryz.func99 rfl Tryz.ntmps99 rfl (fun w J=>?_); refine m9 ?_; refine tO (i6 (fun hp=>pZ _ f q hf) (.a rfl uu<|.a rfl uu<|.nil)) rfl rfl ?_; refine l6 ?_; exact g6.res1 (fn:=Tryz.f99) rfl (.b rfl fV<|.nil)

theorem JA (n a b:Int):Ct Tryz.prog 186 [kI n,kI a,kI b] (kB (decide (a<=n/\n<=b))):=by
 refine Ct.mk Tryz.func186 rfl Tryz.ntmps186 rfl (fun w J=>?_); refine JO ?_; exact g6.res1 (fn:=Tryz.f186) rfl (.b rfl (by symm; exact Bool.decide_and _ _)<|.nil)

theorem qY (c:Int):Ct Tryz.prog 187 [kI c] (kB (CF c)):=by
 refine Ct.mk Tryz.func187 rfl Tryz.ntmps187 rfl (fun w J=>?_); refine j1 ?_; refine tO (i6 (fun hp=>JA _ _ _) (.a rfl uu<|.a rfl uu<|.a rfl uu<|.nil)) rfl rfl ?_; refine l6 ?_; exact g6.res1 (fn:=Tryz.f187) rfl (.b rfl (by rfl)<|.nil)

theorem sM  : Ct Tryz.prog 112 [] (b8 A8 KN):=by
 refine Ct.mk Tryz.func112 rfl Tryz.ntmps112 rfl (fun w J=>?_); refine g8 ?_; refine ja 0 ?_; refine g9 ?_; refine d5.new (y7 eI 1 (fun hp=>.cons rfl<|.cons rfl<|.nil) rfl rfl rfl rfl) rfl rfl rfl rfl ?_; refine tO (A1 (fun hp=>.cons rfl rfl rfl<|.cons rfl rfl rfl<|.nil)) rfl rfl ?_; refine i7 ?_; refine Tr.frzC 1 0 (by simp only[p9]; omega) rfl rfl ?_; refine i5 ?_; exact g6.resC1 (fn:=Tryz.f112) rfl rfl (t7 rfl (by rfl))

end Go.Fl

/- Integers of any size in arrays of the call's own: loads and stores at any place. -/
namespace Go.Fl
open Go Go.RowKit
set_option maxRecDepth 100000
def eZ:i8 Int:=eC wh eW
instance {z:Int}:P8 eZ z (b8 eW (wh z)):=⟨fun h=>h⟩
instance {z:Int} {tl:List d7}:H6 eZ z tl (kB (decide (z<0))::b8 (eL eI) (d8 z.natAbs)::tl):=⟨fun h h'=>(inferInstance:H6 eW (wh z) tl (kB (decide (z<0))::b8 (eL eI) (d8 z.natAbs)::tl)).imp h h'⟩
instance {z:Int} {r:List d7}:t6 (kB (decide (z<0))::b8 (eL eI) (d8 z.natAbs)::r) eZ z r:=⟨fun h=>(inferInstance:t6 (kB (decide (z<0))::b8 (eL eI) (d8 z.natAbs)::r) eW (decide (z<0),d8 z.natAbs) r).imp h⟩
instance {z:Int}:GR (b8 eW (wh z)) eZ z:=⟨fun h=>⟨h.cells,eW.all1 h.cells⟩⟩
instance {r:List d7}:t6 (kB false::j4 (.slice none 0 0)::r) eZ 0 r:=⟨fun h=>(inferInstance:t6 (kB false::j4 (.slice none 0 0)::r) eW (false,[]) r).imp h⟩
def wC (f:Nat->Int):Nat->Nat->List d7
 | _,0=>[]
 | i,m+1=>kB (decide (f i<0))::b8 (eL eI) (d8 (f i).natAbs)::wC f (i+1) m
theorem TO {f:Nat->Int}:∀{m i:Nat},(wC f i m).length=m*2
 | 0,_=>rfl
 | m+1,i=>by simp only[wC,List.length_cons,TO (m:=m)]; omega
instance {f:Nat->Int} {i m:Nat}:B9 (wC f i m) []:=⟨by
 intro g g' vs hl _ h
 induction m generalizing i vs with
 | zero=>cases vs with
  | nil=>trivial
  | cons=>exact h.elim
 | succ m ih=>match vs,h with
  | v::u::vs,⟨h1,h2,h3⟩=>exact ⟨h1,o5.dep (k:=b8 (eL eI) _) (g:=g) hl (fun _ h=>by cases h) h2,ih h3⟩⟩
theorem OP {g:Gh}:∀{ks ls:List d7} {vs:List Value},n9 g (ks++ls) vs->∃v1 v2,vs=v1++v2/\n9 g ks v1/\n9 g ls v2
 | [],_,vs,h=>⟨[],vs,rfl,trivial,h⟩
 | _::_,_,v::vs,h=>by
  obtain ⟨v1,v2,rfl,h1,h2⟩:=OP h.2
  exact ⟨v::v1,v2,rfl,⟨h.1,h1⟩,h2⟩
 | _::_,_,[],h=>h.elim
instance {f:Nat->Int} {i m:Nat}:EZ (wC f i m):=⟨by
 intro g cs h
 induction m generalizing i cs with
 | zero=>cases cs with
  | nil=>rfl
  | cons=>exact h.elim
 | succ m ih=>match cs,h with
  | v::u::vs,⟨h1,h2,h3⟩=>simp only[List.all_cons,Y7.imp (k:=kB _) h1,Y7.imp (k:=b8 (eL eI) _) h2,ih h3,Bool.and_self]⟩
instance {ks ls:List d7} [h:EZ ks] [k:EZ ls]:EZ (ks++ls):=⟨fun h'=>by
 obtain ⟨v1,v2,rfl,h1,h2⟩:=OP h'
 rw[List.all_append,h.imp h1,k.imp h2]; rfl⟩
theorem TP {f:Nat->Int} {g:Gh}:∀{m i:Nat} {cs:List Value},n9 g (wC f i m) cs->BB eZ g.J cs ((List.range' i m).map f)
 | 0,_,cs,h=>by cases cs with
  | nil=>rfl
  | cons=>exact h.elim
 | m+1,i,cs,h=>by
  match cs,h with
  | v::u::vs,⟨h1,h2,h3⟩ =>
   obtain ⟨c1,c2,he,q1,q2⟩:=(inferInstance:t6 (kB (decide (f i<0))::b8 (eL eI) (d8 (f i).natAbs)::[]) eZ (f i) []).imp (g:=g) (cs:=[v,u]) ⟨h1,h2,trivial⟩
   cases c2 with
   | nil =>
    rw[List.append_nil] at he
    subst he
    exact ⟨[v,u],vs,rfl,q1,TP h3⟩
   | cons=>exact q2.elim
theorem YS {m:Nat} {f:Nat->Int}:(List.range' 0 m).map f=j8 m f:=by rw[<- List.range_eq_range']; rfl
instance {f:Nat->Int} {m:Nat} {r:List d7}:t6 (wC f 0 m++r) (Q4 m eZ) (j8 m f) r:=⟨fun h=>by
 obtain ⟨v1,v2,rfl,h1,h2⟩:=OP h
 exact ⟨v1,v2,rfl,⟨p8,by rw[<- YS]; exact TP h1⟩,h2⟩⟩
instance {f:Nat->Int} {m:Nat}:aF (wC f 0 m) eZ (j8 m f):=⟨fun {g cs} h i x hx=>NH (J:=g.J) (by rw[<- YS]; exact TP h) hx⟩
theorem mZ {f:Nat->Int} {g:Gh} {tl:List d7} {ds:List Value} (ht:n9 g tl ds):∀{xs:List Int} {i:Nat} {cs:List Value},BB eZ g.J cs xs->(∀j,j<xs.length->f (i+j)=b6 xs j)->n9 g (wC f i xs.length++tl) (cs++ds)
 | [],_,_,h,_=>by have h:_=[]:=h; subst h; exact ht
 | x::xs,i,_,⟨c1,c2,h,h1,h2⟩,hf=>by
  subst h
  have hx:f i=x:=hf 0 (by simp)
  have hr:=mZ (f:=f) ht (i:=i+1) h2 (fun j hj=>by
   have:=hf (j+1) (by simp; omega)
   rw[show i+1+j=i+(j+1) by omega,this]; rfl)
  have:=(inferInstance:H6 eZ x (wC f (i+1) xs.length++tl) _).imp h1 hr
  simp only[List.length_cons,wC,hx,List.cons_append]
  rw[List.append_assoc]
  exact this
instance {m:Nat} {l:List Int} {tl:List d7}:H6 (Q4 m eZ) l tl (wC (b6 l) 0 m++tl):=⟨fun ⟨h1,h2⟩ ht=>by
 subst h1
 exact mZ ht h2 (fun j _=>by rw[Nat.zero_add])⟩
instance {f:Nat->Int} {r:List d7}:P9 (wC f 0 4++r) (0+0) 8 (wC f 0 4):=⟨by simp[wC],rfl⟩
instance {f:Nat->Int} {a b:d7}:P9 (wC f 0 4++[a,b]) (0+8) 2 [a,b]:=⟨rfl,rfl⟩
instance {f:Nat->Int} {a b:d7}:P9 (wC f 0 4++[a,b]) 0 10 (wC f 0 4++[a,b]):=⟨rfl,rfl⟩
instance {f:Nat->Int} {a b x y:d7}:V1 (wC f 0 4++[a,b]) (0+8) [x,y] (wC f 0 4++[x,y]):=⟨by simp[wC],rfl⟩
instance {f:Nat->Int} {a b k0 k1 k2 k3 k4 k5 k6 k7 k8 k9:d7}:V1 [k0,k1,k2,k3,k4,k5,k6,k7,k8,k9] 0 (wC f 0 4++[a,b]) (wC f 0 4++[a,b]):=⟨by simp[wC],by simp[wC]⟩
def CN (f:Nat->Int) (j:Nat) (z:Int):Nat->Int:=fun i=>if i=j then z else f i
theorem ak2 {f:Nat->Int} {g:Gh} {r:List d7} {m j:Nat} {cs:List Value} (h:n9 g (wC f 0 m++r) cs) (hj:j<m):∃ds,eW.rd g.J ds (wh (f j))/\∀q v,ds[q]?=some v->cs[2*j+q]?=some v:=by
 obtain ⟨v1,v2,rfl,h1,_⟩:=OP h
 have hr:=TP h1
 rw[YS] at hr
 obtain ⟨ds,q1,q2⟩:=NH hr (i:=j) (x:=f j) (by rw[show f j=b6 (j8 m f) j from (r5 hj).symm]; exact H1 (by rw[p8]; exact hj))
 refine ⟨ds,q1,fun q v hv=>?_⟩
 have:=q2 q v hv
 rw[show eZ.n=2 from rfl] at this
 rw[Nat.mul_comm,List.getElem?_append_left (List.getElem?_eq_some_iff.1 this).1]
 exact this
theorem nA {f:Nat->Int} {z:Int} {g:Gh} {v u:Value} (hv:v=.bool (decide (z<0))) (hu:b8 (eL eI) (d8 z.natAbs) g u):∀{m i j:Nat} {r:List d7} {cs:List Value},n9 g (wC f i m++r) cs->j<m->n9 g (wC (CN f (i+j) z) i m++r) (cs.take (2*j)++[v,u]++cs.drop (2*j+2))
 | 0,_,_,_,_,_,hj=>by omega
 | m+1,i,0,r,cs,h,_=>by
  match cs,h with
  | a::b::cs,⟨_,_,h3⟩ =>
   have h4:∀{m k:Nat} {vs:List Value},i<k->n9 g (wC f k m++r) vs->n9 g (wC (CN f i z) k m++r) vs:=fun {m}=>by
    induction m with
    | zero=>exact fun _ h=>h
    | succ m ih =>
     intro k vs hk h
     match vs,h with
     | a::b::vs,⟨q1,q2,q3⟩ =>
      have e:CN f i z k=f k:=if_neg zo
      simp only[wC,e,List.cons_append]
      exact ⟨q1,q2,ih zo q3⟩
   have e:CN f i z i=z:=if_pos rfl
   simp only[wC,Nat.add_zero,e,List.cons_append,Nat.mul_zero,List.take_zero,List.nil_append,Nat.zero_add,List.drop_succ_cons,List.drop_zero]
   exact ⟨hv,hu,h4 zo h3⟩
 | m+1,i,j+1,r,cs,h,hj=>by
  match cs,h with
  | a::b::cs,⟨h1,h2,h3⟩ =>
   have:=nA hv hu (i:=i+1) (j:=j) h3 zo
   rw[show i+1+j=i+(j+1) by omega] at this
   have e:CN f (i+(j+1)) z i=f i:=if_neg zo
   simp only[wC,e,List.cons_append,show 2*(j+1)=2*j+2 by omega,List.take_succ_cons,List.drop_succ_cons]
   exact ⟨h1,h2,this⟩
section
variable {P:Program} {c:n6} {S:i4} {M:i1} {p:Bool} {d:Option Tmp} {ty:TypeId} {pos:String} {af:Array Edge} {gd:Option (Nat×Bool)} {x y:Operand} {b b':Bool}
theorem KH {t:TypeId} [ht:D0 P t] {by':Nat} {zz:Value} [hz:p6 P t 2 by' zz] {u o:Nat} (j:Nat) {m:Nat} {f:Nat->Int} {r:List d7} {dep:List Nat} [hl:q7 M u (j5 (wC f 0 m++r)) dep] (hj:p=true->j<m) (ho:p=true->o=2*j) (hx:j2 S x=some (b,y5 u o)) (hb:p=true->b=true) :
  l4 P c S M ⟨d,.load t x,ty,pos,af,gd⟩ p (b8 eW (wh (f j))) none :=
 l4.pure fun hp a g w hok hc hop=>by
  obtain ⟨bl,cap,h1,h2⟩:=hop x (by simp[Op.operands]) b _ hx (hb hp)
  obtain ⟨cs,ty',h3,h4⟩:=DT (ks:=wC f 0 m++r) hc h1
  obtain ⟨ds,q1,q2⟩:=ak2 h4 (hj hp)
  have ho:=ho hp
  subst ho
  exact ⟨.agg ds.toArray,by simp only[execOp,h2,Sem.run_bind,SX (P:=P) (t:=t) (w:=w) (b:=bl) (o:=2*j) (eW.len q1) (fun q v hv=>M7 h3 (by simpa using q2 q v hv)),Result.andThen_ok,Sem.run_pure],_,q1,rfl⟩
theorem YE {t et:TypeId} {n:Nat} [ht:AO P t n et] {by':Nat} {zz:Value} [hz:p6 P et 2 by' zz] [hag:D0 P et] {f:Nat->Int} {ik:IntKind} {i:Nat} (hx:j2 S x=some (b,H9 (wC f 0 n))) (hb:p=true->b=true) (hy:j2 S y=some (b',z9 ik (i:Int))) (hb':p=true->b'=true) (h:p=true->i<n) :
  l4 P c S M ⟨d,.index t x y,ty,pos,af,gd⟩ p (b8 eW (wh (f i))) none:=by
 cases p with
 | false=>exact fun hp=>by cases hp
 | true =>
  have:=yS (P:=P) (c:=c) (M:=M) (d:=d) (ty:=ty) (pos:=pos) (af:=af) (gd:=gd) (t:=t) (et:=et) eZ (ks:=wC f 0 n) (xs:=j8 n f) hx hb hy hb' rfl rfl TO (fun _=>⟨h rfl,by rw[p8]; exact h rfl⟩)
  rwa [r5 (h rfl)] at this
end
section
variable {P:Program} {c:n6} {ops:Array Oper} {S:i4} {M:i1} {rest:List Oper} {Q:Exit->Act->World->Prop} {x y:Operand}
variable {ty:TypeId} {pos:String} {af:Array Edge}
theorem d5.stW {t:TypeId} {by':Nat} {zz:Value} [hz:p6 P t 2 by' zz] {u o:Nat} (j:Nat) {m:Nat} {f:Nat->Int} {z:Int} {r:List d7} {dep dep':List Nat} {M':i1} (hj:j<m) (ho:o=2*j) (hx:j2 S x=some (true,y5 u o)) (hy:j2 S y=some (true,b8 eW (wh z))) [hl:q7 M u (j5 (wC f 0 m++r)) dep]
  [hd:B9 (wC (CN f j z) 0 m++r) dep'] [hup:D5 M u (j5 (wC (CN f j z) 0 m++r)) dep' M'] (hs:t8 dep' (tags M)=true) (K:d5 P c ops S M' rest Q):d5 P c ops S M (⟨none,.store t x y,ty,pos,af,none⟩::rest) Q:=by
 intro a g w hsat
 subst ho
 obtain ⟨b,cap,hm,he⟩:=C8 hsat.slots hx rfl
 have hv:=C8 hsat.slots hy rfl
 obtain ⟨cs,tt,h3,h4⟩:=DT (ks:=wC f 0 m++r) hsat.conts hm
 obtain ⟨h5,h6⟩:=(inferInstance:E9 (b8 eW (wh z)) [kB (decide (z<0)),b8 (eL eI) (d8 z.natAbs)]).imp hv
 obtain ⟨v1,u1,hvs,e1,e2⟩:∃v u,(a.eval y).cells.toList=[v,u]/\v=.bool (decide (z<0))/\b8 (eL eI) (d8 z.natAbs) g u:=by
  match h:(a.eval y).cells.toList,h5 with
  | [v,u],h5=>exact ⟨v,u,rfl,h5.1,h5.2.1⟩
 have hcl:=L6 h4
 simp only[Array.length_toList,List.length_append,TO] at hcl
 have hsz:(a.eval y).cells.size=2:=by rw[<- Array.length_toList,hvs]; rfl
 have hr:=KR (P:=P) (t:=t) (o:=2*j) h3 hsz zo (List.all_eq_true.1 h6)
 refine wpList_plain rfl fun K' hK'=>?_
 unfold Oper.wp
 simp only[execOp,he,Sem.run_bind,hr,Result.andThen_ok,Sem.run_pure,Oper.upon,Act.put]
 have hnew:=nA (j:=j) e1 e2 h4 hj
 rw[Nat.zero_add] at hnew
 exact hK' _ _ (K a g _ (hsat.store hm h3 hup ⟨_,_,rfl,by rw[hvs]; simpa using hnew⟩ inferInstance (C3 hs)))
end
def K7:i8 (List Int×Int):=eC (fun v:List Int×Int=>(v.1,v.2,())) (eP (Q4 4 eZ) (eP eZ eU))
instance {v:List Int×Int}:E9 (b8 K7 v) (wC (b6 v.1) 0 4++[kB (decide (v.2<0)),b8 (eL eI) (d8 v.2.natAbs)]):=inferInstanceAs (E9 (b8 (eC (fun v:List Int×Int=>(v.1,v.2,())) (eP (Q4 4 eZ) (eP eZ eU))) v) _)
instance {v:List Int×Int}:v6 K7 v 0 (Q4 4 eZ) v.1 0:=inferInstanceAs (v6 (eC (fun v:List Int×Int=>(v.1,v.2,())) (eP (Q4 4 eZ) (eP eZ eU))) v 0 _ _ _)
instance {v:List Int×Int}:v6 K7 v 1 eZ v.2 8:=inferInstanceAs (v6 (eC (fun v:List Int×Int=>(v.1,v.2,())) (eP (Q4 4 eZ) (eP eZ eU))) v 1 _ _ _)
instance {f:Nat->Int} {d:Int} {r:List d7}:t6 (wC f 0 4++kB (decide (d<0))::b8 (eL eI) (d8 d.natAbs)::r) K7 (j8 4 f,d) r:=⟨fun h=>(inferInstance:t6 (wC f 0 4++kB (decide (d<0))::b8 (eL eI) (d8 d.natAbs)::r) (eP (Q4 4 eZ) (eP eZ eU)) (j8 4 f,d,()) r).imp h⟩
instance {r:List d7}:t6 (j4 (.bool false)::j4 (.slice none 0 0)::r) eZ 0 r:=⟨fun {g cs} h=>(inferInstance:t6 (kB false::j4 (.slice none 0 0)::r) eZ 0 r).imp (g:=g) (cs:=cs) (match cs,h with | _::_::_,⟨h1,h2,h3⟩=>⟨h1,h2,h3⟩)⟩
instance (priority:=low) {a b c d e:Int} {ks r1 r2 r3 r4 r:List d7} [h1:t6 ks eZ a r1] [h2:t6 r1 eZ b r2] [h3:t6 r2 eZ c r3] [h4:t6 r3 eZ d r4] [h5:t6 r4 eZ e r]:t6 ks K7 ([a,b,c,d],e) r:=⟨fun {g cs} h=>by
 obtain ⟨c1,t1,rfl,q1,h⟩:=h1.imp h
 obtain ⟨c2,t2,rfl,q2,h⟩:=h2.imp h
 obtain ⟨c3,t3,rfl,q3,h⟩:=h3.imp h
 obtain ⟨c4,t4,rfl,q4,h⟩:=h4.imp h
 obtain ⟨c5,t5,rfl,q5,h⟩:=h5.imp h
 exact ⟨c1++c2++c3++c4++c5,t5,by simp,⟨c1++c2++c3++c4,c5,by simp,⟨rfl,c1,c2++c3++c4,by simp,q1,c2,c3++c4,by simp,q2,c3,c4,by simp,q3,c4,[],by simp,q4,rfl⟩,c5,[],by simp,q5,rfl⟩,h⟩⟩
theorem PY {v:List Int×Int} {g:Gh} {u:Value} (h:b8 K7 v g u):v.1.length=4:=by
 obtain ⟨_,⟨_,_,_,⟨h,_⟩,_⟩,_⟩:=h
 exact h
theorem AQ {ks ks':List d7} (h:ks=ks'):∀g b o,j5 ks g b o->j5 ks' g b o:=fun _ _ _ h'=>by subst h; exact h'
theorem LC {f f':Nat->Int}:∀{m i:Nat},(∀j,i<=j->j<i+m->f j=f' j)->wC f i m=wC f' i m
 | 0,_,_=>rfl
 | m+1,i,h=>by simp only[wC]; rw[h i (Nat.le_refl _) zo,LC fun j h1 h2=>h j zo zo]
theorem cW {f f':Nat->Int} {m:Nat} {r r':List d7} (h:∀j,j<m->f j=f' j) (hr:r=r'):∀g b o,j5 (wC f 0 m++r) g b o->j5 (wC f' 0 m++r') g b o:=AQ (by rw[LC fun j _ hj=>h j zo,hr])
theorem BR {d d':Int} (h:d=d'):[kB (decide (d<0)),b8 (eL eI) (d8 d.natAbs)]=[kB (decide (d'<0)),b8 (eL eI) (d8 d'.natAbs)]:=by rw[h]
end Go.Fl

/- Numbers: coefficients over a denominator, in lowest terms. Plain Lean, no program in sight. -/
namespace Go.Fl
def gL (g:Nat):List Int->Nat
 | []=>g
 | c::cs=>gL (Nat.gcd g c.natAbs) cs
theorem MM:∀{cs:List Int} {g:Nat},gL g cs∣g/\∀c∈cs,gL g cs∣c.natAbs
 | [],g=>⟨Nat.dvd_refl _,fun c h=>by cases h⟩
 | c::cs,g=>by
  obtain ⟨h1,h2⟩:=MM (cs:=cs) (g:=Nat.gcd g c.natAbs)
  rw[gL]
  refine ⟨Nat.dvd_trans h1 (Nat.gcd_dvd_left _ _),fun x hx=>?_⟩
  rcases List.mem_cons.1 hx with rfl | hx
  ·exact Nat.dvd_trans h1 (Nat.gcd_dvd_right _ _)
  ·exact h2 x hx
theorem QI {cs:List Int} {g:Nat} (h:0<g):0<gL g cs:=Nat.pos_of_dvd_of_pos MM.1 h
theorem fM:∀{cs:List Int} {g:Nat} {m:Int},gL (g*m.natAbs) (cs.map fun c=>c*m)=gL g cs*m.natAbs
 | [],_,_=>rfl
 | c::cs,g,m=>by rw[List.map_cons,gL,gL,Int.natAbs_mul,Nat.gcd_mul_right,fM]
theorem fO:∀{cs:List Int} {g:Nat} {c:Int},gL g (cs++[c])=Nat.gcd (gL g cs) c.natAbs
 | [],_,_=>rfl
 | x::cs,g,c=>by rw[List.cons_append,gL,gL,fO]
theorem fP:∀{k g:Nat},gL g (List.replicate k 0)=g
 | 0,_=>rfl
 | k+1,g=>by rw[List.replicate_succ,gL,Int.natAbs_zero,Nat.gcd_zero_right,fP]
theorem fL:∀{xs ys:List Int} {g:Nat},gL g (xs++ys)=gL (gL g xs) ys
 | [],_,_=>rfl
 | x::xs,ys,g=>by rw[List.cons_append,gL,gL,fL]
def x9 (d:Int) (cs:List Int):Int:=if d<0 then -(gL d.natAbs cs:Int) else gL d.natAbs cs
theorem HU {d:Int} {cs:List Int} (h:d≠0):x9 d cs≠0:=by
 have:=QI (cs:=cs) (show 0<d.natAbs by omega)
 unfold x9; split<;>omega
theorem CL {d:Int} {cs:List Int} {c:Int} (h:c=d\/c∈cs):x9 d cs∣c:=by
 have h1:((gL d.natAbs cs:Nat):Int)∣c:=by
  refine Int.ofNat_dvd_left.2 ?_
  rcases h with rfl | h
  ·exact MM.1
  ·exact MM.2 c h
 unfold x9
 split
 ·exact Int.neg_dvd.2 h1
 ·exact h1
theorem ae6 {d m:Int} {cs:List Int} (hd:d≠0) (hm:m≠0):x9 (d*m) (cs.map fun c=>c*m)=x9 d cs*m:=by
 unfold x9
 rw[Int.natAbs_mul,fM,Int.natCast_mul]
 by_cases h1:d<0<;>by_cases h2:m<0
 ·have h3:=Int.mul_pos_of_neg_of_neg h1 h2
  rw[if_neg zo,if_pos h1,show ((m.natAbs:Nat):Int)=-m by omega,Int.mul_neg,Int.neg_mul]
 ·have h3:=Int.mul_neg_of_neg_of_pos h1 (show 0<m by omega)
  rw[if_pos h3,if_pos h1,show ((m.natAbs:Nat):Int)=m by omega,Int.neg_mul]
 ·have h3:=Int.mul_neg_of_pos_of_neg (show 0<d by omega) h2
  rw[if_pos h3,if_neg h1,show ((m.natAbs:Nat):Int)=-m by omega,Int.mul_neg,Int.neg_neg]
 ·have h3:=Int.mul_pos (show 0<d by omega) (show 0<m by omega)
  rw[if_neg zo,if_neg h1,show ((m.natAbs:Nat):Int)=m by omega]
theorem eT {a b m:Int} (hb:b≠0) (hm:m≠0) (h:b∣a):a*m/(b*m)=a/b:=by
 obtain ⟨q,rfl⟩:=h
 rw[Int.mul_ediv_cancel_left _ hb,show b*q*m=b*m*q by rw[Int.mul_assoc,Int.mul_comm q,<- Int.mul_assoc],Int.mul_ediv_cancel_left _ (Int.mul_ne_zero hb hm)]
def loN (cs:List Int) (d:Int):List Int×Int:=(cs.map fun c=>c/x9 d cs,d/x9 d cs)
theorem MW {cs:List Int} {d m:Int} (hd:d≠0) (hm:m≠0):loN (cs.map fun c=>c*m) (d*m)=loN cs d:=by
 unfold loN
 rw[ae6 hd hm,List.map_map]
 refine Prod.ext ?_ (eT (HU hd) hm (CL (.inl rfl)))
 exact List.map_congr_left fun c hc=>eT (HU hd) hm (CL (.inr hc))
theorem JY {cs cs':List Int} {d d':Int} (hd:d≠0) (hd':d'≠0) (h:(cs.map fun c=>c*d')=cs'.map fun c=>c*d):loN cs d=loN cs' d':=by
 rw[<- MW (cs:=cs) hd hd',<- MW (cs:=cs') hd' hd,h,Int.mul_comm]
theorem DH {cs:List Int} {d:Int}:(loN cs d).1.length=cs.length:=by unfold loN; simp
theorem EE {cs:List Int} {d:Int} (hd:d≠0):0<(loN cs d).2:=by
 unfold loN
 obtain ⟨q,hq⟩:=CL (d:=d) (cs:=cs) (.inl rfl)
 have h0:=HU (cs:=cs) hd
 show 0<d/x9 d cs
 have e:d/x9 d cs=q:=(congrArg (fun z=>z/x9 d cs) hq).trans (Int.mul_ediv_cancel_left _ h0)
 rw[e]
 have hg:=QI (cs:=cs) (show 0<d.natAbs by omega)
 refine Classical.byContradiction fun hn=>?_
 by_cases h:d<0
 ·have e:x9 d cs=-(gL d.natAbs cs:Int):=if_pos h
  rw[e] at hq
  have:(-(gL d.natAbs cs:Int))*q=(gL d.natAbs cs:Int)*(-q):=by rw[Int.neg_mul,Int.mul_neg]
  have h5:=Int.mul_nonneg (a:=(gL d.natAbs cs:Int)) (b:=-q) zo zo
  omega
 ·have e:x9 d cs=(gL d.natAbs cs:Int):=if_neg h
  rw[e] at hq
  have h5:=Int.mul_nonneg (a:=(gL d.natAbs cs:Int)) (b:=-q) zo zo
  rw[Int.mul_neg] at h5
  omega
theorem wV {cs:List Int} {d:Int} {k:Nat}:loN (cs++List.replicate k 0) d=((loN cs d).1++List.replicate k 0,(loN cs d).2):=by
 have e:x9 d (cs++List.replicate k 0)=x9 d cs:=by unfold x9; rw[fL,fP]
 unfold loN
 rw[e,List.map_append]
 simp
theorem NS:∀{xs:List Int} {k:Nat},j6 (xs++List.replicate k 0)=j6 xs
 | [],k=>by
  rw[List.nil_append]
  exact TK fun i hi=>RM (by simpa using hi)
 | x::xs,k=>by rw[List.cons_append,j6,j6,NS]
def Y2 (p:List Int) (n:Nat) (xs:List Int):List Int:=j8 (xs.length-1) fun j=>b6 xs j-if xs.length-1-n<=j then b6 xs (xs.length-1)*b6 p (j-(xs.length-1-n)) else 0
theorem BC {p xs:List Int} {n:Nat}:(Y2 p n xs).length=xs.length-1:=p8
def M4 (p:List Int) (n:Nat):Nat->List Int->List Int
 | 0,xs=>xs++List.replicate (n-xs.length) 0
 | f+1,xs=>if xs.length<=n then xs++List.replicate (n-xs.length) 0 else M4 p n f (Y2 p n xs)
def red (p:List Int) (xs:List Int):List Int:=M4 p (p.length-1) (xs.length-(p.length-1)) xs
theorem kM {p:List Int} {n:Nat}:∀{f:Nat} {xs:List Int},xs.length<=n+f->(M4 p n f xs).length=n
 | 0,xs,h=>by rw[M4,List.length_append,List.length_replicate]; omega
 | f+1,xs,h=>by
  rw[M4]
  split
  ·rw[List.length_append,List.length_replicate]; omega
  ·exact kM (by rw[BC]; omega)
theorem KQ {p xs:List Int}:(red p xs).length=p.length-1:=kM zo
end Go.Fl

/- Numbers of a field in lowest terms, as the programs reckon them. No program in sight. -/
namespace Go.Fl
open Go
theorem R8 {y:Int}:q9 y 0=0↔y=0:=by unfold q9; split<;>(try split)<;>omega
theorem vI {x y:Int}:Int.gcd y (x%y)=Int.gcd x y:=by
 first
  | (rw[Int.gcd_comm]; exact Int.gcd_emod ..)
  | simp
  | (rw[Int.emod_def,Int.gcd_comm]; simp)
theorem WG {c:List Int} {g k:Nat} (hk:k<c.length):(gL g (c.take (k+1)):Int)=Int.gcd (gL g (c.take k):Int) (b6 c k):=by
 have e:c.take (k+1)=c.take k++[b6 c k]:=by
  rw[List.take_succ_eq_append_getElem hk]
  congr 2
  simp[b6,hk]
 rw[e,fO]; rfl
theorem WF {c:List Int} {g:Nat} (h:0<g):gL g c<=g:=Nat.le_of_dvd h MM.1
theorem eG {c:List Int} {d:Int} (h:0<d):dl (gL d.natAbs c:Int)<=dl d:=N4 (WF zo)
theorem wW {c:List Int} {d:Int} {k:Nat} (hd:0<d) (hl:c.length=k):(j8 k (fun i=>b6 c i/(gL d.natAbs c:Int)),d/(gL d.natAbs c:Int))=loN c d:=by
 have e:x9 d c=(gL d.natAbs c:Int):=if_neg zo
 unfold loN
 rw[e]
 refine Prod.ext ?_ rfl
 show j8 k _=c.map _
 generalize (gL d.natAbs c:Int)=G
 conv=>rhs; rw[U5 hl]
 simp[j8]
end Go.Fl

/- Contracts: integers of the reference of chapter 1 (division, common divisors). -/
namespace Go.Fl
open Go Go.Proofs
open d5 renaming op->tO
open i9 renaming op->rO
set_option maxRecDepth 100000

set_option maxHeartbeats 2000000 in
theorem dL (m n:Nat) (h0:0<n) (hm:(d8 m).length<=300000) (hn:(d8 n).length<=300000):Ct Tryz.prog 179 [b8 (eL eI) (d8 m),b8 (eL eI) (d8 n)] (z6 [b8 (eL eI) (d8 (m/n)),b8 (eL eI) (d8 (m%n))]):=by
 have hdn:dl (n:Int)=(d8 n).length:=rfl
 have hvn:val (d8 n)=n:=y4 n
 refine Ct.mk Tryz.func179 rfl Tryz.ntmps179 rfl (fun w J=>?_); refine u5 ?_; refine d5.new (FX eI 14 rfl uu rfl uu rfl rfl rfl (fun _=>zo)) rfl rfl rfl rfl ?_; refine P1 ?_
 refine Tr.for1 (σ:=Nat×List Int×Int) [⟨0,true,_,_⟩,⟨1,true,_,_⟩,⟨6,true,_,_⟩] [] (fun (i,o,R)=>[⟨7,true,[],b8 (eL eI) (d8 R.toNat)⟩,⟨8,true,[],kI ((i:Int)-1)⟩]) (fun (i,o,R)=>[⟨14,[],l5 false 3 eI o (d8 m).length⟩]) (fun (i,o,R)=>i<=(d8 m).length/\N2 (d8 m) o (n:Int) i R) (fun (i,o,R)=>N2 (d8 m) o (n:Int) 0 R) (fun (i,o,R)=>i) (((d8 m).length,List.replicate (d8 m).length 0,0)) ⟨Nat.le_refl _,N2.start zo⟩ (d6.mk (.n rfl rfl<|.i rfl zi<|zk) (.a zi zi<|.nil) rfl) ?_ ?_
 ·rintro ⟨i,o,R⟩ ⟨hi,hs⟩
  refine jn ?_
  have e1:((i:Int)-1).toNat=i-1:=by omega
  have hr0:=hs.r0
  have hRd:=uO hr0
  have hRl:=eA hr0.1
  have hol:=hs.len
  refine j3 ?_; refine jq ?_ ?_
  ·intro h4
   have hs1:N2 (d8 m) o (n:Int) (i-1+1) R:=by rw[show i-1+1=i by omega]; exact hs
   obtain ⟨T,hTe⟩:∃T,T=(R*100000000+b6 (d8 m) (i-1)):=⟨_,rfl⟩
   have hdq:=uS hs1 zo
   rw[<- hTe] at hdq
   obtain ⟨hT,hq0,hq1⟩:=hdq
   have hTd:=uP hq1 h0 hT
   have hTl:=eA hT
   have had:=(y0 m).at (i:=i-1) zo
   refine u5 ?_; refine d5.new (y7 eI 26 (fun hp=>.cons rfl<|.nil) rfl rfl rfl rfl) rfl rfl rfl rfl ?_; refine i5 ?_; refine d5.app rfl rfl rfl rfl rfl rfl rfl rfl (by have h1:([b6 (d8 m) ((i:Int)-1).toNat]).length=1:=rfl; omega) (by have h1:([b6 (d8 m) ((i:Int)-1).toNat]).length=1:=rfl; omega) ?_; refine jl ?_; refine d5.frz 26 [28] ⟨rfl,trivial⟩ (by have h1:([b6 (d8 m) ((i:Int)-1).toNat]).length=1:=rfl; simp only[p9]; omega) rfl ?_; refine jl ?_; refine tO (i6 (fun hp=>VM _ (by have h1:([b6 (d8 m) ((i:Int)-1).toNat]).length=1:=rfl; rw[List.length_append]; omega)) (.a rfl uu<|.nil)) rfl rfl ?_
   refine m9 ?_
   refine Tr.for (σ:=Int×Int) [⟨0,true,_,_⟩,⟨1,true,_,_⟩,⟨6,true,_,_⟩,⟨8,true,_,_⟩] [⟨14,_,_⟩] (fun (lo,hi2)=>[⟨7,true,[],b8 (eL eI) (d8 T.toNat)⟩,⟨9,true,[],kI lo⟩,⟨10,true,[],kI hi2⟩]) (fun (lo,hi2)=>[]) (fun (lo,hi2)=>0<=lo/\lo<=T/n/\T/n<=hi2/\hi2<=99999999) (fun (lo,hi2)=>T/n=lo) (fun (lo,hi2)=>(hi2-lo).toNat) ((0,99999999)) ⟨by omega,by omega,by omega,by omega⟩ (d6.mk (.r rfl (by rw[hTe,<- e1]; exact uT hr0.1 (by rw[e1]; exact had))<|.i rfl zi<|.i rfl zi<|zk) (zk) rfl) ?_ ?_
   ·rintro ⟨lo,hi2⟩ ⟨hl0,hl1,hl2,hl3⟩
    refine jn ?_
    have hmid:0<=lo+hi2+1:=by omega
    have hme:=Int.tdiv_eq_ediv_of_nonneg (b:=2) hmid
    have hmn:=Int.mul_nonneg (a:=(n:Int)) (b:=(lo+hi2+1).tdiv 2) zo zo
    have hmd:=K1 (F:=(lo+hi2+1).tdiv 2) zo zo
    have hmm:=s7 (n:Int) ((lo+hi2+1).tdiv 2)
    refine j1 ?_; refine jq ?_ ?_
    ·intro h8
     refine m9 ?_; refine tO (CC rfl uu rfl uu (fun _=>zo)) rfl rfl ?_; refine j1 ?_; refine tO (N0 eI (fun hp=>.cons rfl<|.nil) rfl rfl rfl rfl) rfl rfl ?_; refine jc (I7 (d8 n) [(lo+hi2+1).tdiv 2] (y0 n).inI (V7 zo) zo (by simp)) ?_; refine tO (i6 (fun hp=>tE (d8 T.toNat) _ (O8 _) (wZ (by rw[hvn,I3]; exact hmn)) zo (by rw[r8,hvn,I3]; omega)) (.a rfl uu<|.a rfl uu<|.nil)) rfl rfl ?_; refine g8 ?_; refine Tr.cnd rfl ?_ ?_
     ·intro h10
      have h10:=of_decide_eq_true h10
      rw[y4,q8,hvn,I3,Int.toNat_of_nonneg hT] at h10
      refine l3 ?_
      exact d9.lp ((lo,(lo+hi2+1).tdiv 2-1)) ⟨by omega,by omega,uQ zo h10,by omega⟩ (by show ((lo+hi2+1).tdiv 2-1-lo).toNat<(hi2-lo).toNat; omega) (d6.mk (.r rfl zi<|.i rfl zi<|.i rfl zi<|zk) (zk) rfl)
     ·intro h10
      have h10:=of_decide_eq_false h10
      rw[y4,q8,hvn,I3,Int.toNat_of_nonneg hT] at h10
      refine l6 ?_
      exact d9.lp (((lo+hi2+1).tdiv 2,hi2)) ⟨by omega,uR zo zo,by omega,by omega⟩ (by show (hi2-(lo+hi2+1).tdiv 2).toNat<(hi2-lo).toNat; omega) (d6.mk (.r rfl zi<|.i rfl zi<|.i rfl zi<|zk) (zk) rfl)
    ·intro h8
     replace h8:=Int.not_lt.1 h8
     refine g9 ?_
     exact d9.cut ((lo,hi2)) zo (d6.mk (.r rfl zi<|.i rfl zi<|.i rfl zi<|zk) (zk) rfl)
   ·rintro ⟨lo,hi2⟩ hlo
    refine jn ?_
    replace hlo:T/n=lo:=hlo
    have hmd:=K1 (F:=lo) zo zo
    have hmm:=s7 (n:Int) lo
    refine B3 ?_; refine tO (N0 eI (fun hp=>.cons rfl<|.nil) rfl rfl rfl rfl) rfl rfl ?_; refine jc (I7 (d8 n) [lo] (y0 n).inI (V7 zo) zo (by simp)) ?_; refine tO (i6 (fun hp=>LY (d8 T.toNat) _ (y0 _).inI (u7 _) zo (by rw[r8,hvn,I3]; omega)) (.a rfl uu<|.a rfl uu<|.nil)) rfl rfl ?_; refine m9 ?_
    exact d9.lp ((i-1,o.set (i-1) ((R*100000000+b6 (d8 m) (i-1))/n),(R*100000000+b6 (d8 m) (i-1))%n)) ⟨by omega,hs1.next (y0 m) zo⟩ (by show i-1<i; omega) (d6.mk (.r rfl (by rw[q8,y4,Int.toNat_of_nonneg hT,hvn,I3,<- hlo,uN zo,hTe]; exact RA (Int.emod_nonneg _ zo))<|.i rfl zi<|zk) (.a (by rw[e1,<- hTe,hlo]) zi<|.nil) rfl)
  ·intro h4
   replace h4:=Int.not_le.1 h4
   refine g9 ?_
   exact d9.cut ((i,o,R)) (by obtain rfl:i=0:=zo; exact hs) (d6.mk (.r rfl zi<|.i rfl zi<|zk) (.a zi zi<|.nil) rfl)
 ·rintro ⟨i,o,R⟩ hs
  refine je ?_
  have hol:=hs.len
  refine g9 ?_; refine d5.frz 14 [6,57] ⟨rfl,rfl,trivial⟩ (by simp only[p9]; omega) rfl ?_; refine jl ?_; refine tO (i6 (fun hp=>VM _ zo) (.a rfl uu<|.nil)) rfl rfl ?_; refine l3 ?_; exact g6.res (fn:=Tryz.f179) (ts:=[4,5]) rfl rfl (.r rfl (eR hs).1<|.r rfl (eR hs).2<|.nil)

set_option maxHeartbeats 1000000 in
theorem dC (xs ys:List Int) (hx:w8 xs) (hy:w8 ys) (hn:xs.length<=200000) (hm:ys.length<=200000):Ct Tryz.prog 138 [b8 (eL eI) xs,b8 (eL eI) ys] (z6 [b8 (eL eI) (if val ys=0 then [] else g7 (val xs/val ys)),b8 (eL eI) (if val ys=0 then [] else g7 (val xs%val ys)),kI (if val ys=0 then 12 else 0)]):=by
 have hdx:=N5 hx
 have hdy:=N5 hy
 have hlx:=r8 (val xs)
 have hly:=r8 (val ys)
 have hl0:=XE (z:=val ys)
 have hrz:=JF (n:=(val xs).natAbs%(val ys).natAbs)
 have hdq:dl (((val xs).natAbs/(val ys).natAbs:Nat):Int)=(d8 ((val xs).natAbs/(val ys).natAbs)).length:=rfl
 have Z1:dl (((val xs).natAbs%(val ys).natAbs:Nat):Int)=(d8 ((val xs).natAbs%(val ys).natAbs)).length:=rfl
 have hdX:(d8 (val xs).natAbs).length=dl (val xs):=rfl
 have hdY:(d8 (val ys).natAbs).length=dl (val ys):=rfl
 have hql:=N4 (m:=(val xs).natAbs) (n:=(val xs).natAbs/(val ys).natAbs) (Nat.div_le_self _ _)
 have h11:([1]:List Int).length=1:=rfl
 refine Ct.mk Tryz.func138 rfl Tryz.ntmps138 rfl (fun w J=>?_); refine u5 ?_; refine tO (i6 (fun hp=>Y9 _ (by assumption) zo) (.a rfl uu<|.nil)) rfl rfl ?_; refine i5 ?_; refine tO (i6 (fun hp=>Y9 _ (by assumption) zo) (.a rfl uu<|.nil)) rfl rfl ?_; refine v9 ?_; refine jq ?_ ?_
 ·intro h2
  have hy0:val ys=0:=by omega
  refine m9 ?_; exact g6.res (fn:=Tryz.f138) (ts:=[4,5,6]) rfl rfl (.n rfl (by rw[if_pos hy0])<|.n rfl (by rw[if_pos hy0])<|.i rfl (by rw[if_pos hy0])<|.nil)
 ·intro h2
  have hy0:val ys≠0:=by omega
  have hlt:(val xs).natAbs%(val ys).natAbs<(val ys).natAbs:=Nat.mod_lt _ zo
  have hrl:=N4 (m:=(val ys).natAbs) (n:=(val xs).natAbs%(val ys).natAbs) zo
  refine l6 ?_; refine jc (MC (val xs) zo) ?_; refine i5 ?_; refine jc (MC (val ys) zo) ?_; refine jc (dL (val xs).natAbs (val ys).natAbs zo zo zo) ?_; refine y8 ?_; refine jc (JB (val xs)) ?_; refine g8 ?_; refine Tr.cnd rfl ?_ ?_
  ·intro h5
   have hxn:=of_decide_eq_true h5
   refine i7 ?_; refine tO (i6 (fun hp=>FI _ (y0 _).inI zo) (.a rfl uu<|.nil)) rfl rfl ?_; refine i5 ?_; refine tO (i6 (fun hp=>FI _ (y0 _).inI zo) (.a rfl uu<|.nil)) rfl rfl ?_; refine y8 ?_; refine Tr.cnd rfl ?_ ?_
   ·intro h7
    have hrp:0<(val xs).natAbs%(val ys).natAbs:=by (have h7:=of_decide_eq_true h7; rw[r8,y4,K6,Z1] at h7; omega)
    obtain ⟨o1,o2⟩:=jG hy0 hxn hrp
    refine g8 ?_; refine tO (N0 eI (fun hp=>.cons rfl<|.nil) rfl rfl rfl rfl) rfl rfl ?_; refine tO (i6 (fun hp=>LY _ [1] (u7 _) (V7 zo) (by rw[r8,y4,K6,hdq]; omega) zo) (.a rfl uu<|.a rfl uu<|.nil)) rfl rfl ?_; refine g8 ?_; refine jc (MC (val ys) zo) ?_; refine tO (i6 (fun hp=>DW _ _ (u7 _) (y0 _).inI (by rw[r8,y4,K6,Z1]; omega) zo) (.a rfl uu<|.a rfl uu<|.nil)) rfl rfl ?_; refine j1 ?_; refine jc (JB (val ys)) ?_; refine g8 ?_; refine Tr.cnd rfl ?_ ?_
    ·intro h9
     have hyn:=of_decide_eq_true h9
     have hQ1:=VU (q:=(val xs).natAbs/(val ys).natAbs)
     have hQ2:=VV (q:=(val xs).natAbs/(val ys).natAbs)
     refine g8 ?_
     refine tO (i6 (fun hp=>FI _ (by first | exact u7 _ | exact (y0 _).inI) zo) (.a rfl uu<|.nil)) rfl rfl ?_
     refine B3 ?_; exact g6.res (fn:=Tryz.f138) (ts:=[4,5,6]) rfl rfl (.r rfl (by rw[if_neg hy0,o1,if_neg (show ¬BD (val xs) (val ys) from by rw[BE]; omega),q8,q8,I3,y4]; congr 1; omega)<|.r rfl (by rw[if_neg hy0,o2,q8,y4,y4]; congr 1; omega)<|.i rfl (by rw[if_neg hy0])<|.nil)
    ·intro h9
     have hyn:=of_decide_eq_false h9
     refine v9 ?_; exact g6.res (fn:=Tryz.f138) (ts:=[4,5,6]) rfl rfl (.r rfl (by rw[if_neg hy0,o1,if_pos (show BD (val xs) (val ys) from by rw[BE]; omega),q8,I3,y4]; congr 1; omega)<|.r rfl (by rw[if_neg hy0,o2,q8,y4,y4]; congr 1; omega)<|.i rfl (by rw[if_neg hy0])<|.nil)
   ·intro h7
    have hrp:(val xs).natAbs%(val ys).natAbs=0:=by (have h7:=of_decide_eq_false h7; rw[r8,y4,K6,Z1] at h7; omega)
    obtain ⟨o1,o2⟩:=YK (a:=val xs) hy0 (fun hh=>by omega)
    refine l3 ?_; refine jc (JB (val ys)) ?_; refine g8 ?_; refine Tr.cnd rfl ?_ ?_
    ·intro h9
     have hyn:=of_decide_eq_true h9
     have hQ1:=VU (q:=(val xs).natAbs/(val ys).natAbs)
     have hQ2:=VV (q:=(val xs).natAbs/(val ys).natAbs)
     refine g8 ?_
     refine tO (i6 (fun hp=>FI _ (by first | exact u7 _ | exact (y0 _).inI) zo) (.a rfl uu<|.nil)) rfl rfl ?_
     refine B3 ?_; exact g6.res (fn:=Tryz.f138) (ts:=[4,5,6]) rfl rfl (.r rfl (by rw[if_neg hy0,o1,if_neg (show ¬BD (val xs) (val ys) from by rw[BE]; omega),q8,y4]; congr 1; omega)<|.r rfl (by rw[if_neg hy0,o2,y4]; congr 1; omega)<|.i rfl (by rw[if_neg hy0])<|.nil)
    ·intro h9
     have hyn:=of_decide_eq_false h9
     refine v9 ?_; exact g6.res (fn:=Tryz.f138) (ts:=[4,5,6]) rfl rfl (.r rfl (by rw[if_neg hy0,o1,if_pos (show BD (val xs) (val ys) from by rw[BE]; omega),y4])<|.r rfl (by rw[if_neg hy0,o2,y4]; congr 1; omega)<|.i rfl (by rw[if_neg hy0])<|.nil)
  ·intro h5
   have hxn:=of_decide_eq_false h5
   obtain ⟨o1,o2⟩:=YK hy0 (fun hh=>hxn hh.1)
   refine l3 ?_; refine jc (JB (val ys)) ?_; refine g8 ?_; refine Tr.cnd rfl ?_ ?_
   ·intro h9
    have hyn:=of_decide_eq_true h9
    have hQ1:=VU (q:=(val xs).natAbs/(val ys).natAbs)
    have hQ2:=VV (q:=(val xs).natAbs/(val ys).natAbs)
    refine g8 ?_
    refine tO (i6 (fun hp=>FI _ (by first | exact u7 _ | exact (y0 _).inI) zo) (.a rfl uu<|.nil)) rfl rfl ?_
    refine B3 ?_; exact g6.res (fn:=Tryz.f138) (ts:=[4,5,6]) rfl rfl (.r rfl (by rw[if_neg hy0,o1,if_pos (show BD (val xs) (val ys) from by rw[BE]; omega),y4])<|.r rfl (by rw[if_neg hy0,o2,RB])<|.i rfl (by rw[if_neg hy0])<|.nil)
   ·intro h9
    have hyn:=of_decide_eq_false h9
    refine v9 ?_; exact g6.res (fn:=Tryz.f138) (ts:=[4,5,6]) rfl rfl (.r rfl (by rw[if_neg hy0,o1,if_neg (show ¬BD (val xs) (val ys) from by rw[BE]; omega),RB])<|.r rfl (by rw[if_neg hy0,o2,RB])<|.i rfl (by rw[if_neg hy0])<|.nil)

theorem dD (xs ys:List Int) (hx:w8 xs) (hy:w8 ys) (hn:xs.length<=200000) (hm:ys.length<=200000):Ct Tryz.prog 137 [b8 (eL eI) xs,b8 (eL eI) ys] (b8 (eL eI) (d8 (Nat.gcd (val xs).natAbs (val ys).natAbs))):=by
 have hdx:=N5 hx
 have hdy:=N5 hy
 have hlx:=r8 (val xs)
 have hly:=r8 (val ys)
 have hdX:(d8 (val xs).natAbs).length=dl (val xs):=rfl
 have hdY:(d8 (val ys).natAbs).length=dl (val ys):=rfl
 refine Ct.mk Tryz.func137 rfl Tryz.ntmps137 rfl (fun w J=>?_); refine j1 ?_; refine tO (i6 (fun hp=>Y9 _ (by assumption) zo) (.a rfl uu<|.nil)) rfl rfl ?_; refine jc (MC (val xs) zo) ?_; refine i5 ?_; refine tO (i6 (fun hp=>Y9 _ (by assumption) zo) (.a rfl uu<|.nil)) rfl rfl ?_; refine jc (MC (val ys) zo) ?_; refine g9 ?_; refine Tr.for (σ:=Nat×Nat) [] [] (fun (x,y)=>[⟨5,true,[],b8 (eL eI) (d8 x)⟩,⟨6,true,[],b8 (eL eI) (d8 y)⟩]) (fun (x,y)=>[]) (fun (x,y)=>(d8 x).length<=300000/\(d8 y).length<=300000/\Nat.gcd x y=Nat.gcd (val xs).natAbs (val ys).natAbs) (fun (x,y)=>y=0/\Nat.gcd x y=Nat.gcd (val xs).natAbs (val ys).natAbs) (fun (x,y)=>y) (((val xs).natAbs,(val ys).natAbs)) ⟨by omega,by omega,rfl⟩ (d6.mk (.r rfl rfl<|.r rfl rfl<|.nil) (.nil) rfl) ?_ ?_
 ·rintro ⟨x,y⟩ ⟨hx1,hy1,hg⟩
  refine jn ?_
  have hy0:=JF (n:=y)
  refine j1 ?_; refine jq ?_ ?_
  ·intro h2
   refine j3 ?_; refine jc (dL x y zo zo zo) ?_; refine D7 ?_; exact d9.lp ((y,x%y)) ⟨hy1,by have:=N4 (m:=y) (n:=x%y) (Nat.le_of_lt (Nat.mod_lt _ zo)); omega,by rw[vH]; exact hg⟩ (by show x%y<y; exact Nat.mod_lt _ zo) (d6.mk (.r rfl rfl<|.r rfl rfl<|.nil) (.nil) rfl)
  ·intro h2
   replace h2:=Int.not_lt.1 h2
   refine g9 ?_
   exact d9.cut ((x,y)) ⟨by omega,hg⟩ (d6.mk (.r rfl zi<|.r rfl zi<|.nil) (.nil) rfl)
 ·rintro ⟨x,y⟩ ⟨rfl,hg⟩
  refine jn ?_; refine j3 ?_; exact g6.res1 (fn:=Tryz.f137) rfl (.r rfl (by rw[<- hg,Nat.gcd_zero_right])<|.nil)

end Go.Fl

/- Contracts: numbers of a field in lowest terms. -/
namespace Go.Fl
open Go Go.Proofs
open d5 renaming op->tO
open i9 renaming op->rO
set_option maxRecDepth 100000

theorem rH (a b:Int) (ha:dl a<=800000) (hb:dl b<=800000):Ct Tryz.prog 205 [b8 eW (wh a),b8 eW (wh b)] (b8 eW (wh (Int.gcd a b))):=by
 refine Ct.mk Tryz.func205 rfl Tryz.ntmps205 rfl (fun w J=>?_); refine g8 ?_; refine jb 2 rfl ?_; refine jb 3 rfl ?_; refine ja 4 ?_; refine g8 ?_; refine Tr.for (σ:=Int×Int) [⟨2,true,_,_⟩,⟨3,true,_,_⟩,⟨4,true,_,_⟩] [⟨4,_,_⟩] (fun ⟨x,y⟩=>[]) (fun ⟨x,y⟩=>[⟨2,[],j5 [kB (decide (x<0)),b8 (eL eI) (d8 (x).natAbs)]⟩,⟨3,[],j5 [kB (decide (y<0)),b8 (eL eI) (d8 (y).natAbs)]⟩]) (fun ⟨x,y⟩=>Int.gcd x y=Int.gcd a b/\dl x<=800000/\dl y<=800000) (fun ⟨x,y⟩=>x.natAbs=Int.gcd a b) (fun ⟨x,y⟩=>y.natAbs) ((a,b)) ⟨rfl,ha,hb⟩ (d6.mk (zk) (zk) rfl) ?_ ?_
 ·rintro ⟨x,y⟩ ⟨hg,hx,hy⟩
  refine jn ?_; refine g9 ?_; refine jc (BQ y) ?_; refine i7 ?_; refine jq ?_ ?_
  ·intro h1
   have hy0:y≠0:=fun e=>h1 (R8.2 e)
   refine j3 ?_; refine jc (VP x y hy0 zo zo) ?_; refine i7 ?_; refine ja 5 ?_; refine ja 6 ?_; refine g9 ?_; refine Tr.drawS 2 2 o0 (by kernel_rfl) ?_; refine n8.opA (Q9 rfl uu) (by kernel_rfl) rfl rfl ?_; refine n8.op (Q9 rfl uu) rfl rfl ?_; refine n8.z (DL rfl rfl rfl) rfl rfl rfl ?_; refine i7 ?_; exact d9.lp ((y,x%y)) ⟨(vI (x:=x) (y:=y)).trans hg,hy,by have:=uF (x:=x) hy0; omega⟩ (by have h2:=Int.emod_nonneg x hy0; have h3:=Int.emod_lt x hy0; show (x%y).natAbs<y.natAbs; omega) (d6.mk (zk) (zk) rfl)
  ·intro h1
   replace h1:=Classical.not_not.1 h1
   refine g9 ?_; exact d9.cut ((x,y)) (by have e:=R8.1 h1; subst e; rw[<- hg]; simp) (d6.mk (zk) (zk) rfl)
 ·rintro ⟨x,y⟩ hE
  refine jn ?_; refine B3 ?_; exact g6.resC1 (fn:=Tryz.f205) rfl rfl (t7 rfl (by rw[<- hE]; exact (IC (n:=x.natAbs))))

theorem VG (c:List Int) (d:Int) (hc:∀i,dl (b6 c i)<=700000) (hd:dl d<=700000) (hp:0<d):Ct Tryz.prog 183 [b8 K7 (c,d)] (b8 K7 (loN c d)):=by
 refine Ct.mk Tryz.func183 rfl Tryz.ntmps183 rfl (fun w J=>?_); refine Tr.fact (s:=0) rfl (fun _ _ h=>PY h) (fun hl=>?_)
 have hl:c.length=4:=hl
 have hG:=eG (c:=c) hp
 have hGp:=QI (cs:=c) (g:=d.natAbs) zo
 refine g8 ?_; refine jb 1 rfl ?_; refine ja 2 ?_; refine l3 ?_; refine ja 3 ?_; refine y8 ?_
 refine Tr.for1 (σ:=Nat) [⟨1,true,_,_⟩,⟨2,true,_,_⟩,⟨3,true,_,_⟩,⟨11,true,_,_⟩] [⟨1,_,_⟩,⟨2,_,_⟩] (fun k=>[⟨12,true,[],kI (k:Int)⟩]) (fun k=>[⟨3,[],j5 [kB (decide ((gL d.natAbs (c.take k):Int)<0)),b8 (eL eI) (d8 ((gL d.natAbs (c.take k):Int)).natAbs)]⟩]) (fun k=>k<=4) (fun k=>k=4) (fun k=>4-k) (0) zi (d6.mk (.i rfl zi<|zk) (.conv (AQ (BR (by rw[List.take_zero]; show d=(d.natAbs:Int); omega))) rfl<|zk) rfl) ?_ ?_
 ·intro k hR0
  refine jn ?_
  have hgk:=eG (c:=c.take k) hp
  have hck:=hc k
  refine l3 ?_; refine jq ?_ ?_
  ·intro h3
   refine l3 ?_; refine tO (YE rfl uu rfl uu (fun _=>zo)) rfl rfl ?_; refine ja 5 ?_; refine l3 ?_; refine jc (rH (gL d.natAbs (c.take k):Int) (b6 c k) zo zo) ?_; refine j1 ?_
   exact d9.lp (k+1) zi zo (d6.mk (.i rfl zi<|zk) (.conv (AQ (BR (WG zo).symm)) rfl<|zk) rfl)
  ·intro h3
   replace h3:=Int.not_lt.1 h3
   refine g9 ?_
   exact d9.cut (k) zo (d6.mk (.i rfl zi<|zk) (zk) rfl)
 ·rintro _ rfl
  refine je ?_
  rw[List.take_of_length_le zo]
  refine m9 ?_
  refine Tr.for1 (σ:=Nat) [⟨1,true,_,_⟩,⟨2,true,_,_⟩,⟨3,true,_,_⟩,⟨20,true,_,_⟩] [⟨2,_,_⟩,⟨3,_,_⟩] (fun k=>[⟨21,true,[],kI (k:Int)⟩]) (fun k=>[⟨1,[],j5 (wC (fun i=>if i<k then b6 c i/(gL d.natAbs c:Int) else b6 c i) 0 4++[kB (decide (d<0)),b8 (eL eI) (d8 (d).natAbs)])⟩]) (fun k=>k<=4) (fun k=>k=4) (fun k=>4-k) (0) zi (d6.mk (.i rfl zi<|zk) (.conv (cW (fun j _=>(if_neg zo).symm) rfl) rfl<|zk) rfl) ?_ ?_
  ·intro k hR1
   refine jn ?_
   have hck:=hc k
   have hgk:k<4->(if k<k then b6 c k/(gL d.natAbs c:Int) else b6 c k)=b6 c k:=fun _=>if_neg zo
   refine l3 ?_; refine jq ?_ ?_
   ·intro h8
    refine j3 ?_; refine tO (YE rfl uu rfl uu (fun _=>zo)) rfl rfl ?_; refine ja 7 ?_; refine j1 ?_; refine jc (VP (b6 c k) (gL d.natAbs c:Int) zo zo zo) ?_; refine g9 ?_; refine tO (DI rfl uu rfl uu (fun _=>zo)) rfl rfl ?_; refine d5.stW (k) zo zo rfl rfl rfl ?_; refine j3 ?_
    exact d9.lp (k+1) zi zo (d6.mk (.i rfl zi<|zk) (.conv (cW (fun j _=>by simp only[CN]; by_cases e:j=k; (rw[if_pos e,if_pos zo,e]); (rw[if_neg e]; by_cases e2:j<k; (rw[if_pos e2,if_pos zo]); (rw[if_neg e2,if_neg zo]))) rfl) rfl<|zk) rfl)
   ·intro h8
    replace h8:=Int.not_lt.1 h8
    refine g9 ?_
    exact d9.cut (k) zo (d6.mk (.i rfl zi<|zk) (zk) rfl)
  ·rintro _ rfl
   refine je ?_; refine l3 ?_; refine jc (VP d (gL d.natAbs c:Int) zo zo zo) ?_; refine D7 ?_; exact g6.resC1 (fn:=Tryz.f183) rfl rfl (t7 rfl (by rw[<- wW hp hl]; exact Prod.ext (B5 fun i hi=>if_pos hi) rfl))

end Go.Fl

/- Reduction modulo the polynomial of a field, as the program reckons it: in place. No program in sight. -/
namespace Go.Fl
open Go
def R3 (p ys:List Int) (n i k:Nat):List Int:=j8 ys.length fun j=>if i-n<=j/\j<i-n+k then b6 ys j-b6 ys i*b6 p (j-(i-n)) else b6 ys j
theorem TD {p ys:List Int} {n i k:Nat}:(R3 p ys n i k).length=ys.length:=p8
theorem ah5 {p ys:List Int} {n i:Nat}:ys=R3 p ys n i 0:=by
 conv=>lhs; rw[U5 (rfl:ys.length=ys.length)]
 exact B5 fun j _=>(if_neg zo).symm
theorem lN {p ys:List Int} {n i k j:Nat} (hj:j<ys.length) (h:j<i-n\/i-n+k<=j):b6 (R3 p ys n i k) j=b6 ys j:=by
 unfold R3
 rw[r5 hj,if_neg zo]
theorem ah3 {p ys:List Int} {n i k:Nat} (_:k<n) (hn:n<=i) (_:i<ys.length):(R3 p ys n i k).set (i-n+k) (b6 ys (i-n+k)+-(b6 ys i*b6 p k))=R3 p ys n i (k+1):=by
 unfold R3
 rw[GE]
 refine B5 fun j hj=>?_
 by_cases e:j=i-n+k
 ·subst e
  rw[if_pos rfl,if_pos ⟨zo,zo⟩,Nat.add_sub_cancel_left]; omega
 ·rw[if_neg e]
  by_cases h:i-n<=j/\j<i-n+k
  ·rw[if_pos h,if_pos ⟨h.1,by omega⟩]
  ·rw[if_neg h,if_neg zo]
theorem M3 {xs:List Int} {i k:Nat} (h:i<k):b6 (xs.take k) i=b6 xs i:=by
 simp[b6,List.getD,h]
theorem ah4 {p ys:List Int} {n i:Nat} (hn:n<=i) (hi:i<ys.length):(R3 p ys n i n).take i=Y2 p n (ys.take (i+1)):=by
 have hl:(ys.take (i+1)).length=i+1:=by rw[List.length_take]; omega
 have e1:((R3 p ys n i n).take i).length=i:=by rw[List.length_take,TD]; omega
 rw[U5 e1]
 unfold Y2
 rw[hl,Nat.add_sub_cancel]
 refine B5 fun j hj=>?_
 rw[M3 hj,M3 zo,M3 zo]
 unfold R3
 rw[r5 zo]
 by_cases h:i-n<=j
 ·rw[if_pos ⟨h,by omega⟩,if_pos h]
 ·rw[if_neg zo,if_neg h,Int.sub_zero]
theorem kO {p xs:List Int} {n:Nat} (hp:p.length-1=n) (h:n<xs.length):red p (Y2 p n xs)=red p xs:=by
 unfold red
 rw[hp,BC]
 obtain ⟨f,hf⟩:∃f,xs.length-n=f+1:=⟨xs.length-n-1,by omega⟩
 rw[hf,show xs.length-1-n=f by omega]
 conv=>rhs; rw[M4,if_neg zo]
theorem SU {p xs:List Int} {n:Nat} (hp:p.length-1=n) (h:xs.length<=n):red p xs=xs++List.replicate (n-xs.length) 0:=by
 unfold red
 rw[hp,show xs.length-n=0 by omega,M4]
theorem ac0 {p ys:List Int} {n m:Nat} (hp:p.length-1=n) (hm:n<m) (hl:m<=ys.length):red p ((R3 p ys n (m-1) n).take (m-1))=red p (ys.take m):=by
 rw[ah4 zo zo,show m-1+1=m by omega]
 exact kO hp (by rw[List.length_take]; omega)
theorem PS {a b q:Int} {A B:Nat} (ha:dl a<=A) (hb:dl b<=B) (hq:dl q<=1):dl (a+-(b*q))<=max A (B+1)+1:=by
 have h1:=Q3 a (-(b*q))
 rw[K6] at h1
 have h2:=s7 b q
 omega
theorem lM {p ys:List Int} {n i k B:Nat} (_:n<=i) (_:i<ys.length) (hy:∀j,dl (b6 ys j)<=B) (hp:∀j,dl (b6 p j)<=1) (j:Nat):dl (b6 (R3 p ys n i k) j)<=B+2:=by
 by_cases hj:j<ys.length
 ·unfold R3
  rw[r5 hj]
  split
  ·rw[Int.sub_eq_add_neg]
   have:=PS (hy j) (hy i) (hp (j-(i-n)))
   omega
  ·have:=hy j; omega
 ·have:b6 (R3 p ys n i k) j=0:=by simp[b6,List.getD,List.getElem?_eq_none (show (R3 p ys n i k).length<=j by rw[TD]; omega)]
  rw[this]
  have:dl 0=0:=C5.2 rfl
  omega
def I1 (p xs:List Int):List Int:=j8 4 (b6 (red p xs))
theorem HQ {p xs:List Int}:(I1 p xs).length=4:=p8
theorem iO {p xs:List Int} {i:Nat} (h:i<4):b6 (I1 p xs) i=b6 (red p xs) i:=r5 h
theorem KC {xs:List Int} {k i:Nat}:b6 (xs++List.replicate k 0) i=if i<xs.length then b6 xs i else 0:=by
 split
 ·rename_i h; simp[b6,List.getD,List.getElem?_append_left h]
 ·rename_i h
  simp only[b6,List.getD,List.getElem?_append_right (Nat.le_of_not_lt h),List.getElem?_replicate]
  split<;>rfl
theorem wU {xs:List Int} {d:Int} (hd:d≠0):loN (xs.map fun c=>-c) (-d)=loN xs d:=by
 have:=MW (cs:=xs) (d:=d) (m:=-1) hd (by decide)
 rw[<- this]
 congr 1
 ·exact List.map_congr_left fun c _=>by omega
 ·omega
theorem uH {p xs:List Int} {ys:List Int} {n m B:Nat} (hp:p.length-1=n) (hm:m<=n) (hl:m<=ys.length) (he:red p (ys.take m)=red p xs) (hy:∀j,dl (b6 ys j)<=B) (i:Nat):b6 (red p xs) i=(if i<m then b6 ys i else 0)/\dl (b6 (red p xs) i)<=B:=by
 have hlen:(ys.take m).length=m:=by rw[List.length_take]; omega
 rw[<- he,SU hp zo,KC,hlen]
 split
 ·rename_i h; rw[M3 h]; exact ⟨rfl,hy i⟩
 ·exact ⟨rfl,by rw[C5.2 rfl]; omega⟩
theorem DY {F:Nat->Int} {k B:Nat} (h:∀i,i<k->dl (F i)<=B) (i:Nat):dl (b6 (j8 k F) i)<=B:=by
 by_cases hi:i<k
 ·rw[r5 hi]; exact h i hi
 ·have:b6 (j8 k F) i=0:=by simp[b6,List.getD,List.getElem?_eq_none (show (j8 k F).length<=i by rw[p8]; omega)]
  rw[this,C5.2 rfl]; omega
theorem MZ {c:List Int} {k:Nat} (hl:c.length=k):(c.map fun z=>-z)=j8 k fun i=>-b6 c i:=by
 conv=>lhs; rw[U5 hl]
 simp[j8]
theorem FL {v:List Int×Int} (h:v.1.length=4):(j8 4 (b6 v.1),v.2)=v:=Prod.ext (U5 h).symm rfl
def C0 (x y:List Int×Int):List Int×Int:=loN (j8 4 fun i=>b6 x.1 i*y.2+b6 y.1 i*x.2) (x.2*y.2)
theorem uB {x y:List Int×Int} {A:Nat} (hx:∀i,dl (b6 x.1 i)<=A) (hy:∀i,dl (b6 y.1 i)<=A) (hdx:dl x.2<=A) (hdy:dl y.2<=A) (i:Nat):dl (b6 x.1 i*y.2+b6 y.1 i*x.2)<=2*A+1:=by
 have h1:=hx i
 have h2:=hy i
 have h3:=s7 (b6 x.1 i) y.2
 have h4:=s7 (b6 y.1 i) x.2
 have h5:=Q3 (b6 x.1 i*y.2) (b6 y.1 i*x.2)
 omega
end Go.Fl

/- A part of an array of the call's own, as a slice; copies of integers into it. -/
namespace Go.Fl
open Go Go.RowKit
set_option maxRecDepth 100000
theorem ad4 {P:Program} (w:World) (dT sT ty elem:TypeId) (g o dLen dCap sz n:Nat) (src:Value) (cur:Array Value) (t:TypeId) (cs:List Value) (hu:P.underlying dT=some (.slice elem)) (hs:(P.info? elem).map (·.size)=some sz)
  (hg:w.heap[g]?=some (.cells cur t (0,0))) (hl:(Builtin.lenOf src).run P w=.ok n w) (hf:(Builtin.firstCells sz (Nat.min n dLen) src).run P w=.ok cs.toArray w) (hfit:o+cs.length<=cur.size) (h1:∀v∈cs,v.oneCell'=true) :
  (Builtin.copy_ #[dT,sT] ty #[.slice (some ⟨g,o,none⟩) dLen dCap,src]).run P w=.ok (goInt (Nat.min n dLen)) (w.setRow g (cur.toList.take o++cs++cur.toList.drop (o+cs.length)).toArray):=by
 have hst:=run_storeCells_at P g o t cs 0 cur w hg (by simpa using hfit) h1
 cases hq:P.info? elem with
 | none=>simp[hq] at hs
 | some i =>
  have hi:i.size=sz:=by simpa [hq] using hs
  simp[Builtin.copy_,run_underlying hu,sizeOf,typeInfo,hq,hi,hl,hf,hst]
def WV (t o l c:Nat):d7:=fun g v=>∃b cap,g.M t=some (.blk b cap)/\v=.slice (some ⟨b,o,none⟩) l c
instance (t o l c:Nat):o5 (WV t o l c) [t]:=⟨fun _ hd ⟨b,cap,h1,h2⟩=>⟨b,cap,(hd t (by simp)).trans h1,h2⟩⟩
section
variable {P:Program} {c:n6} {S:i4} {M:i1} {p:Bool} {d:Option Tmp} {ty:TypeId} {pos:String} {af:Array Edge} {gd:Option (Nat×Bool)} {x y:Operand} {b b':Bool}
theorem yY {t et:TypeId} {n:Nat} [ht:AO P t n et] {sz by':Nat} {zz:Value} [hz:p6 P et sz by' zz] {u o:Nat} {ik:IntKind} {i0:Int} (hx:j2 S x=some (b,y5 u o)) (hb:p=true->b=true) (hy:j2 S y=some (b',z9 ik i0)) (hb':p=true->b'=true)
  (h:p=true->0<=i0/\i0<=n):l4 P c S M ⟨d,.slice t x none (some y) none,ty,pos,af,gd⟩ p (WV u o i0.toNat n) none :=
 l4.pure fun hp a g w _ _ ho=>by
  obtain ⟨bl,cap,h1,h2⟩:=ho x (by simp[Op.operands]) b _ hx (hb hp)
  have hi:a.eval y=_:=ho y (by simp[Op.operands]) b' _ hy (hb' hp)
  have hlt:=h hp
  obtain ⟨ti,hti,rfl,_,_⟩:=hz.h
  refine ⟨.slice (some ⟨bl,o,none⟩) i0.toNat n,?_,bl,cap,h1,rfl⟩
  have hbd:(Instr.sliceBounds false n n none (some (.int ik i0)) none).run P w=.ok (0,i0.toNat,n) w:=by
   simp[Instr.sliceBounds,Instr.sliceBound,asIntOf,hlt]
  simp only[execOp,hi,h2,Option.map,Sem.run_bind]
  unfold Instr.sliceAt
  simp only[Sem.run_bind,run_underlying ht.h,Result.andThen_ok,Instr.sureAddr,Sem.run_pure,hbd]
  simp[sizeOf,typeInfo,hti,Addr.add]
end
section
variable {P:Program} {c:n6} {ops:Array Oper} {S:i4} {M:i1} {rest:List Oper} {Q:Exit->Act->World->Prop} {x y:Operand}
variable {d:Nat} {ty:TypeId} {pos:String} {af:Array Edge}
theorem ak3 {f:Nat->Int} {i m:Nat} {z:Int} (h:f i=z):wC f i (m+1)=kB (decide (z<0))::b8 (eL eI) (d8 z.natAbs)::wC f (i+1) m:=by subst h; rfl
theorem ak1 {ys:List Int} {g:Gh}:∀{k:Nat} {f:Nat->Int} {i m:Nat} {r:List d7} {cs vs:List Value},n9 g (wC f i m++r) cs->k<=m->k<=ys.length->BB eZ g.J vs (ys.take k)->n9 g (wC (fun j=>if i<=j/\j<i+k then b6 ys (j-i) else f j) i m++r) (vs++cs.drop (2*k)):=by
 intro k
 induction ys generalizing k with
 | nil =>
  intro f i m r cs vs h _ hk hv
  obtain rfl:k=0:=by simpa using hk
  have hv:vs=[]:=hv
  subst hv
  rw[LC (f':=f) fun j _ _=>if_neg zo]
  simpa using h
 | cons y ys ih =>
  intro f i m r cs vs h hkm hk hv
  cases k with
  | zero =>
   have hv:vs=[]:=hv
   subst hv
   rw[LC (f':=f) fun j _ _=>if_neg zo]
   simpa using h
  | succ k =>
   cases m with
   | zero=>omega
   | succ m =>
    rw[List.take_succ_cons] at hv
    obtain ⟨c1,c2,rfl,q1,q2⟩:=hv
    match cs,h with
    | a::b::cs,⟨h1,h2,h3⟩ =>
     have hr:=ih (k:=k) (f:=f) (i:=i+1) (m:=m) h3 zo (by simpa using hk) q2
     have e0:(fun j=>if i<=j/\j<i+(k+1) then b6 (y::ys) (j-i) else f j) i=y:=by simp[b6]
     rw[List.append_assoc,show 2*(k+1)=2*k+2 by omega,List.drop_succ_cons,List.drop_succ_cons]
     rw[ak3 e0,LC (f':=fun j=>if i+1<=j/\j<i+1+k then b6 ys (j-(i+1)) else f j) (fun j hj _=>by
      by_cases e:j<i+(k+1)
      ·rw[if_pos ⟨by omega,e⟩,if_pos ⟨hj,by omega⟩,show j-i=(j-(i+1))+1 by omega]; rfl
      ·rw[if_neg zo,if_neg zo])]
     exact (inferInstance:H6 eZ y _ _).imp q1 hr
theorem d5.cpW {t et:TypeId} [ht:D1 P t et] {by':Nat} {zz:Value} [hz:p6 P et 2 by' zz] {u l1 c1 m:Nat} {f:Nat->Int} {ys:List Int} {r:List d7} {dep dep':List Nat} {M':i1} (k:Nat) (hx:j2 S x=some (true,WV u 0 l1 c1)) (hy:j2 S y=some (true,b8 (eL eZ) ys)) [hl:q7 M u (j5 (wC f 0 m++r)) dep]
  (hk:k=min ys.length l1) (hm:l1<=m) [hd:B9 (wC (fun j=>if j<k then b6 ys j else f j) 0 m++r) dep'] [hup:D5 M u (j5 (wC (fun j=>if j<k then b6 ys j else f j) 0 m++r)) dep' M'] (hs:t8 dep' (tags M)=true) (hn:Nat.blt d c.n=true)
  (K:d5 P c ops (⟨d,true,[],kI k⟩::S) M' rest Q):d5 P c ops S M (⟨some d,.call { callee:=.builtin .copy,args:=#[x,y],argTypes:=#[t,t] },ty,pos,af,none⟩::rest) Q:=by
 intro a g w hsat
 have hdn:d<c.n:=by simpa [Nat.blt_eq] using hn
 obtain ⟨b,cap,hm1,he⟩:=C8 hsat.slots hx rfl
 obtain ⟨cs0,⟨ad,cp,rfl,k2,k3⟩,hv⟩:=C8 hsat.slots hy rfl
 simp only[eL,Bool.false_eq_true,if_false,List.headD_cons] at hv
 obtain ⟨cs,tt,h3,h4⟩:=DT (ks:=wC f 0 m++r) hsat.conts hm1
 obtain ⟨ti,hti,hts,_,_⟩:=hz.h
 have hcl:=L6 h4
 simp only[Array.length_toList,List.length_append,TO] at hcl
 obtain ⟨vs,hvs,hfc⟩:∃vs,BB eZ g.J vs (ys.take k)/\(Builtin.firstCells 2 (Nat.min ys.length l1) (a.eval y)).run P w=.ok vs.toArray w:=by
  have hkk:Nat.min ys.length l1=k:=hk.symm
  rw[hkk,hv]
  rcases k3 with rfl | ⟨bl,o,rfl,hrow⟩
  ·have hk0:k=0:=by simpa using hk
   subst hk0
   refine ⟨[],rfl,?_⟩
   cases ad with
   | none=>rfl
   | some ad =>
    have:=run_loadCells_list (P:=P) w ad [] (fun j v hj=>by simp at hj)
    simpa [Builtin.firstCells] using this
  ·have key:∀(n i:Nat) (zs:List Int),zs.length=n->(∀j x,zs[j]?=some x->∃ds,eZ.rd g.J ds x/\DU g.J bl (o+(i+j)*2) ds)->∃vs,BB eZ g.J vs zs/\DU g.J bl (o+i*2) vs:=by
    intro n
    induction n with
    | zero=>intro i zs hz _; rw[List.eq_nil_of_length_eq_zero hz]; exact ⟨[],rfl,fun j v hj=>by simp at hj⟩
    | succ n ih =>
     intro i zs hz hr
     match zs,hz with
     | z::zs,hz =>
      obtain ⟨ds,q1,q2⟩:=hr 0 z rfl
      obtain ⟨vs,r1,r2⟩:=ih (i+1) zs (by simpa using hz) (fun j x hx=>by
       obtain ⟨es,s1,s2⟩:=hr (j+1) x (by simpa using hx)
       exact ⟨es,s1,by rwa [show i+1+j=i+(j+1) by omega]⟩)
      refine ⟨ds++vs,⟨ds,vs,rfl,q1,r1⟩,fun j v hj=>?_⟩
      have hl:=eZ.len q1
      rw[show eZ.n=2 from rfl] at hl
      rw[List.getElem?_append] at hj
      split at hj
      ·have:=q2 j v hj
       rwa [Nat.add_zero] at this
      ·have:=r2 _ v hj
       rwa [show o+(i+1)*2+(j-ds.length)=o+i*2+j by omega] at this
   obtain ⟨vs,r1,r2⟩:=key _ 0 (ys.take k) rfl (fun j x hx=>by
    rw[List.getElem?_take] at hx
    split at hx
    ·obtain ⟨ds,q1,q2⟩:=hrow j x hx
     exact ⟨ds,q1,by rw[Nat.zero_add]; exact q2⟩
    ·cases hx)
   refine ⟨vs,r1,?_⟩
   have hlen:=SS r1
   rw[List.length_take,show eZ.n=2 from rfl] at hlen
   have:=run_loadCells_list (P:=P) w ⟨bl,o,none⟩ vs (fun j v hj=>by
    have:=hsat.ok.im _ _ _ (r2 j v hj)
    rw[Addr.add_lit]
    simpa using this)
   rw[hlen,show min k ys.length=k by omega] at this
   simpa [Builtin.firstCells] using this
 have hvl:vs.length=k*2:=by
  have:=SS hvs
  rw[List.length_take,show eZ.n=2 from rfl] at this
  rw[this]; congr 1; omega
 have hr:=ad4 (P:=P) w t t ty et b 0 l1 c1 2 ys.length (a.eval y) cs tt vs ht.h (by rw[hti]; simp[hts]) h3 (by rw[hv]; simp[Builtin.lenOf]) hfc zo (YT hvs)
 refine wpList_plain rfl fun K' hK'=>?_
 unfold Oper.wp
 simp only[execOp,resolve,Sem.run_bind,Sem.run_pure,Result.andThen_ok,invoke,builtin,List.map_toArray,List.map_cons,List.map_nil]
 rw[he,hr]
 simp only[Result.andThen_ok,Oper.upon]
 have hnew:=ak1 (ys:=ys) h4 (k:=k) zo zo hvs
 rw[LC (f':=fun j=>if j<k then b6 ys j else f j) (fun j _ _=>by
  by_cases e:j<k
  ·rw[if_pos ⟨Nat.zero_le _,by omega⟩,if_pos e,Nat.sub_zero]
  ·rw[if_neg zo,if_neg e])] at hnew
 have hst:=hsat.store hm1 h3 hup ⟨_,_,rfl,(by simpa [hvl,Nat.mul_comm] using hnew:n9 g _ (cs.toList.take 0++vs++cs.toList.drop (0+vs.length)).toArray.toList)⟩ inferInstance (C3 hs)
 refine hK' _ _ (K _ g _ (hst.did (H2.same hst.ok (k:=kI k) ?_) (fun _ h=>by cases h) inferInstance (fun _ h=>by cases h) hdn))
 show goInt (Nat.min ys.length l1)=_
 rw[show Nat.min ys.length l1=k from hk.symm]
 rfl
theorem oG {g:Gh} {a b:d7} {vs:List Value} (h:n9 g [a,b] vs):∃u v,vs=[u,v]/\a g u/\b g v:=by
 match vs,h with
 | [u,v],h=>exact ⟨u,v,rfl,h.1,h.2.1⟩
theorem mU {F C:Nat->Int} {k j:Nat} {z:Int} (hz:z=F k):CN (fun i=>if i<k then F i else C i) k z j=if j<k+1 then F j else C j:=by
 unfold CN
 by_cases e:j=k
 ·subst e; rw[if_pos rfl,if_pos (Nat.lt_succ_self _),hz]
 ·rw[if_neg e]
  show (if j<k then F j else C j)=_
  by_cases h:j<k
  ·rw[if_pos h,if_pos zo]
  ·rw[if_neg h,if_neg zo]
theorem Tr.conC {code:Code} (v:Nat) {ct ct':t9} {dep dep':List Nat} {M':i1} [hl:q7 M v ct dep] (hc:∀g b o,ct g b o->ct' g b o) [hd:B4 ct' dep'] [hup:D5 M v ct' dep' M'] (hs:t8 dep' (tags M)=true) (K:Tr P c S M' code Q):Tr P c S M code Q :=
 fun a g w h=>K a g w (h.conC hc hd hup (C3 hs))
theorem nB {r r':List d7} (hr:∀g vs,n9 g r vs->n9 g r' vs):∀g b o,j5 ([kB false,j4 (.slice none 0 0),kB false,j4 (.slice none 0 0),kB false,j4 (.slice none 0 0),kB false,j4 (.slice none 0 0)]++r) g b o->j5 (wC (fun _=>0) 0 4++r') g b o:=fun g _ _ ⟨cs,ty,h1,h2⟩=>⟨cs,ty,h1,by
 have hz:∀v,j4 (.slice none 0 0) g v->b8 (eL eI) (d8 (0:Int).natAbs) g v:=fun v h=>by
  cases h
  exact ⟨_,Y1 (c:=0),rfl⟩
 match h:cs.toList,h2 with
 | a0::b0::a1::b1::a2::b2::a3::b3::vs,⟨q0,p0,q1,p1,q2,p2,q3,p3,hvs⟩=>exact ⟨q0,hz _ p0,q1,hz _ p1,q2,hz _ p2,q3,hz _ p3,hr _ _ hvs⟩⟩
end
end Go.Fl

/- Contracts: numbers of a field (reduction modulo its polynomial, sums, negatives). -/
namespace Go.Fl
open Go Go.Proofs
open d5 renaming op->tO
open i9 renaming op->rO
set_option maxRecDepth 100000

abbrev C9:=u8×List Int×List Int×Int×Int×Int
abbrev s5:=List (List Int)×List Int
def A5:i8 C9:=eC (fun v:C9=>(v.1,v.2.1,v.2.2.1,v.2.2.2.1,v.2.2.2.2.1,v.2.2.2.2.2,())) (eP A8 (eP (eL eZ) (eP (eL eZ) (eP eZ (eP eZ (eP eZ eU))))))
instance {v:C9}:E9 (b8 A5 v) [b8 (eL eI) (v.1.1),kI (v.1.2.1),kI (v.1.2.2.1),kI (v.1.2.2.2),b8 (eL eZ) (v.2.1),b8 (eL eZ) (v.2.2.1),kB (decide (v.2.2.2.1<0)),b8 (eL eI) (d8 (v.2.2.2.1).natAbs),kB (decide (v.2.2.2.2.1<0)),b8 (eL eI) (d8 (v.2.2.2.2.1).natAbs),kB (decide (v.2.2.2.2.2<0)),b8 (eL eI) (d8 (v.2.2.2.2.2).natAbs)]:=inferInstanceAs (E9 (b8 (eC (fun v:C9=>(v.1,v.2.1,v.2.2.1,v.2.2.2.1,v.2.2.2.2.1,v.2.2.2.2.2,())) (eP A8 (eP (eL eZ) (eP (eL eZ) (eP eZ (eP eZ (eP eZ eU))))))) v) _)
instance {v:C9}:P8 A5 v (b8 A5 v):=⟨fun h=>h⟩
instance {v:C9}:v6 A5 v 0 A8 (v.1) 0:=inferInstanceAs (v6 (eC (fun v:C9=>(v.1,v.2.1,v.2.2.1,v.2.2.2.1,v.2.2.2.2.1,v.2.2.2.2.2,())) (eP A8 (eP (eL eZ) (eP (eL eZ) (eP eZ (eP eZ (eP eZ eU))))))) v 0 _ _ _)
instance {v:C9}:v6 A5 v 1 (eL eZ) (v.2.1) 4:=inferInstanceAs (v6 (eC (fun v:C9=>(v.1,v.2.1,v.2.2.1,v.2.2.2.1,v.2.2.2.2.1,v.2.2.2.2.2,())) (eP A8 (eP (eL eZ) (eP (eL eZ) (eP eZ (eP eZ (eP eZ eU))))))) v 1 _ _ _)
instance {ks r:List d7} {f:u8} {p t:List Int} {a b c:Int} [h:t6 ks (eP A8 (eP (eL eZ) (eP (eL eZ) (eP eZ (eP eZ (eP eZ eU)))))) (f,p,t,a,b,c,()) r]:t6 ks A5 ((f,p,t,a,b,c)) r:=⟨fun h'=>h.imp h'⟩
def j7:i8 s5:=eC (fun v:s5=>(v.1,v.2,())) (eP (eL (eL eI)) (eP (eL eI) eU))
instance {v:s5}:E9 (b8 j7 v) [b8 (eL (eL eI)) (v.1),b8 (eL eI) (v.2)]:=inferInstanceAs (E9 (b8 (eC (fun v:s5=>(v.1,v.2,())) (eP (eL (eL eI)) (eP (eL eI) eU))) v) _)
instance {v:s5}:P8 j7 v (b8 j7 v):=⟨fun h=>h⟩
instance {v:s5}:v6 j7 v 0 (eL (eL eI)) (v.1) 0:=inferInstanceAs (v6 (eC (fun v:s5=>(v.1,v.2,())) (eP (eL (eL eI)) (eP (eL eI) eU))) v 0 _ _ _)
instance {v:s5}:v6 j7 v 1 (eL eI) (v.2) 1:=inferInstanceAs (v6 (eC (fun v:s5=>(v.1,v.2,())) (eP (eL (eL eI)) (eP (eL eI) eU))) v 1 _ _ _)
instance {ks r:List d7} {a:List (List Int)} {b:List Int} [h:t6 ks (eP (eL (eL eI)) (eP (eL eI) eU)) (a,b,()) r]:t6 ks j7 ((a,b)) r:=⟨fun h'=>h.imp h'⟩
instance:aJ Tryz.prog 112:=⟨⟨_,Tryz.underlying112⟩⟩
theorem VB (r:C9) (hn:2<=r.2.1.length/\r.2.1.length<=5):Ct Tryz.prog 160 [r7 A5 r] (kI ((r.2.1.length:Int)-1)):=by
 refine Ct.mk Tryz.func160 rfl Tryz.ntmps160 rfl (fun w J=>?_); refine j1 ?_; refine tO (CB rfl uu) rfl rfl ?_; refine j1 ?_
 exact g6.res1 (fn:=Tryz.f160) rfl (.i rfl zi<|.nil)

theorem qM (p:List Int) (hn:p.length<=1000000):U9 Tryz.prog 196 [b8 (eL eZ) p] (fun t=>o9 t p.length) (l5 false 160 eZ p p.length):=by
 refine U9.mk Tryz.func196 rfl Tryz.ntmps196 rfl (fun w J=>?_); refine m9 ?_; refine tO (ND rfl uu) rfl rfl ?_; refine g8 ?_; refine Tr.exB (s:=4) rfl (fun b1 q1=>?_); refine Tr.cnd rfl ?_ ?_
 ·intro h1
  have he1:[]=p:=(q1 h1).symm
  have he2:0=p.length:=by rw[<- he1]; rfl
  refine l6 ?_; refine Tr.grow (s:=2) rfl rfl 9 rfl 160 eZ rfl ?_; refine g8 ?_
  exact g6.resN (fn:=Tryz.f196) (u:=9) rfl rfl (GY zi zi) (HO zi) inferInstance
 ·intro h1
  refine g9 ?_; refine d5.new (AX eZ 5) rfl rfl rfl rfl ?_; refine g8 ?_; refine jl ?_; refine g9 ?_
  exact g6.resN (fn:=Tryz.f196) (u:=5) rfl rfl (GY zi zi) (HO zi) inferInstance

set_option maxHeartbeats 1000000 in
theorem dM (r:C9) (xs:List Int) (d:Int) (B:Nat) (hn:2<=r.2.1.length/\r.2.1.length<=5) (hL:xs.length<=16) (hc:∀i,dl (b6 xs i)<=B) (hpp:∀i,dl (b6 r.2.1 i)<=1) (hB:B<=600000) (hd:dl d<=700000) (h0:d≠0):Ct Tryz.prog 169 [r7 A5 r,b8 (eL eZ) xs,b8 eW (wh d)] (b8 K7 (loN (I1 r.2.1 xs) d)):=by
 obtain ⟨n,hn1⟩:∃n,r.2.1.length=n+1:=⟨r.2.1.length-1,by omega⟩
 have hn2:r.2.1.length-1=n:=by omega
 refine Ct.mk Tryz.func169 rfl Tryz.ntmps169 rfl (fun w J=>?_); refine g8 ?_; refine jb 5 rfl ?_; refine ja 6 ?_; refine l6 ?_; refine jc (VB r hn) ?_; refine l3 ?_; refine d5.new (EJ 15 (fun hp=>qM _ zo) (.a rfl uu<|.nil)) rfl rfl rfl rfl ?_; refine j3 ?_; refine tO (U1 rfl uu) rfl rfl ?_; refine g9 ?_
 refine Tr.for1 (σ:=List Int×Nat) [⟨0,true,_,_⟩,⟨1,true,_,_⟩,⟨5,true,_,_⟩,⟨6,true,_,_⟩,⟨7,true,_,_⟩] [⟨5,_,_⟩,⟨6,_,_⟩] (fun (ys,m)=>[⟨8,true,[],kI ((m:Int)-1)⟩]) (fun (ys,m)=>[⟨15,[],l5 false 160 eZ ys xs.length⟩]) (fun (ys,m)=>ys.length=xs.length/\m<=xs.length/\red r.2.1 (ys.take m)=red r.2.1 xs/\(∀j,dl (b6 ys j)<=B+2*(xs.length-m))/\(n<=m\/m=xs.length)) (fun (ys,m)=>ys.length=xs.length/\m=min n xs.length/\red r.2.1 (ys.take m)=red r.2.1 xs/\(∀j,dl (b6 ys j)<=B+2*(xs.length-m))) (fun (ys,m)=>m) ((xs,xs.length)) ⟨rfl,Nat.le_refl _,by rw[List.take_length],fun j=>by have:=hc j; omega,.inr rfl⟩ (d6.mk (.i rfl zi<|zk) (zk) rfl) ?_ ?_
 ·rintro ⟨ys,m⟩ ⟨hl,hm,hr,hy,hnm⟩
  refine jn ?_; refine j1 ?_; refine jq ?_ ?_
  ·intro h4
   refine u5 ?_
   refine Tr.for1 (σ:=Nat) [⟨0,true,_,_⟩,⟨1,true,_,_⟩,⟨5,true,_,_⟩,⟨6,true,_,_⟩,⟨7,true,_,_⟩,⟨8,true,_,_⟩,⟨24,true,_,_⟩] [⟨5,_,_⟩,⟨6,_,_⟩] (fun k=>[⟨25,true,[],kI (k:Int)⟩]) (fun k=>[⟨15,[],l5 false 160 eZ (R3 r.2.1 ys n (m-1) k) xs.length⟩]) (fun k=>k<=n) (fun k=>k=n) (fun k=>n-k) (0) zi (d6.mk (.i rfl zi<|zk) (.a ah5 zi<|zk) rfl) ?_ ?_
   ·intro k hR1
    refine jn ?_
    have hix:((m:Int)-1-((r.2.1.length:Int)-1)+(k:Int)).toNat=m-1-n+k:=by omega
    have hiy:((m:Int)-1).toNat=m-1:=by omega
    have hsd:=lM (p:=r.2.1) (ys:=ys) (n:=n) (i:=m-1) (k:=k) zo zo hy hpp
    have hsl:(R3 r.2.1 ys n (m-1) k).length=ys.length:=TD
    refine l3 ?_; refine jq ?_ ?_
    ·intro h7
     refine u5 ?_; refine Tr.draw 28 o0 (by kernel_rfl) ?_; refine B3 ?_; refine rO (X8 rfl uu rfl rfl rfl rfl) rfl rfl ?_; refine i7 ?_; refine rO (X8 rfl uu rfl rfl rfl rfl) rfl rfl ?_; refine i5 ?_; refine rO (CB rfl uu) rfl rfl ?_; refine l6 ?_; refine rO (i6 (fun hp=>L7 _ _ (Nat.le_trans (hsd _) zo) (Nat.le_trans (hpp _) zo)) (.a rfl uu<|.a rfl uu<|.nil)) rfl rfl ?_; refine rO (i6 (fun hp=>DX _) (.a rfl uu<|.nil)) rfl rfl ?_; refine rO (i6 (fun hp=>X3 _ _ (Nat.le_trans (hsd _) zo) (by rw[K6]; exact Nat.le_trans (s7 _ _) (Nat.le_trans (Nat.add_le_add (hsd _) (hpp _)) zo))) (.a rfl uu<|.a rfl uu<|.nil)) rfl rfl ?_
     refine u5 ?_
     exact d9.lp (k+1) zi zo (d6.mk (.i rfl zi<|zk) (.a (by rw[hix,hiy,lN zo zo,lN zo zo]; exact ah3 zo zo zo) zi<|zk) rfl)
    ·intro h7
     replace h7:=Int.not_lt.1 h7
     refine g9 ?_
     exact d9.cut (k) zo (d6.mk (.i rfl zi<|zk) (zk) rfl)
   ·rintro k hkn
    refine je ?_; refine j3 ?_
    exact d9.lp ((R3 r.2.1 ys n (m-1) n,m-1)) ⟨TD.trans hl,by omega,(ac0 hn2 zo zo).trans hr,fun j=>by have:=lM (p:=r.2.1) (n:=n) (i:=m-1) (k:=n) zo zo hy hpp j; omega,.inl zo⟩ (by show m-1<m; omega) (d6.mk (.i rfl zi<|zk) (.a (by rw[hkn]) zi<|zk) rfl)
  ·intro h4
   replace h4:=Int.not_le.1 h4
   refine g9 ?_
   exact d9.cut ((ys,m)) ⟨hl,by omega,hr,hy⟩ (d6.mk (.i rfl zi<|zk) (zk) rfl)
 ·rintro ⟨ys,m⟩ ⟨hl,hm,hr,hy⟩
  refine je ?_
  obtain ⟨X,hX⟩:∃X,X=(if (ys.length:Int)<(r.2.1.length:Int)-1 then (ys.length:Int) else (r.2.1.length:Int)-1).toNat:=⟨_,rfl⟩
  have hXm:X=m:=by split at hX<;>omega
  have Z1:∀i,i<4->b6 (red r.2.1 xs) i=(if i<m then b6 ys i else 0)/\dl (b6 (red r.2.1 xs) i)<=B+2*(xs.length-m):=fun i _=>uH hn2 zo zo hr hy i
  have hnt:∀i,i<m->b6 (ys.take X) i=b6 ys i:=fun i h=>M3 zo
  have hpd:∀i,i<4->(if i<m then b6 (ys.take X) i else 0)=b6 (red r.2.1 xs) i:=fun i h=>by rw[(Z1 i h).1]; split; (rename_i h2; exact hnt i h2); rfl
  have hdp:∀i,i<4->dl (if i<m then b6 (ys.take X) i else 0)<=700000:=fun i h=>by rw[hpd i h]; have:=(Z1 i h).2; omega
  refine i7 ?_; refine ja 10 ?_; refine i7 ?_; refine Tr.conC 10 (ct':=j5 (wC (fun _=>0) 0 4++[kB (decide ((0:Int)<0)),b8 (eL eI) (d8 ((0:Int)).natAbs)])) (nB (r':=[kB (decide ((0:Int)<0)),b8 (eL eI) (d8 ((0:Int)).natAbs)]) fun _ _ h=>by obtain ⟨u,v,rfl,h1,h2⟩:=oG h; cases h1; cases h2; exact ⟨rfl,⟨_,Y1 (c:=0),rfl⟩,trivial⟩) rfl ?_; refine Tr.frz 15 [1] ⟨rfl,trivial⟩ (by simp only[p9]; omega) rfl ?_; refine jn ?_; refine Tr.draw 9 o0 (by kernel_rfl) ?_; refine g8 ?_; refine rO (yY rfl uu rfl uu (fun _=>zo)) rfl rfl ?_
  refine g9 ?_; refine rO (jA rfl uu rfl uu) rfl rfl ?_; refine rO (FY rfl uu rfl uu (fun _=>zo)) rfl rfl ?_; refine i5 ?_; refine d5.cpW (m) rfl rfl (by rw[List.length_take]; split<;>omega) zo rfl rfl ?_; refine Z2 ?_; refine Tr.cnd rfl ?_ ?_
  ·intro h14
   try simp only[decide_eq_true_eq] at h14
   refine i7 ?_; refine jc (DX d) ?_; refine m9 ?_
   refine Tr.for1 (σ:=Nat) [⟨6,true,_,_⟩,⟨10,true,_,_⟩] [⟨6,_,_⟩] (fun k=>[⟨75,true,[],kI (k:Int)⟩]) (fun k=>[⟨10,[],j5 (wC (fun i=>if i<k then -(if i<m then b6 (ys.take X) i else 0) else (if i<m then b6 (ys.take X) i else 0)) 0 4++[kB (decide (-d<0)),b8 (eL eI) (d8 (-d).natAbs)])⟩]) (fun k=>k<=4) (fun k=>k=4) (fun k=>4-k) (0) zi (d6.mk (.i rfl zi<|zk) (.conv (cW (fun j _=>by subst hX; exact (if_neg (Nat.not_lt_zero _)).symm) rfl) rfl<|zk) rfl) ?_ ?_
   ·intro k hR2
    refine jn ?_; refine l3 ?_; refine jq ?_ ?_
    ·intro h17
     refine D7 ?_; refine tO (DI rfl uu rfl uu (fun _=>zo)) rfl rfl ?_; refine tO (KH (k) (fun _=>zo) (fun _=>zo) rfl uu) rfl rfl ?_; refine tO (i6 (fun hp=>DX _) (.a rfl uu<|.nil)) rfl rfl ?_; refine i5 ?_; refine tO (DI rfl uu rfl uu (fun _=>zo)) rfl rfl ?_; refine d5.stW (k) zo zo rfl rfl rfl ?_; refine j3 ?_
     exact d9.lp (k+1) zi zo (d6.mk (.i rfl zi<|zk) (.conv (cW (fun j _=>mU (F:=fun i=>-(if i<m then b6 (ys.take X) i else 0)) (C:=fun i=>(if i<m then b6 (ys.take X) i else 0)) (by rw[if_neg (Nat.lt_irrefl k)])) rfl) rfl<|zk) rfl)
    ·intro h17
     replace h17:=Int.not_lt.1 h17
     refine g9 ?_
     exact d9.cut (k) zo (d6.mk (.i rfl zi<|zk) (zk) rfl)
   ·rintro _ rfl
    refine je ?_; refine g9 ?_
    refine tO (i6 (fun hp=>VG _ _ (DY fun i hi=>by first | (subst hX; exact hdp i hi) | (rw[if_pos hi,K6]; exact hdp i hi)) (by first | exact hd | (rw[K6]; exact hd)) zo) (.se rfl uu rfl rfl<|.nil)) rfl rfl ?_
    refine g9 ?_; exact g6.resC1 (fn:=Tryz.f169) rfl rfl (t7 rfl (by rw[FL (by rw[DH,p8]),<- wU h0]; refine congrArg (fun l=>loN l (-d)) ?_; simp only[I1,j8,List.map_map]; exact List.map_congr_left fun i hi=>by have hi:=List.mem_range.1 hi; simp only[Function.comp]; rw[if_pos hi,hpd i hi]))
  ·intro h14
   try simp only[decide_eq_false_iff_not,Int.not_lt] at h14
   refine l6 ?_
   refine tO (i6 (fun hp=>VG _ _ (DY fun i hi=>by first | (subst hX; exact hdp i hi) | (rw[if_pos hi,K6]; exact hdp i hi)) (by first | exact hd | (rw[K6]; exact hd)) zo) (.se rfl uu rfl rfl<|.nil)) rfl rfl ?_
   refine g9 ?_; exact g6.resC1 (fn:=Tryz.f169) rfl rfl (t7 rfl (by rw[FL (by rw[DH,p8])]; subst hX; exact congrArg (fun l=>loN l d) (B5 hpd)))

theorem VH (c:List Int) (d:Int):Ct Tryz.prog 141 [b8 K7 (c,d)] (b8 K7 (c.map fun z=>-z,d)):=by
 refine Ct.mk Tryz.func141 rfl Tryz.ntmps141 rfl (fun w J=>?_); refine Tr.fact (s:=0) rfl (fun _ _ h=>PY h) (fun hl=>?_)
 have hl:c.length=4:=hl
 refine g8 ?_; refine jb 1 rfl ?_; refine ja 2 ?_; refine u5 ?_
 refine Tr.for1 (σ:=Nat) [⟨1,true,_,_⟩,⟨2,true,_,_⟩,⟨6,true,_,_⟩] [⟨2,_,_⟩] (fun k=>[⟨7,true,[],kI (k:Int)⟩]) (fun k=>[⟨1,[],j5 (wC (fun i=>if i<k then -b6 c i else b6 c i) 0 4++[kB (decide (d<0)),b8 (eL eI) (d8 (d).natAbs)])⟩]) (fun k=>k<=4) (fun k=>k=4) (fun k=>4-k) (0) zi (d6.mk (.i rfl zi<|zk) (.conv (cW (fun j _=>(if_neg zo).symm) rfl) rfl<|zk) rfl) ?_ ?_
 ·intro k hR0
  refine jn ?_; refine l3 ?_; refine jq ?_ ?_
  ·intro h2
   refine j3 ?_; refine tO (YE rfl uu rfl uu (fun _=>zo)) rfl rfl ?_; refine ja 4 ?_; refine j3 ?_; refine jc (DX (b6 c k)) ?_; refine i5 ?_; refine tO (DI rfl uu rfl uu (fun _=>zo)) rfl rfl ?_; refine d5.stW (k) zo zo rfl rfl rfl ?_; refine j3 ?_
   exact d9.lp (k+1) zi zo (d6.mk (.i rfl zi<|zk) (.conv (cW (fun j _=>mU (F:=fun i=>-b6 c i) (C:=fun i=>b6 c i) rfl) rfl) rfl<|zk) rfl)
  ·intro h2
   replace h2:=Int.not_lt.1 h2
   refine g9 ?_
   exact d9.cut (k) zo (d6.mk (.i rfl zi<|zk) (zk) rfl)
 ·rintro _ rfl
  refine je ?_; refine j1 ?_; exact g6.resC1 (fn:=Tryz.f141) rfl rfl (t7 rfl (by rw[MZ hl]; exact Prod.ext (B5 fun i hi=>if_pos hi) rfl))

theorem PH (x y:List Int×Int) (hx:∀i,dl (b6 x.1 i)<=300000) (hy:∀i,dl (b6 y.1 i)<=300000) (hdx:dl x.2<=300000) (hdy:dl y.2<=300000) (hpx:0<x.2) (hpy:0<y.2):Ct Tryz.prog 140 [b8 K7 x,b8 K7 y] (b8 K7 (C0 x y)):=by
 refine Ct.mk Tryz.func140 rfl Tryz.ntmps140 rfl (fun w J=>?_); refine g8 ?_; refine jb 2 rfl ?_; refine jb 3 rfl ?_; refine ja 4 ?_; refine j1 ?_; refine jc (L7 x.2 y.2 zo zo) ?_; refine tO (A1 (fun hp=>.cons rfl rfl rfl<|.nil)) rfl rfl ?_; refine ja 5 ?_; refine m9 ?_
 refine Tr.for1 (σ:=Nat) [⟨2,true,_,_⟩,⟨3,true,_,_⟩,⟨4,true,_,_⟩,⟨5,true,_,_⟩] [⟨2,_,_⟩,⟨3,_,_⟩,⟨4,_,_⟩] (fun k=>[⟨13,true,[],kI (k:Int)⟩]) (fun k=>[⟨5,[],j5 (wC (fun i=>if i<k then b6 x.1 i*y.2+b6 y.1 i*x.2 else 0) 0 4++[kB (decide (x.2*y.2<0)),b8 (eL eI) (d8 (x.2*y.2).natAbs)])⟩]) (fun k=>k<=4) (fun k=>k=4) (fun k=>4-k) (0) zi (d6.mk (.i rfl zi<|zk) (.conv (nB (fun _ _ h=>h)) rfl<|zk) rfl) ?_ ?_
 ·intro k hR0
  refine jn ?_
  have h1:=hx k
  have h2:=hy k
  have h3:=s7 (b6 x.1 k) y.2
  have h4:=s7 (b6 y.1 k) x.2
  refine l3 ?_; refine jq ?_ ?_
  ·intro h3
   refine u5 ?_; refine Tr.draw 17 o0 (by kernel_rfl) ?_; refine i7 ?_; refine rO (DI rfl uu rfl uu (fun _=>zo)) rfl rfl ?_; refine rO (KH (k) (fun _=>zo) (fun _=>zo) rfl uu) rfl rfl ?_; refine g8 ?_; refine jd (L7 (b6 x.1 k) y.2 zo zo) ?_; refine g8 ?_; refine rO (DI rfl uu rfl uu (fun _=>zo)) rfl rfl ?_; refine rO (KH (k) (fun _=>zo) (fun _=>zo) rfl uu) rfl rfl ?_; refine g8 ?_; refine jd (L7 (b6 y.1 k) x.2 zo zo) ?_; refine jd (X3 (b6 x.1 k*y.2) (b6 y.1 k*x.2) zo zo) ?_
   refine g8 ?_; refine tO (DI rfl uu rfl uu (fun _=>zo)) rfl rfl ?_; refine d5.stW (k) zo zo rfl rfl rfl ?_; refine j3 ?_
   exact d9.lp (k+1) zi zo (d6.mk (.i rfl zi<|zk) (.conv (cW (fun j _=>by simp only[CN]; by_cases e:j=k; (rw[if_pos e,if_pos zo,e]); (rw[if_neg e]; by_cases e2:j<k; (rw[if_pos e2,if_pos zo]); (rw[if_neg e2,if_neg zo]))) rfl) rfl<|zk) rfl)
  ·intro h3
   replace h3:=Int.not_lt.1 h3
   refine g9 ?_
   exact d9.cut (k) zo (d6.mk (.i rfl zi<|zk) (zk) rfl)
 ·rintro _ rfl
  refine je ?_; refine g9 ?_; refine tO (i6 (fun hp=>VG _ _ (DY fun i hi=>by rw[if_pos hi]; exact Nat.le_trans (uB hx hy hdx hdy i) zo) (by have:=s7 x.2 y.2; omega) (Int.mul_pos hpx hpy)) (.se rfl uu rfl rfl<|.nil)) rfl rfl ?_; refine g9 ?_; exact g6.resC1 (fn:=Tryz.f140) rfl rfl (t7 rfl (by rw[FL (by rw[DH,p8])]; unfold C0; exact congrArg (fun l=>loN l (x.2*y.2)) (B5 fun i hi=>if_pos hi)))

end Go.Fl

/- Numbers of a field: how they are read and handed back; sizes. No program in sight. -/
namespace Go.Fl
open Go
def w5 (d:List Int):Int:=if val d=0 then 1 else val d
theorem BT {d:List Int}:w5 d≠0:=by unfold w5; split<;>omega
def j9 (p:List Int) (x:List (List Int)×List Int):List Int×Int:=loN (I1 p (x.1.map val)) (w5 x.2)
def m8 (v:List Int×Int):List (List Int)×List Int:=((j6 v.1).map g7,g7 v.2)
def G6 (p:List Int):Prop:=(2<=p.length/\p.length<=5)/\∀i,dl (b6 p i)<=1
structure y3 (k:Nat) (x:List (List Int)×List Int):Prop where
 len:x.1.length<=6
 c:∀i,w8 (b6 x.1 i)/\(b6 x.1 i).length<=k
 d:w8 x.2/\x.2.length<=k
structure G5 (k:Nat) (v:List Int×Int):Prop where
 c:∀i,dl (b6 v.1 i)<=k
 d:dl v.2<=k
 pos:0<v.2
 len:v.1.length=4
theorem RK {α:Type} [Inhabited α] {i:Nat}:b6 ([]:List α) i=default:=rfl
theorem v5 {α:Type} [Inhabited α] {xs:List α} {i:Nat} (h:xs.length<=i):b6 xs i=default:=by simp[b6,List.getD,List.getElem?_eq_none h]
theorem LB:val []=0:=rfl
theorem S7 {xs:List (List Int)} {i:Nat}:b6 (xs.map val) i=val (b6 xs i):=by
 by_cases h:i<xs.length
 ·simp[b6,h]
 ·rw[v5 (by simpa using h),v5 zo]; rfl
theorem ai3 {xs:List (List Int)}:(j8 xs.length fun i=>val (b6 xs i))=xs.map val:=by
 have h:(xs.map val).length=xs.length:=List.length_map ..
 conv=>rhs; rw[U5 h]
 exact B5 fun i _=>S7.symm
theorem HC {d:List Int} {k:Nat} (h:w8 d) (hl:d.length<=k):dl (w5 d)<=k+3:=by
 unfold w5
 split
 ·have:=VT (n:=1) zo; omega
 ·have:=N5 h; omega
theorem eJ {p:List Int} {n:Nat} (hp:∀i,dl (b6 p i)<=1):∀{f B:Nat} {xs:List Int},(∀i,dl (b6 xs i)<=B)->∀i,dl (b6 (M4 p n f xs) i)<=B+2*f
 | 0,B,xs,h,i=>by
  rw[M4,KC]
  split
  ·have:=h i; omega
  ·rw[C5.2 rfl]; omega
 | f+1,B,xs,h,i=>by
  rw[M4]
  split
  ·rw[KC]
   split
   ·have:=h i; omega
   ·rw[C5.2 rfl]; omega
  ·have h1:∀j,dl (b6 (Y2 p n xs) j)<=B+2:=fun j=>by
    unfold Y2
    refine DY (fun q _=>?_) j
    split
    ·rw[Int.sub_eq_add_neg]
     have:=PS (h q) (h (xs.length-1)) (hp (q-(xs.length-1-n)))
     omega
    ·rw[Int.sub_zero]; have:=h q; omega
   have:=eJ (n:=n) hp h1 i (f:=f)
   omega
theorem uG {p xs:List Int} {B:Nat} (hp:∀i,dl (b6 p i)<=1) (h:∀i,dl (b6 xs i)<=B) (i:Nat):dl (b6 (I1 p xs) i)<=B+2*xs.length:=by
 unfold I1
 refine DY (fun j _=>?_) i
 unfold red
 have:=eJ hp h j (n:=p.length-1) (f:=xs.length-(p.length-1))
 omega
theorem xQ {a g:Int} (hg:g∣a):(a/g).natAbs<=a.natAbs:=by
 obtain ⟨q,rfl⟩:=hg
 by_cases h:g=0
 ·subst h; simp
 ·rw[Int.mul_ediv_cancel_left _ h,Int.natAbs_mul]
  exact Nat.le_mul_of_pos_left _ zo
theorem eF {a g:Int} (hg:g∣a):dl (a/g)<=dl a:=N4 (xQ hg)
theorem RJ {xs:List Int} {i:Nat} (h:i<xs.length):b6 xs i∈xs:=by simp[b6,h]
theorem XC {cs:List Int} {d:Int} {k:Nat} (hc:∀i,dl (b6 cs i)<=k) (hd:dl d<=k) (h0:d≠0) (hl:cs.length=4):G5 k (loN cs d):=by
 refine ⟨fun i=>?_,?_,EE h0,by rw[DH,hl]⟩
 ·by_cases h:i<cs.length
  ·have e:b6 (loN cs d).1 i=b6 cs i/x9 d cs:=by simp[loN,b6,h]
   rw[e]
   exact Nat.le_trans (eF (CL (.inr (RJ h)))) (hc i)
  ·rw[v5 (by rw[DH]; omega)]
   show dl 0<=k
   rw[C5.2 rfl]; omega
 ·exact Nat.le_trans (eF (CL (.inl rfl))) hd
theorem Y4 {p:List Int} {x:List (List Int)×List Int} {k:Nat} (hp:G6 p) (hx:y3 k x):G5 (k+15) (j9 p x):=by
 refine XC (fun i=>?_) ?_ BT HQ
 ·have:=uG (xs:=x.1.map val) (B:=k+3) hp.2 (fun j=>by rw[S7]; have:=N5 (hx.c j).1; have:=(hx.c j).2; omega) i
  rw[List.length_map] at this
  have:=hx.len
  omega
 ·have:=HC hx.d.1 hx.d.2; omega
theorem OK {x y:List Int×Int} {j k:Nat} (hx:G5 j x) (hy:G5 k y):G5 (j+k+1) (C0 x y):=by
 refine XC (DY fun i _=>?_) ?_ ?_ p8
 ·have h1:=s7 (b6 x.1 i) y.2
  have h2:=s7 (b6 y.1 i) x.2
  have h3:=Q3 (b6 x.1 i*y.2) (b6 y.1 i*x.2)
  have:=hx.c i; have:=hy.c i; have:=hx.d; have:=hy.d
  omega
 ·have:=s7 x.2 y.2; have:=hx.d; have:=hy.d; omega
 ·have:=Int.mul_pos hx.pos hy.pos; omega
theorem RE {x:List Int×Int} {k:Nat} (hx:G5 k x):G5 k (x.1.map fun z=>-z,x.2):=by
 refine ⟨fun i=>?_,hx.d,hx.pos,by simp[hx.len]⟩
 rw[MZ hx.len]
 exact DY (fun j _=>by rw[K6]; exact hx.c j) i
def N1 (c:List Int):Bool:=!(((j8 4 (b6 c)).take 4).drop 1).any fun z=>decide (q9 z 0≠0)
theorem HR {c:List Int} (h:∀i,1<=i->i<4->b6 c i=0):N1 c=true:=by
 have e:j8 4 (b6 c)=[b6 c 0,b6 c 1,b6 c 2,b6 c 3]:=rfl
 unfold N1
 rw[e,h 1 zo zo,h 2 zo zo,h 3 zo zo]
 rfl
theorem KM {c:List Int}:N1 c=true↔∀i,1<=i->i<4->b6 c i=0:=by
 refine ⟨fun h=>?_,HR⟩
 have e:j8 4 (b6 c)=[b6 c 0,b6 c 1,b6 c 2,b6 c 3]:=rfl
 unfold N1 at h
 rw[e] at h
 simp only[List.take_succ_cons,List.take_zero,List.drop_succ_cons,List.drop_zero,List.any_cons,List.any_nil,Bool.or_false,Bool.not_eq_true',Bool.or_eq_false_iff,decide_eq_false_iff_not,Classical.not_not,ne_eq] at h
 intro i h1 h2
 obtain ⟨q1,q2,q3⟩:=h
 rcases (show i=1\/i=2\/i=3 by omega) with rfl | rfl | rfl
 ·exact R8.1 q1
 ·exact R8.1 q2
 ·exact R8.1 q3
theorem XY {cs:List Int} {d:Int} {i:Nat} (h:i<cs.length):b6 (loN cs d).1 i=b6 cs i/x9 d cs:=by simp[loN,b6,h]
theorem jT {x y:List Int×Int} (hx:N1 x.1=true) (hy:N1 y.1=true):N1 (C0 x y).1=true:=by
 refine HR fun i h1 h2=>?_
 unfold C0
 rw[XY (by rw[p8]; exact h2),r5 h2,KM.1 hx i h1 h2,KM.1 hy i h1 h2]
 simp
theorem jU {c:List Int} (h:N1 c=true):N1 (c.map fun z=>-z)=true:=by
 refine HR fun i h1 h2=>?_
 by_cases hl:i<c.length
 ·simp only[b6,List.getD,List.getElem?_map,List.getElem?_eq_getElem hl,Option.map_some,Option.getD_some]
  have:=KM.1 h i h1 h2
  simp only[b6,List.getD,List.getElem?_eq_getElem hl,Option.getD_some] at this
  omega
 ·rw[v5 (by rw[List.length_map]; omega)]; rfl
theorem vK {c:List Int} {d:Int} {n:Nat} (h:j6 c=c.take n):(j8 n (fun i=>g7 (b6 c i)),g7 d)=m8 (c,d)\/c.length<n:=by
 by_cases hn:n<=c.length
 ·left
  unfold m8
  rw[h]
  refine Prod.ext ?_ rfl
  have hl:(c.take n).length=n:=by rw[List.length_take]; omega
  show _=(c.take n).map g7
  conv=>rhs; rw[U5 hl]
  simp only[j8,List.map_map]
  refine List.map_congr_left fun i hi=>?_
  have hi:i<n:=List.mem_range.1 hi
  simp[Function.comp,M3 hi]
 ·right; omega
theorem uD {n:Int} {k:Nat} (h:dl n<=3) (i:Nat):dl (b6 [n,0,0,0] i)<=k+3:=by
 match i with
 | 0=>show dl n<=_; omega
 | 1=>show dl 0<=_; rw[C5.2 rfl]; omega
 | 2=>show dl 0<=_; rw[C5.2 rfl]; omega
 | 3=>show dl 0<=_; rw[C5.2 rfl]; omega
 | i+4=>rw[v5 (by simp)]; show dl 0<=_; rw[C5.2 rfl]; omega
theorem SP {p xs:List Int} {d:Int} (hp:p.length=2):N1 (loN (I1 p xs) d).1=true:=by
 refine HR fun i h1 h2=>?_
 have e:b6 (loN (I1 p xs) d).1 i=b6 (I1 p xs) i/x9 d (I1 p xs):=by simp[loN,b6,HQ,h2]
 rw[e,iO h2,v5 (by rw[KQ,hp]; omega)]
 simp
end Go.Fl

/- Contracts: numbers of a field (reading, handing back; sums, differences; signs of fractions). -/
namespace Go.Fl
open Go Go.Proofs
open d5 renaming op->tO
open i9 renaming op->rO
set_option maxRecDepth 100000

theorem qA (xs:List Int) (f:FuncId) (q:Int->Bool) [f0 Tryz.prog f] (hf:∀z,Ct Tryz.prog f [b8 eW (wh z)] (kB (q z))):Ct Tryz.prog 216 [b8 (eL eZ) xs,j4 (.func (.func f) #[] #[])] (kI (FN q xs)):=by
 refine Ct.mk Tryz.func216 rfl Tryz.ntmps216 rfl (fun w J=>?_); refine Tr.fact (s:=0) rfl (fun _ _ h=>S4 h) (fun hb=>?_); refine B3 ?_
 refine Tr.for1 (σ:=Nat) [⟨0,true,_,_⟩,⟨1,true,_,_⟩,⟨7,true,_,_⟩] [] (fun k=>[⟨8,true,[],kI (k:Int)⟩]) (fun k=>[]) (fun k=>k<=xs.length/\∀i,i<k->q (b6 xs i)=false) (fun k=>∀i,i<xs.length->q (b6 xs i)=false) (fun k=>xs.length-k) (0) ⟨by omega,fun i h=>absurd h zo⟩ (d6.mk (.i rfl zi<|zk) (.nil) rfl) ?_ ?_
 ·rintro k ⟨hk,hR⟩
  refine jn ?_; refine l3 ?_; refine jq ?_ ?_
  ·intro h2
   refine P1 ?_; refine tO (KF rfl uu (fun hp=>hf _) (.a rfl uu<|.nil)) rfl rfl ?_; refine g8 ?_; refine Tr.cnd rfl ?_ ?_
   ·intro h4
    refine B3 ?_; exact g6.res1 (fn:=Tryz.f216) rfl (.i rfl (fT zo hR h4)<|.nil)
   ·intro h4
    refine j3 ?_
    exact d9.lp (k+1) ⟨by omega,fun i hi=>by (rcases Nat.lt_succ_iff_lt_or_eq.1 hi with h | h; exact hR i h; subst h; exact h4)⟩ zo (d6.mk (.i rfl zi<|zk) (.nil) rfl)
  ·intro h2
   replace h2:=Int.not_lt.1 h2
   refine g9 ?_
   exact d9.cut (k) (fun i hi=>hR i zo) (d6.mk (.i rfl zi<|zk) (.nil) rfl)
 ·intro k hE
  refine je ?_; refine j3 ?_; exact g6.res1 (fn:=Tryz.f216) rfl (.i rfl (fU hE)<|.nil)

theorem pX (xs:List Int) (f:FuncId) (q:Int->Bool) [f0 Tryz.prog f] (hf:∀z,Ct Tryz.prog f [b8 eW (wh z)] (kB (q z))):Ct Tryz.prog 199 [b8 (eL eZ) xs,j4 (.func (.func f) #[] #[])] (kB (xs.any q)):=by
 refine Ct.mk Tryz.func199 rfl Tryz.ntmps199 rfl (fun w J=>?_); refine m9 ?_; refine tO (i6 (fun hp=>qA _ f q hf) (.a rfl uu<|.a rfl uu<|.nil)) rfl rfl ?_; refine l6 ?_; exact g6.res1 (fn:=Tryz.f199) rfl (.b rfl fV<|.nil)

theorem sQ (z:Int):Ct Tryz.prog 200 [b8 eW (wh z)] (kB (decide (q9 z 0≠0))):=by
 refine Ct.mk Tryz.func200 rfl Tryz.ntmps200 rfl (fun w J=>?_); refine g8 ?_; refine jb 1 rfl ?_; refine l3 ?_; refine jc (BQ z) ?_; refine l6 ?_
 exact g6.res1 (fn:=Tryz.f200) rfl (.b rfl zi<|.nil)

theorem dI (c:List Int) (d:Int):Ct Tryz.prog 180 [b8 K7 (c,d)] (kB (N1 c)):=by
 refine Ct.mk Tryz.func180 rfl Tryz.ntmps180 rfl (fun w J=>?_); refine g8 ?_; refine jb 1 rfl ?_; refine g9 ?_; refine Tr.frzB 1 [1] K7 ⟨rfl,trivial⟩ rfl ?_; refine jn ?_; refine g8 ?_; refine tO (yZ rfl uu rfl uu rfl rfl (fun _=>zo)) rfl rfl ?_; refine tO (i6 (fun hp=>pX _ 200 (fun z=>decide (q9 z 0≠0)) (fun z=>sQ z)) (.a rfl uu<|.a rfl uu<|.nil)) rfl rfl ?_; refine l6 ?_; exact g6.res1 (fn:=Tryz.f180) rfl (.b rfl (by rfl)<|.nil)

theorem dR (r:C9) (c:List Int) (d:Int) (hq:N1 c=true):Ct Tryz.prog 139 [r7 A5 r,b8 K7 (c,d)] (kI (q9 (b6 c 0) 0)):=by
 refine Ct.mk Tryz.func139 rfl Tryz.ntmps139 rfl (fun w J=>?_); refine Tr.fact (s:=1) rfl (fun _ _ h=>PY h) (fun hl=>?_)
 have hl:c.length=4:=hl
 refine g8 ?_; refine jb 3 rfl ?_; refine j3 ?_; refine tO (i6 (fun hp=>dI c d) (.se rfl uu rfl (FL (v:=(c,d)) hl)<|.nil)) rfl rfl ?_; refine g8 ?_; refine Tr.cnd rfl ?_ ?_
 ·intro h1
  refine i7 ?_; refine tO (DI rfl uu rfl uu (fun _=>by decide)) rfl rfl ?_; refine tO (KH (0) (fun _=>zo) (fun _=>zo) rfl uu) rfl rfl ?_; refine jc (BQ (b6 c 0)) ?_; refine l6 ?_; exact g6.res1 (fn:=Tryz.f139) rfl (.i rfl (by rfl)<|.nil)
 ·intro h1
  rw[hq] at h1; cases h1

theorem BO (r:C9) (x:s5) (k:Nat) (hpo:G6 r.2.1) (hx:y3 k x) (hk:k<=500000):Ct Tryz.prog 119 [r7 A5 r,b8 j7 x] (b8 K7 (j9 r.2.1 x)):=by
 have hdx:=N5 hx.d.1
 have hld:=hx.d.2
 have hlx:=hx.len
 have hdd:=HC hx.d.1 hx.d.2
 refine Ct.mk Tryz.func119 rfl Tryz.ntmps119 rfl (fun w J=>?_); refine g8 ?_; refine jb 3 rfl ?_; refine ja 4 ?_; refine Z2 ?_; refine Tr.grow (s:=5) rfl rfl 55 rfl 160 eZ rfl ?_
 refine Tr.for1 (σ:=Nat) [⟨0,true,_,_⟩,⟨3,true,_,_⟩,⟨4,true,_,_⟩,⟨10,true,_,_⟩,⟨11,true,_,_⟩] [⟨3,_,_⟩,⟨4,_,_⟩] (fun k2=>[⟨5,true,[55],o9 55 k2⟩,⟨12,true,[],kI (k2:Int)⟩]) (fun k2=>[⟨55,[],l5 true 160 eZ (j8 k2 fun i=>val (b6 x.1 i)) k2⟩]) (fun k2=>k2<=x.1.length) (fun k2=>k2=x.1.length) (fun k2=>x.1.length-k2) (0) zi (d6.mk (.o rfl zi rfl<|.i rfl zi<|zk) (.a (by rfl) zi<|zk) rfl) ?_ ?_
 ·intro k2 hR0
  refine jn ?_
  have hck:=hx.c k2
  refine l3 ?_; refine jq ?_ ?_
  ·intro h3
   refine D7 ?_; refine tO (i6 (fun hp=>VD _ hck.1 zo) (.a rfl uu<|.nil)) rfl rfl ?_; refine d5.new (y7 eZ 19 (fun hp=>.cons rfl<|.nil) rfl rfl rfl rfl) rfl rfl rfl rfl ?_; refine i5 ?_; refine jl ?_; refine j1 ?_
   exact d9.lp (k2+1) zi zo (d6.mk (.o rfl zi rfl<|.i rfl zi<|zk) (.a H0.symm zi<|zk) rfl)
  ·intro h3
   replace h3:=Int.not_lt.1 h3
   refine g9 ?_
   exact d9.cut (k2) zo (d6.mk (.o rfl zi rfl<|.i rfl zi<|zk) (zk) rfl)
 ·rintro _ rfl
  refine je ?_
  have hcm:=ai3 (xs:=x.1)
  refine l6 ?_; refine tO (i6 (fun hp=>VD _ hx.d.1 zo) (.a rfl uu<|.nil)) rfl rfl ?_; refine ja 8 ?_; refine j3 ?_; refine jc (BQ (val x.2)) ?_; refine i7 ?_; refine jq ?_ ?_
  ·intro h8
   have hv0:=R8.1 h8
   refine i5 ?_; refine jc (Q2 1 zo) ?_; refine j1 ?_; refine d5.frz 55 [5,30] ⟨rfl,rfl,trivial⟩ (by simp only[p9]; omega) rfl ?_; refine jl ?_
   refine tO (i6 (fun hp=>dM r _ (w5 x.2) (k+3) hpo.1 (by rw[p8]; omega) (DY fun i _=>by have:=N5 (hx.c i).1; have:=(hx.c i).2; omega) hpo.2 zo zo BT) (.a rfl uu<|.a rfl uu<|.se rfl uu rfl (by first | (rw[w5,if_pos hv0]; rfl) | (rw[w5,if_neg hv0]; rfl))<|.nil)) rfl rfl ?_
   refine g9 ?_; exact g6.resC1 (fn:=Tryz.f119) rfl rfl (t7 rfl (by rw[FL (by rw[DH,HQ]),hcm]; rfl))
  ·intro h8
   have hv0:val x.2≠0:=fun e=>h8 (R8.2 e)
   refine j3 ?_; refine d5.frz 55 [5,30] ⟨rfl,rfl,trivial⟩ (by simp only[p9]; omega) rfl ?_; refine jl ?_
   refine tO (i6 (fun hp=>dM r _ (w5 x.2) (k+3) hpo.1 (by rw[p8]; omega) (DY fun i _=>by have:=N5 (hx.c i).1; have:=(hx.c i).2; omega) hpo.2 zo zo BT) (.a rfl uu<|.a rfl uu<|.se rfl uu rfl (by first | (rw[w5,if_pos hv0]; rfl) | (rw[w5,if_neg hv0]; rfl))<|.nil)) rfl rfl ?_
   refine g9 ?_; exact g6.resC1 (fn:=Tryz.f119) rfl rfl (t7 rfl (by rw[FL (by rw[DH,HQ]),hcm]; rfl))

end Go.Fl
