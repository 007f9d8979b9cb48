/- The walk's step of the older engine. No program is named. -/
import Derived.Test.YtlmcongmglfaeaaGreatDoorProg
import Derived.KernelRfl
import Derived.Test.YtlmcongmglfaeaaGreatDoorA04
import Derived.Test.YtlmcongmglfaeaaGreatDoorA14
import Derived.Test.YtlmcongmglfaeaaGreatDoorA15
namespace Go.Proofs.YtlmcongmglfaeaaGreatDoor
open Go Tw
set_option maxRecDepth 100000
instance ty3:Ty Tryz.prog 3 false 1:=⟨by kernel_rfl,by kernel_rfl⟩
instance tyI3:TyI Tryz.prog 3 .i64:=⟨by kernel_rfl⟩
instance ty4:Ty Tryz.prog 4 false 1:=⟨by kernel_rfl,by kernel_rfl⟩
instance ty5:Ty Tryz.prog 5 false 1:=⟨by kernel_rfl,by kernel_rfl⟩
instance tyZ5:TyZ Tryz.prog 5 [.int .u8 0]:=⟨by kernel_rfl,by kernel_rfl⟩
instance tyI5:TyI Tryz.prog 5 .u8:=⟨by kernel_rfl⟩
instance ty9:Ty Tryz.prog 9 false 1:=⟨by kernel_rfl,by kernel_rfl⟩
instance tyT9:TyT Tryz.prog 9:=⟨by kernel_rfl⟩
instance ty24:Ty Tryz.prog 24 false 1:=⟨by kernel_rfl,by kernel_rfl⟩
instance tyL24:TyL Tryz.prog 24 89 2 32:=⟨by kernel_rfl,by kernel_rfl⟩
instance ty25:Ty Tryz.prog 25 false 1:=⟨by kernel_rfl,by kernel_rfl⟩
instance tyL25:TyL Tryz.prog 25 24 1 24:=⟨by kernel_rfl,by kernel_rfl⟩
instance ty26:Ty Tryz.prog 26 false 1:=⟨by kernel_rfl,by kernel_rfl⟩
instance tyL26:TyL Tryz.prog 26 3 1 8:=⟨by kernel_rfl,by kernel_rfl⟩
instance ty27:Ty Tryz.prog 27 false 1:=⟨by kernel_rfl,by kernel_rfl⟩
instance tyL27:TyL Tryz.prog 27 47 12 136:=⟨by kernel_rfl,by kernel_rfl⟩
instance ty28:Ty Tryz.prog 28 false 1:=⟨by kernel_rfl,by kernel_rfl⟩
instance tyL28:TyL Tryz.prog 28 9 1 16:=⟨by kernel_rfl,by kernel_rfl⟩
instance ty30:Ty Tryz.prog 30 true 9:=⟨by kernel_rfl,by kernel_rfl⟩
instance tyS30:TyS Tryz.prog 30 [(9,0,1),(24,1,1),(3,2,1),(3,3,1),(25,4,1),(26,5,1),(27,6,1),(27,7,1),(28,8,1)]:=⟨by kernel_rfl⟩
instance tyA31:TyA Tryz.prog 31 2 30 9:=⟨by kernel_rfl,by kernel_rfl⟩
instance ty33:Ty Tryz.prog 33 true 18:=⟨by kernel_rfl,by kernel_rfl⟩
instance tyS33:TyS Tryz.prog 33 [(31,0,18)]:=⟨by kernel_rfl⟩
instance ty36:Ty Tryz.prog 36 true 6:=⟨by kernel_rfl,by kernel_rfl⟩
instance tyS36:TyS Tryz.prog 36 [(3,0,1),(3,1,1),(3,2,1),(3,3,1),(3,4,1),(3,5,1)]:=⟨by kernel_rfl⟩
instance ty38:Ty Tryz.prog 38 true 32:=⟨by kernel_rfl,by kernel_rfl⟩
instance tyZ38:TyZ Tryz.prog 38 [hv zeroH]:=⟨by kernel_rfl,by kernel_rfl⟩
instance tyA38:TyA Tryz.prog 38 32 5 1:=⟨by kernel_rfl,by kernel_rfl⟩
instance ty40:Ty Tryz.prog 40 true 35:=⟨by kernel_rfl,by kernel_rfl⟩
instance tyS40:TyS Tryz.prog 40 [(9,0,1),(3,1,1),(3,2,1),(38,3,32)]:=⟨by kernel_rfl⟩
instance ty41:Ty Tryz.prog 41 false 1:=⟨by kernel_rfl,by kernel_rfl⟩
instance tyI41:TyI Tryz.prog 41 .u64:=⟨by kernel_rfl⟩
instance ty43:Ty Tryz.prog 43 true 4:=⟨by kernel_rfl,by kernel_rfl⟩
instance tyA43:TyA Tryz.prog 43 4 41 1:=⟨by kernel_rfl,by kernel_rfl⟩
instance ty45:Ty Tryz.prog 45 true 7:=⟨by kernel_rfl,by kernel_rfl⟩
instance tyS45:TyS Tryz.prog 45 [(9,0,1),(43,1,4),(9,5,1),(9,6,1)]:=⟨by kernel_rfl⟩
instance ty47:Ty Tryz.prog 47 true 12:=⟨by kernel_rfl,by kernel_rfl⟩
instance tyS47:TyS Tryz.prog 47 [(3,0,1),(9,1,1),(9,2,1),(45,3,7),(3,10,1),(3,11,1)]:=⟨by kernel_rfl⟩
instance ty48:Ty Tryz.prog 48 false 1:=⟨by kernel_rfl,by kernel_rfl⟩
instance tyL48:TyL Tryz.prog 48 38 32 32:=⟨by kernel_rfl,by kernel_rfl⟩
instance ty50:Ty Tryz.prog 50 true 3:=⟨by kernel_rfl,by kernel_rfl⟩
instance tyS50:TyS Tryz.prog 50 [(3,0,1),(3,1,1),(48,2,1)]:=⟨by kernel_rfl⟩
instance ty52:Ty Tryz.prog 52 true 9:=⟨by kernel_rfl,by kernel_rfl⟩
instance tyS52:TyS Tryz.prog 52 [(3,0,1),(24,1,1),(24,2,1),(50,3,3),(50,6,3)]:=⟨by kernel_rfl⟩
instance ty54:Ty Tryz.prog 54 true 100:=⟨by kernel_rfl,by kernel_rfl⟩
instance tyS54:TyS Tryz.prog 54 [(3,0,1),(9,1,1),(9,2,1),(9,3,1),(9,4,1),(9,5,1),(3,6,1),(40,7,35),(38,42,32),(47,74,12),(9,86,1),(3,87,1),(50,88,3),(52,91,9)]:=⟨by kernel_rfl⟩
instance ty56:Ty Tryz.prog 56 true 6:=⟨by kernel_rfl,by kernel_rfl⟩
instance tyS56:TyS Tryz.prog 56 [(3,0,1),(3,1,1),(3,2,1),(3,3,1),(3,4,1),(3,5,1)]:=⟨by kernel_rfl⟩
instance ty57:Ty Tryz.prog 57 false 1:=⟨by kernel_rfl,by kernel_rfl⟩
instance ty59:Ty Tryz.prog 59 true 3:=⟨by kernel_rfl,by kernel_rfl⟩
instance tyS59:TyS Tryz.prog 59 [(57,0,1),(3,1,1),(9,2,1)]:=⟨by kernel_rfl⟩
instance ty61:Ty Tryz.prog 61 true 1:=⟨by kernel_rfl,by kernel_rfl⟩
instance tyS61:TyS Tryz.prog 61 [(24,0,1)]:=⟨by kernel_rfl⟩
instance ty74:Ty Tryz.prog 74 true 3:=⟨by kernel_rfl,by kernel_rfl⟩
instance tyA74:TyA Tryz.prog 74 3 9 1:=⟨by kernel_rfl,by kernel_rfl⟩
instance ty77:Ty Tryz.prog 77 false 1:=⟨by kernel_rfl,by kernel_rfl⟩
instance tyL77:TyL Tryz.prog 77 93 34 48:=⟨by kernel_rfl,by kernel_rfl⟩
instance ty79:Ty Tryz.prog 79 true 5:=⟨by kernel_rfl,by kernel_rfl⟩
instance tyS79:TyS Tryz.prog 79 [(9,0,1),(9,1,1),(3,2,1),(4,3,1),(77,4,1)]:=⟨by kernel_rfl⟩
instance ty84:Ty Tryz.prog 84 true 4:=⟨by kernel_rfl,by kernel_rfl⟩
instance tyS84:TyS Tryz.prog 84 [(3,0,1),(9,1,1),(9,2,1),(9,3,1)]:=⟨by kernel_rfl⟩
instance ty89:Ty Tryz.prog 89 true 2:=⟨by kernel_rfl,by kernel_rfl⟩
instance tyS89:TyS Tryz.prog 89 [(9,0,1),(9,1,1)]:=⟨by kernel_rfl⟩
instance ty93:Ty Tryz.prog 93 true 34:=⟨by kernel_rfl,by kernel_rfl⟩
instance tyS93:TyS Tryz.prog 93 [(3,0,1),(3,1,1),(38,2,32)]:=⟨by kernel_rfl⟩
instance ty119:Ty Tryz.prog 119 true 3:=⟨by kernel_rfl,by kernel_rfl⟩
instance tyS119:TyS Tryz.prog 119 [(61,0,1),(3,1,1),(3,2,1)]:=⟨by kernel_rfl⟩
instance ty151:Ty Tryz.prog 151 false 1:=⟨by kernel_rfl,by kernel_rfl⟩
instance tyP151:TyP Tryz.prog 151 219:=⟨by kernel_rfl⟩
instance tyS169:TyS Tryz.prog 169 [(9,0,1),(4,1,1)]:=⟨by kernel_rfl⟩
instance ty209:Ty Tryz.prog 209 false 1:=⟨by kernel_rfl,by kernel_rfl⟩
instance ty213:Ty Tryz.prog 213 false 1:=⟨by kernel_rfl,by kernel_rfl⟩
instance tyI213:TyI Tryz.prog 213 .u64:=⟨by kernel_rfl⟩
instance tyS219:TyS Tryz.prog 219 [(9,0,1),(4,1,1)]:=⟨by kernel_rfl⟩
instance ty222:Ty Tryz.prog 222 false 1:=⟨by kernel_rfl,by kernel_rfl⟩
instance tyL222:TyL Tryz.prog 222 5 1 1:=⟨by kernel_rfl,by kernel_rfl⟩
instance ty230:Ty Tryz.prog 230 true 4:=⟨by kernel_rfl,by kernel_rfl⟩
instance tyZ230:TyZ Tryz.prog 230 [.int .u8 0,.int .u8 0,.int .u8 0,.int .u8 0]:=⟨by kernel_rfl,by kernel_rfl⟩
instance tyA230:TyA Tryz.prog 230 4 5 1:=⟨by kernel_rfl,by kernel_rfl⟩
instance ty289:Ty Tryz.prog 289 false 1:=⟨by kernel_rfl,by kernel_rfl⟩
instance tyP289:TyP Tryz.prog 289 291:=⟨by kernel_rfl⟩
instance tyS291:TyS Tryz.prog 291 [(289,0,1),(222,1,1)]:=⟨by kernel_rfl⟩
instance ty297:Ty Tryz.prog 297 false 1:=⟨by kernel_rfl,by kernel_rfl⟩
instance tyL297:TyL Tryz.prog 297 300 1 4:=⟨by kernel_rfl,by kernel_rfl⟩
instance ty299:Ty Tryz.prog 299 true 2:=⟨by kernel_rfl,by kernel_rfl⟩
instance tyS299:TyS Tryz.prog 299 [(297,0,1),(297,1,1)]:=⟨by kernel_rfl⟩
instance ty300:Ty Tryz.prog 300 false 1:=⟨by kernel_rfl,by kernel_rfl⟩
instance tyI300:TyI Tryz.prog 300 .u32:=⟨by kernel_rfl⟩
instance ty309:Ty Tryz.prog 309 false 1:=⟨by kernel_rfl,by kernel_rfl⟩
instance ty315:Ty Tryz.prog 315 true 2:=⟨by kernel_rfl,by kernel_rfl⟩
instance tyA315:TyA Tryz.prog 315 2 3 1:=⟨by kernel_rfl,by kernel_rfl⟩
instance ty316:Ty Tryz.prog 316 true 4:=⟨by kernel_rfl,by kernel_rfl⟩
instance tyA316:TyA Tryz.prog 316 2 315 2:=⟨by kernel_rfl,by kernel_rfl⟩
instance ty319:Ty Tryz.prog 319 true 7:=⟨by kernel_rfl,by kernel_rfl⟩
instance tyS319:TyS Tryz.prog 319 [(45,0,7)]:=⟨by kernel_rfl⟩
instance tyP333:TyP Tryz.prog 333 356:=⟨by kernel_rfl⟩
instance ty339:Ty Tryz.prog 339 true 8:=⟨by kernel_rfl,by kernel_rfl⟩
instance tyZ339:TyZ Tryz.prog 339 [.int .u32 0,.int .u32 0,.int .u32 0,.int .u32 0,.int .u32 0,.int .u32 0,.int .u32 0,.int .u32 0]:=⟨by kernel_rfl,by kernel_rfl⟩
instance tyA339:TyA Tryz.prog 339 8 300 1:=⟨by kernel_rfl,by kernel_rfl⟩
instance tyL347:TyL Tryz.prog 347 309 1 8:=⟨by kernel_rfl,by kernel_rfl⟩
instance ty354:Ty Tryz.prog 354 true 64:=⟨by kernel_rfl,by kernel_rfl⟩
instance tyA354:TyA Tryz.prog 354 64 5 1:=⟨by kernel_rfl,by kernel_rfl⟩
instance ty356:Ty Tryz.prog 356 true 74:=⟨by kernel_rfl,by kernel_rfl⟩
instance tyS356:TyS Tryz.prog 356 [(339,0,8),(354,8,64),(3,72,1),(4,73,1)]:=⟨by kernel_rfl⟩
instance tyZ357:TyZ Tryz.prog 357 [.int .u8 0,.int .u8 0,.int .u8 0,.int .u8 0,.int .u8 0,.int .u8 0,.int .u8 0,.int .u8 0]:=⟨by kernel_rfl,by kernel_rfl⟩
instance tyA357:TyA Tryz.prog 357 8 5 1:=⟨by kernel_rfl,by kernel_rfl⟩
instance tyZ360:TyZ Tryz.prog 360 [.int .u32 0,.int .u32 0,.int .u32 0,.int .u32 0,.int .u32 0,.int .u32 0,.int .u32 0,.int .u32 0,.int .u32 0,.int .u32 0,.int .u32 0,.int .u32 0,.int .u32 0,.int .u32 0,.int .u32 0,.int .u32 0,.int .u32 0,.int .u32 0,.int .u32 0,.int .u32 0,.int .u32 0,.int .u32 0,.int .u32 0,.int .u32 0,.int .u32 0,.int .u32 0,.int .u32 0,.int .u32 0,.int .u32 0,.int .u32 0,.int .u32 0,.int .u32 0,.int .u32 0,.int .u32 0,.int .u32 0,.int .u32 0,.int .u32 0,.int .u32 0,.int .u32 0,.int .u32 0,.int .u32 0,.int .u32 0,.int .u32 0,.int .u32 0,.int .u32 0,.int .u32 0,.int .u32 0,.int .u32 0,.int .u32 0,.int .u32 0,.int .u32 0,.int .u32 0,.int .u32 0,.int .u32 0,.int .u32 0,.int .u32 0,.int .u32 0,.int .u32 0,.int .u32 0,.int .u32 0,.int .u32 0,.int .u32 0,.int .u32 0,.int .u32 0]:=⟨by kernel_rfl,by kernel_rfl⟩
instance tyA360:TyA Tryz.prog 360 64 300 1:=⟨by kernel_rfl,by kernel_rfl⟩
instance tyP364:TyP Tryz.prog 364 374:=⟨by kernel_rfl⟩
instance tyS374:TyS Tryz.prog 374 [(354,0,64)]:=⟨by kernel_rfl⟩
instance fnB7:FnB Tryz.prog 7:=⟨by kernel_rfl⟩
instance fnB9:FnB Tryz.prog 9:=⟨by kernel_rfl⟩
instance fnB10:FnB Tryz.prog 10:=⟨by kernel_rfl⟩
instance fnB11:FnB Tryz.prog 11:=⟨by kernel_rfl⟩
instance fnB13:FnB Tryz.prog 13:=⟨by kernel_rfl⟩
instance fnB14:FnB Tryz.prog 14:=⟨by kernel_rfl⟩
instance fnB15:FnB Tryz.prog 15:=⟨by kernel_rfl⟩
instance fnB16:FnB Tryz.prog 16:=⟨by kernel_rfl⟩
instance fnB17:FnB Tryz.prog 17:=⟨by kernel_rfl⟩
instance fnB18:FnB Tryz.prog 18:=⟨by kernel_rfl⟩
instance fnB19:FnB Tryz.prog 19:=⟨by kernel_rfl⟩
instance fnB20:FnB Tryz.prog 20:=⟨by kernel_rfl⟩
instance fnB21:FnB Tryz.prog 21:=⟨by kernel_rfl⟩
instance fnB22:FnB Tryz.prog 22:=⟨by kernel_rfl⟩
instance fnB23:FnB Tryz.prog 23:=⟨by kernel_rfl⟩
instance fnB28:FnB Tryz.prog 28:=⟨by kernel_rfl⟩
instance fnB30:FnB Tryz.prog 30:=⟨by kernel_rfl⟩
instance fnB31:FnB Tryz.prog 31:=⟨by kernel_rfl⟩
instance fnB32:FnB Tryz.prog 32:=⟨by kernel_rfl⟩
instance fnB33:FnB Tryz.prog 33:=⟨by kernel_rfl⟩
instance fnB34:FnB Tryz.prog 34:=⟨by kernel_rfl⟩
instance fnB35:FnB Tryz.prog 35:=⟨by kernel_rfl⟩
instance fnB36:FnB Tryz.prog 36:=⟨by kernel_rfl⟩
instance fnB37:FnB Tryz.prog 37:=⟨by kernel_rfl⟩
instance fnB38:FnB Tryz.prog 38:=⟨by kernel_rfl⟩
instance fnB39:FnB Tryz.prog 39:=⟨by kernel_rfl⟩
instance fnB40:FnB Tryz.prog 40:=⟨by kernel_rfl⟩
instance fnB41:FnB Tryz.prog 41:=⟨by kernel_rfl⟩
instance fnB42:FnB Tryz.prog 42:=⟨by kernel_rfl⟩
instance fnB43:FnB Tryz.prog 43:=⟨by kernel_rfl⟩
instance fnB44:FnB Tryz.prog 44:=⟨by kernel_rfl⟩
instance fnB45:FnB Tryz.prog 45:=⟨by kernel_rfl⟩
instance fnB46:FnB Tryz.prog 46:=⟨by kernel_rfl⟩
instance fnB47:FnB Tryz.prog 47:=⟨by kernel_rfl⟩
instance fnB48:FnB Tryz.prog 48:=⟨by kernel_rfl⟩
instance fnB49:FnB Tryz.prog 49:=⟨by kernel_rfl⟩
instance fnB50:FnB Tryz.prog 50:=⟨by kernel_rfl⟩
instance fnB52:FnB Tryz.prog 52:=⟨by kernel_rfl⟩
instance fnB53:FnB Tryz.prog 53:=⟨by kernel_rfl⟩
instance fnB54:FnB Tryz.prog 54:=⟨by kernel_rfl⟩
instance fnB55:FnB Tryz.prog 55:=⟨by kernel_rfl⟩
instance fnB56:FnB Tryz.prog 56:=⟨by kernel_rfl⟩
instance fnB57:FnB Tryz.prog 57:=⟨by kernel_rfl⟩
instance fnB58:FnB Tryz.prog 58:=⟨by kernel_rfl⟩
instance fnB59:FnB Tryz.prog 59:=⟨by kernel_rfl⟩
instance fnB60:FnB Tryz.prog 60:=⟨by kernel_rfl⟩
instance fnB61:FnB Tryz.prog 61:=⟨by kernel_rfl⟩
instance fnB62:FnB Tryz.prog 62:=⟨by kernel_rfl⟩
instance fnB69:FnB Tryz.prog 69:=⟨by kernel_rfl⟩
instance fnB70:FnB Tryz.prog 70:=⟨by kernel_rfl⟩
instance fnB72:FnB Tryz.prog 72:=⟨by kernel_rfl⟩
instance fnB73:FnB Tryz.prog 73:=⟨by kernel_rfl⟩
instance fnB74:FnB Tryz.prog 74:=⟨by kernel_rfl⟩
instance fnB75:FnB Tryz.prog 75:=⟨by kernel_rfl⟩
instance fnB76:FnB Tryz.prog 76:=⟨by kernel_rfl⟩
instance fnB77:FnB Tryz.prog 77:=⟨by kernel_rfl⟩
instance fnB78:FnB Tryz.prog 78:=⟨by kernel_rfl⟩
instance fnB79:FnB Tryz.prog 79:=⟨by kernel_rfl⟩
instance fnB80:FnB Tryz.prog 80:=⟨by kernel_rfl⟩
instance fnB81:FnB Tryz.prog 81:=⟨by kernel_rfl⟩
instance fnB82:FnB Tryz.prog 82:=⟨by kernel_rfl⟩
instance fnB83:FnB Tryz.prog 83:=⟨by kernel_rfl⟩
instance fnB84:FnB Tryz.prog 84:=⟨by kernel_rfl⟩
instance fnB85:FnB Tryz.prog 85:=⟨by kernel_rfl⟩
instance fnB86:FnB Tryz.prog 86:=⟨by kernel_rfl⟩
instance fnB87:FnB Tryz.prog 87:=⟨by kernel_rfl⟩
instance fnB88:FnB Tryz.prog 88:=⟨by kernel_rfl⟩
instance fnB89:FnB Tryz.prog 89:=⟨by kernel_rfl⟩
instance fnB90:FnB Tryz.prog 90:=⟨by kernel_rfl⟩
instance fnB91:FnB Tryz.prog 91:=⟨by kernel_rfl⟩
instance fnB92:FnB Tryz.prog 92:=⟨by kernel_rfl⟩
instance fnB93:FnB Tryz.prog 93:=⟨by kernel_rfl⟩
instance fnB94:FnB Tryz.prog 94:=⟨by kernel_rfl⟩
instance fnB95:FnB Tryz.prog 95:=⟨by kernel_rfl⟩
instance fnB96:FnB Tryz.prog 96:=⟨by kernel_rfl⟩
instance fnB97:FnB Tryz.prog 97:=⟨by kernel_rfl⟩
instance fnB98:FnB Tryz.prog 98:=⟨by kernel_rfl⟩
instance fnB99:FnB Tryz.prog 99:=⟨by kernel_rfl⟩
instance fnB100:FnB Tryz.prog 100:=⟨by kernel_rfl⟩
instance fnB101:FnB Tryz.prog 101:=⟨by kernel_rfl⟩
instance fnB102:FnB Tryz.prog 102:=⟨by kernel_rfl⟩
instance fnB103:FnB Tryz.prog 103:=⟨by kernel_rfl⟩
instance fnB104:FnB Tryz.prog 104:=⟨by kernel_rfl⟩
instance fnB105:FnB Tryz.prog 105:=⟨by kernel_rfl⟩
instance fnB106:FnB Tryz.prog 106:=⟨by kernel_rfl⟩
instance fnB107:FnB Tryz.prog 107:=⟨by kernel_rfl⟩
instance fnB108:FnB Tryz.prog 108:=⟨by kernel_rfl⟩
instance fnB109:FnB Tryz.prog 109:=⟨by kernel_rfl⟩
instance fnB110:FnB Tryz.prog 110:=⟨by kernel_rfl⟩
instance fnB111:FnB Tryz.prog 111:=⟨by kernel_rfl⟩
instance fnB112:FnB Tryz.prog 112:=⟨by kernel_rfl⟩
instance fnB113:FnB Tryz.prog 113:=⟨by kernel_rfl⟩
instance fnB114:FnB Tryz.prog 114:=⟨by kernel_rfl⟩
instance fnB115:FnB Tryz.prog 115:=⟨by kernel_rfl⟩
instance fnB116:FnB Tryz.prog 116:=⟨by kernel_rfl⟩
instance fnB117:FnB Tryz.prog 117:=⟨by kernel_rfl⟩
instance fnB118:FnB Tryz.prog 118:=⟨by kernel_rfl⟩
instance fnB119:FnB Tryz.prog 119:=⟨by kernel_rfl⟩
instance fnB120:FnB Tryz.prog 120:=⟨by kernel_rfl⟩
instance fnB121:FnB Tryz.prog 121:=⟨by kernel_rfl⟩
instance fnB122:FnB Tryz.prog 122:=⟨by kernel_rfl⟩
instance fnB130:FnB Tryz.prog 130:=⟨by kernel_rfl⟩
instance fnB134:FnB Tryz.prog 134:=⟨by kernel_rfl⟩
instance fnB143:FnB Tryz.prog 143:=⟨by kernel_rfl⟩
instance fnB144:FnB Tryz.prog 144:=⟨by kernel_rfl⟩
instance fnB145:FnB Tryz.prog 145:=⟨by kernel_rfl⟩
instance fnB146:FnB Tryz.prog 146:=⟨by kernel_rfl⟩
instance fnB147:FnB Tryz.prog 147:=⟨by kernel_rfl⟩
instance fnB148:FnB Tryz.prog 148:=⟨by kernel_rfl⟩
instance fnB149:FnB Tryz.prog 149:=⟨by kernel_rfl⟩
instance fnB150:FnB Tryz.prog 150:=⟨by kernel_rfl⟩
instance fnB151:FnB Tryz.prog 151:=⟨by kernel_rfl⟩
instance fnB152:FnB Tryz.prog 152:=⟨by kernel_rfl⟩
instance fnB160:FnB Tryz.prog 160:=⟨by kernel_rfl⟩
instance fnB165:FnB Tryz.prog 165:=⟨by kernel_rfl⟩
instance fnB166:FnB Tryz.prog 166:=⟨by kernel_rfl⟩
instance fnB167:FnB Tryz.prog 167:=⟨by kernel_rfl⟩
instance fnB168:FnB Tryz.prog 168:=⟨by kernel_rfl⟩
instance fnB169:FnB Tryz.prog 169:=⟨by kernel_rfl⟩
instance fnB170:FnB Tryz.prog 170:=⟨by kernel_rfl⟩
instance fnB171:FnB Tryz.prog 171:=⟨by kernel_rfl⟩
instance fnB172:FnB Tryz.prog 172:=⟨by kernel_rfl⟩
instance fnB173:FnB Tryz.prog 173:=⟨by kernel_rfl⟩
instance fnB174:FnB Tryz.prog 174:=⟨by kernel_rfl⟩
instance fnB175:FnB Tryz.prog 175:=⟨by kernel_rfl⟩
instance fnB176:FnB Tryz.prog 176:=⟨by kernel_rfl⟩
instance fnB177:FnB Tryz.prog 177:=⟨by kernel_rfl⟩
instance fnB178:FnB Tryz.prog 178:=⟨by kernel_rfl⟩
instance fnB179:FnB Tryz.prog 179:=⟨by kernel_rfl⟩
instance fnB180:FnB Tryz.prog 180:=⟨by kernel_rfl⟩
instance fnB181:FnB Tryz.prog 181:=⟨by kernel_rfl⟩
instance fnB182:FnB Tryz.prog 182:=⟨by kernel_rfl⟩
instance fnB183:FnB Tryz.prog 183:=⟨by kernel_rfl⟩
instance fnB184:FnB Tryz.prog 184:=⟨by kernel_rfl⟩
instance fnB185:FnB Tryz.prog 185:=⟨by kernel_rfl⟩
instance fnB186:FnB Tryz.prog 186:=⟨by kernel_rfl⟩
instance fnB187:FnB Tryz.prog 187:=⟨by kernel_rfl⟩
instance fnB188:FnB Tryz.prog 188:=⟨by kernel_rfl⟩
instance fnB189:FnB Tryz.prog 189:=⟨by kernel_rfl⟩
instance fnB190:FnB Tryz.prog 190:=⟨by kernel_rfl⟩
instance fnB191:FnB Tryz.prog 191:=⟨by kernel_rfl⟩
instance fnB192:FnB Tryz.prog 192:=⟨by kernel_rfl⟩
instance fnB193:FnB Tryz.prog 193:=⟨by kernel_rfl⟩
instance fnB194:FnB Tryz.prog 194:=⟨by kernel_rfl⟩
instance fnB195:FnB Tryz.prog 195:=⟨by kernel_rfl⟩
instance fnB196:FnB Tryz.prog 196:=⟨by kernel_rfl⟩
instance fnB197:FnB Tryz.prog 197:=⟨by kernel_rfl⟩
instance fnB198:FnB Tryz.prog 198:=⟨by kernel_rfl⟩
instance fnB199:FnB Tryz.prog 199:=⟨by kernel_rfl⟩
instance fnB200:FnB Tryz.prog 200:=⟨by kernel_rfl⟩
instance fnB201:FnB Tryz.prog 201:=⟨by kernel_rfl⟩
instance fnB202:FnB Tryz.prog 202:=⟨by kernel_rfl⟩
instance fnB203:FnB Tryz.prog 203:=⟨by kernel_rfl⟩
instance fnB210:FnB Tryz.prog 210:=⟨by kernel_rfl⟩
instance fnB211:FnB Tryz.prog 211:=⟨by kernel_rfl⟩
instance fnB212:FnB Tryz.prog 212:=⟨by kernel_rfl⟩
instance fnB213:FnB Tryz.prog 213:=⟨by kernel_rfl⟩
instance fnB214:FnB Tryz.prog 214:=⟨by kernel_rfl⟩
instance fnB215:FnB Tryz.prog 215:=⟨by kernel_rfl⟩
instance fnB216:FnB Tryz.prog 216:=⟨by kernel_rfl⟩
instance fnB217:FnB Tryz.prog 217:=⟨by kernel_rfl⟩
instance fnB218:FnB Tryz.prog 218:=⟨by kernel_rfl⟩
instance fnB238:FnB Tryz.prog 238:=⟨by kernel_rfl⟩
instance fnB252:FnB Tryz.prog 252:=⟨by kernel_rfl⟩
instance fnB253:FnB Tryz.prog 253:=⟨by kernel_rfl⟩
instance fnB254:FnB Tryz.prog 254:=⟨by kernel_rfl⟩
instance fnB255:FnB Tryz.prog 255:=⟨by kernel_rfl⟩
instance fnB256:FnB Tryz.prog 256:=⟨by kernel_rfl⟩
instance fnB257:FnB Tryz.prog 257:=⟨by kernel_rfl⟩
instance fnB258:FnB Tryz.prog 258:=⟨by kernel_rfl⟩
instance fnB259:FnB Tryz.prog 259:=⟨by kernel_rfl⟩
instance fnB264:FnB Tryz.prog 264:=⟨by kernel_rfl⟩
instance fnB266:FnB Tryz.prog 266:=⟨by kernel_rfl⟩
instance fnB270:FnB Tryz.prog 270:=⟨by kernel_rfl⟩
instance fnB271:FnB Tryz.prog 271:=⟨by kernel_rfl⟩
instance fnB272:FnB Tryz.prog 272:=⟨by kernel_rfl⟩
instance fnB273:FnB Tryz.prog 273:=⟨by kernel_rfl⟩
instance fnB274:FnB Tryz.prog 274:=⟨by kernel_rfl⟩
instance fnB275:FnB Tryz.prog 275:=⟨by kernel_rfl⟩
instance fnB276:FnB Tryz.prog 276:=⟨by kernel_rfl⟩
instance fnB277:FnB Tryz.prog 277:=⟨by kernel_rfl⟩
instance fnB278:FnB Tryz.prog 278:=⟨by kernel_rfl⟩
instance fnB279:FnB Tryz.prog 279:=⟨by kernel_rfl⟩
instance fnB280:FnB Tryz.prog 280:=⟨by kernel_rfl⟩
instance fnB281:FnB Tryz.prog 281:=⟨by kernel_rfl⟩
instance fnB282:FnB Tryz.prog 282:=⟨by kernel_rfl⟩
instance fnB283:FnB Tryz.prog 283:=⟨by kernel_rfl⟩
instance fnB284:FnB Tryz.prog 284:=⟨by kernel_rfl⟩
instance fnB285:FnB Tryz.prog 285:=⟨by kernel_rfl⟩
instance fnB286:FnB Tryz.prog 286:=⟨by kernel_rfl⟩
instance fnB287:FnB Tryz.prog 287:=⟨by kernel_rfl⟩
instance fnB288:FnB Tryz.prog 288:=⟨by kernel_rfl⟩
instance fnB289:FnB Tryz.prog 289:=⟨by kernel_rfl⟩
instance fnB290:FnB Tryz.prog 290:=⟨by kernel_rfl⟩
instance fnB291:FnB Tryz.prog 291:=⟨by kernel_rfl⟩
instance fnB299:FnB Tryz.prog 299:=⟨by kernel_rfl⟩
instance fnB300:FnB Tryz.prog 300:=⟨by kernel_rfl⟩
instance fnB301:FnB Tryz.prog 301:=⟨by kernel_rfl⟩
instance fnB302:FnB Tryz.prog 302:=⟨by kernel_rfl⟩
instance fnB303:FnB Tryz.prog 303:=⟨by kernel_rfl⟩
instance fnB304:FnB Tryz.prog 304:=⟨by kernel_rfl⟩
instance fnB305:FnB Tryz.prog 305:=⟨by kernel_rfl⟩
instance fnB306:FnB Tryz.prog 306:=⟨by kernel_rfl⟩
instance fnB307:FnB Tryz.prog 307:=⟨by kernel_rfl⟩
instance fnB308:FnB Tryz.prog 308:=⟨by kernel_rfl⟩
instance fnB309:FnB Tryz.prog 309:=⟨by kernel_rfl⟩
instance fnB316:FnB Tryz.prog 316:=⟨by kernel_rfl⟩
instance fnB326:FnB Tryz.prog 326:=⟨by kernel_rfl⟩
instance fnB330:FnB Tryz.prog 330:=⟨by kernel_rfl⟩
instance fnB331:FnB Tryz.prog 331:=⟨by kernel_rfl⟩
instance fnB332:FnB Tryz.prog 332:=⟨by kernel_rfl⟩
instance fnB335:FnB Tryz.prog 335:=⟨by kernel_rfl⟩
instance fnB336:FnB Tryz.prog 336:=⟨by kernel_rfl⟩
instance fnB337:FnB Tryz.prog 337:=⟨by kernel_rfl⟩
instance fnB340:FnB Tryz.prog 340:=⟨by kernel_rfl⟩
instance fnB341:FnB Tryz.prog 341:=⟨by kernel_rfl⟩
instance fnB343:FnB Tryz.prog 343:=⟨by kernel_rfl⟩
instance fnB344:FnB Tryz.prog 344:=⟨by kernel_rfl⟩
instance fnB345:FnB Tryz.prog 345:=⟨by kernel_rfl⟩
instance fnB346:FnB Tryz.prog 346:=⟨by kernel_rfl⟩
instance fnB347:FnB Tryz.prog 347:=⟨by kernel_rfl⟩
instance fnB348:FnB Tryz.prog 348:=⟨by kernel_rfl⟩
instance fnB353:FnB Tryz.prog 353:=⟨by kernel_rfl⟩
instance fnB354:FnB Tryz.prog 354:=⟨by kernel_rfl⟩
instance fnB358:FnB Tryz.prog 358:=⟨by kernel_rfl⟩
instance fnB361:FnB Tryz.prog 361:=⟨by kernel_rfl⟩
instance fnB362:FnB Tryz.prog 362:=⟨by kernel_rfl⟩
instance fnB364:FnB Tryz.prog 364:=⟨by kernel_rfl⟩
instance fnB365:FnB Tryz.prog 365:=⟨by kernel_rfl⟩
instance fnB367:FnB Tryz.prog 367:=⟨by kernel_rfl⟩
instance fnB369:FnB Tryz.prog 369:=⟨by kernel_rfl⟩
instance fnB370:FnB Tryz.prog 370:=⟨by kernel_rfl⟩
instance fnB374:FnB Tryz.prog 374:=⟨by kernel_rfl⟩
instance fnB375:FnB Tryz.prog 375:=⟨by kernel_rfl⟩
instance fnB381:FnB Tryz.prog 381:=⟨by kernel_rfl⟩
instance fnB385:FnB Tryz.prog 385:=⟨by kernel_rfl⟩
instance fnB386:FnB Tryz.prog 386:=⟨by kernel_rfl⟩
instance fnB388:FnB Tryz.prog 388:=⟨by kernel_rfl⟩
instance fnB391:FnB Tryz.prog 391:=⟨by kernel_rfl⟩
instance fnB395:FnB Tryz.prog 395:=⟨by kernel_rfl⟩
end Go.Proofs.YtlmcongmglfaeaaGreatDoor

namespace Go.Proofs.YtlmcongmglfaeaaGreatDoor
open Go Tw Av
set_option maxRecDepth 100000
instance mixedI:Mixed Tryz.prog:=⟨by kernel_rfl⟩
instance tyO3:TyO Tryz.prog 3 (.lit (.int .i64 0)):=⟨by kernel_rfl,by kernel_rfl⟩
instance tyO4:TyO Tryz.prog 4 (.lit (.bool false)):=⟨by kernel_rfl,by kernel_rfl⟩
instance tyE24:TyE Tryz.prog 24 89 2 32:=⟨⟨by kernel_rfl,by kernel_rfl⟩,by kernel_rfl,rfl⟩
instance tyE25:TyE Tryz.prog 25 24 1 24:=⟨⟨by kernel_rfl,by kernel_rfl⟩,by kernel_rfl,rfl⟩
instance tyE26:TyE Tryz.prog 26 3 1 8:=⟨⟨by kernel_rfl,by kernel_rfl⟩,by kernel_rfl,rfl⟩
instance tyE27:TyE Tryz.prog 27 47 12 136:=⟨⟨by kernel_rfl,by kernel_rfl⟩,by kernel_rfl,rfl⟩
instance tyO28:TyO Tryz.prog 28 (.lit (.slice none 0 0)):=⟨by kernel_rfl,by kernel_rfl⟩
instance tyE28:TyE Tryz.prog 28 9 1 16:=⟨⟨by kernel_rfl,by kernel_rfl⟩,by kernel_rfl,rfl⟩
instance tyO30:TyO Tryz.prog 30 (.agg 9 [str [],.lit (.slice none 0 0),.lit (.int .i64 0),.lit (.int .i64 0),.lit (.slice none 0 0),.lit (.slice none 0 0),.lit (.slice none 0 0),.lit (.slice none 0 0),.lit (.slice none 0 0)]):=⟨by kernel_rfl,by kernel_rfl⟩
instance tyO33:TyO Tryz.prog 33 (.agg 18 [.agg 18 [.agg 9 [str [],.lit (.slice none 0 0),.lit (.int .i64 0),.lit (.int .i64 0),.lit (.slice none 0 0),.lit (.slice none 0 0),.lit (.slice none 0 0),.lit (.slice none 0 0),.lit (.slice none 0 0)],.agg 9 [str [],.lit (.slice none 0 0),.lit (.int .i64 0),.lit (.int .i64 0),.lit (.slice none 0 0),.lit (.slice none 0 0),.lit (.slice none 0 0),.lit (.slice none 0 0),.lit (.slice none 0 0)]]]):=⟨by kernel_rfl,by kernel_rfl⟩
instance tyO36:TyO Tryz.prog 36 (.agg 6 [.lit (.int .i64 0),.lit (.int .i64 0),.lit (.int .i64 0),.lit (.int .i64 0),.lit (.int .i64 0),.lit (.int .i64 0)]):=⟨by kernel_rfl,by kernel_rfl⟩
instance tyO38:TyO Tryz.prog 38 (hA zeroH):=⟨by kernel_rfl,by kernel_rfl⟩
instance tyO40:TyO Tryz.prog 40 (.agg 35 [str [],.lit (.int .i64 0),.lit (.int .i64 0),hA zeroH]):=⟨by kernel_rfl,by kernel_rfl⟩
instance tyO43:TyO Tryz.prog 43 (.agg 4 [.lit (.int .u64 0),.lit (.int .u64 0),.lit (.int .u64 0),.lit (.int .u64 0)]):=⟨by kernel_rfl,by kernel_rfl⟩
instance tyO45:TyO Tryz.prog 45 (.agg 7 [str [],.agg 4 [.lit (.int .u64 0),.lit (.int .u64 0),.lit (.int .u64 0),.lit (.int .u64 0)],str [],str []]):=⟨by kernel_rfl,by kernel_rfl⟩
instance tyO47:TyO Tryz.prog 47 (.agg 12 [.lit (.int .i64 0),str [],str [],.agg 7 [str [],.agg 4 [.lit (.int .u64 0),.lit (.int .u64 0),.lit (.int .u64 0),.lit (.int .u64 0)],str [],str []],.lit (.int .i64 0),.lit (.int .i64 0)]):=⟨by kernel_rfl,by kernel_rfl⟩
instance tyE48:TyE Tryz.prog 48 38 32 32:=⟨⟨by kernel_rfl,by kernel_rfl⟩,by kernel_rfl,rfl⟩
instance tyO50:TyO Tryz.prog 50 (.agg 3 [.lit (.int .i64 0),.lit (.int .i64 0),.lit (.slice none 0 0)]):=⟨by kernel_rfl,by kernel_rfl⟩
instance tyO52:TyO Tryz.prog 52 (.agg 9 [.lit (.int .i64 0),.lit (.slice none 0 0),.lit (.slice none 0 0),.agg 3 [.lit (.int .i64 0),.lit (.int .i64 0),.lit (.slice none 0 0)],.agg 3 [.lit (.int .i64 0),.lit (.int .i64 0),.lit (.slice none 0 0)]]):=⟨by kernel_rfl,by kernel_rfl⟩
instance tyO54:TyO Tryz.prog 54 (.agg 100 [.lit (.int .i64 0),str [],str [],str [],str [],str [],.lit (.int .i64 0),.agg 35 [str [],.lit (.int .i64 0),.lit (.int .i64 0),hA zeroH],hA zeroH,.agg 12 [.lit (.int .i64 0),str [],str [],.agg 7 [str [],.agg 4 [.lit (.int .u64 0),.lit (.int .u64 0),.lit (.int .u64 0),.lit (.int .u64 0)],str [],str []],.lit (.int .i64 0),.lit (.int .i64 0)],str [],.lit (.int .i64 0),.agg 3 [.lit (.int .i64 0),.lit (.int .i64 0),.lit (.slice none 0 0)],.agg 9 [.lit (.int .i64 0),.lit (.slice none 0 0),.lit (.slice none 0 0),.agg 3 [.lit (.int .i64 0),.lit (.int .i64 0),.lit (.slice none 0 0)],.agg 3 [.lit (.int .i64 0),.lit (.int .i64 0),.lit (.slice none 0 0)]]]):=⟨by kernel_rfl,by kernel_rfl⟩
instance tyO59:TyO Tryz.prog 59 (.agg 3 [.lit (.int .i64 0),.lit (.int .i64 0),str []]):=⟨by kernel_rfl,by kernel_rfl⟩
instance tyO61:TyO Tryz.prog 61 (.agg 1 [.lit (.slice none 0 0)]):=⟨by kernel_rfl,by kernel_rfl⟩
instance tyO74:TyO Tryz.prog 74 (.agg 3 [str [],str [],str []]):=⟨by kernel_rfl,by kernel_rfl⟩
instance tyE77:TyE Tryz.prog 77 93 34 48:=⟨⟨by kernel_rfl,by kernel_rfl⟩,by kernel_rfl,rfl⟩
instance tyO79:TyO Tryz.prog 79 (.agg 5 [str [],str [],.lit (.int .i64 0),.lit (.bool false),.lit (.slice none 0 0)]):=⟨by kernel_rfl,by kernel_rfl⟩
instance tyO84:TyO Tryz.prog 84 (.agg 4 [.lit (.int .i64 0),str [],str [],str []]):=⟨by kernel_rfl,by kernel_rfl⟩
instance tyO89:TyO Tryz.prog 89 (.agg 2 [str [],str []]):=⟨by kernel_rfl,by kernel_rfl⟩
instance tyO93:TyO Tryz.prog 93 (.agg 34 [.lit (.int .i64 0),.lit (.int .i64 0),hA zeroH]):=⟨by kernel_rfl,by kernel_rfl⟩
instance tyO119:TyO Tryz.prog 119 (.agg 3 [.agg 1 [.lit (.slice none 0 0)],.lit (.int .i64 0),.lit (.int .i64 0)]):=⟨by kernel_rfl,by kernel_rfl⟩
instance tyO151:TyO Tryz.prog 151 (.lit (.pointer none)):=⟨by kernel_rfl,by kernel_rfl⟩
instance tyO169:TyO Tryz.prog 169 (.agg 2 [str [],.lit (.bool false)]):=⟨by kernel_rfl,by kernel_rfl⟩
instance tyO209:TyO Tryz.prog 209 (.lit .nilFunc):=⟨by kernel_rfl,by kernel_rfl⟩
instance tyO219:TyO Tryz.prog 219 (.agg 2 [str [],.lit (.bool false)]):=⟨by kernel_rfl,by kernel_rfl⟩
instance tyE222:TyE Tryz.prog 222 5 1 1:=⟨⟨by kernel_rfl,by kernel_rfl⟩,by kernel_rfl,rfl⟩
instance tyO291:TyO Tryz.prog 291 (.agg 2 [.lit (.pointer none),.lit (.slice none 0 0)]):=⟨by kernel_rfl,by kernel_rfl⟩
instance tyE297:TyE Tryz.prog 297 300 1 4:=⟨⟨by kernel_rfl,by kernel_rfl⟩,by kernel_rfl,rfl⟩
instance tyO299:TyO Tryz.prog 299 (.agg 2 [.lit (.slice none 0 0),.lit (.slice none 0 0)]):=⟨by kernel_rfl,by kernel_rfl⟩
instance tyO315:TyO Tryz.prog 315 (.agg 2 [.lit (.int .i64 0),.lit (.int .i64 0)]):=⟨by kernel_rfl,by kernel_rfl⟩
instance tyO316:TyO Tryz.prog 316 (.agg 4 [.agg 2 [.lit (.int .i64 0),.lit (.int .i64 0)],.agg 2 [.lit (.int .i64 0),.lit (.int .i64 0)]]):=⟨by kernel_rfl,by kernel_rfl⟩
instance tyO319:TyO Tryz.prog 319 (.agg 7 [.agg 7 [str [],.agg 4 [.lit (.int .u64 0),.lit (.int .u64 0),.lit (.int .u64 0),.lit (.int .u64 0)],str [],str []]]):=⟨by kernel_rfl,by kernel_rfl⟩
instance tyO339:TyO Tryz.prog 339 (.agg 8 [.lit (.int .u32 0),.lit (.int .u32 0),.lit (.int .u32 0),.lit (.int .u32 0),.lit (.int .u32 0),.lit (.int .u32 0),.lit (.int .u32 0),.lit (.int .u32 0)]):=⟨by kernel_rfl,by kernel_rfl⟩
instance tyE347:TyE Tryz.prog 347 309 1 8:=⟨⟨by kernel_rfl,by kernel_rfl⟩,by kernel_rfl,rfl⟩
instance tyO354:TyO Tryz.prog 354 (.agg 64 [.lit (.int .u8 0),.lit (.int .u8 0),.lit (.int .u8 0),.lit (.int .u8 0),.lit (.int .u8 0),.lit (.int .u8 0),.lit (.int .u8 0),.lit (.int .u8 0),.lit (.int .u8 0),.lit (.int .u8 0),.lit (.int .u8 0),.lit (.int .u8 0),.lit (.int .u8 0),.lit (.int .u8 0),.lit (.int .u8 0),.lit (.int .u8 0),.lit (.int .u8 0),.lit (.int .u8 0),.lit (.int .u8 0),.lit (.int .u8 0),.lit (.int .u8 0),.lit (.int .u8 0),.lit (.int .u8 0),.lit (.int .u8 0),.lit (.int .u8 0),.lit (.int .u8 0),.lit (.int .u8 0),.lit (.int .u8 0),.lit (.int .u8 0),.lit (.int .u8 0),.lit (.int .u8 0),.lit (.int .u8 0),.lit (.int .u8 0),.lit (.int .u8 0),.lit (.int .u8 0),.lit (.int .u8 0),.lit (.int .u8 0),.lit (.int .u8 0),.lit (.int .u8 0),.lit (.int .u8 0),.lit (.int .u8 0),.lit (.int .u8 0),.lit (.int .u8 0),.lit (.int .u8 0),.lit (.int .u8 0),.lit (.int .u8 0),.lit (.int .u8 0),.lit (.int .u8 0),.lit (.int .u8 0),.lit (.int .u8 0),.lit (.int .u8 0),.lit (.int .u8 0),.lit (.int .u8 0),.lit (.int .u8 0),.lit (.int .u8 0),.lit (.int .u8 0),.lit (.int .u8 0),.lit (.int .u8 0),.lit (.int .u8 0),.lit (.int .u8 0),.lit (.int .u8 0),.lit (.int .u8 0),.lit (.int .u8 0),.lit (.int .u8 0)]):=⟨by kernel_rfl,by kernel_rfl⟩
instance tyO360:TyO Tryz.prog 360 (.agg 64 [.lit (.int .u32 0),.lit (.int .u32 0),.lit (.int .u32 0),.lit (.int .u32 0),.lit (.int .u32 0),.lit (.int .u32 0),.lit (.int .u32 0),.lit (.int .u32 0),.lit (.int .u32 0),.lit (.int .u32 0),.lit (.int .u32 0),.lit (.int .u32 0),.lit (.int .u32 0),.lit (.int .u32 0),.lit (.int .u32 0),.lit (.int .u32 0),.lit (.int .u32 0),.lit (.int .u32 0),.lit (.int .u32 0),.lit (.int .u32 0),.lit (.int .u32 0),.lit (.int .u32 0),.lit (.int .u32 0),.lit (.int .u32 0),.lit (.int .u32 0),.lit (.int .u32 0),.lit (.int .u32 0),.lit (.int .u32 0),.lit (.int .u32 0),.lit (.int .u32 0),.lit (.int .u32 0),.lit (.int .u32 0),.lit (.int .u32 0),.lit (.int .u32 0),.lit (.int .u32 0),.lit (.int .u32 0),.lit (.int .u32 0),.lit (.int .u32 0),.lit (.int .u32 0),.lit (.int .u32 0),.lit (.int .u32 0),.lit (.int .u32 0),.lit (.int .u32 0),.lit (.int .u32 0),.lit (.int .u32 0),.lit (.int .u32 0),.lit (.int .u32 0),.lit (.int .u32 0),.lit (.int .u32 0),.lit (.int .u32 0),.lit (.int .u32 0),.lit (.int .u32 0),.lit (.int .u32 0),.lit (.int .u32 0),.lit (.int .u32 0),.lit (.int .u32 0),.lit (.int .u32 0),.lit (.int .u32 0),.lit (.int .u32 0),.lit (.int .u32 0),.lit (.int .u32 0),.lit (.int .u32 0),.lit (.int .u32 0),.lit (.int .u32 0)]):=⟨by kernel_rfl,by kernel_rfl⟩
instance tyO374:TyO Tryz.prog 374 (.agg 64 [.agg 64 [.lit (.int .u8 0),.lit (.int .u8 0),.lit (.int .u8 0),.lit (.int .u8 0),.lit (.int .u8 0),.lit (.int .u8 0),.lit (.int .u8 0),.lit (.int .u8 0),.lit (.int .u8 0),.lit (.int .u8 0),.lit (.int .u8 0),.lit (.int .u8 0),.lit (.int .u8 0),.lit (.int .u8 0),.lit (.int .u8 0),.lit (.int .u8 0),.lit (.int .u8 0),.lit (.int .u8 0),.lit (.int .u8 0),.lit (.int .u8 0),.lit (.int .u8 0),.lit (.int .u8 0),.lit (.int .u8 0),.lit (.int .u8 0),.lit (.int .u8 0),.lit (.int .u8 0),.lit (.int .u8 0),.lit (.int .u8 0),.lit (.int .u8 0),.lit (.int .u8 0),.lit (.int .u8 0),.lit (.int .u8 0),.lit (.int .u8 0),.lit (.int .u8 0),.lit (.int .u8 0),.lit (.int .u8 0),.lit (.int .u8 0),.lit (.int .u8 0),.lit (.int .u8 0),.lit (.int .u8 0),.lit (.int .u8 0),.lit (.int .u8 0),.lit (.int .u8 0),.lit (.int .u8 0),.lit (.int .u8 0),.lit (.int .u8 0),.lit (.int .u8 0),.lit (.int .u8 0),.lit (.int .u8 0),.lit (.int .u8 0),.lit (.int .u8 0),.lit (.int .u8 0),.lit (.int .u8 0),.lit (.int .u8 0),.lit (.int .u8 0),.lit (.int .u8 0),.lit (.int .u8 0),.lit (.int .u8 0),.lit (.int .u8 0),.lit (.int .u8 0),.lit (.int .u8 0),.lit (.int .u8 0),.lit (.int .u8 0),.lit (.int .u8 0)]]):=⟨by kernel_rfl,by kernel_rfl⟩
end Go.Proofs.YtlmcongmglfaeaaGreatDoor

namespace Go.Proofs.YtlmcongmglfaeaaGreatDoor
open Go Tw Av
set_option maxRecDepth 100000
instance tyB4:TyB Tryz.prog 4:=⟨by kernel_rfl⟩
instance noG38:NoG Tryz.prog 38:=⟨by kernel_rfl⟩
instance tyQ40:TyQ Tryz.prog 40 [(9,0,1),(3,1,1),(3,2,1),(38,3,32)]:=⟨by kernel_rfl,by kernel_rfl⟩
instance noG40:NoG Tryz.prog 40:=⟨by kernel_rfl⟩
instance noG43:NoG Tryz.prog 43:=⟨by kernel_rfl⟩
instance tyQ45:TyQ Tryz.prog 45 [(9,0,1),(43,1,4),(9,5,1),(9,6,1)]:=⟨by kernel_rfl,by kernel_rfl⟩
instance tyQ47:TyQ Tryz.prog 47 [(3,0,1),(9,1,1),(9,2,1),(45,3,7),(3,10,1),(3,11,1)]:=⟨by kernel_rfl,by kernel_rfl⟩
instance noG47:NoG Tryz.prog 47:=⟨by kernel_rfl⟩
instance tyQ89:TyQ Tryz.prog 89 [(9,0,1),(9,1,1)]:=⟨by kernel_rfl,by kernel_rfl⟩
instance noG89:NoG Tryz.prog 89:=⟨by kernel_rfl⟩
end Go.Proofs.YtlmcongmglfaeaaGreatDoor

namespace Tw
open Go Go.RowKit
structure Wk (p:Prop):Prop where
 o:p
theorem wk {G G':Prop}(h:G')(i:Wk G'->G:=by
 intro h
 first
 | (apply wl_move;exact rfl;exact rfl;exact h.o)
 | (apply wl_assign;exact rfl;exact rfl;exact h.o)
 | (apply wc_seq;exact h.o)
 | (apply wc_region;exact h.o)
 | (apply wc_scope;exact h.o)
 | (apply wc_label;exact h.o)
 | (apply we_noGoto;exact h.o)
 | (apply we_noGotoR;exact h.o)
 | (apply we_noGotoX;exact h.o)
 | (apply wl_nil;exact h.o)
 | (apply we_thenC;exact h.o)
 | (apply wc_block;exact h.o)
 | (apply wc_exit;exact h.o)
 | (apply wc_ret;exact h.o)
 | (apply wc_skip;exact h.o)
 | (apply we_thenX;exact h.o)
 | (apply we_thenR;exact h.o)
 | (apply we_block;exact h.o)
 | (apply we_blockR;exact h.o)
 | (apply we_blockX;exact h.o)
 | (apply we_blockO;exact rfl;exact h.o)
 | (apply wl_load;assumption;exact rfl;(repeat (first|exact Has.here|apply Has.there));exact rfl;exact rfl;exact h.o)
 | (apply wl_loadD;exact rfl;assumption;exact rfl;exact rfl;exact rfl;exact h.o)
 | (apply wl_loadF;exact rfl;assumption;exact good_all rfl;exact rfl;exact rfl;exact h.o)
 | (apply wl_cmp;exact rfl;exact rfl;exact rfl;exact rfl;exact h.o)
 | (apply wl_add32;exact rfl;exact rfl;exact rfl;exact h.o)
 | (apply wl_bit32;exact rfl;exact rfl;exact rfl;exact rfl;exact h.o)
 | (apply wl_arith64;exact rfl;exact rfl;exact rfl;omega;omega;exact rfl;exact h.o)
 | (apply wl_arith;exact rfl;exact rfl;exact rfl;exact rfl;exact h.o)
 | (apply wl_cmpS;exact rfl;exact rfl;exact rfl;exact rfl;exact h.o)
 | (apply wl_shr 8 256;exact rfl;exact rfl;exact rfl;exact rfl;exact rfl;exact h.o)
 | (apply wl_shr 16 65536;exact rfl;exact rfl;exact rfl;exact rfl;exact rfl;exact h.o)
 | (apply wl_lenS';exact rfl;exact rfl;exact h.o)
 | (apply wl_cat;exact rfl;exact rfl;omega;exact rfl;exact h.o)
 | (apply wl_conv32;exact rfl;exact rfl;exact h.o)
 | (apply wl_convI';exact rfl;exact rfl;exact h.o)
 | (apply wl_idxC;exact rfl;exact rfl;exact rfl;exact rfl;exact rfl;exact h.o)
 | (apply wl_fieldAddr;exact rfl;exact rfl;exact rfl;exact rfl;exact h.o)
 | (apply wl_nilCheck;exact rfl;exact rfl;exact h.o)
 | (apply wl_extract;exact rfl;exact rfl;exact rfl;exact h.o)
 | (apply wl_build;exact rfl;exact rfl;exact rfl;exact rfl;exact h.o)
 | (apply wl_buildA;exact rfl;exact rfl;exact rfl;exact h.o)
 | (apply wl_ptrN;exact rfl;exact rfl;exact rfl;exact rfl;exact h.o)
 | (apply wl_sliN;exact rfl;exact rfl;exact rfl;exact rfl;exact h.o)
 | (apply wl_pickT;exact rfl;exact rfl;exact rfl;exact h.o)
 | (apply wl_pickF;exact rfl;exact rfl;exact rfl;exact h.o)
 | (apply wl_onW;exact rfl;exact rfl;exact h.o)
 | (apply wl_off;exact rfl;exact rfl;exact rfl;exact h.o)
 | (apply wl_notD;exact rfl;exact rfl;exact h.o)
 | (apply wl_not;exact rfl;exact rfl;exact h.o)
 | (apply wl_lenL;exact rfl;exact rfl;exact h.o)
 | (apply wl_sliceA;exact rfl;exact rfl;exact h.o)
 | (apply wc_condT;exact rfl;exact h.o)
 | (apply wc_condF;exact rfl;exact h.o)):G:=i ⟨h⟩
theorem wkI {G H:Prop}(h:H)(i:Wk H->G:=by
 intro h
 first
 | (apply wl_alloc;assumption;exact rfl;exact h.o)
 | (apply wl_boxS;assumption;exact rfl;exact rfl;exact rfl;exact h.o)
 | (apply wl_boxV;assumption;exact rfl;exact rfl;exact rfl;exact h.o)
 | (apply wl_storeS;assumption;exact rfl;exact rfl;(repeat (first|exact Upd.here|apply Upd.there));exact rfl;exact rfl;exact rfl;exact h.o)
 | (apply wl_storeV;assumption;exact rfl;exact rfl;(repeat (first|exact Upd.here|apply Upd.there));exact rfl;exact rfl;exact rfl;exact h.o)
 | (apply wl_buildL;assumption;exact rfl;exact rfl;exact rfl;exact rfl;exact rfl;exact rfl;exact rfl;exact rfl;exact rfl;exact h.o)):G:=i ⟨h⟩
end Tw
