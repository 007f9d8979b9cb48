/- The walk's step of the older engine. No program is named. -/
import Derived.KernelRfl
import Derived.Test.YtlmcongmglfaeaaGreatDoorD04
import Derived.Test.YtlmcongmglfaeaaGreatDoorD14
import Derived.Test.YtlmcongmglfaeaaGreatDoorD15
import Derived.Test.YtlmcongmglfaeaaGreatDoorD16
namespace Go.Proofs.YtlmcongmglfaeaaGreatDoor
open Go Tw Av
set_option maxRecDepth 100000
instance mixedI:Mixed Tryz.prog:=⟨by kernel_rfl⟩
instance tyO3:TyO Tryz.prog 3 (.lit (.int .i64 0)):=⟨by kernel_rfl,by kernel_rfl⟩
instance tyO4:TyO Tryz.prog 4 (.lit (.bool false)):=⟨by kernel_rfl,by kernel_rfl⟩
instance tyO9:TyO Tryz.prog 9 (str []):=⟨by kernel_rfl,by kernel_rfl⟩
instance tyE24:TyE Tryz.prog 24 89 2 32:=⟨⟨by kernel_rfl,by kernel_rfl⟩,by kernel_rfl,rfl⟩
instance tyE25:TyE Tryz.prog 25 24 1 24:=⟨⟨by kernel_rfl,by kernel_rfl⟩,by kernel_rfl,rfl⟩
instance tyE26:TyE Tryz.prog 26 3 1 8:=⟨⟨by kernel_rfl,by kernel_rfl⟩,by kernel_rfl,rfl⟩
instance tyE27:TyE Tryz.prog 27 47 12 136:=⟨⟨by kernel_rfl,by kernel_rfl⟩,by kernel_rfl,rfl⟩
instance tyO28:TyO Tryz.prog 28 (.lit (.slice none 0 0)):=⟨by kernel_rfl,by kernel_rfl⟩
instance tyE28:TyE Tryz.prog 28 9 1 16:=⟨⟨by kernel_rfl,by kernel_rfl⟩,by kernel_rfl,rfl⟩
instance tyO30:TyO Tryz.prog 30 (.agg 9 [str [],.lit (.slice none 0 0),.lit (.int .i64 0),.lit (.int .i64 0),.lit (.slice none 0 0),.lit (.slice none 0 0),.lit (.slice none 0 0),.lit (.slice none 0 0),.lit (.slice none 0 0)]):=⟨by kernel_rfl,by kernel_rfl⟩
instance tyO33:TyO Tryz.prog 33 (.agg 18 [.agg 18 [.agg 9 [str [],.lit (.slice none 0 0),.lit (.int .i64 0),.lit (.int .i64 0),.lit (.slice none 0 0),.lit (.slice none 0 0),.lit (.slice none 0 0),.lit (.slice none 0 0),.lit (.slice none 0 0)],.agg 9 [str [],.lit (.slice none 0 0),.lit (.int .i64 0),.lit (.int .i64 0),.lit (.slice none 0 0),.lit (.slice none 0 0),.lit (.slice none 0 0),.lit (.slice none 0 0),.lit (.slice none 0 0)]]]):=⟨by kernel_rfl,by kernel_rfl⟩
instance tyO36:TyO Tryz.prog 36 (.agg 6 [.lit (.int .i64 0),.lit (.int .i64 0),.lit (.int .i64 0),.lit (.int .i64 0),.lit (.int .i64 0),.lit (.int .i64 0)]):=⟨by kernel_rfl,by kernel_rfl⟩
instance tyO38:TyO Tryz.prog 38 (hA zeroH):=⟨by kernel_rfl,by kernel_rfl⟩
instance tyO40:TyO Tryz.prog 40 (.agg 35 [str [],.lit (.int .i64 0),.lit (.int .i64 0),hA zeroH]):=⟨by kernel_rfl,by kernel_rfl⟩
instance tyO43:TyO Tryz.prog 43 (.agg 4 [.lit (.int .u64 0),.lit (.int .u64 0),.lit (.int .u64 0),.lit (.int .u64 0)]):=⟨by kernel_rfl,by kernel_rfl⟩
instance tyO45:TyO Tryz.prog 45 (.agg 7 [str [],.agg 4 [.lit (.int .u64 0),.lit (.int .u64 0),.lit (.int .u64 0),.lit (.int .u64 0)],str [],str []]):=⟨by kernel_rfl,by kernel_rfl⟩
instance tyO47:TyO Tryz.prog 47 (.agg 12 [.lit (.int .i64 0),str [],str [],.agg 7 [str [],.agg 4 [.lit (.int .u64 0),.lit (.int .u64 0),.lit (.int .u64 0),.lit (.int .u64 0)],str [],str []],.lit (.int .i64 0),.lit (.int .i64 0)]):=⟨by kernel_rfl,by kernel_rfl⟩
instance tyO48:TyO Tryz.prog 48 (.lit (.slice none 0 0)):=⟨by kernel_rfl,by kernel_rfl⟩
instance tyE48:TyE Tryz.prog 48 38 32 32:=⟨⟨by kernel_rfl,by kernel_rfl⟩,by kernel_rfl,rfl⟩
instance tyO50:TyO Tryz.prog 50 (.agg 3 [.lit (.int .i64 0),.lit (.int .i64 0),.lit (.slice none 0 0)]):=⟨by kernel_rfl,by kernel_rfl⟩
instance tyO52:TyO Tryz.prog 52 (.agg 9 [.lit (.int .i64 0),.lit (.slice none 0 0),.lit (.slice none 0 0),.agg 3 [.lit (.int .i64 0),.lit (.int .i64 0),.lit (.slice none 0 0)],.agg 3 [.lit (.int .i64 0),.lit (.int .i64 0),.lit (.slice none 0 0)]]):=⟨by kernel_rfl,by kernel_rfl⟩
instance tyO54:TyO Tryz.prog 54 (.agg 100 [.lit (.int .i64 0),str [],str [],str [],str [],str [],.lit (.int .i64 0),.agg 35 [str [],.lit (.int .i64 0),.lit (.int .i64 0),hA zeroH],hA zeroH,.agg 12 [.lit (.int .i64 0),str [],str [],.agg 7 [str [],.agg 4 [.lit (.int .u64 0),.lit (.int .u64 0),.lit (.int .u64 0),.lit (.int .u64 0)],str [],str []],.lit (.int .i64 0),.lit (.int .i64 0)],str [],.lit (.int .i64 0),.agg 3 [.lit (.int .i64 0),.lit (.int .i64 0),.lit (.slice none 0 0)],.agg 9 [.lit (.int .i64 0),.lit (.slice none 0 0),.lit (.slice none 0 0),.agg 3 [.lit (.int .i64 0),.lit (.int .i64 0),.lit (.slice none 0 0)],.agg 3 [.lit (.int .i64 0),.lit (.int .i64 0),.lit (.slice none 0 0)]]]):=⟨by kernel_rfl,by kernel_rfl⟩
instance tyO56:TyO Tryz.prog 56 (.agg 6 [.lit (.int .i64 0),.lit (.int .i64 0),.lit (.int .i64 0),.lit (.int .i64 0),.lit (.int .i64 0),.lit (.int .i64 0)]):=⟨by kernel_rfl,by kernel_rfl⟩
instance tyO57:TyO Tryz.prog 57 (.lit (.int .i64 0)):=⟨by kernel_rfl,by kernel_rfl⟩
instance tyO59:TyO Tryz.prog 59 (.agg 3 [.lit (.int .i64 0),.lit (.int .i64 0),str []]):=⟨by kernel_rfl,by kernel_rfl⟩
instance tyO61:TyO Tryz.prog 61 (.agg 1 [.lit (.slice none 0 0)]):=⟨by kernel_rfl,by kernel_rfl⟩
instance tyO74:TyO Tryz.prog 74 (.agg 3 [str [],str [],str []]):=⟨by kernel_rfl,by kernel_rfl⟩
instance tyE77:TyE Tryz.prog 77 93 34 48:=⟨⟨by kernel_rfl,by kernel_rfl⟩,by kernel_rfl,rfl⟩
instance tyO79:TyO Tryz.prog 79 (.agg 5 [str [],str [],.lit (.int .i64 0),.lit (.bool false),.lit (.slice none 0 0)]):=⟨by kernel_rfl,by kernel_rfl⟩
instance tyO84:TyO Tryz.prog 84 (.agg 4 [.lit (.int .i64 0),str [],str [],str []]):=⟨by kernel_rfl,by kernel_rfl⟩
instance tyO89:TyO Tryz.prog 89 (.agg 2 [str [],str []]):=⟨by kernel_rfl,by kernel_rfl⟩
instance tyO93:TyO Tryz.prog 93 (.agg 34 [.lit (.int .i64 0),.lit (.int .i64 0),hA zeroH]):=⟨by kernel_rfl,by kernel_rfl⟩
instance tyO119:TyO Tryz.prog 119 (.agg 3 [.agg 1 [.lit (.slice none 0 0)],.lit (.int .i64 0),.lit (.int .i64 0)]):=⟨by kernel_rfl,by kernel_rfl⟩
instance tyO126:TyO Tryz.prog 126 (.agg 4 [.lit (.slice none 0 0),.agg 3 [.lit (.int .i64 0),.lit (.int .i64 0),str []]]):=⟨by kernel_rfl,by kernel_rfl⟩
instance tyO151:TyO Tryz.prog 151 (.lit (.pointer none)):=⟨by kernel_rfl,by kernel_rfl⟩
instance tyO169:TyO Tryz.prog 169 (.agg 2 [str [],.lit (.bool false)]):=⟨by kernel_rfl,by kernel_rfl⟩
instance tyO209:TyO Tryz.prog 209 (.lit .nilFunc):=⟨by kernel_rfl,by kernel_rfl⟩
instance tyO219:TyO Tryz.prog 219 (.agg 2 [str [],.lit (.bool false)]):=⟨by kernel_rfl,by kernel_rfl⟩
instance tyE222:TyE Tryz.prog 222 5 1 1:=⟨⟨by kernel_rfl,by kernel_rfl⟩,by kernel_rfl,rfl⟩
instance tyE279:TyE Tryz.prog 279 282 3 24:=⟨⟨by kernel_rfl,by kernel_rfl⟩,by kernel_rfl,rfl⟩
instance tyO282:TyO Tryz.prog 282 (.agg 3 [.lit (.bool false),.lit (.int .i64 0),.lit (.int .i64 0)]):=⟨by kernel_rfl,by kernel_rfl⟩
instance tyO291:TyO Tryz.prog 291 (.agg 2 [.lit (.pointer none),.lit (.slice none 0 0)]):=⟨by kernel_rfl,by kernel_rfl⟩
instance tyE297:TyE Tryz.prog 297 300 1 4:=⟨⟨by kernel_rfl,by kernel_rfl⟩,by kernel_rfl,rfl⟩
instance tyO299:TyO Tryz.prog 299 (.agg 2 [.lit (.slice none 0 0),.lit (.slice none 0 0)]):=⟨by kernel_rfl,by kernel_rfl⟩
instance tyO315:TyO Tryz.prog 315 (.agg 2 [.lit (.int .i64 0),.lit (.int .i64 0)]):=⟨by kernel_rfl,by kernel_rfl⟩
instance tyO316:TyO Tryz.prog 316 (.agg 4 [.agg 2 [.lit (.int .i64 0),.lit (.int .i64 0)],.agg 2 [.lit (.int .i64 0),.lit (.int .i64 0)]]):=⟨by kernel_rfl,by kernel_rfl⟩
instance tyO319:TyO Tryz.prog 319 (.agg 7 [.agg 7 [str [],.agg 4 [.lit (.int .u64 0),.lit (.int .u64 0),.lit (.int .u64 0),.lit (.int .u64 0)],str [],str []]]):=⟨by kernel_rfl,by kernel_rfl⟩
instance tyO339:TyO Tryz.prog 339 (.agg 8 [.lit (.int .u32 0),.lit (.int .u32 0),.lit (.int .u32 0),.lit (.int .u32 0),.lit (.int .u32 0),.lit (.int .u32 0),.lit (.int .u32 0),.lit (.int .u32 0)]):=⟨by kernel_rfl,by kernel_rfl⟩
instance tyE347:TyE Tryz.prog 347 309 1 8:=⟨⟨by kernel_rfl,by kernel_rfl⟩,by kernel_rfl,rfl⟩
instance tyO354:TyO Tryz.prog 354 (.agg 64 [.lit (.int .u8 0),.lit (.int .u8 0),.lit (.int .u8 0),.lit (.int .u8 0),.lit (.int .u8 0),.lit (.int .u8 0),.lit (.int .u8 0),.lit (.int .u8 0),.lit (.int .u8 0),.lit (.int .u8 0),.lit (.int .u8 0),.lit (.int .u8 0),.lit (.int .u8 0),.lit (.int .u8 0),.lit (.int .u8 0),.lit (.int .u8 0),.lit (.int .u8 0),.lit (.int .u8 0),.lit (.int .u8 0),.lit (.int .u8 0),.lit (.int .u8 0),.lit (.int .u8 0),.lit (.int .u8 0),.lit (.int .u8 0),.lit (.int .u8 0),.lit (.int .u8 0),.lit (.int .u8 0),.lit (.int .u8 0),.lit (.int .u8 0),.lit (.int .u8 0),.lit (.int .u8 0),.lit (.int .u8 0),.lit (.int .u8 0),.lit (.int .u8 0),.lit (.int .u8 0),.lit (.int .u8 0),.lit (.int .u8 0),.lit (.int .u8 0),.lit (.int .u8 0),.lit (.int .u8 0),.lit (.int .u8 0),.lit (.int .u8 0),.lit (.int .u8 0),.lit (.int .u8 0),.lit (.int .u8 0),.lit (.int .u8 0),.lit (.int .u8 0),.lit (.int .u8 0),.lit (.int .u8 0),.lit (.int .u8 0),.lit (.int .u8 0),.lit (.int .u8 0),.lit (.int .u8 0),.lit (.int .u8 0),.lit (.int .u8 0),.lit (.int .u8 0),.lit (.int .u8 0),.lit (.int .u8 0),.lit (.int .u8 0),.lit (.int .u8 0),.lit (.int .u8 0),.lit (.int .u8 0),.lit (.int .u8 0),.lit (.int .u8 0)]):=⟨by kernel_rfl,by kernel_rfl⟩
instance tyO360:TyO Tryz.prog 360 (.agg 64 [.lit (.int .u32 0),.lit (.int .u32 0),.lit (.int .u32 0),.lit (.int .u32 0),.lit (.int .u32 0),.lit (.int .u32 0),.lit (.int .u32 0),.lit (.int .u32 0),.lit (.int .u32 0),.lit (.int .u32 0),.lit (.int .u32 0),.lit (.int .u32 0),.lit (.int .u32 0),.lit (.int .u32 0),.lit (.int .u32 0),.lit (.int .u32 0),.lit (.int .u32 0),.lit (.int .u32 0),.lit (.int .u32 0),.lit (.int .u32 0),.lit (.int .u32 0),.lit (.int .u32 0),.lit (.int .u32 0),.lit (.int .u32 0),.lit (.int .u32 0),.lit (.int .u32 0),.lit (.int .u32 0),.lit (.int .u32 0),.lit (.int .u32 0),.lit (.int .u32 0),.lit (.int .u32 0),.lit (.int .u32 0),.lit (.int .u32 0),.lit (.int .u32 0),.lit (.int .u32 0),.lit (.int .u32 0),.lit (.int .u32 0),.lit (.int .u32 0),.lit (.int .u32 0),.lit (.int .u32 0),.lit (.int .u32 0),.lit (.int .u32 0),.lit (.int .u32 0),.lit (.int .u32 0),.lit (.int .u32 0),.lit (.int .u32 0),.lit (.int .u32 0),.lit (.int .u32 0),.lit (.int .u32 0),.lit (.int .u32 0),.lit (.int .u32 0),.lit (.int .u32 0),.lit (.int .u32 0),.lit (.int .u32 0),.lit (.int .u32 0),.lit (.int .u32 0),.lit (.int .u32 0),.lit (.int .u32 0),.lit (.int .u32 0),.lit (.int .u32 0),.lit (.int .u32 0),.lit (.int .u32 0),.lit (.int .u32 0),.lit (.int .u32 0)]):=⟨by kernel_rfl,by kernel_rfl⟩
instance tyO374:TyO Tryz.prog 374 (.agg 64 [.agg 64 [.lit (.int .u8 0),.lit (.int .u8 0),.lit (.int .u8 0),.lit (.int .u8 0),.lit (.int .u8 0),.lit (.int .u8 0),.lit (.int .u8 0),.lit (.int .u8 0),.lit (.int .u8 0),.lit (.int .u8 0),.lit (.int .u8 0),.lit (.int .u8 0),.lit (.int .u8 0),.lit (.int .u8 0),.lit (.int .u8 0),.lit (.int .u8 0),.lit (.int .u8 0),.lit (.int .u8 0),.lit (.int .u8 0),.lit (.int .u8 0),.lit (.int .u8 0),.lit (.int .u8 0),.lit (.int .u8 0),.lit (.int .u8 0),.lit (.int .u8 0),.lit (.int .u8 0),.lit (.int .u8 0),.lit (.int .u8 0),.lit (.int .u8 0),.lit (.int .u8 0),.lit (.int .u8 0),.lit (.int .u8 0),.lit (.int .u8 0),.lit (.int .u8 0),.lit (.int .u8 0),.lit (.int .u8 0),.lit (.int .u8 0),.lit (.int .u8 0),.lit (.int .u8 0),.lit (.int .u8 0),.lit (.int .u8 0),.lit (.int .u8 0),.lit (.int .u8 0),.lit (.int .u8 0),.lit (.int .u8 0),.lit (.int .u8 0),.lit (.int .u8 0),.lit (.int .u8 0),.lit (.int .u8 0),.lit (.int .u8 0),.lit (.int .u8 0),.lit (.int .u8 0),.lit (.int .u8 0),.lit (.int .u8 0),.lit (.int .u8 0),.lit (.int .u8 0),.lit (.int .u8 0),.lit (.int .u8 0),.lit (.int .u8 0),.lit (.int .u8 0),.lit (.int .u8 0),.lit (.int .u8 0),.lit (.int .u8 0),.lit (.int .u8 0)]]):=⟨by kernel_rfl,by kernel_rfl⟩
end Go.Proofs.YtlmcongmglfaeaaGreatDoor

namespace Go.Proofs.YtlmcongmglfaeaaGreatDoor
open Go Tw Av
set_option maxRecDepth 100000
instance tyB4:TyB Tryz.prog 4:=⟨by kernel_rfl⟩
instance noG38:NoG Tryz.prog 38:=⟨by kernel_rfl⟩
instance noG43:NoG Tryz.prog 43:=⟨by kernel_rfl⟩
instance tyQ45:TyQ Tryz.prog 45 [(9,0,1),(43,1,4),(9,5,1),(9,6,1)]:=⟨by kernel_rfl,by kernel_rfl⟩
instance tyQ47:TyQ Tryz.prog 47 [(3,0,1),(9,1,1),(9,2,1),(45,3,7),(3,10,1),(3,11,1)]:=⟨by kernel_rfl,by kernel_rfl⟩
instance noG47:NoG Tryz.prog 47:=⟨by kernel_rfl⟩
instance tyQ59:TyQ Tryz.prog 59 [(57,0,1),(3,1,1),(9,2,1)]:=⟨by kernel_rfl,by kernel_rfl⟩
instance noG59:NoG Tryz.prog 59:=⟨by kernel_rfl⟩
instance tyQ84:TyQ Tryz.prog 84 [(3,0,1),(9,1,1),(9,2,1),(9,3,1)]:=⟨by kernel_rfl,by kernel_rfl⟩
instance noG84:NoG Tryz.prog 84:=⟨by kernel_rfl⟩
instance tyQ89:TyQ Tryz.prog 89 [(9,0,1),(9,1,1)]:=⟨by kernel_rfl,by kernel_rfl⟩
instance noG89:NoG Tryz.prog 89:=⟨by kernel_rfl⟩
instance tyQ93:TyQ Tryz.prog 93 [(3,0,1),(3,1,1),(38,2,32)]:=⟨by kernel_rfl,by kernel_rfl⟩
instance noG93:NoG Tryz.prog 93:=⟨by kernel_rfl⟩
end Go.Proofs.YtlmcongmglfaeaaGreatDoor

namespace Tw
open Go Go.RowKit
structure Wk (p:Prop):Prop where
 o:p
theorem wk {G G':Prop}(h:G')(i:Wk G'->G:=by
 intro h
 first
 | (apply wl_move;exact rfl;exact rfl;exact h.o)
 | (apply wl_assign;exact rfl;exact rfl;exact h.o)
 | (apply wc_seq;exact h.o)
 | (apply wc_region;exact h.o)
 | (apply wc_scope;exact h.o)
 | (apply wc_label;exact h.o)
 | (apply we_noGoto;exact h.o)
 | (apply we_noGotoR;exact h.o)
 | (apply we_noGotoX;exact h.o)
 | (apply wl_nil;exact h.o)
 | (apply we_thenC;exact h.o)
 | (apply wc_block;exact h.o)
 | (apply wc_exit;exact h.o)
 | (apply wc_ret;exact h.o)
 | (apply wc_skip;exact h.o)
 | (apply we_thenX;exact h.o)
 | (apply we_thenR;exact h.o)
 | (apply we_block;exact h.o)
 | (apply we_blockR;exact h.o)
 | (apply we_blockX;exact h.o)
 | (apply we_blockO;exact rfl;exact h.o)
 | (apply wl_load;assumption;exact rfl;(repeat (first|exact Has.here|apply Has.there));exact rfl;exact rfl;exact h.o)
 | (apply wl_loadD;exact rfl;assumption;exact rfl;exact rfl;exact rfl;exact h.o)
 | (apply wl_loadF;exact rfl;assumption;exact good_all rfl;exact rfl;exact rfl;exact h.o)
 | (apply wl_cmp;exact rfl;exact rfl;exact rfl;exact rfl;exact h.o)
 | (apply wl_add32;exact rfl;exact rfl;exact rfl;exact h.o)
 | (apply wl_bit32;exact rfl;exact rfl;exact rfl;exact rfl;exact h.o)
 | (apply wl_arith64;exact rfl;exact rfl;exact rfl;omega;omega;exact rfl;exact h.o)
 | (apply wl_arith;exact rfl;exact rfl;exact rfl;exact rfl;exact h.o)
 | (apply wl_cmpS;exact rfl;exact rfl;exact rfl;exact rfl;exact h.o)
 | (apply wl_shr 8 256;exact rfl;exact rfl;exact rfl;exact rfl;exact rfl;exact h.o)
 | (apply wl_shr 16 65536;exact rfl;exact rfl;exact rfl;exact rfl;exact rfl;exact h.o)
 | (apply wl_lenS';exact rfl;exact rfl;exact h.o)
 | (apply wl_cat;exact rfl;exact rfl;omega;exact rfl;exact h.o)
 | (apply wl_conv32;exact rfl;exact rfl;exact h.o)
 | (apply wl_convI';exact rfl;exact rfl;exact h.o)
 | (apply wl_idxC;exact rfl;exact rfl;exact rfl;exact rfl;exact rfl;exact h.o)
 | (apply wl_fieldAddr;exact rfl;exact rfl;exact rfl;exact rfl;exact h.o)
 | (apply wl_nilCheck;exact rfl;exact rfl;exact h.o)
 | (apply wl_extract;exact rfl;exact rfl;exact rfl;exact h.o)
 | (apply wl_build;exact rfl;exact rfl;exact rfl;exact rfl;exact h.o)
 | (apply wl_buildA;exact rfl;exact rfl;exact rfl;exact h.o)
 | (apply wl_ptrN;exact rfl;exact rfl;exact rfl;exact rfl;exact h.o)
 | (apply wl_sliN;exact rfl;exact rfl;exact rfl;exact rfl;exact h.o)
 | (apply wl_pickT;exact rfl;exact rfl;exact rfl;exact h.o)
 | (apply wl_pickF;exact rfl;exact rfl;exact rfl;exact h.o)
 | (apply wl_onW;exact rfl;exact rfl;exact h.o)
 | (apply wl_off;exact rfl;exact rfl;exact rfl;exact h.o)
 | (apply wl_notD;exact rfl;exact rfl;exact h.o)
 | (apply wl_not;exact rfl;exact rfl;exact h.o)
 | (apply wl_lenL;exact rfl;exact rfl;exact h.o)
 | (apply wl_sliceA;exact rfl;exact rfl;exact h.o)
 | (apply wc_condT;exact rfl;exact h.o)
 | (apply wc_condF;exact rfl;exact h.o)):G:=i ⟨h⟩
theorem wkI {G H:Prop}(h:H)(i:Wk H->G:=by
 intro h
 first
 | (apply wl_alloc;assumption;exact rfl;exact h.o)
 | (apply wl_boxS;assumption;exact rfl;exact rfl;exact rfl;exact h.o)
 | (apply wl_boxV;assumption;exact rfl;exact rfl;exact rfl;exact h.o)
 | (apply wl_storeS;assumption;exact rfl;exact rfl;(repeat (first|exact Upd.here|apply Upd.there));exact rfl;exact rfl;exact rfl;exact h.o)
 | (apply wl_storeV;assumption;exact rfl;exact rfl;(repeat (first|exact Upd.here|apply Upd.there));exact rfl;exact rfl;exact rfl;exact h.o)
 | (apply wl_buildL;assumption;exact rfl;exact rfl;exact rfl;exact rfl;exact rfl;exact rfl;exact rfl;exact rfl;exact rfl;exact h.o)):G:=i ⟨h⟩
end Tw
