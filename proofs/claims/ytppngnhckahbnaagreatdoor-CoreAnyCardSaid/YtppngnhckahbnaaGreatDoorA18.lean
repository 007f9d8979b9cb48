/- The walk's step of the older engine. No program is named. -/
import Derived.KernelRfl
import Derived.Test.YtppngnhckahbnaaGreatDoorA04
import Derived.Test.YtppngnhckahbnaaGreatDoorA15
import Derived.Test.YtppngnhckahbnaaGreatDoorA16
import Derived.Test.YtppngnhckahbnaaGreatDoorA17
namespace Go.Proofs.YtppngnhckahbnaaGreatDoor
open Go Tw Av
set_option maxRecDepth 100000
instance mixedI:Mixed Tryz.prog:=⟨by kernel_rfl⟩
instance tyO3:TyO Tryz.prog 3 (.lit (.int .i64 0)):=⟨by kernel_rfl,by kernel_rfl⟩
instance tyO4:TyO Tryz.prog 4 (.lit (.bool false)):=⟨by kernel_rfl,by kernel_rfl⟩
instance tyO9:TyO Tryz.prog 9 (str []):=⟨by kernel_rfl,by kernel_rfl⟩
instance tyE24:TyE Tryz.prog 24 89 2 32:=⟨⟨by kernel_rfl,by kernel_rfl⟩,by kernel_rfl,rfl⟩
instance tyE26:TyE Tryz.prog 26 3 1 8:=⟨⟨by kernel_rfl,by kernel_rfl⟩,by kernel_rfl,rfl⟩
instance tyO28:TyO Tryz.prog 28 (.lit (.slice none 0 0)):=⟨by kernel_rfl,by kernel_rfl⟩
instance tyE28:TyE Tryz.prog 28 9 1 16:=⟨⟨by kernel_rfl,by kernel_rfl⟩,by kernel_rfl,rfl⟩
instance tyO38:TyO Tryz.prog 38 (hA zeroH):=⟨by kernel_rfl,by kernel_rfl⟩
instance tyO40:TyO Tryz.prog 40 (.agg 35 [str [],.lit (.int .i64 0),.lit (.int .i64 0),hA zeroH]):=⟨by kernel_rfl,by kernel_rfl⟩
instance tyO43:TyO Tryz.prog 43 (.agg 4 [.lit (.int .u64 0),.lit (.int .u64 0),.lit (.int .u64 0),.lit (.int .u64 0)]):=⟨by kernel_rfl,by kernel_rfl⟩
instance tyO45:TyO Tryz.prog 45 (.agg 7 [str [],.agg 4 [.lit (.int .u64 0),.lit (.int .u64 0),.lit (.int .u64 0),.lit (.int .u64 0)],str [],str []]):=⟨by kernel_rfl,by kernel_rfl⟩
instance tyO47:TyO Tryz.prog 47 (.agg 12 [.lit (.int .i64 0),str [],str [],.agg 7 [str [],.agg 4 [.lit (.int .u64 0),.lit (.int .u64 0),.lit (.int .u64 0),.lit (.int .u64 0)],str [],str []],.lit (.int .i64 0),.lit (.int .i64 0)]):=⟨by kernel_rfl,by kernel_rfl⟩
instance tyO48:TyO Tryz.prog 48 (.lit (.slice none 0 0)):=⟨by kernel_rfl,by kernel_rfl⟩
instance tyE48:TyE Tryz.prog 48 38 32 32:=⟨⟨by kernel_rfl,by kernel_rfl⟩,by kernel_rfl,rfl⟩
instance tyO50:TyO Tryz.prog 50 (.agg 3 [.lit (.int .i64 0),.lit (.int .i64 0),.lit (.slice none 0 0)]):=⟨by kernel_rfl,by kernel_rfl⟩
instance tyO54:TyO Tryz.prog 54 (.agg 100 [.lit (.int .i64 0),str [],str [],str [],str [],str [],.lit (.int .i64 0),.agg 35 [str [],.lit (.int .i64 0),.lit (.int .i64 0),hA zeroH],hA zeroH,.agg 12 [.lit (.int .i64 0),str [],str [],.agg 7 [str [],.agg 4 [.lit (.int .u64 0),.lit (.int .u64 0),.lit (.int .u64 0),.lit (.int .u64 0)],str [],str []],.lit (.int .i64 0),.lit (.int .i64 0)],str [],.lit (.int .i64 0),.agg 3 [.lit (.int .i64 0),.lit (.int .i64 0),.lit (.slice none 0 0)],.agg 9 [.lit (.int .i64 0),.lit (.slice none 0 0),.lit (.slice none 0 0),.agg 3 [.lit (.int .i64 0),.lit (.int .i64 0),.lit (.slice none 0 0)],.agg 3 [.lit (.int .i64 0),.lit (.int .i64 0),.lit (.slice none 0 0)]]]):=⟨by kernel_rfl,by kernel_rfl⟩
instance tyO57:TyO Tryz.prog 57 (.lit (.int .i64 0)):=⟨by kernel_rfl,by kernel_rfl⟩
instance tyO59:TyO Tryz.prog 59 (.agg 3 [.lit (.int .i64 0),.lit (.int .i64 0),str []]):=⟨by kernel_rfl,by kernel_rfl⟩
instance tyO61:TyO Tryz.prog 61 (.agg 1 [.lit (.slice none 0 0)]):=⟨by kernel_rfl,by kernel_rfl⟩
instance tyE77:TyE Tryz.prog 77 93 34 48:=⟨⟨by kernel_rfl,by kernel_rfl⟩,by kernel_rfl,rfl⟩
instance tyO79:TyO Tryz.prog 79 (.agg 5 [str [],str [],.lit (.int .i64 0),.lit (.bool false),.lit (.slice none 0 0)]):=⟨by kernel_rfl,by kernel_rfl⟩
instance tyO84:TyO Tryz.prog 84 (.agg 4 [.lit (.int .i64 0),str [],str [],str []]):=⟨by kernel_rfl,by kernel_rfl⟩
instance tyO89:TyO Tryz.prog 89 (.agg 2 [str [],str []]):=⟨by kernel_rfl,by kernel_rfl⟩
instance tyO93:TyO Tryz.prog 93 (.agg 34 [.lit (.int .i64 0),.lit (.int .i64 0),hA zeroH]):=⟨by kernel_rfl,by kernel_rfl⟩
instance tyO100:TyO Tryz.prog 100 (.agg 2 [.lit (.int .i64 0),.lit (.int .i64 0)]):=⟨by kernel_rfl,by kernel_rfl⟩
instance tyO136:TyO Tryz.prog 136 (.agg 3 [.agg 1 [.lit (.slice none 0 0)],.lit (.int .i64 0),.lit (.int .i64 0)]):=⟨by kernel_rfl,by kernel_rfl⟩
instance tyO143:TyO Tryz.prog 143 (.agg 4 [.lit (.slice none 0 0),.agg 3 [.lit (.int .i64 0),.lit (.int .i64 0),str []]]):=⟨by kernel_rfl,by kernel_rfl⟩
instance tyO171:TyO Tryz.prog 171 (.lit (.pointer none)):=⟨by kernel_rfl,by kernel_rfl⟩
instance tyO189:TyO Tryz.prog 189 (.agg 2 [str [],.lit (.bool false)]):=⟨by kernel_rfl,by kernel_rfl⟩
instance tyO225:TyO Tryz.prog 225 (.lit .nilFunc):=⟨by kernel_rfl,by kernel_rfl⟩
instance tyO237:TyO Tryz.prog 237 (.agg 2 [str [],.lit (.bool false)]):=⟨by kernel_rfl,by kernel_rfl⟩
instance tyE240:TyE Tryz.prog 240 5 1 1:=⟨⟨by kernel_rfl,by kernel_rfl⟩,by kernel_rfl,rfl⟩
instance tyE291:TyE Tryz.prog 291 294 3 24:=⟨⟨by kernel_rfl,by kernel_rfl⟩,by kernel_rfl,rfl⟩
instance tyO294:TyO Tryz.prog 294 (.agg 3 [.lit (.bool false),.lit (.int .i64 0),.lit (.int .i64 0)]):=⟨by kernel_rfl,by kernel_rfl⟩
instance tyO304:TyO Tryz.prog 304 (.agg 2 [.lit (.pointer none),.lit (.slice none 0 0)]):=⟨by kernel_rfl,by kernel_rfl⟩
instance tyE309:TyE Tryz.prog 309 312 1 4:=⟨⟨by kernel_rfl,by kernel_rfl⟩,by kernel_rfl,rfl⟩
instance tyO311:TyO Tryz.prog 311 (.agg 2 [.lit (.slice none 0 0),.lit (.slice none 0 0)]):=⟨by kernel_rfl,by kernel_rfl⟩
instance tyO326:TyO Tryz.prog 326 (.agg 4 [.agg 2 [.lit (.int .i64 0),.lit (.int .i64 0)],.agg 2 [.lit (.int .i64 0),.lit (.int .i64 0)]]):=⟨by kernel_rfl,by kernel_rfl⟩
instance tyO329:TyO Tryz.prog 329 (.agg 7 [.agg 7 [str [],.agg 4 [.lit (.int .u64 0),.lit (.int .u64 0),.lit (.int .u64 0),.lit (.int .u64 0)],str [],str []]]):=⟨by kernel_rfl,by kernel_rfl⟩
instance tyO349:TyO Tryz.prog 349 (.agg 8 [.lit (.int .u32 0),.lit (.int .u32 0),.lit (.int .u32 0),.lit (.int .u32 0),.lit (.int .u32 0),.lit (.int .u32 0),.lit (.int .u32 0),.lit (.int .u32 0)]):=⟨by kernel_rfl,by kernel_rfl⟩
instance tyE357:TyE Tryz.prog 357 321 1 8:=⟨⟨by kernel_rfl,by kernel_rfl⟩,by kernel_rfl,rfl⟩
instance tyO364:TyO Tryz.prog 364 (.agg 64 [.lit (.int .u8 0),.lit (.int .u8 0),.lit (.int .u8 0),.lit (.int .u8 0),.lit (.int .u8 0),.lit (.int .u8 0),.lit (.int .u8 0),.lit (.int .u8 0),.lit (.int .u8 0),.lit (.int .u8 0),.lit (.int .u8 0),.lit (.int .u8 0),.lit (.int .u8 0),.lit (.int .u8 0),.lit (.int .u8 0),.lit (.int .u8 0),.lit (.int .u8 0),.lit (.int .u8 0),.lit (.int .u8 0),.lit (.int .u8 0),.lit (.int .u8 0),.lit (.int .u8 0),.lit (.int .u8 0),.lit (.int .u8 0),.lit (.int .u8 0),.lit (.int .u8 0),.lit (.int .u8 0),.lit (.int .u8 0),.lit (.int .u8 0),.lit (.int .u8 0),.lit (.int .u8 0),.lit (.int .u8 0),.lit (.int .u8 0),.lit (.int .u8 0),.lit (.int .u8 0),.lit (.int .u8 0),.lit (.int .u8 0),.lit (.int .u8 0),.lit (.int .u8 0),.lit (.int .u8 0),.lit (.int .u8 0),.lit (.int .u8 0),.lit (.int .u8 0),.lit (.int .u8 0),.lit (.int .u8 0),.lit (.int .u8 0),.lit (.int .u8 0),.lit (.int .u8 0),.lit (.int .u8 0),.lit (.int .u8 0),.lit (.int .u8 0),.lit (.int .u8 0),.lit (.int .u8 0),.lit (.int .u8 0),.lit (.int .u8 0),.lit (.int .u8 0),.lit (.int .u8 0),.lit (.int .u8 0),.lit (.int .u8 0),.lit (.int .u8 0),.lit (.int .u8 0),.lit (.int .u8 0),.lit (.int .u8 0),.lit (.int .u8 0)]):=⟨by kernel_rfl,by kernel_rfl⟩
instance tyO370:TyO Tryz.prog 370 (.agg 64 [.lit (.int .u32 0),.lit (.int .u32 0),.lit (.int .u32 0),.lit (.int .u32 0),.lit (.int .u32 0),.lit (.int .u32 0),.lit (.int .u32 0),.lit (.int .u32 0),.lit (.int .u32 0),.lit (.int .u32 0),.lit (.int .u32 0),.lit (.int .u32 0),.lit (.int .u32 0),.lit (.int .u32 0),.lit (.int .u32 0),.lit (.int .u32 0),.lit (.int .u32 0),.lit (.int .u32 0),.lit (.int .u32 0),.lit (.int .u32 0),.lit (.int .u32 0),.lit (.int .u32 0),.lit (.int .u32 0),.lit (.int .u32 0),.lit (.int .u32 0),.lit (.int .u32 0),.lit (.int .u32 0),.lit (.int .u32 0),.lit (.int .u32 0),.lit (.int .u32 0),.lit (.int .u32 0),.lit (.int .u32 0),.lit (.int .u32 0),.lit (.int .u32 0),.lit (.int .u32 0),.lit (.int .u32 0),.lit (.int .u32 0),.lit (.int .u32 0),.lit (.int .u32 0),.lit (.int .u32 0),.lit (.int .u32 0),.lit (.int .u32 0),.lit (.int .u32 0),.lit (.int .u32 0),.lit (.int .u32 0),.lit (.int .u32 0),.lit (.int .u32 0),.lit (.int .u32 0),.lit (.int .u32 0),.lit (.int .u32 0),.lit (.int .u32 0),.lit (.int .u32 0),.lit (.int .u32 0),.lit (.int .u32 0),.lit (.int .u32 0),.lit (.int .u32 0),.lit (.int .u32 0),.lit (.int .u32 0),.lit (.int .u32 0),.lit (.int .u32 0),.lit (.int .u32 0),.lit (.int .u32 0),.lit (.int .u32 0),.lit (.int .u32 0)]):=⟨by kernel_rfl,by kernel_rfl⟩
instance tyO384:TyO Tryz.prog 384 (.agg 64 [.agg 64 [.lit (.int .u8 0),.lit (.int .u8 0),.lit (.int .u8 0),.lit (.int .u8 0),.lit (.int .u8 0),.lit (.int .u8 0),.lit (.int .u8 0),.lit (.int .u8 0),.lit (.int .u8 0),.lit (.int .u8 0),.lit (.int .u8 0),.lit (.int .u8 0),.lit (.int .u8 0),.lit (.int .u8 0),.lit (.int .u8 0),.lit (.int .u8 0),.lit (.int .u8 0),.lit (.int .u8 0),.lit (.int .u8 0),.lit (.int .u8 0),.lit (.int .u8 0),.lit (.int .u8 0),.lit (.int .u8 0),.lit (.int .u8 0),.lit (.int .u8 0),.lit (.int .u8 0),.lit (.int .u8 0),.lit (.int .u8 0),.lit (.int .u8 0),.lit (.int .u8 0),.lit (.int .u8 0),.lit (.int .u8 0),.lit (.int .u8 0),.lit (.int .u8 0),.lit (.int .u8 0),.lit (.int .u8 0),.lit (.int .u8 0),.lit (.int .u8 0),.lit (.int .u8 0),.lit (.int .u8 0),.lit (.int .u8 0),.lit (.int .u8 0),.lit (.int .u8 0),.lit (.int .u8 0),.lit (.int .u8 0),.lit (.int .u8 0),.lit (.int .u8 0),.lit (.int .u8 0),.lit (.int .u8 0),.lit (.int .u8 0),.lit (.int .u8 0),.lit (.int .u8 0),.lit (.int .u8 0),.lit (.int .u8 0),.lit (.int .u8 0),.lit (.int .u8 0),.lit (.int .u8 0),.lit (.int .u8 0),.lit (.int .u8 0),.lit (.int .u8 0),.lit (.int .u8 0),.lit (.int .u8 0),.lit (.int .u8 0),.lit (.int .u8 0)]]):=⟨by kernel_rfl,by kernel_rfl⟩
end Go.Proofs.YtppngnhckahbnaaGreatDoor

namespace Go.Proofs.YtppngnhckahbnaaGreatDoor
open Go Tw Av
set_option maxRecDepth 100000
instance noG38:NoG Tryz.prog 38:=⟨by kernel_rfl⟩
instance noG43:NoG Tryz.prog 43:=⟨by kernel_rfl⟩
instance tyQ59:TyQ Tryz.prog 59 [(57,0,1),(3,1,1),(9,2,1)]:=⟨by kernel_rfl,by kernel_rfl⟩
instance noG59:NoG Tryz.prog 59:=⟨by kernel_rfl⟩
instance tyQ89:TyQ Tryz.prog 89 [(9,0,1),(9,1,1)]:=⟨by kernel_rfl,by kernel_rfl⟩
instance noG89:NoG Tryz.prog 89:=⟨by kernel_rfl⟩
instance tyQ93:TyQ Tryz.prog 93 [(3,0,1),(3,1,1),(38,2,32)]:=⟨by kernel_rfl,by kernel_rfl⟩
instance noG93:NoG Tryz.prog 93:=⟨by kernel_rfl⟩
end Go.Proofs.YtppngnhckahbnaaGreatDoor

namespace Tw
open Go Go.RowKit
structure Wk (p:Prop):Prop where
 o:p
theorem wk {G G':Prop}(h:G')(i:Wk G'→G:=by
 intro h
 first
 | (apply wl_move;exact rfl;exact rfl;exact h.o)
 | (apply wl_assign;exact rfl;exact rfl;exact h.o)
 | (apply wc_seq;exact h.o)
 | (apply wc_region;exact h.o)
 | (apply wc_scope;exact h.o)
 | (apply wc_label;exact h.o)
 | (apply we_noGoto;exact h.o)
 | (apply we_noGotoR;exact h.o)
 | (apply we_noGotoX;exact h.o)
 | (apply wl_nil;exact h.o)
 | (apply we_thenC;exact h.o)
 | (apply wc_block;exact h.o)
 | (apply wc_exit;exact h.o)
 | (apply wc_ret;exact h.o)
 | (apply wc_skip;exact h.o)
 | (apply we_thenX;exact h.o)
 | (apply we_thenR;exact h.o)
 | (apply we_block;exact h.o)
 | (apply we_blockR;exact h.o)
 | (apply we_blockX;exact h.o)
 | (apply we_blockO;exact rfl;exact h.o)
 | (apply wl_load;assumption;exact rfl;(repeat (first|exact Has.here|apply Has.there));exact rfl;exact rfl;exact h.o)
 | (apply wl_loadD;exact rfl;assumption;exact rfl;exact rfl;exact rfl;exact h.o)
 | (apply wl_loadF;exact rfl;assumption;exact good_all rfl;exact rfl;exact rfl;exact h.o)
 | (apply wl_cmp;exact rfl;exact rfl;exact rfl;exact rfl;exact h.o)
 | (apply wl_add32;exact rfl;exact rfl;exact rfl;exact h.o)
 | (apply wl_bit32;exact rfl;exact rfl;exact rfl;exact rfl;exact h.o)
 | (apply wl_arith64;exact rfl;exact rfl;exact rfl;omega;omega;exact rfl;exact h.o)
 | (apply wl_arith;exact rfl;exact rfl;exact rfl;exact rfl;exact h.o)
 | (apply wl_cmpS;exact rfl;exact rfl;exact rfl;exact rfl;exact h.o)
 | (apply wl_shr 8 256;exact rfl;exact rfl;exact rfl;exact rfl;exact rfl;exact h.o)
 | (apply wl_shr 16 65536;exact rfl;exact rfl;exact rfl;exact rfl;exact rfl;exact h.o)
 | (apply wl_lenS';exact rfl;exact rfl;exact h.o)
 | (apply wl_cat;exact rfl;exact rfl;omega;exact rfl;exact h.o)
 | (apply wl_conv32;exact rfl;exact rfl;exact h.o)
 | (apply wl_convI';exact rfl;exact rfl;exact h.o)
 | (apply wl_idxC;exact rfl;exact rfl;exact rfl;exact rfl;exact rfl;exact h.o)
 | (apply wl_fieldAddr;exact rfl;exact rfl;exact rfl;exact rfl;exact h.o)
 | (apply wl_nilCheck;exact rfl;exact rfl;exact h.o)
 | (apply wl_extract;exact rfl;exact rfl;exact rfl;exact h.o)
 | (apply wl_build;exact rfl;exact rfl;exact rfl;exact rfl;exact h.o)
 | (apply wl_buildA;exact rfl;exact rfl;exact rfl;exact h.o)
 | (apply wl_ptrN;exact rfl;exact rfl;exact rfl;exact rfl;exact h.o)
 | (apply wl_sliN;exact rfl;exact rfl;exact rfl;exact rfl;exact h.o)
 | (apply wl_pickT;exact rfl;exact rfl;exact rfl;exact h.o)
 | (apply wl_pickF;exact rfl;exact rfl;exact rfl;exact h.o)
 | (apply wl_onW;exact rfl;exact rfl;exact h.o)
 | (apply wl_off;exact rfl;exact rfl;exact rfl;exact h.o)
 | (apply wl_notD;exact rfl;exact rfl;exact h.o)
 | (apply wl_not;exact rfl;exact rfl;exact h.o)
 | (apply wl_lenL;exact rfl;exact rfl;exact h.o)
 | (apply wl_sliceA;exact rfl;exact rfl;exact h.o)
 | (apply wc_condT;exact rfl;exact h.o)
 | (apply wc_condF;exact rfl;exact h.o)):G:=i ⟨h⟩
theorem wkI {G H:Prop}(h:H)(i:Wk H→G:=by
 intro h
 first
 | (apply wl_alloc;assumption;exact rfl;exact h.o)
 | (apply wl_boxS;assumption;exact rfl;exact rfl;exact rfl;exact h.o)
 | (apply wl_boxV;assumption;exact rfl;exact rfl;exact rfl;exact h.o)
 | (apply wl_storeS;assumption;exact rfl;exact rfl;(repeat (first|exact Upd.here|apply Upd.there));exact rfl;exact rfl;exact rfl;exact h.o)
 | (apply wl_storeV;assumption;exact rfl;exact rfl;(repeat (first|exact Upd.here|apply Upd.there));exact rfl;exact rfl;exact rfl;exact h.o)
 | (apply wl_buildL;assumption;exact rfl;exact rfl;exact rfl;exact rfl;exact rfl;exact rfl;exact rfl;exact rfl;exact rfl;exact h.o)):G:=i ⟨h⟩
end Tw
