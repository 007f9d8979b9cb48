/- The walk's step of the older engine. No program is named. -/
import Derived.Test.YtndhpgclmgpmoaaGreatDoorA04
namespace Tw
open Go Go.RowKit
structure Wk (p:Prop):Prop where
 o:p
theorem wk {G G':Prop}(h:G')(i:Wk G'->G:=by
 intro h
 first
 | (apply wl_move;exact rfl;exact rfl;exact h.o)
 | (apply wl_assign;exact rfl;exact rfl;exact h.o)
 | (apply wc_seq;exact h.o)
 | (apply wc_region;exact h.o)
 | (apply wc_scope;exact h.o)
 | (apply wc_label;exact h.o)
 | (apply we_noGoto;exact h.o)
 | (apply we_noGotoR;exact h.o)
 | (apply we_noGotoX;exact h.o)
 | (apply wl_nil;exact h.o)
 | (apply we_thenC;exact h.o)
 | (apply wc_block;exact h.o)
 | (apply wc_exit;exact h.o)
 | (apply wc_ret;exact h.o)
 | (apply wc_skip;exact h.o)
 | (apply we_thenX;exact h.o)
 | (apply we_thenR;exact h.o)
 | (apply we_block;exact h.o)
 | (apply we_blockR;exact h.o)
 | (apply we_blockX;exact h.o)
 | (apply we_blockO;exact rfl;exact h.o)
 | (apply wl_load;assumption;exact rfl;(repeat (first|exact Has.here|apply Has.there));exact rfl;exact rfl;exact h.o)
 | (apply wl_loadD;exact rfl;assumption;exact rfl;exact rfl;exact rfl;exact h.o)
 | (apply wl_loadF;exact rfl;assumption;exact good_all rfl;exact rfl;exact rfl;exact h.o)
 | (apply wl_cmp;exact rfl;exact rfl;exact rfl;exact rfl;exact h.o)
 | (apply wl_add32;exact rfl;exact rfl;exact rfl;exact h.o)
 | (apply wl_bit32;exact rfl;exact rfl;exact rfl;exact rfl;exact h.o)
 | (apply wl_arith64;exact rfl;exact rfl;exact rfl;omega;omega;exact rfl;exact h.o)
 | (apply wl_arith;exact rfl;exact rfl;exact rfl;exact rfl;exact h.o)
 | (apply wl_cmpS;exact rfl;exact rfl;exact rfl;exact rfl;exact h.o)
 | (apply wl_shr 8 256;exact rfl;exact rfl;exact rfl;exact rfl;exact rfl;exact h.o)
 | (apply wl_shr 16 65536;exact rfl;exact rfl;exact rfl;exact rfl;exact rfl;exact h.o)
 | (apply wl_lenS';exact rfl;exact rfl;exact h.o)
 | (apply wl_cat;exact rfl;exact rfl;omega;exact rfl;exact h.o)
 | (apply wl_conv32;exact rfl;exact rfl;exact h.o)
 | (apply wl_convI';exact rfl;exact rfl;exact h.o)
 | (apply wl_idxC;exact rfl;exact rfl;exact rfl;exact rfl;exact rfl;exact h.o)
 | (apply wl_fieldAddr;exact rfl;exact rfl;exact rfl;exact rfl;exact h.o)
 | (apply wl_nilCheck;exact rfl;exact rfl;exact h.o)
 | (apply wl_extract;exact rfl;exact rfl;exact rfl;exact h.o)
 | (apply wl_build;exact rfl;exact rfl;exact rfl;exact rfl;exact h.o)
 | (apply wl_buildA;exact rfl;exact rfl;exact rfl;exact h.o)
 | (apply wl_ptrN;exact rfl;exact rfl;exact rfl;exact rfl;exact h.o)
 | (apply wl_sliN;exact rfl;exact rfl;exact rfl;exact rfl;exact h.o)
 | (apply wl_pickT;exact rfl;exact rfl;exact rfl;exact h.o)
 | (apply wl_pickF;exact rfl;exact rfl;exact rfl;exact h.o)
 | (apply wl_onW;exact rfl;exact rfl;exact h.o)
 | (apply wl_off;exact rfl;exact rfl;exact rfl;exact h.o)
 | (apply wl_notD;exact rfl;exact rfl;exact h.o)
 | (apply wl_not;exact rfl;exact rfl;exact h.o)
 | (apply wl_lenL;exact rfl;exact rfl;exact h.o)
 | (apply wl_sliceA;exact rfl;exact rfl;exact h.o)
 | (apply wc_condT;exact rfl;exact h.o)
 | (apply wc_condF;exact rfl;exact h.o)):G:=i ⟨h⟩
theorem wkI {G H:Prop}(h:H)(i:Wk H->G:=by
 intro h
 first
 | (apply wl_alloc;assumption;exact rfl;exact h.o)
 | (apply wl_boxS;assumption;exact rfl;exact rfl;exact rfl;exact h.o)
 | (apply wl_boxV;assumption;exact rfl;exact rfl;exact rfl;exact h.o)
 | (apply wl_storeS;assumption;exact rfl;exact rfl;(repeat (first|exact Upd.here|apply Upd.there));exact rfl;exact rfl;exact rfl;exact h.o)
 | (apply wl_storeV;assumption;exact rfl;exact rfl;(repeat (first|exact Upd.here|apply Upd.there));exact rfl;exact rfl;exact rfl;exact h.o)
 | (apply wl_buildL;assumption;exact rfl;exact rfl;exact rfl;exact rfl;exact rfl;exact rfl;exact rfl;exact rfl;exact rfl;exact h.o)):G:=i ⟨h⟩
end Tw
