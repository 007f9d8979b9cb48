/- hash: the small functions, and the block -/
import Derived.Test.YtlkkekpcofjbeaaGreatDoorA04
import Derived.Test.YtlkkekpcofjbeaaGreatDoorA16
namespace Tw
open Go Go.RowKit
structure Wk (p:Prop):Prop where
 o:p
theorem wk {G G':Prop}(h:G')(i:Wk G'->G:=by
 intro h
 first
 | (apply wl_move;exact rfl;exact rfl;exact h.o)
 | (apply wl_assign;exact rfl;exact rfl;exact h.o)
 | (apply wc_seq;exact h.o)
 | (apply wc_region;exact h.o)
 | (apply wc_scope;exact h.o)
 | (apply wc_label;exact h.o)
 | (apply we_noGoto;exact h.o)
 | (apply we_noGotoR;exact h.o)
 | (apply we_noGotoX;exact h.o)
 | (apply wl_nil;exact h.o)
 | (apply we_thenC;exact h.o)
 | (apply wc_block;exact h.o)
 | (apply wc_exit;exact h.o)
 | (apply wc_ret;exact h.o)
 | (apply wc_skip;exact h.o)
 | (apply we_thenX;exact h.o)
 | (apply we_thenR;exact h.o)
 | (apply we_block;exact h.o)
 | (apply we_blockR;exact h.o)
 | (apply we_blockX;exact h.o)
 | (apply we_blockO;exact rfl;exact h.o)
 | (apply wl_load;assumption;exact rfl;(repeat (first|exact Has.here|apply Has.there));exact rfl;exact rfl;exact h.o)
 | (apply wl_loadD;exact rfl;assumption;exact rfl;exact rfl;exact rfl;exact h.o)
 | (apply wl_loadF;exact rfl;assumption;exact good_all rfl;exact rfl;exact rfl;exact h.o)
 | (apply wl_cmp;exact rfl;exact rfl;exact rfl;exact rfl;exact h.o)
 | (apply wl_add32;exact rfl;exact rfl;exact rfl;exact h.o)
 | (apply wl_bit32;exact rfl;exact rfl;exact rfl;exact rfl;exact h.o)
 | (apply wl_arith64;exact rfl;exact rfl;exact rfl;omega;omega;exact rfl;exact h.o)
 | (apply wl_arith;exact rfl;exact rfl;exact rfl;exact rfl;exact h.o)
 | (apply wl_cmpS;exact rfl;exact rfl;exact rfl;exact rfl;exact h.o)
 | (apply wl_shr 8 256;exact rfl;exact rfl;exact rfl;exact rfl;exact rfl;exact h.o)
 | (apply wl_shr 16 65536;exact rfl;exact rfl;exact rfl;exact rfl;exact rfl;exact h.o)
 | (apply wl_lenS';exact rfl;exact rfl;exact h.o)
 | (apply wl_cat;exact rfl;exact rfl;omega;exact rfl;exact h.o)
 | (apply wl_conv32;exact rfl;exact rfl;exact h.o)
 | (apply wl_convI';exact rfl;exact rfl;exact h.o)
 | (apply wl_idxC;exact rfl;exact rfl;exact rfl;exact rfl;exact rfl;exact h.o)
 | (apply wl_fieldAddr;exact rfl;exact rfl;exact rfl;exact rfl;exact h.o)
 | (apply wl_nilCheck;exact rfl;exact rfl;exact h.o)
 | (apply wl_extract;exact rfl;exact rfl;exact rfl;exact h.o)
 | (apply wl_build;exact rfl;exact rfl;exact rfl;exact rfl;exact h.o)
 | (apply wl_buildA;exact rfl;exact rfl;exact rfl;exact h.o)
 | (apply wl_ptrN;exact rfl;exact rfl;exact rfl;exact rfl;exact h.o)
 | (apply wl_sliN;exact rfl;exact rfl;exact rfl;exact rfl;exact h.o)
 | (apply wl_pickT;exact rfl;exact rfl;exact rfl;exact h.o)
 | (apply wl_pickF;exact rfl;exact rfl;exact rfl;exact h.o)
 | (apply wl_onW;exact rfl;exact rfl;exact h.o)
 | (apply wl_off;exact rfl;exact rfl;exact rfl;exact h.o)
 | (apply wl_notD;exact rfl;exact rfl;exact h.o)
 | (apply wl_not;exact rfl;exact rfl;exact h.o)
 | (apply wl_lenL;exact rfl;exact rfl;exact h.o)
 | (apply wl_sliceA;exact rfl;exact rfl;exact h.o)
 | (apply wc_condT;exact rfl;exact h.o)
 | (apply wc_condF;exact rfl;exact h.o)):G:=i ⟨h⟩
theorem wkI {G H:Prop}(h:H)(i:Wk H->G:=by
 intro h
 first
 | (apply wl_alloc;assumption;exact rfl;exact h.o)
 | (apply wl_boxS;assumption;exact rfl;exact rfl;exact rfl;exact h.o)
 | (apply wl_boxV;assumption;exact rfl;exact rfl;exact rfl;exact h.o)
 | (apply wl_storeS;assumption;exact rfl;exact rfl;(repeat (first|exact Upd.here|apply Upd.there));exact rfl;exact rfl;exact rfl;exact h.o)
 | (apply wl_storeV;assumption;exact rfl;exact rfl;(repeat (first|exact Upd.here|apply Upd.there));exact rfl;exact rfl;exact rfl;exact h.o)
 | (apply wl_buildL;assumption;exact rfl;exact rfl;exact rfl;exact rfl;exact rfl;exact rfl;exact rfl;exact rfl;exact rfl;exact h.o)):G:=i ⟨h⟩
end Tw

namespace Go.Proofs.YtlkkekpcofjbeaaGreatDoor
open Go Go.RowKit Tw
theorem mixed:(Tryz.prog).follows .mixedOrders=true:=by kernel_rfl
theorem rotr_and:∀ n:Fin 32,0 < n.val->(BitVec.ofInt 64 (IntKind.u64.wrap (-(n.val:Int))) &&& BitVec.ofInt 64 31).toNat=32 - n.val:=by decide +kernel
theorem rotr_spec (x:W32)(n:Nat)(h0:0 < n)(h1:n < 32)(w:World):Ret Tryz.prog 294 [w32v x,.int .i64 (-(n:Int))] w fun v w'=>v=w32v (rotr x n)/\Ext w w':=by
 refine ret_enter Tryz.func294 rfl Tryz.ntmps294 rfl ?_
 have hS:=St.start w (fun _=>True) (fun _ _=>trivial)
 repeat (first|refine wk ?_|refine wkI ?_|intro _)
 apply wl_bits (v:=.int .u64 ((32 - n:Nat):Int));exact rfl;exact rfl
 intro w
 ·have h:=rotr_and ⟨n,h1⟩ h0
  simp only [Op.intBits]
  show Result.ok (Value.int .u64 (IntKind.u64.wrap ((BitVec.ofInt 64 (IntKind.u64.wrap (-(n:Int))) &&& BitVec.ofInt 64 31).toNat:Int))) w=_
  rw [h,IntKind.wrap_u64]
  dsimp only
  congr 2
  omega
 exact .inl rfl
 exact rfl
 repeat (first|refine wk ?_|refine wkI ?_|intro _)
 refine wl_shl32 (32 - n) rfl rfl rfl (by omega) rfl ?_
 repeat (first|refine wk ?_|refine wkI ?_|intro _)
 refine wl_shr32 n rfl rfl (by rw [IntKind.wrap_u64];omega) h1 rfl ?_
 apply wl_bit32;exact rfl;exact rfl;exact rfl;exact rfl
 repeat (first|refine wk ?_|refine wkI ?_|intro _)
 (apply we_ret1;exact rfl;apply res_tmp;exact rfl)
 refine⟨?_,hS.out⟩
 rw [rotr,BitVec.or_comm]
structure Glo (w:World):Prop where
 begin:Rg w 1 0 (h0.words.map w32v)
 factors:Rg w 2 0 (kTab.map w32v)
theorem St.glo {s:Base}{ok:Nat->Prop}{m:List Piece}{w:World}(hS:St s ok m w)(h:Glo s.w)(h0:¬ s.md 1)(h2:¬ s.md 2):Glo w:=⟨hS.keepRg h.begin h0,hS.keepRg h.factors h2⟩
def hsw (l:List W32)(buf:Bs)(n:Nat):List Value:=l.map w32v++buf.map u8v++[.int .i64 n,.bool true]
abbrev hsh (x:H8)(buf:Bs)(n:Nat):List Value:=hsw x.words buf n
theorem hsh_units (l:List W32)(buf:Bs)(n:Nat):Units (hsw l buf n):=
 ((Units.map w32v_unit _).append (Units.map u8v_unit _)).append (Units.cons rfl (Units.cons rfl Units.nil))
theorem hsh_good (l:List W32)(buf:Bs)(n:Nat):Tw.Good (hsw l buf n):=
 ((Tw.Good.map w32v_good _).append (Tw.Good.map u8v_good _)).append (good_all rfl)
theorem tzH:TyZ Tryz.prog 305 [st (List.replicate 8 (.int .u32 0)),st (List.replicate 64 (.int .u8 0)),.int .i64 0,.bool false]:=⟨by kernel_rfl,rfl⟩
theorem new_spec (w:World)(hg:Glo w):Ret Tryz.prog 243 [] w fun v w'=>∃ g,v=.pointer (some ⟨g,0,none⟩)/\New g 305 (hsh h0 (zeros 64) 0) w w':=by
 refine ret_enter Tryz.func243 rfl Tryz.ntmps243 rfl ?_
 have hS:=St.start w (fun _=>True) (fun _ _=>trivial)
 repeat (first|refine wk ?_|refine wkI ?_|intro _)
 apply wl_loadD (v:=st (h0.words.map w32v));exact rfl;exact hg.begin;exact rfl;exact rfl;exact rfl
 apply wl_build (tz:=tzH)
 exact rfl
 exact rfl
 exact rfl
 exact rfl
 apply wl_box (xs:=hsh h0 (zeros 64) 0);exact hS;exact rfl;exact rfl;exact hsh_good _ _ _;exact rfl
 intro g ok' w' hS' _ hlt
 repeat (first|refine wk ?_|refine wkI ?_|intro _)
 (apply we_ret1;exact rfl;apply res_tmp;exact rfl)
 exact⟨g,rfl,New.of hS' .here hlt⟩
theorem hsh_x (x:H8)(buf:Bs)(n j:Nat)(h:j < 8):(hsh x buf n)[j]?=some (w32v (x.words.getD j 0)):=by
 have hl:x.words.length=8:=rfl
 simp [hsh,hsw,List.getElem?_append,hl,h]
theorem hsh_b (x:H8)(buf:Bs)(n j:Nat)(hb:buf.length=64)(h:j < 64):(hsh x buf n)[8 + j]?=some (u8v (buf.getD j 0)):=by
 have hl:x.words.length=8:=rfl
 simp [hsh,hsw,List.getElem?_append,hl,hb,h]
theorem hsh_n (x:H8)(buf:Bs)(n:Nat)(hb:buf.length=64):(hsh x buf n)[72]?=some (.int .i64 n):=by
 have hl:x.words.length=8:=rfl
 simp [hsh,hsw,hl,hb]
theorem hsw_set (l:List W32)(buf:Bs)(n i:Nat)(v:W32)(h:i < l.length):(hsw l buf n).set i (w32v v)=hsw (l.set i v) buf n:=by
 unfold hsw
 rw [List.append_assoc,List.set_append,if_pos (by simpa using h),<- List.map_set,List.append_assoc]
theorem ws_len (blk:Bs):∀ k,(ws blk k).length=k
 | 0=>rfl
 | k + 1=>by simp [ws,ws_len blk k]
def wv (blk:Bs)(k:Nat):List Value:=(ws blk k).map w32v++List.replicate (64 - k) (w32v 0)
theorem wv_len (blk:Bs)(k:Nat)(h:k<=64):(wv blk k).length=64:=by simp [wv,ws_len];omega
theorem wv_units (blk:Bs)(k:Nat):Units (wv blk k):=(Units.map w32v_unit _).append fun x hx=>by rw [List.eq_of_mem_replicate hx];rfl
theorem wv_get (blk:Bs)(k j:Nat)(h:j < k):(wv blk k)[j]?=some (w32v ((ws blk k).getD j 0)):=by
 have hl:=ws_len blk k
 simp [wv,List.getElem?_append,hl,h]
theorem wv_next (blk:Bs)(k:Nat)(h:k < 64)(x:W32)(hx:ws blk (k + 1)=ws blk k++[x]):(wv blk k).set k (w32v x)=wv blk (k + 1):=by
 have hl:=ws_len blk k
 unfold wv
 rw [hx,List.set_append,if_neg (by simp [hl]),List.map_append,List.length_map,hl,Nat.sub_self,show 64 - k=(64 - (k + 1)) + 1 by omega,List.replicate_succ]
 simp
theorem wv_zero (blk:Bs)(k:Nat)(h:k < 64):(wv blk k).set k (w32v 0)=wv blk k:=by
 have hl:=ws_len blk k
 unfold wv
 rw [List.set_append,if_neg (by simp [hl]),List.length_map,hl,Nat.sub_self,show 64 - k=(64 - (k + 1)) + 1 by omega,List.replicate_succ]
 simp
theorem block_spec (w:World)(g:Nat)(x:H8)(buf:Bs)(n:Nat)(hg:Glo w)(h0:g≠1)(h2:g≠2)(hb:w.heap[g]?=some (.cells (fl (hsh x buf n)).toArray 305 (0,0)))(hl:buf.length=64) :
  Ret Tryz.prog 275 [.pointer (some ⟨g,0,none⟩)] w fun v w'=>v=.tuple #[]/\Mod g 305 (hsh (compress x buf) buf n) w w':=by
 refine ret_enter Tryz.func275 rfl Tryz.ntmps275 rfl ?_
 have hgl:g < w.heap.size:=by
  rcases Nat.lt_or_ge g w.heap.size with h|h
  ·exact h
  ·simp [Array.getElem?_eq_none h] at hb
 have hS:=St.startM (·≠g) (fun b hb=>by omega) hb (hsh_good x.words buf n) (fun h=>h rfl)
 apply wc_seq
 apply wc_region
 apply wl_alloc;assumption;exact rfl
 intro g1 ok w1 hS1 _ _
 repeat (first|refine wk ?_|refine wkI ?_|intro _)
 clear hS
 replace hS1:St ⟨w,(·≠g),(·=g)⟩ ok [.var g1 311 (wv buf 0),.var g 305 (hsh x buf n)] w1:=hS1
 refine wc_loop (α:=Nat) (fun i=>[(0,.pointer (some ⟨g,0,none⟩)),(2,.pointer (some ⟨g1,0,none⟩)),(22,.int .i64 (i:Int))])
  (fun i w'=>i<=16/\St ⟨w,(·≠g),(·=g)⟩ ok [.var g1 311 (wv buf i),.var g 305 (hsh x buf n)] w') (fun i=>16 - i) 0 ⟨rfl,rfl,rfl,trivial⟩ ⟨by omega,hS1⟩ ?_
 intro i w2 ⟨hi,hS⟩
 repeat (first|refine wk ?_|refine wkI ?_|intro _)
 refine wc_cond rfl (fun hlt=>?_) (fun hlt=>?_)
 ·repeat (first|refine wk ?_|refine wkI ?_|intro _)
  apply wl_sliceAA (4 * i) (4 * i + 4);exact rfl;exact rfl;exact rfl;omega;omega;omega;omega;omega;exact rfl
  repeat (first|refine wk ?_|refine wkI ?_|intro _)
  refine wc_as 34 rfl (show Value.int .i64 _=.int .i64 4 by congr 1;omega) ?_
  refine wc_loop (α:=Nat) (fun j=>[(0,.pointer (some ⟨g,0,none⟩)),(2,.pointer (some ⟨g1,0,none⟩)),(22,.int .i64 (i:Int)),(3,.int .i64 (i:Int)),(33,.slice (some ⟨g,8 + 4 * i * 1,none⟩) (4 * i + 4 - 4 * i) (64 - 4 * i)),(34,.int .i64 4),(35,.int .i64 (j:Int))])
   (fun j w'=>j<=4/\St ⟨w,(·≠g),(·=g)⟩ ok [.var g1 311 ((wv buf i).set i (w32v (partW buf i j))),.var g 305 (hsh x buf n)] w') (fun j=>4 - j) 0 ⟨rfl,rfl,rfl,rfl,rfl,rfl,rfl,trivial⟩ ⟨by omega,?_⟩ ?_
  ·have:(wv buf i).set i (w32v (partW buf i 0))=wv buf i:=wv_zero buf i (by omega)
   rw [this]
   exact hS
  intro j w3 ⟨hj,hS⟩
  repeat (first|refine wk ?_|refine wkI ?_|intro _)
  refine wc_cond rfl (fun hjl=>?_) (fun hjl=>?_)
  ·repeat (first|refine wk ?_|refine wkI ?_|intro _)
   apply wl_idxP j;exact rfl;exact rfl;exact rfl;omega;exact rfl
   apply wl_loadU;assumption;exact rfl;(repeat (first|exact Has.here|apply Has.there));exact hsh_units _ _ _;rw [show 8 + 4 * i * 1 + j * 1=8 + (4 * i + j) by omega];exact hsh_b x buf n (4 * i + j) hl (by omega);exact rfl
   repeat (first|refine wk ?_|refine wkI ?_|intro _)
   apply wl_idxA i;exact rfl;exact rfl;exact rfl;omega;exact rfl
   apply wl_loadU;assumption;exact rfl;(repeat (first|exact Has.here|apply Has.there));exact (wv_units _ _).set rfl _;rw [show 0 + i * 1=i by omega,List.getElem?_set_self (by rw [wv_len _ _ (by omega)];omega)];exact rfl
   apply wl_shl32 8;exact rfl;exact rfl;exact rfl;omega;exact rfl
   repeat (first|refine wk ?_|refine wkI ?_|intro _)
   apply wl_idxA i;exact rfl;exact rfl;exact rfl;omega;exact rfl
   apply wl_storeU;assumption;exact rfl;exact rfl;(repeat (first|exact Upd.here|apply Upd.there));exact (wv_units _ _).set rfl _;exact rfl;exact w32v_good _;rw [List.length_set,wv_len _ _ (by omega)];omega
   intro w4 hS4 _
   repeat (first|refine wk ?_|refine wkI ?_|intro _)
   refine we_round (j + 1) ⟨rfl,rfl,rfl,rfl,rfl,rfl,rfl,trivial⟩ ⟨by omega,?_⟩ (by omega)
   rw [show 0 + i * 1=i by omega,List.set_set] at hS4
   exact hS4
  ·repeat (first|refine wk ?_|refine wkI ?_|intro _)
   refine we_round (i + 1) ⟨rfl,rfl,rfl,trivial⟩ ⟨by omega,?_⟩ (by omega)
   obtain rfl:j=4:=by omega
   rw [partW_four,wv_next buf i (by omega) (wordAt buf i) (by rw [ws,if_pos (by omega)])] at hS
   exact hS
 ·obtain rfl:i=16:=by omega
  repeat (first|refine wk ?_|refine wkI ?_|intro _)
  refine wc_loop (α:=Nat) (fun i=>[(0,.pointer (some ⟨g,0,none⟩)),(2,.pointer (some ⟨g1,0,none⟩)),(6,.int .i64 (i:Int))])
   (fun i w'=>16<=i/\i<=64/\∃ ok,St ⟨w,(·≠g),(·=g)⟩ ok [.var g1 311 (wv buf i),.var g 305 (hsh x buf n)] w') (fun i=>64 - i) 16 ⟨rfl,rfl,rfl,trivial⟩ ⟨by omega,by omega,ok,hS⟩ ?_
  clear hS hS1 hi hlt
  intro i w2 ⟨hi1,hi2,ok,hS⟩
  repeat (first|refine wk ?_|refine wkI ?_|intro _)
  refine wc_cond rfl (fun hlt=>?_) (fun hlt=>?_)
  ·repeat (first|refine wk ?_|refine wkI ?_|intro _)
   apply wc_draw 10 [54,55,56,57,58,59,60,61,7,8] [] [.eqv ?_,.eqv ?_,.eqv ?_,.eqv ?_,.eqv ?_,.eqv ?_,.eqv ?_,.eqv ?_,.eqv ?_,.eqv ?_] mixed;assumption;kernel_rfl;exact rfl;exact rfl;exact rfl
   apply obls_cons
   intro _ _ _ _
   repeat (first|(apply given_eqv;exact rfl;exact rfl;exact rfl)|(apply given_nil;exact rfl))
   repeat (first|refine wk ?_|refine wkI ?_|intro _)
   first|(apply we_gotE;assumption;exact rfl)|(apply we_gotX;assumption;assumption;exact rfl)
   apply obls_cons
   intro _ _ _ _
   repeat (first|(apply given_eqv;exact rfl;exact rfl;exact rfl)|(apply given_nil;exact rfl))
   repeat (first|refine wk ?_|refine wkI ?_|intro _)
   first|(apply we_gotE;assumption;exact rfl)|(apply we_gotX;assumption;assumption;exact rfl)
   apply obls_cons
   intro _ _ _ _
   repeat (first|(apply given_eqv;exact rfl;exact rfl;exact rfl)|(apply given_nil;exact rfl))
   apply wl_idxA (i - 15);exact rfl;exact rfl;omega;omega;exact rfl
   repeat (first|refine wk ?_|refine wkI ?_|intro _)
   first|(apply we_gotE;assumption;exact rfl)|(apply we_gotX;assumption;assumption;exact rfl)
   apply obls_cons
   intro _ _ _ _
   repeat (first|(apply given_eqv;exact rfl;exact rfl;exact rfl)|(apply given_nil;exact rfl))
   apply wl_loadU;assumption;exact rfl;(repeat (first|exact Has.here|apply Has.there));exact wv_units _ _;exact wv_get buf i (0 + (i - 15) * 1) (by omega);exact rfl
   repeat (first|refine wk ?_|refine wkI ?_|intro _)
   first|(apply we_gotE;assumption;exact rfl)|(apply we_gotX;assumption;assumption;exact rfl)
   apply obls_cons
   intro _ _ _ _
   repeat (first|(apply given_eqv;exact rfl;exact rfl;exact rfl)|(apply given_nil;exact rfl))
   repeat (first|refine wk ?_|refine wkI ?_|intro _)
   first|(apply we_gotE;assumption;exact rfl)|(apply we_gotX;assumption;assumption;exact rfl)
   apply obls_cons
   intro _ _ _ _
   repeat (first|(apply given_eqv;exact rfl;exact rfl;exact rfl)|(apply given_nil;exact rfl))
   repeat (first|refine wk ?_|refine wkI ?_|intro _)
   first|(apply we_gotE;assumption;exact rfl)|(apply we_gotX;assumption;assumption;exact rfl)
   apply obls_cons
   intro _ _ _ _
   repeat (first|(apply given_eqv;exact rfl;exact rfl;exact rfl)|(apply given_nil;exact rfl))
   apply wl_idxA (i - 2);exact rfl;exact rfl;omega;omega;exact rfl
   repeat (first|refine wk ?_|refine wkI ?_|intro _)
   first|(apply we_gotE;assumption;exact rfl)|(apply we_gotX;assumption;assumption;exact rfl)
   apply obls_cons
   intro _ _ _ _
   repeat (first|(apply given_eqv;exact rfl;exact rfl;exact rfl)|(apply given_nil;exact rfl))
   apply wl_loadU;assumption;exact rfl;(repeat (first|exact Has.here|apply Has.there));exact wv_units _ _;exact wv_get buf i (0 + (i - 2) * 1) (by omega);exact rfl
   repeat (first|refine wk ?_|refine wkI ?_|intro _)
   first|(apply we_gotE;assumption;exact rfl)|(apply we_gotX;assumption;assumption;exact rfl)
   apply obls_cons
   intro _ _ _ _
   repeat (first|(apply given_eqv;exact rfl;exact rfl;exact rfl)|(apply given_nil;exact rfl))
   repeat (first|refine wk ?_|refine wkI ?_|intro _)
   first|(apply we_gotE;assumption;exact rfl)|(apply we_gotX;assumption;assumption;exact rfl)
   apply obls_cons
   intro _ _ _ _
   repeat (first|(apply given_eqv;exact rfl;exact rfl;exact rfl)|(apply given_nil;exact rfl))
   repeat (first|refine wk ?_|refine wkI ?_|intro _)
   first|(apply we_gotE;assumption;exact rfl)|(apply we_gotX;assumption;assumption;exact rfl)
   apply obls_nil
   intro _ _ _ _
   repeat (first|(apply given_eqv;exact rfl;exact rfl;exact rfl)|(apply given_nil;exact rfl))
   repeat (first|refine wk ?_|refine wkI ?_|intro _)
   apply wl_callE;assumption;exact rfl;exact rotr_spec _ 7 (by decide) (by decide) _;exact rfl
   rintro _ _ rfl _ _
   repeat (first|refine wk ?_|refine wkI ?_|intro _)
   apply wl_callE;assumption;exact rfl;exact rotr_spec _ 18 (by decide) (by decide) _;exact rfl
   rintro _ _ rfl _ _
   repeat (first|refine wk ?_|refine wkI ?_|intro _)
   refine wl_shr32 3 rfl rfl rfl (by decide) rfl ?_
   repeat (first|refine wk ?_|refine wkI ?_|intro _)
   apply wl_callE;assumption;exact rfl;exact rotr_spec _ 17 (by decide) (by decide) _;exact rfl
   rintro _ _ rfl _ _
   repeat (first|refine wk ?_|refine wkI ?_|intro _)
   apply wl_callE;assumption;exact rfl;exact rotr_spec _ 19 (by decide) (by decide) _;exact rfl
   rintro _ _ rfl _ _
   repeat (first|refine wk ?_|refine wkI ?_|intro _)
   refine wl_shr32 10 rfl rfl rfl (by decide) rfl ?_
   repeat (first|refine wk ?_|refine wkI ?_|intro _)
   apply wc_draw 15 [78,79,80,81,82,83,84,85,86,87,88,89,90,91,92] [] [.eqv ?_,.eqv ?_,.eqv ?_,.eqv ?_,.eqv ?_,.eqv ?_,.eqv ?_,.eqv ?_,.eqv ?_,.eqv ?_,.eqv ?_,.eqv ?_,.eqv ?_,.eqv ?_,.eqv ?_] mixed;assumption;kernel_rfl;exact rfl;exact rfl;exact rfl
   apply obls_cons
   intro _ _ _ _
   repeat (first|(apply given_eqv;exact rfl;exact rfl;exact rfl)|(apply given_nil;exact rfl))
   repeat (first|refine wk ?_|refine wkI ?_|intro _)
   first|(apply we_gotE;assumption;exact rfl)|(apply we_gotX;assumption;assumption;exact rfl)
   apply obls_cons
   intro _ _ _ _
   repeat (first|(apply given_eqv;exact rfl;exact rfl;exact rfl)|(apply given_nil;exact rfl))
   repeat (first|refine wk ?_|refine wkI ?_|intro _)
   first|(apply we_gotE;assumption;exact rfl)|(apply we_gotX;assumption;assumption;exact rfl)
   apply obls_cons
   intro _ _ _ _
   repeat (first|(apply given_eqv;exact rfl;exact rfl;exact rfl)|(apply given_nil;exact rfl))
   repeat (first|refine wk ?_|refine wkI ?_|intro _)
   first|(apply we_gotE;assumption;exact rfl)|(apply we_gotX;assumption;assumption;exact rfl)
   apply obls_cons
   intro _ _ _ _
   repeat (first|(apply given_eqv;exact rfl;exact rfl;exact rfl)|(apply given_nil;exact rfl))
   apply wl_idxA (i - 16);exact rfl;exact rfl;omega;omega;exact rfl
   repeat (first|refine wk ?_|refine wkI ?_|intro _)
   first|(apply we_gotE;assumption;exact rfl)|(apply we_gotX;assumption;assumption;exact rfl)
   apply obls_cons
   intro _ _ _ _
   repeat (first|(apply given_eqv;exact rfl;exact rfl;exact rfl)|(apply given_nil;exact rfl))
   apply wl_loadU;assumption;exact rfl;(repeat (first|exact Has.here|apply Has.there));exact wv_units _ _;exact wv_get buf i (0 + (i - 16) * 1) (by omega);exact rfl
   repeat (first|refine wk ?_|refine wkI ?_|intro _)
   first|(apply we_gotE;assumption;exact rfl)|(apply we_gotX;assumption;assumption;exact rfl)
   apply obls_cons
   intro _ _ _ _
   repeat (first|(apply given_eqv;exact rfl;exact rfl;exact rfl)|(apply given_nil;exact rfl))
   repeat (first|refine wk ?_|refine wkI ?_|intro _)
   first|(apply we_gotE;assumption;exact rfl)|(apply we_gotX;assumption;assumption;exact rfl)
   apply obls_cons
   intro _ _ _ _
   repeat (first|(apply given_eqv;exact rfl;exact rfl;exact rfl)|(apply given_nil;exact rfl))
   repeat (first|refine wk ?_|refine wkI ?_|intro _)
   first|(apply we_gotE;assumption;exact rfl)|(apply we_gotX;assumption;assumption;exact rfl)
   apply obls_cons
   intro _ _ _ _
   repeat (first|(apply given_eqv;exact rfl;exact rfl;exact rfl)|(apply given_nil;exact rfl))
   repeat (first|refine wk ?_|refine wkI ?_|intro _)
   first|(apply we_gotE;assumption;exact rfl)|(apply we_gotX;assumption;assumption;exact rfl)
   apply obls_cons
   intro _ _ _ _
   repeat (first|(apply given_eqv;exact rfl;exact rfl;exact rfl)|(apply given_nil;exact rfl))
   repeat (first|refine wk ?_|refine wkI ?_|intro _)
   first|(apply we_gotE;assumption;exact rfl)|(apply we_gotX;assumption;assumption;exact rfl)
   apply obls_cons
   intro _ _ _ _
   repeat (first|(apply given_eqv;exact rfl;exact rfl;exact rfl)|(apply given_nil;exact rfl))
   apply wl_idxA (i - 7);exact rfl;exact rfl;omega;omega;exact rfl
   repeat (first|refine wk ?_|refine wkI ?_|intro _)
   first|(apply we_gotE;assumption;exact rfl)|(apply we_gotX;assumption;assumption;exact rfl)
   apply obls_cons
   intro _ _ _ _
   repeat (first|(apply given_eqv;exact rfl;exact rfl;exact rfl)|(apply given_nil;exact rfl))
   apply wl_loadU;assumption;exact rfl;(repeat (first|exact Has.here|apply Has.there));exact wv_units _ _;exact wv_get buf i (0 + (i - 7) * 1) (by omega);exact rfl
   repeat (first|refine wk ?_|refine wkI ?_|intro _)
   first|(apply we_gotE;assumption;exact rfl)|(apply we_gotX;assumption;assumption;exact rfl)
   apply obls_cons
   intro _ _ _ _
   repeat (first|(apply given_eqv;exact rfl;exact rfl;exact rfl)|(apply given_nil;exact rfl))
   repeat (first|refine wk ?_|refine wkI ?_|intro _)
   first|(apply we_gotE;assumption;exact rfl)|(apply we_gotX;assumption;assumption;exact rfl)
   apply obls_cons
   intro _ _ _ _
   repeat (first|(apply given_eqv;exact rfl;exact rfl;exact rfl)|(apply given_nil;exact rfl))
   repeat (first|refine wk ?_|refine wkI ?_|intro _)
   first|(apply we_gotE;assumption;exact rfl)|(apply we_gotX;assumption;assumption;exact rfl)
   apply obls_cons
   intro _ _ _ _
   repeat (first|(apply given_eqv;exact rfl;exact rfl;exact rfl)|(apply given_nil;exact rfl))
   repeat (first|refine wk ?_|refine wkI ?_|intro _)
   first|(apply we_gotE;assumption;exact rfl)|(apply we_gotX;assumption;assumption;exact rfl)
   apply obls_cons
   intro _ _ _ _
   repeat (first|(apply given_eqv;exact rfl;exact rfl;exact rfl)|(apply given_nil;exact rfl))
   apply wl_idxA i;exact rfl;exact rfl;omega;omega;exact rfl
   repeat (first|refine wk ?_|refine wkI ?_|intro _)
   first|(apply we_gotE;assumption;exact rfl)|(apply we_gotX;assumption;assumption;exact rfl)
   apply obls_nil
   intro _ _ _ _
   repeat (first|(apply given_eqv;exact rfl;exact rfl;exact rfl)|(apply given_nil;exact rfl))
   repeat (first|refine wk ?_|refine wkI ?_|intro _)
   apply wl_storeU;assumption;exact rfl;exact rfl;(repeat (first|exact Upd.here|apply Upd.there));exact wv_units _ _;exact rfl;exact w32v_good _;rw [wv_len _ _ (by omega)];omega
   intro w4 hS4 _
   repeat (first|refine wk ?_|refine wkI ?_|intro _)
   have hnx:=wv_next buf i (by omega) (nextW (ws buf i) i) (by rw [ws,if_neg (by omega)])
   simp only [Nat.zero_add,Nat.mul_one] at hS4
   unfold nextW sig0 sig1 at hnx
   rw [hnx] at hS4
   exact we_round (i + 1) ⟨rfl,rfl,rfl,trivial⟩ ⟨by omega,by omega,_,hS4⟩ (by omega)
  ·obtain rfl:i=64:=by omega
   repeat (first|refine wk ?_|refine wkI ?_|intro _)
   apply wl_loadUA (xs:=[w32v x.a,w32v x.b,w32v x.c,w32v x.d,w32v x.e,w32v x.f,w32v x.g,w32v x.h]);assumption;exact rfl;(repeat (first|exact Has.here|apply Has.there));exact hsh_units _ _ _;exact rfl;exact rfl;exact rfl
   repeat (first|refine wk ?_|refine wkI ?_|intro _)
   rename_i g2 okx _ _ _ _ _ hS2 _
   refine wc_loop (α:=Nat) (fun k=>[(0,.pointer (some ⟨g,0,none⟩)),(2,.pointer (some ⟨g1,0,none⟩)),(11,.pointer (some ⟨g2,0,none⟩)),(97,.int .i64 (k:Int))])
    (fun k w'=>k<=64/\∃ ok,St ⟨w,(·≠g),(·=g)⟩ ok [.var g2 289 [w32v (roundsTo buf x k).a,w32v (roundsTo buf x k).b,w32v (roundsTo buf x k).c,w32v (roundsTo buf x k).d,w32v (roundsTo buf x k).e,w32v (roundsTo buf x k).f,w32v (roundsTo buf x k).g,w32v (roundsTo buf x k).h],.var g1 311 (wv buf 64),.var g 305 (hsh x buf n)] w') (fun k=>64 - k) 0 ⟨rfl,rfl,rfl,rfl,trivial⟩ ⟨by omega,okx,hS2⟩ ?_
   clear hS hS2 hi1 hi2 hlt
   intro k w3 ⟨hk,ok,hS⟩
   generalize hy:roundsTo buf x k=y at hS
   repeat (first|refine wk ?_|refine wkI ?_|intro _)
   refine wc_cond rfl (fun hlt=>?_) (fun hlt=>?_)
   ·repeat (first|refine wk ?_|refine wkI ?_|intro _)
    apply wc_draw 6 [100,101,102,103,13,14] [] [.eqv ?_,.eqv ?_,.eqv ?_,.eqv ?_,.eqv ?_,.eqv ?_] mixed;assumption;kernel_rfl;exact rfl;exact rfl;exact rfl
    apply obls_cons
    intro _ _ _ _
    repeat (first|(apply given_eqv;exact rfl;exact rfl;exact rfl)|(apply given_nil;exact rfl))
    repeat (first|refine wk ?_|refine wkI ?_|intro _)
    first|(apply we_gotE;assumption;exact rfl)|(apply we_gotX;assumption;assumption;exact rfl)
    apply obls_cons
    intro _ _ _ _
    repeat (first|(apply given_eqv;exact rfl;exact rfl;exact rfl)|(apply given_nil;exact rfl))
    repeat (first|refine wk ?_|refine wkI ?_|intro _)
    first|(apply we_gotE;assumption;exact rfl)|(apply we_gotX;assumption;assumption;exact rfl)
    apply obls_cons
    intro _ _ _ _
    repeat (first|(apply given_eqv;exact rfl;exact rfl;exact rfl)|(apply given_nil;exact rfl))
    repeat (first|refine wk ?_|refine wkI ?_|intro _)
    first|(apply we_gotE;assumption;exact rfl)|(apply we_gotX;assumption;assumption;exact rfl)
    apply obls_cons
    intro _ _ _ _
    repeat (first|(apply given_eqv;exact rfl;exact rfl;exact rfl)|(apply given_nil;exact rfl))
    repeat (first|refine wk ?_|refine wkI ?_|intro _)
    first|(apply we_gotE;assumption;exact rfl)|(apply we_gotX;assumption;assumption;exact rfl)
    apply obls_cons
    intro _ _ _ _
    repeat (first|(apply given_eqv;exact rfl;exact rfl;exact rfl)|(apply given_nil;exact rfl))
    repeat (first|refine wk ?_|refine wkI ?_|intro _)
    first|(apply we_gotE;assumption;exact rfl)|(apply we_gotX;assumption;assumption;exact rfl)
    apply obls_cons
    intro _ _ _ _
    repeat (first|(apply given_eqv;exact rfl;exact rfl;exact rfl)|(apply given_nil;exact rfl))
    repeat (first|refine wk ?_|refine wkI ?_|intro _)
    first|(apply we_gotE;assumption;exact rfl)|(apply we_gotX;assumption;assumption;exact rfl)
    apply obls_nil
    intro _ _ _ _
    repeat (first|(apply given_eqv;exact rfl;exact rfl;exact rfl)|(apply given_nil;exact rfl))
    repeat (first|refine wk ?_|refine wkI ?_|intro _)
    apply wl_callE;assumption;exact rfl;exact rotr_spec _ 6 (by decide) (by decide) _;exact rfl
    rintro _ _ rfl _ _
    repeat (first|refine wk ?_|refine wkI ?_|intro _)
    apply wl_callE;assumption;exact rfl;exact rotr_spec _ 11 (by decide) (by decide) _;exact rfl
    rintro _ _ rfl _ _
    repeat (first|refine wk ?_|refine wkI ?_|intro _)
    apply wl_callE;assumption;exact rfl;exact rotr_spec _ 25 (by decide) (by decide) _;exact rfl
    rintro _ _ rfl _ _
    repeat (first|refine wk ?_|refine wkI ?_|intro _)
    apply wl_callE;assumption;exact rfl;exact rotr_spec _ 2 (by decide) (by decide) _;exact rfl
    rintro _ _ rfl _ _
    repeat (first|refine wk ?_|refine wkI ?_|intro _)
    apply wl_callE;assumption;exact rfl;exact rotr_spec _ 13 (by decide) (by decide) _;exact rfl
    rintro _ _ rfl _ _
    repeat (first|refine wk ?_|refine wkI ?_|intro _)
    apply wl_callE;assumption;exact rfl;exact rotr_spec _ 22 (by decide) (by decide) _;exact rfl
    rintro _ _ rfl _ _
    repeat (first|refine wk ?_|refine wkI ?_|intro _)
    apply wc_draw 15 [142,143,144,145,146,147,148,149,150,151,152,153,154,155,19] [] [.eqv ?_,.eqv ?_,.eqv ?_,.eqv ?_,.eqv ?_,.eqv ?_,.eqv ?_,.eqv ?_,.eqv ?_,.eqv ?_,.eqv ?_,.eqv ?_,.eqv ?_,.eqv ?_,.eqv ?_] mixed;assumption;kernel_rfl;exact rfl;exact rfl;exact rfl
    apply obls_cons
    intro _ _ _ _
    repeat (first|(apply given_eqv;exact rfl;exact rfl;exact rfl)|(apply given_nil;exact rfl))
    repeat (first|refine wk ?_|refine wkI ?_|intro _)
    first|(apply we_gotE;assumption;exact rfl)|(apply we_gotX;assumption;assumption;exact rfl)
    apply obls_cons
    intro _ _ _ _
    repeat (first|(apply given_eqv;exact rfl;exact rfl;exact rfl)|(apply given_nil;exact rfl))
    repeat (first|refine wk ?_|refine wkI ?_|intro _)
    first|(apply we_gotE;assumption;exact rfl)|(apply we_gotX;assumption;assumption;exact rfl)
    apply obls_cons
    intro _ _ _ _
    repeat (first|(apply given_eqv;exact rfl;exact rfl;exact rfl)|(apply given_nil;exact rfl))
    repeat (first|refine wk ?_|refine wkI ?_|intro _)
    first|(apply we_gotE;assumption;exact rfl)|(apply we_gotX;assumption;assumption;exact rfl)
    apply obls_cons
    intro _ _ _ _
    repeat (first|(apply given_eqv;exact rfl;exact rfl;exact rfl)|(apply given_nil;exact rfl))
    repeat (first|refine wk ?_|refine wkI ?_|intro _)
    first|(apply we_gotE;assumption;exact rfl)|(apply we_gotX;assumption;assumption;exact rfl)
    apply obls_cons
    intro _ _ _ _
    repeat (first|(apply given_eqv;exact rfl;exact rfl;exact rfl)|(apply given_nil;exact rfl))
    repeat (first|refine wk ?_|refine wkI ?_|intro _)
    first|(apply we_gotE;assumption;exact rfl)|(apply we_gotX;assumption;assumption;exact rfl)
    apply obls_cons
    intro _ _ _ _
    repeat (first|(apply given_eqv;exact rfl;exact rfl;exact rfl)|(apply given_nil;exact rfl))
    repeat (first|refine wk ?_|refine wkI ?_|intro _)
    first|(apply we_gotE;assumption;exact rfl)|(apply we_gotX;assumption;assumption;exact rfl)
    apply obls_cons
    intro _ _ _ _
    repeat (first|(apply given_eqv;exact rfl;exact rfl;exact rfl)|(apply given_nil;exact rfl))
    repeat (first|refine wk ?_|refine wkI ?_|intro _)
    first|(apply we_gotE;assumption;exact rfl)|(apply we_gotX;assumption;assumption;exact rfl)
    apply obls_cons
    intro _ _ _ _
    repeat (first|(apply given_eqv;exact rfl;exact rfl;exact rfl)|(apply given_nil;exact rfl))
    apply wl_idxA k;exact rfl;exact rfl;exact rfl;omega;exact rfl
    repeat (first|refine wk ?_|refine wkI ?_|intro _)
    first|(apply we_gotE;assumption;exact rfl)|(apply we_gotX;assumption;assumption;exact rfl)
    apply obls_cons
    intro _ _ _ _
    repeat (first|(apply given_eqv;exact rfl;exact rfl;exact rfl)|(apply given_nil;exact rfl))
    apply wl_loadG (cs:=kTab.map w32v) (v:=w32v (kTab.getD k 0));exact rfl
    ·rename_i hS' _
     exact (St.glo hS' hg (fun h=>h0 h.symm) (fun h=>h2 h.symm)).factors
    ·exact Units.map w32v_unit _
    ·have hlen:kTab.length=64:=rfl
     rw [Nat.zero_add,Nat.mul_one]
     simp [hlen,show k < 64 by omega]
    ·exact rfl
    repeat (first|refine wk ?_|refine wkI ?_|intro _)
    first|(apply we_gotE;assumption;exact rfl)|(apply we_gotX;assumption;assumption;exact rfl)
    apply obls_cons
    intro _ _ _ _
    repeat (first|(apply given_eqv;exact rfl;exact rfl;exact rfl)|(apply given_nil;exact rfl))
    repeat (first|refine wk ?_|refine wkI ?_|intro _)
    first|(apply we_gotE;assumption;exact rfl)|(apply we_gotX;assumption;assumption;exact rfl)
    apply obls_cons
    intro _ _ _ _
    repeat (first|(apply given_eqv;exact rfl;exact rfl;exact rfl)|(apply given_nil;exact rfl))
    repeat (first|refine wk ?_|refine wkI ?_|intro _)
    first|(apply we_gotE;assumption;exact rfl)|(apply we_gotX;assumption;assumption;exact rfl)
    apply obls_cons
    intro _ _ _ _
    repeat (first|(apply given_eqv;exact rfl;exact rfl;exact rfl)|(apply given_nil;exact rfl))
    apply wl_idxA k;exact rfl;exact rfl;exact rfl;omega;exact rfl
    repeat (first|refine wk ?_|refine wkI ?_|intro _)
    first|(apply we_gotE;assumption;exact rfl)|(apply we_gotX;assumption;assumption;exact rfl)
    apply obls_cons
    intro _ _ _ _
    repeat (first|(apply given_eqv;exact rfl;exact rfl;exact rfl)|(apply given_nil;exact rfl))
    apply wl_loadU;assumption;exact rfl;(repeat (first|exact Has.here|apply Has.there));exact wv_units _ _;exact wv_get buf 64 (0 + k * 1) (by omega);exact rfl
    repeat (first|refine wk ?_|refine wkI ?_|intro _)
    first|(apply we_gotE;assumption;exact rfl)|(apply we_gotX;assumption;assumption;exact rfl)
    apply obls_cons
    intro _ _ _ _
    repeat (first|(apply given_eqv;exact rfl;exact rfl;exact rfl)|(apply given_nil;exact rfl))
    repeat (first|refine wk ?_|refine wkI ?_|intro _)
    first|(apply we_gotE;assumption;exact rfl)|(apply we_gotX;assumption;assumption;exact rfl)
    apply obls_cons
    intro _ _ _ _
    repeat (first|(apply given_eqv;exact rfl;exact rfl;exact rfl)|(apply given_nil;exact rfl))
    repeat (first|refine wk ?_|refine wkI ?_|intro _)
    first|(apply we_gotE;assumption;exact rfl)|(apply we_gotX;assumption;assumption;exact rfl)
    apply obls_nil
    intro _ _ _ _
    repeat (first|(apply given_eqv;exact rfl;exact rfl;exact rfl)|(apply given_nil;exact rfl))
    repeat (first|refine wk ?_|refine wkI ?_|intro _)
    rename_i wz hS5 _
    have hr:roundsTo buf x (k + 1)=round (kTab.getD k 0) ((ws buf 64).getD k 0) y:=by rw [roundsTo,hy]
    rw [Nat.zero_add,Nat.mul_one] at hS5
    have hS6:∃ ok,St ⟨w,(·≠g),(·=g)⟩ ok [.var g2 289 [w32v (roundsTo buf x (k + 1)).a,w32v (roundsTo buf x (k + 1)).b,w32v (roundsTo buf x (k + 1)).c,w32v (roundsTo buf x (k + 1)).d,w32v (roundsTo buf x (k + 1)).e,w32v (roundsTo buf x (k + 1)).f,w32v (roundsTo buf x (k + 1)).g,w32v (roundsTo buf x (k + 1)).h],.var g1 311 (wv buf 64),.var g 305 (hsh x buf n)] wz:=by
     rw [hr]
     exact⟨_,hS5⟩
    exact we_round (k + 1) ⟨rfl,rfl,rfl,rfl,trivial⟩ ⟨by omega,hS6⟩ (by omega)
   ·obtain rfl:k=64:=by omega
    repeat (first|refine wk ?_|refine wkI ?_|intro _)
    refine wc_loop (α:=Nat) (fun i=>[(0,.pointer (some ⟨g,0,none⟩)),(177,st (y.words.map w32v)),(178,.int .i64 (i:Int))])
     (fun i w'=>i<=8/\∃ ok,St ⟨w,(·≠g),(·=g)⟩ ok [.var g2 289 [w32v y.a,w32v y.b,w32v y.c,w32v y.d,w32v y.e,w32v y.f,w32v y.g,w32v y.h],.var g1 311 (wv buf 64),.var g 305 (hsw (addTo x y i) buf n)] w') (fun i=>8 - i) 0 ⟨rfl,rfl,rfl,trivial⟩ ⟨by omega,ok,hS⟩ ?_
    clear hS hk hlt
    intro i w4 ⟨hi,ok,hS⟩
    repeat (first|refine wk ?_|refine wkI ?_|intro _)
    refine wc_cond rfl (fun hlt=>?_) (fun hlt=>?_)
    ·repeat (first|refine wk ?_|refine wkI ?_|intro _)
     apply wl_index i;exact rfl;exact rfl;exact rfl;omega;exact Units.map w32v_unit _
     ·rw [List.getElem?_map,words_get y i (by omega)];exact rfl
     exact rfl
     repeat (first|refine wk ?_|refine wkI ?_|intro _)
     apply wc_draw 11 [182,183,184,185,186,187,188,189,190,191,192] [] [.eqv ?_,.eqv ?_,.eqv ?_,.eqv ?_,.eqv ?_,.eqv ?_,.eqv ?_,.eqv ?_,.eqv ?_,.eqv ?_,.eqv ?_] mixed;assumption;kernel_rfl;exact rfl;exact rfl;exact rfl
     apply obls_cons
     intro _ _ _ _
     repeat (first|(apply given_eqv;exact rfl;exact rfl;exact rfl)|(apply given_nil;exact rfl))
     repeat (first|refine wk ?_|refine wkI ?_|intro _)
     first|(apply we_gotE;assumption;exact rfl)|(apply we_gotX;assumption;assumption;exact rfl)
     apply obls_cons
     intro _ _ _ _
     repeat (first|(apply given_eqv;exact rfl;exact rfl;exact rfl)|(apply given_nil;exact rfl))
     repeat (first|refine wk ?_|refine wkI ?_|intro _)
     first|(apply we_gotE;assumption;exact rfl)|(apply we_gotX;assumption;assumption;exact rfl)
     apply obls_cons
     intro _ _ _ _
     repeat (first|(apply given_eqv;exact rfl;exact rfl;exact rfl)|(apply given_nil;exact rfl))
     repeat (first|refine wk ?_|refine wkI ?_|intro _)
     first|(apply we_gotE;assumption;exact rfl)|(apply we_gotX;assumption;assumption;exact rfl)
     apply obls_cons
     intro _ _ _ _
     repeat (first|(apply given_eqv;exact rfl;exact rfl;exact rfl)|(apply given_nil;exact rfl))
     repeat (first|refine wk ?_|refine wkI ?_|intro _)
     first|(apply we_gotE;assumption;exact rfl)|(apply we_gotX;assumption;assumption;exact rfl)
     apply obls_cons
     intro _ _ _ _
     repeat (first|(apply given_eqv;exact rfl;exact rfl;exact rfl)|(apply given_nil;exact rfl))
     apply wl_idxA i;exact rfl;exact rfl;exact rfl;omega;exact rfl
     repeat (first|refine wk ?_|refine wkI ?_|intro _)
     first|(apply we_gotE;assumption;exact rfl)|(apply we_gotX;assumption;assumption;exact rfl)
     apply obls_cons
     intro _ _ _ _
     repeat (first|(apply given_eqv;exact rfl;exact rfl;exact rfl)|(apply given_nil;exact rfl))
     apply wl_loadU;assumption;exact rfl;(repeat (first|exact Has.here|apply Has.there));exact hsh_units _ _ _
     ·rw [show 0 + 0 + i * 1=i by omega,hsw,laa,List.getElem?_append_left (by rw [llm,addTo_len x y i hi];omega),List.getElem?_map,addTo_get x y i (by omega)];exact rfl
     exact rfl
     repeat (first|refine wk ?_|refine wkI ?_|intro _)
     first|(apply we_gotE;assumption;exact rfl)|(apply we_gotX;assumption;assumption;exact rfl)
     apply obls_cons
     intro _ _ _ _
     repeat (first|(apply given_eqv;exact rfl;exact rfl;exact rfl)|(apply given_nil;exact rfl))
     repeat (first|refine wk ?_|refine wkI ?_|intro _)
     first|(apply we_gotE;assumption;exact rfl)|(apply we_gotX;assumption;assumption;exact rfl)
     apply obls_cons
     intro _ _ _ _
     repeat (first|(apply given_eqv;exact rfl;exact rfl;exact rfl)|(apply given_nil;exact rfl))
     repeat (first|refine wk ?_|refine wkI ?_|intro _)
     first|(apply we_gotE;assumption;exact rfl)|(apply we_gotX;assumption;assumption;exact rfl)
     apply obls_cons
     intro _ _ _ _
     repeat (first|(apply given_eqv;exact rfl;exact rfl;exact rfl)|(apply given_nil;exact rfl))
     repeat (first|refine wk ?_|refine wkI ?_|intro _)
     first|(apply we_gotE;assumption;exact rfl)|(apply we_gotX;assumption;assumption;exact rfl)
     apply obls_cons
     intro _ _ _ _
     repeat (first|(apply given_eqv;exact rfl;exact rfl;exact rfl)|(apply given_nil;exact rfl))
     repeat (first|refine wk ?_|refine wkI ?_|intro _)
     first|(apply we_gotE;assumption;exact rfl)|(apply we_gotX;assumption;assumption;exact rfl)
     apply obls_cons
     intro _ _ _ _
     repeat (first|(apply given_eqv;exact rfl;exact rfl;exact rfl)|(apply given_nil;exact rfl))
     apply wl_idxA i;exact rfl;exact rfl;exact rfl;omega;exact rfl
     repeat (first|refine wk ?_|refine wkI ?_|intro _)
     first|(apply we_gotE;assumption;exact rfl)|(apply we_gotX;assumption;assumption;exact rfl)
     apply obls_nil
     intro _ _ _ _
     repeat (first|(apply given_eqv;exact rfl;exact rfl;exact rfl)|(apply given_nil;exact rfl))
     repeat (first|refine wk ?_|refine wkI ?_|intro _)
     apply wl_storeU;assumption;exact rfl;exact rfl;(repeat (first|exact Upd.here|apply Upd.there));exact hsh_units _ _ _;exact rfl;exact w32v_good _
     ·simp [hsw,addTo_len x y i hi];omega
     intro w5 hS5 _
     repeat (first|refine wk ?_|refine wkI ?_|intro _)
     rw [show 0 + 0 + i * 1=i by omega,hsw_set _ _ _ _ _ (by rw [addTo_len x y i hi];omega),addTo_next x y i (by omega)] at hS5
     exact we_round (i + 1) ⟨rfl,rfl,rfl,trivial⟩ ⟨by omega,_,hS5⟩ (by omega)
    ·obtain rfl:i=8:=by omega
     repeat (first|refine wk ?_|refine wkI ?_|intro _)
     apply we_end0;exact rfl
     refine⟨rfl,?_⟩
     rw [<- hy] at hS
     exact hS.outM (.there (.there .here))
end Go.Proofs.YtlkkekpcofjbeaaGreatDoor
