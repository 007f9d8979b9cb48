/- What was written is read. Plain. -/
import Derived.Test.YtppngnhckahbnaaGreatDoorA31
import Derived.Test.YtppngnhckahbnaaGreatDoorA35
namespace Go.Proofs.YtppngnhckahbnaaGreatDoor
open Go Go.RowKit Tw Av
def rhS1 (s:Bs):Bs:=rsT 99 32 s false
def rhB1 (s:Bs):Bool:=rbT 99 32 s false
def rhS2 (s:Bs):Bs:=rsT 104 8 (rhS1 s) (rhB1 s)
def rhB2 (s:Bs):Bool:=riB 104 1099511627776 (rhS1 s) (rhB1 s)
def rhS3 (s:Bs):Bs:=rsT 116 8 (rhS2 s) (rhB2 s)
def rhB3 (s:Bs):Bool:=riB 116 1099511627776 (rhS2 s) (rhB2 s)
def rhX (s:Bs):Bs:=rtT 114 32 (rhS3 s) (rhB3 s)
def rhE (s:Bs):Int:=reE' (rsT 114 32 (rhS3 s) (rhB3 s)) (rbT 114 32 (rhS3 s) (rhB3 s))
def rhV (s:Bs):Hdr:=⟨rtT 99 32 s false,riI 104 1099511627776 (rhS1 s) (rhB1 s),riI 116 1099511627776 (rhS2 s) (rhB2 s),hOf (rhX s)⟩
def rhOk (s:Bs):Bool:=decide ((rhX s).length=32) && (decide (rhE s=0) && chkH (rhV s))
def zeroHd:Hdr:=⟨[],0,0,zeroH⟩
def rhdV (s:Bs):Hdr:=if rhOk s=true then rhV s else zeroHd
def rhdE (s:Bs):Int:=if rhOk s=true then 0 else 10
theorem rh_lens (s:Bs):(rhS1 s).length≤s.length∧(rhS2 s).length≤s.length∧(rhS3 s).length≤s.length:=by
 have h1:=(rsT_len 99 32 s false).1
 have h2:=(rsT_len 104 8 (rhS1 s) (rhB1 s)).1
 have h3:=(rsT_len 116 8 (rhS2 s) (rhB2 s)).1
 unfold rhS3
 unfold rhS2 at *
 unfold rhS1 at *
 exact⟨h1,by omega,by omega⟩
theorem rf1 {s:Bs}:rsT 99 32 s false=rhS1 s:=rfl
theorem rf2 {s:Bs}:rbT 99 32 s false=rhB1 s:=rfl
theorem rf3 {s:Bs}:rsT 104 8 (rhS1 s) (rhB1 s)=rhS2 s:=rfl
theorem rf4 {s:Bs}:riB 104 1099511627776 (rhS1 s) (rhB1 s)=rhB2 s:=rfl
theorem rf5 {s:Bs}:rsT 116 8 (rhS2 s) (rhB2 s)=rhS3 s:=rfl
theorem rf6 {s:Bs}:riB 116 1099511627776 (rhS2 s) (rhB2 s)=rhB3 s:=rfl
instance fnReadHeader {s:Bs}:Ans Tryz.prog GL 158 [str s] (s.length≤1000000000) (.tup [hdrA (rhdV s),int (rhdE s)]):=⟨fun hl=>by
 obtain⟨l1,l2,l3⟩:=rh_lens s
 have e1:(rhS1 s).length=(rsT 99 32 s false).length:=rfl
 have e2:(rhS2 s).length=(rsT 104 8 (rsT 99 32 s false) (rbT 99 32 s false)).length:=rfl
 have e3:(rhS3 s).length=(rsT 116 8 (rsT 104 8 (rsT 99 32 s false) (rbT 99 32 s false)) (riB 104 1099511627776 (rsT 99 32 s false) (rbT 99 32 s false))).length:=rfl
 refine spec_enter Tryz.func158 rfl Tryz.ntmps158 rfl (fun _ hs=>?_)
 repeat' first|refine Yz ?_|intro _
 refine al_callK (args:=[str s]) [] _ (by rw [hs];exact tlvRead) (fun u m1 hh=>?_) (List.Perm.refl _)
 obtain⟨gr,rfl,rfl⟩:=hh
 repeat' first|refine Yz ?_|intro _
 rw [rf1,rf2,rf3,rf4,rf5,rf6]
 have hX:rhX s=rtT 114 32 (rhS3 s) (rhB3 s):=rfl
 have hV:rhV s=⟨rtT 99 32 s false,riI 104 1099511627776 (rhS1 s) (rhB1 s),riI 116 1099511627776 (rhS2 s) (rhB2 s),hOf (rtT 114 32 (rhS3 s) (rhB3 s))⟩:=rfl
 have hEE:rhE s=reE' (rsT 114 32 (rhS3 s) (rhB3 s)) (rbT 114 32 (rhS3 s) (rhB3 s)):=rfl
 by_cases hx:(rtT 114 32 (rhS3 s) (rhB3 s)).length=32
 rotate_left
 ·have hk:rhOk s=false:=by
   unfold rhOk
   rw [hX,decide_eq_false hx]
   rfl
  rw [rhdV,rhdE,hk,if_neg hx]
  repeat' first|refine Yz ?_|intro _
  refine reE ?_
  rfl
 rw [if_pos hx]
 repeat' first|refine Yz ?_|intro _
 by_cases hE:rhE s=0
 rotate_left
 ·have hk:rhOk s=false:=by
   unfold rhOk
   rw [decide_eq_false hE,Bool.false_and,Bool.and_false]
  rw [rhdV,rhdE,hk]
  rw [hEE] at hE
  repeat' first|refine Yz ?_|intro _
  refine reE ?_
  rfl
 have hk:rhOk s=chkH (rhV s):=by
  unfold rhOk
  rw [hX,decide_eq_true hx,decide_eq_true hE,Bool.true_and,Bool.true_and]
 rw [rhdV,rhdE,hk,hV]
 rw [hEE] at hE
 repeat' first|refine Yz ?_|intro _
 cases hc:chkH ⟨rtT 99 32 s false,riI 104 1099511627776 (rhS1 s) (rhB1 s),riI 116 1099511627776 (rhS2 s) (rhB2 s),hOf (rtT 114 32 (rhS3 s) (rhB3 s))⟩
 ·repeat' first|refine Yz ?_|intro _
  refine reE ?_
  rfl
 ·repeat' first|refine Yz ?_|intro _
  refine reE ?_
  rfl⟩
end Go.Proofs.YtppngnhckahbnaaGreatDoor

namespace Go.Proofs.YtppngnhckahbnaaGreatDoor
open Go Go.RowKit Tw Av
instance fnRReadHeader {s:Bs}:Ans Tryz.prog GL 162 [str s] (s.length≤1000000000) (.tup [hdrA (rhdV s),int (rhdE s)]):=⟨fun hl=>by
 obtain⟨l1,l2,l3⟩:=rh_lens s
 have e1:(rhS1 s).length=(rsT 99 32 s false).length:=rfl
 have e2:(rhS2 s).length=(rsT 104 8 (rsT 99 32 s false) (rbT 99 32 s false)).length:=rfl
 have e3:(rhS3 s).length=(rsT 116 8 (rsT 104 8 (rsT 99 32 s false) (rbT 99 32 s false)) (riB 104 1099511627776 (rsT 99 32 s false) (rbT 99 32 s false))).length:=rfl
 refine spec_enter Tryz.func162 rfl Tryz.ntmps162 rfl (fun _ hs=>?_)
 repeat' first|refine Yz ?_|intro _
 rw [rf1,rf2,rf3,rf4,rf5,rf6]
 have hX:rhX s=rtT 114 32 (rhS3 s) (rhB3 s):=rfl
 have hV:rhV s=⟨rtT 99 32 s false,riI 104 1099511627776 (rhS1 s) (rhB1 s),riI 116 1099511627776 (rhS2 s) (rhB2 s),hOf (rtT 114 32 (rhS3 s) (rhB3 s))⟩:=rfl
 have hEE:rhE s=reE' (rsT 114 32 (rhS3 s) (rhB3 s)) (rbT 114 32 (rhS3 s) (rhB3 s)):=rfl
 by_cases hE:rhE s=0
 rotate_left
 ·have hk:rhOk s=false:=by
   unfold rhOk
   rw [decide_eq_false hE,Bool.false_and,Bool.and_false]
  rw [rhdV,rhdE,hk]
  rw [hEE] at hE
  repeat' first|refine Yz ?_|intro _
  refine reE ?_
  rfl
 by_cases hx:(rtT 114 32 (rhS3 s) (rhB3 s)).length=32
 rotate_left
 ·have hk:rhOk s=false:=by
   unfold rhOk
   rw [hX,decide_eq_false hx]
   rfl
  rw [rhdV,rhdE,hk]
  rw [hEE] at hE
  repeat' first|refine Yz ?_|intro _
  refine reE ?_
  rfl
 have hk:rhOk s=chkH (rhV s):=by
  unfold rhOk
  rw [hX,decide_eq_true hx,decide_eq_true hE,Bool.true_and,Bool.true_and]
 rw [rhdV,rhdE,hk,hV]
 rw [hEE] at hE
 repeat' first|refine Yz ?_|intro _
 generalize rtT 114 32 (rhS3 s) (rhB3 s)=x at *
 generalize rtT 99 32 s false=C at *
 generalize riI 104 1099511627776 (rhS1 s) (rhB1 s)=H at *
 generalize riI 116 1099511627776 (rhS2 s) (rhB2 s)=T at *
 rename_i g2 gr g5
 refine ac_loop (α:=Nat) (fun i=>[(2,ptr g2),(5,ptr g5),(6,str x),(7,int i)]) (fun i=>[.var g5 40 (.agg 35 [str C,int H,int T,.agg 32 ((layB x i).map u8A)]),.var g2 40 (hdrA zeroHd)]) (fun i=>i≤32) (fun i=>32 - i) 0 ⟨rfl,rfl,rfl,rfl,trivial⟩ ?_ (Nat.zero_le _) ?_
 focus
  exact sbl
 intro i hi
 repeat' first|refine Yz ?_|intro _
 refine ac_cond (fun hlt=>?_) (fun hlt=>?_)
 ·have hil:i < 32:=by omega
  have hix:i < x.length:=by omega
  repeat' first|refine Yz ?_|intro _
  refine al_idxS i ?_ (List.getElem?_eq_getElem hix)
  repeat' first|refine Yz ?_|intro _
  refine al_idxA i ?_
  have hst:=putV_arrK (n:=35) (pre:=[str C,int H,int T]) (post:=[]) (l:=layB x i) (j:=i) (c:=x[i]) (layB_len hx hi) (by rw [layB_len hx hi];exact hil) (o:=0 + 3 + i * 1) (by simp [AV.size])
  rw [layB_next hx hil] at hst
  refine al_store (v':=.agg 35 [str C,int H,int T,.agg 32 ((layB x (i + 1)).map u8A)]) ?_ (hp:=hst)
  repeat' first|refine Yz ?_|intro _
  exact ae_round (i + 1) ⟨rfl,rfl,rfl,rfl,trivial⟩ (List.Sublist.refl _) hil (by omega)
 ·obtain rfl:i=32:=by omega
  have hA1:AV.agg 32 ((layB x 32).map u8A)=hA (hOf x):=by rw [layB_all hx,hA,hOf_l hx]
  rw [hA1]
  repeat' first|refine Yz ?_|intro _
  cases hc:chkH ⟨C,H,T,hOf x⟩
  ·repeat' first|refine Yz ?_|intro _
   refine reE ?_
   rfl
  ·repeat' first|refine Yz ?_|intro _
   refine reE ?_
   rfl⟩
end Go.Proofs.YtppngnhckahbnaaGreatDoor

namespace Go.Proofs.YtppngnhckahbnaaGreatDoor
open Go Go.RowKit Tw Av
structure CliW (x:Cli):Prop where
 n:x.l.length≤1000000
 p:x.p≤9223372036854775807
 s:∀ s ∈ x.l,s.h≤9223372036854775807∧s.t≤9223372036854775807
def cliB (x:Cli):Bs:=tlvT 99 x.c++tlvT 107 x.k++tlvI 112 x.p++tlvI 102 (if x.f=true then 1 else 0)++tlvA 115 (x.l.map fun s=>hdrB (hdOf x.c s))
set_option maxHeartbeats 1000000 in
instance fnCBytes {c k:Bs}{p:Int}{f:Bool}{l:List Sta}{xs:List AV}{id:Option Value}[hx:Stas xs l]:Ans Tryz.prog GL 214 [.agg 5 [str c,str k,int p,boo f,.sl 34 xs id]] (CliW ⟨c,k,p,f,l⟩) (str (cliB ⟨c,k,p,f,l⟩)):=⟨fun hp=>by
 obtain⟨hn,hp,hs4⟩:=hp
 dsimp only at hn hp hs4
 have h:=hx.out
 subst h
 have hm:(l.map staA).length=l.length:=List.length_map _
 refine spec_enter Tryz.func214 rfl Tryz.ntmps214 rfl (fun _ hs=>?_)
 repeat' first|refine Yz ?_|intro _
 rename_i g1
 generalize hF:(if f=true then 1 else 0:Int)=F at *
 refine ac_mid (α:=Unit) (fun _=>[(1,ptr g1),(3,int F)]) (fun _=>[.var g1 79 (.agg 5 [str c,str k,int p,boo f,.sl 34 (l.map staA) id])]) ?_ (fun _=>?_)
 focus
  subst hF
  cases f
  all_goals
   repeat' first|refine Yz ?_|intro _
   exact ae_cut () ⟨rfl,rfl,trivial⟩ (List.Sublist.refl _)
 have hF0:F≤9223372036854775807:=by subst hF;split <;> decide
 repeat' first|refine Yz ?_|intro _
 refine ac_as 4 (Imp.nil (k:=1)) ?_
 refine ac_st (fun ok w h=>h.full 9 1 none 0) ?_
 refine ac_loop (α:=Nat × Value) (fun q=>[(1,ptr g1),(3,int F),(4,.sl 1 (((l.take q.1).map fun s=>hdrB (hdOf c s)).map str) (some q.2)),(10,.sl 34 (l.map staA) id),(11,int l.length),(12,int q.1)]) (fun q=>[.tail 9 1 q.2,.var g1 79 (.agg 5 [str c,str k,int p,boo f,.sl 34 (l.map staA) id])]) (fun q=>q.1≤l.length) (fun q=>l.length - q.1) (0,.slice none 0 0) ⟨rfl,rfl,rfl,rfl,by rw [← hm];rfl,rfl,trivial⟩ (List.Sublist.refl _) (Nat.zero_le _) ?_
 rintro⟨i,v⟩ hi
 dsimp only at hi ⊢
 repeat' first|refine Yz ?_|intro _
 refine ac_cond (fun hlt=>?_) (fun hlt=>?_)
 ·have hil:i < l.length:=by omega
  have hst:=hs4 l[i] (List.getElem_mem hil)
  have hml:((l.take i).map fun s=>hdrB (hdOf c s)).length≤1000000:=by simp;omega
  repeat' first|refine Yz ?_|intro _
  refine al_append (fun v'=>?_)
  repeat' first|refine Yz ?_|intro _
  refine ae_round (i + 1,v') ⟨rfl,rfl,?_,rfl,rfl,rfl,trivial⟩ (List.Sublist.cons _ (List.Sublist.refl _)) hil (by dsimp only;omega)
  rw [List.take_succ_eq_append_getElem hil,List.map_append,List.map_append]
  rfl
 ·obtain rfl:i=l.length:=by omega
  rw [List.take_length]
  have hml:(l.map fun s=>hdrB (hdOf c s)).length≤8000000:=by simp;omega
  repeat' first|refine Yz ?_|intro _
  refine reE ?_
  unfold cliB
  dsimp only
  rw [hF]
  rfl⟩
set_option maxHeartbeats 1000000 in
instance fnRCBytes {c k:Bs}{p:Int}{f:Bool}{l:List Sta}{xs:List AV}{id:Option Value}[hx:Stas xs l]:Ans Tryz.prog GL 88 [.agg 5 [str c,str k,int p,boo f,.sl 34 xs id]] (CliW ⟨c,k,p,f,l⟩) (str (cliB ⟨c,k,p,f,l⟩)):=⟨fun hp=>by
 obtain⟨hn,hp,hs4⟩:=hp
 dsimp only at hn hp hs4
 have h:=hx.out
 subst h
 have hm:(l.map staA).length=l.length:=List.length_map _
 refine spec_enter Tryz.func88 rfl Tryz.ntmps88 rfl (fun _ hs=>?_)
 repeat' first|refine Yz ?_|intro _
 rename_i g1
 generalize hF:(if f=true then 1 else 0:Int)=F at *
 refine ac_mid (α:=Unit) (fun _=>[(1,ptr g1),(3,int F)]) (fun _=>[.var g1 79 (.agg 5 [str c,str k,int p,boo f,.sl 34 (l.map staA) id])]) ?_ (fun _=>?_)
 focus
  subst hF
  cases f
  all_goals
   repeat' first|refine Yz ?_|intro _
   exact ae_cut () ⟨rfl,rfl,trivial⟩ (List.Sublist.refl _)
 have hF0:F≤9223372036854775807:=by subst hF;split <;> decide
 repeat' first|refine Yz ?_|intro _
 refine ac_as 4 (Imp.nil (k:=1)) ?_
 refine ac_st (fun ok w h=>h.full 9 1 none 0) ?_
 refine ac_loop (α:=Nat × Value) (fun q=>[(1,ptr g1),(3,int F),(4,.sl 1 (((l.take q.1).map fun s=>hdrB (hdOf c s)).map str) (some q.2)),(5,int q.1)]) (fun q=>[.tail 9 1 q.2,.var g1 79 (.agg 5 [str c,str k,int p,boo f,.sl 34 (l.map staA) id])]) (fun q=>q.1≤l.length) (fun q=>l.length - q.1) (0,.slice none 0 0) ⟨rfl,rfl,rfl,rfl,trivial⟩ (List.Sublist.refl _) (Nat.zero_le _) ?_
 rintro⟨i,v⟩ hi
 dsimp only at hi ⊢
 repeat' first|refine Yz ?_|intro _
 refine ac_cond (fun hlt=>?_) (fun hlt=>?_)
 ·have hil:i < l.length:=by omega
  have hst:=hs4 l[i] (List.getElem_mem hil)
  have hml:((l.take i).map fun s=>hdrB (hdOf c s)).length≤1000000:=by simp;omega
  repeat' first|refine Yz ?_|intro _
  apply obl_fresh [0];exact rfl;exact rfl;exact rfl;kernel_rfl;intro _ _
  refine al_append (fun v'=>?_)
  refine al_nil (ae_fresh [.tail 9 1 v'] [] rfl rfl (List.Perm.refl _) rfl ?_)
  repeat' first|refine Yz ?_|intro _
  refine ae_round (i + 1,v') ⟨rfl,rfl,?_,rfl,trivial⟩ (List.Sublist.refl _) hil (by dsimp only;omega)
  rw [List.take_succ_eq_append_getElem hil,List.map_append,List.map_append]
  rfl
 ·obtain rfl:i=l.length:=by omega
  rw [List.take_length]
  have hml:(l.map fun s=>hdrB (hdOf c s)).length≤8000000:=by simp;omega
  repeat' first|refine Yz ?_|intro _
  refine reE ?_
  unfold cliB
  dsimp only
  rw [hF]
  rfl⟩
end Go.Proofs.YtppngnhckahbnaaGreatDoor

namespace Go.Proofs.YtppngnhckahbnaaGreatDoor
open Go Go.RowKit Tw Av
def rcC (s:Bs):Bs:=rtT 99 32 s false
def rcS1 (s:Bs):Bs:=rsT 99 32 s false
def rcB1 (s:Bs):Bool:=rbT 99 32 s false
def rcK (s:Bs):Bs:=rtT 107 64 (rcS1 s) (rcB1 s)
def rcS2 (s:Bs):Bs:=rsT 107 64 (rcS1 s) (rcB1 s)
def rcB2 (s:Bs):Bool:=rbT 107 64 (rcS1 s) (rcB1 s)
def rcP (s:Bs):Int:=riI 112 1099511627776 (rcS2 s) (rcB2 s)
def rcS3 (s:Bs):Bs:=rsT 112 8 (rcS2 s) (rcB2 s)
def rcB3 (s:Bs):Bool:=riB 112 1099511627776 (rcS2 s) (rcB2 s)
def rcF (s:Bs):Bool:=decide (riI 102 1 (rcS3 s) (rcB3 s)=1)
def rcS4 (s:Bs):Bs:=rsT 102 8 (rcS3 s) (rcB3 s)
def rcB4 (s:Bs):Bool:=riB 102 1 (rcS3 s) (rcB3 s)
def rcL (s:Bs):List Bs:=raL 115 32 200 (rcS4 s) (rcB4 s)
def rcE (s:Bs):Int:=reE' (rsT 115 16777215 (rcS4 s) (rcB4 s)) (raB 115 32 200 (rcS4 s) (rcB4 s))
def rcT (C t:Bs):Bool:=decide (rhdE t=0) && decide ((rhdV t).c=C)
def rcV (s:Bs):Cli:=⟨rcC s,rcK s,rcP s,rcF s,(rcL s).map fun t=>stOf (rhdV t)⟩
def rcOk (s:Bs):Bool:=(rcL s).all (rcT (rcC s)) && (decide (rcE s=0) && mayC (rcV s))
def rcdV (s:Bs):Cli:=if rcOk s=true then rcV s else zeroC
def rcdE (s:Bs):Int:=if rcOk s=true then 0 else 10
theorem rg1 {s:Bs}:rsT 99 32 s false=rcS1 s:=rfl
theorem rg2 {s:Bs}:rbT 99 32 s false=rcB1 s:=rfl
theorem rg3 {s:Bs}:rsT 107 64 (rcS1 s) (rcB1 s)=rcS2 s:=rfl
theorem rg4 {s:Bs}:rbT 107 64 (rcS1 s) (rcB1 s)=rcB2 s:=rfl
theorem rg5 {s:Bs}:rsT 112 8 (rcS2 s) (rcB2 s)=rcS3 s:=rfl
theorem rg6 {s:Bs}:riB 112 1099511627776 (rcS2 s) (rcB2 s)=rcB3 s:=rfl
theorem rg7 {s:Bs}:rsT 102 8 (rcS3 s) (rcB3 s)=rcS4 s:=rfl
theorem rg8 {s:Bs}:riB 102 1 (rcS3 s) (rcB3 s)=rcB4 s:=rfl
theorem rg9 {s:Bs}:raL 115 32 200 (rcS4 s) (rcB4 s)=rcL s:=rfl
theorem rc_lens (s:Bs):(rcS1 s).length≤s.length∧(rcS2 s).length≤s.length∧(rcS3 s).length≤s.length∧(rcS4 s).length≤s.length:=by
 have h1:=(rsT_len 99 32 s false).1
 have h2:=(rsT_len 107 64 (rcS1 s) (rcB1 s)).1
 have h3:=(rsT_len 112 8 (rcS2 s) (rcB2 s)).1
 have h4:=(rsT_len 102 8 (rcS3 s) (rcB3 s)).1
 rw [rg1] at h1
 rw [rg3] at h2
 rw [rg5] at h3
 rw [rg7] at h4
 exact⟨h1,by omega,by omega,by omega⟩
theorem all_take {α:Type}{l:List α}{p:α→Bool}{i:Nat}(hi:i < l.length)(h:(l.take i).all p=true)(h2:p l[i]=true):(l.take (i + 1)).all p=true:=by
 rw [List.take_succ_eq_append_getElem hi,List.all_append,h]
 simp [h2]
theorem all_not {α:Type}{l:List α}{p:α→Bool}{i:Nat}(hi:i < l.length)(h2:p l[i]=false):l.all p=false:=by
 rw [List.all_eq_false]
 exact⟨l[i],List.getElem_mem hi,by simp [h2]⟩
theorem bods_len {c most:Int}(h:0≤most):∀ {f:Nat} {s:Bs} {b:Bool} {x:Bs},x ∈ (bods c most f s b).1→(x.length:Int)≤most
 | 0,_,_,_,hx=>by simp [bods] at hx
 | f + 1,s,b,x,hx=>by
  rw [bods] at hx
  split at hx
  ·simp at hx
  ·rcases List.mem_cons.1 hx with rfl|hx
   ·exact (rtT_len c most s b).2 h
   ·exact bods_len h hx
theorem raL_mem {c many most:Int}{s:Bs}{b:Bool}{x:Bs}(h:0≤most)(hx:x ∈ raL c many most s b):(x.length:Int)≤most:=by
 unfold raL outA at hx
 split at hx
 ·simp at hx
 ·exact bods_len h hx
theorem raL_len {c many most:Int}{s:Bs}{b:Bool}(h0:0≤many):((raL c many most s b).length:Int)≤many:=by
 unfold raL outA
 split
 ·simpa using h0
 ·rename_i h
  unfold badA at h
  by_cases hm:many < ((allX c most (rtT c 16777215 s b)).1.length:Int)
  ·rw [decide_eq_true hm] at h
   simp at h
  ·omega
theorem imp_rzC:Imp (.tup [.agg 5 [.lit (.string ⟨#[]⟩),.lit (.string ⟨#[]⟩),.lit (.int .i64 0),.lit (.bool false),.lit (.slice none 0 0)],int 10]) (.tup [cliA zeroC,int 10]):=(inferInstance:ImpR _ (.tup [.agg 5 [str [],str [],int 0,boo false,.sl 34 [] none],int 10])).imp
theorem imp_rcl {C K:Bs}{Pd:Int}{Fr:Bool}{xs:List AV}{v:Value}:Imp (.tup [.agg 5 [str C,str K,int Pd,boo Fr,.sl 34 xs (some v)],int 0]) (.tup [.agg 5 [str C,str K,int Pd,boo Fr,.sl 34 xs none],int 0]):=ImpR.imp
theorem imp_rvar {C K:Bs}{Pd:Int}{Fr:Bool}:ImpC (.agg 5 [str C,str K,int Pd,boo Fr,.lit (.slice none 0 0)]) (.agg 5 [str C,str K,int Pd,boo Fr,.sl 34 [] (some (.slice none 0 0))]):=fun ok w cs h=>by
 rw [RC] at h ⊢
 refine⟨h.1,?_⟩
 have h:=h.2
 rw [RCs] at h ⊢
 obtain⟨a1,b1,e1,f1,h⟩:=h
 refine⟨a1,b1,e1,f1,?_⟩
 rw [RCs] at h ⊢
 obtain⟨a1,b1,e1,f1,h⟩:=h
 refine⟨a1,b1,e1,f1,?_⟩
 rw [RCs] at h ⊢
 obtain⟨a1,b1,e1,f1,h⟩:=h
 refine⟨a1,b1,e1,f1,?_⟩
 rw [RCs] at h ⊢
 obtain⟨a1,b1,e1,f1,h⟩:=h
 refine⟨a1,b1,e1,f1,?_⟩
 rw [RCs] at h ⊢
 obtain⟨a1,b1,e1,f1,h⟩:=h
 exact⟨a1,b1,e1,ImpC.nilT _ _ _ f1,h⟩
set_option maxHeartbeats 1000000 in
instance fnCRead {s:Bs}:Ans Tryz.prog GL 66 [str s] (s.length≤1000000000) (.tup [cliA (rcdV s),int (rcdE s)]):=⟨fun hl=>by
 obtain⟨l1,l2,l3,l4⟩:=rc_lens s
 have e1:(rcS1 s).length=(rsT 99 32 s false).length:=rfl
 have e2:(rcS2 s).length=(rsT 107 64 (rsT 99 32 s false) (rbT 99 32 s false)).length:=rfl
 have e3:(rcS3 s).length=(rsT 112 8 (rsT 107 64 (rsT 99 32 s false) (rbT 99 32 s false)) (rbT 107 64 (rsT 99 32 s false) (rbT 99 32 s false))).length:=rfl
 have e4:(rcS4 s).length=(rsT 102 8 (rsT 112 8 (rsT 107 64 (rsT 99 32 s false) (rbT 99 32 s false)) (rbT 107 64 (rsT 99 32 s false) (rbT 99 32 s false))) (riB 112 1099511627776 (rsT 107 64 (rsT 99 32 s false) (rbT 99 32 s false)) (rbT 107 64 (rsT 99 32 s false) (rbT 99 32 s false)))).length:=rfl
 refine spec_enter Tryz.func66 rfl Tryz.ntmps66 rfl (fun _ hs=>?_)
 repeat' first|refine Yz ?_|intro _
 refine al_callK (args:=[str s]) [] _ (by rw [hs];exact tlvRead) (fun u m1 hh=>?_) (List.Perm.refl _)
 obtain⟨gr,rfl,rfl⟩:=hh
 repeat' first|refine Yz ?_|intro _
 rw [rg1,rg2,rg3,rg4,rg5,rg6,rg7,rg8,rg9]
 have hE:rcE s=reE' (rsT 115 16777215 (rcS4 s) (rcB4 s)) (raB 115 32 200 (rcS4 s) (rcB4 s)):=rfl
 have hV:rcV s=⟨rtT 99 32 s false,rtT 107 64 (rcS1 s) (rcB1 s),riI 112 1099511627776 (rcS2 s) (rcB2 s),decide (riI 102 1 (rcS3 s) (rcB3 s)=1),(rcL s).map fun t=>stOf (rhdV t)⟩:=rfl
 have hK:rcOk s=((rcL s).all (rcT (rtT 99 32 s false)) && (decide (rcE s=0) && mayC (rcV s))):=rfl
 have hm:=fun t (ht:t ∈ rcL s)=>raL_mem (c:=115) (many:=32) (most:=200) (by decide) ht
 have hn:=raL_len (c:=115) (many:=32) (most:=200) (s:=rcS4 s) (b:=rcB4 s) (by decide)
 rw [rg9] at hn
 rw [rcdV,rcdE,hK,hV]
 rw [hE]
 generalize rcL s=L at *
 generalize rsT 115 16777215 (rcS4 s) (rcB4 s)=S5 at *
 generalize raB 115 32 200 (rcS4 s) (rcB4 s)=B5 at *
 generalize rtT 99 32 s false=C at *
 generalize rtT 107 64 (rcS1 s) (rcB1 s)=K at *
 generalize riI 112 1099511627776 (rcS2 s) (rcB2 s)=Pd at *
 generalize decide (riI 102 1 (rcS3 s) (rcB3 s)=1)=Fr at *
 have hml:(L.map str).length=L.length:=List.length_map _
 rename_i g2 g5
 refine ac_asV (g:=g5) (v':=.agg 5 [str C,str K,int Pd,boo Fr,.sl 34 [] (some (.slice none 0 0))]) imp_rvar ?_
 refine ac_st (fun ok w h=>h.full 93 34 none 0) ?_
 refine ac_loop (α:=Nat × Value) (fun q=>[(2,ptr g2),(4,ptr gr),(5,ptr g5),(26,.sl 1 (L.map str) none),(27,int L.length),(28,int q.1)])
  (fun q=>[.tail 93 34 q.2,.var g5 79 (.agg 5 [str C,str K,int Pd,boo Fr,.sl 34 (((L.take q.1).map fun t=>stOf (rhdV t)).map staA) (some q.2)]),.var gr 237 (rdA S5 B5),.var g2 79 (.agg 5 [str [],str [],int 0,boo false,nils])])
  (fun q=>q.1≤L.length∧(L.take q.1).all (rcT C)=true) (fun q=>L.length - q.1) (0,.slice none 0 0) ⟨rfl,rfl,rfl,rfl,by rw [← hml];rfl,rfl,trivial⟩ (List.Sublist.refl _) ⟨Nat.zero_le _,rfl⟩ ?_
 rintro⟨i,v⟩ ⟨h1,h2⟩
 dsimp only at h1 h2 ⊢
 repeat' first|refine Yz ?_|intro _
 refine ac_cond (fun hlt=>?_) (fun hlt=>?_)
 ·have hil:i < L.length:=by omega
  have ht:=hm L[i] (List.getElem_mem hil)
  have hml2:((L.take i).map fun t=>stOf (rhdV t)).length≤32:=by simp;omega
  repeat' first|refine Yz ?_|intro _
  by_cases he:rhdE L[i]=0
  rotate_left
  ·rw [all_not hil (show rcT C L[i]=false by unfold rcT;rw [decide_eq_false he];rfl),Bool.false_and]
   repeat' first|refine Yz ?_|intro _
   refine reI ?_
   exact imp_rzC
  by_cases hcc:(rhdV L[i]).c=C
  rotate_left
  ·rw [all_not hil (show rcT C L[i]=false by unfold rcT;rw [decide_eq_false hcc,Bool.and_false]),Bool.false_and]
   repeat' first|refine Yz ?_|intro _
   rw [decide_eq_true (show (rhdV L[i]).c≠C from hcc)]
   repeat' first|refine Yz ?_|intro _
   refine reI ?_
   exact imp_rzC
  ·repeat' first|refine Yz ?_|intro _
   rw [decide_eq_false (show ¬ (rhdV L[i]).c≠C from fun h=>h hcc)]
   repeat' first|refine Yz ?_|intro _
   apply obl_fresh [1];exact rfl;exact rfl;exact rfl;kernel_rfl;intro _ _
   refine al_append (fun v'=>?_)
   refine al_nil (ae_fresh [.tail 93 34 v'] [] rfl rfl (List.Perm.refl _) rfl ?_)
   repeat' first|refine Yz ?_|intro _
   refine ae_round (i + 1,v') ⟨rfl,rfl,rfl,rfl,rfl,rfl,trivial⟩ ?_ ⟨hil,all_take hil h2 (by unfold rcT;rw [decide_eq_true he,decide_eq_true hcc];rfl)⟩ (by dsimp only;omega)
   dsimp only
   rw [List.take_succ_eq_append_getElem hil,List.map_append,List.map_append]
   exact List.Sublist.cons _ (List.Sublist.refl _)
 ·obtain rfl:i=L.length:=by omega
  rw [List.take_length] at h2 ⊢
  rw [h2,Bool.true_and]
  repeat' first|refine Yz ?_|intro _
  by_cases hE0:reE' S5 B5=0
  rotate_left
  ·rw [decide_eq_false hE0,Bool.false_and]
   repeat' first|refine Yz ?_|intro _
   refine reI ?_
   exact imp_rzC
  rw [decide_eq_true hE0,Bool.true_and]
  repeat' first|refine Yz ?_|intro _
  cases hmc:mayC ⟨C,K,Pd,Fr,L.map fun t=>stOf (rhdV t)⟩
  ·repeat' first|refine Yz ?_|intro _
   refine reI ?_
   exact imp_rzC
  ·repeat' first|refine Yz ?_|intro _
   refine reI ?_
   exact imp_rcl⟩
set_option maxHeartbeats 1000000 in
instance fnRCRead {s:Bs}:Ans Tryz.prog GL 68 [str s] (s.length≤1000000000) (.tup [cliA (rcdV s),int (rcdE s)]):=⟨fun hl=>by
 obtain⟨l1,l2,l3,l4⟩:=rc_lens s
 have e1:(rcS1 s).length=(rsT 99 32 s false).length:=rfl
 have e2:(rcS2 s).length=(rsT 107 64 (rsT 99 32 s false) (rbT 99 32 s false)).length:=rfl
 have e3:(rcS3 s).length=(rsT 112 8 (rsT 107 64 (rsT 99 32 s false) (rbT 99 32 s false)) (rbT 107 64 (rsT 99 32 s false) (rbT 99 32 s false))).length:=rfl
 have e4:(rcS4 s).length=(rsT 102 8 (rsT 112 8 (rsT 107 64 (rsT 99 32 s false) (rbT 99 32 s false)) (rbT 107 64 (rsT 99 32 s false) (rbT 99 32 s false))) (riB 112 1099511627776 (rsT 107 64 (rsT 99 32 s false) (rbT 99 32 s false)) (rbT 107 64 (rsT 99 32 s false) (rbT 99 32 s false)))).length:=rfl
 refine spec_enter Tryz.func68 rfl Tryz.ntmps68 rfl (fun _ hs=>?_)
 repeat' first|refine Yz ?_|intro _
 rw [rg1,rg2,rg3,rg4,rg5,rg6,rg7,rg8,rg9]
 have hE:rcE s=reE' (rsT 115 16777215 (rcS4 s) (rcB4 s)) (raB 115 32 200 (rcS4 s) (rcB4 s)):=rfl
 have hV:rcV s=⟨rtT 99 32 s false,rtT 107 64 (rcS1 s) (rcB1 s),riI 112 1099511627776 (rcS2 s) (rcB2 s),decide (riI 102 1 (rcS3 s) (rcB3 s)=1),(rcL s).map fun t=>stOf (rhdV t)⟩:=rfl
 have hK:rcOk s=((rcL s).all (rcT (rtT 99 32 s false)) && (decide (rcE s=0) && mayC (rcV s))):=rfl
 have hm:=fun t (ht:t ∈ rcL s)=>raL_mem (c:=115) (many:=32) (most:=200) (by decide) ht
 have hn:=raL_len (c:=115) (many:=32) (most:=200) (s:=rcS4 s) (b:=rcB4 s) (by decide)
 rw [rg9] at hn
 rw [rcdV,rcdE,hK,hV]
 rw [hE]
 generalize rcL s=L at *
 generalize rsT 115 16777215 (rcS4 s) (rcB4 s)=S5 at *
 generalize raB 115 32 200 (rcS4 s) (rcB4 s)=B5 at *
 generalize rtT 99 32 s false=C at *
 generalize rtT 107 64 (rcS1 s) (rcB1 s)=K at *
 generalize riI 112 1099511627776 (rcS2 s) (rcB2 s)=Pd at *
 generalize decide (riI 102 1 (rcS3 s) (rcB3 s)=1)=Fr at *
 have hml:(L.map str).length=L.length:=List.length_map _
 by_cases hE0:reE' S5 B5=0
 rotate_left
 ·rw [decide_eq_false hE0,Bool.false_and,Bool.and_false]
  repeat' first|refine Yz ?_|intro _
  refine reI ?_
  exact imp_rzC
 rw [decide_eq_true hE0,Bool.true_and]
 repeat' first|refine Yz ?_|intro _
 rename_i g2 gr g5
 refine ac_asV (g:=g5) (v':=.agg 5 [str C,str K,int Pd,boo Fr,.sl 34 [] (some (.slice none 0 0))]) imp_rvar ?_
 refine ac_st (fun ok w h=>h.full 93 34 none 0) ?_
 refine ac_loop (α:=Nat × Value) (fun q=>[(2,ptr g2),(4,ptr gr),(5,ptr g5),(6,.sl 1 (L.map str) none),(7,int q.1)])
  (fun q=>[.tail 93 34 q.2,.var g5 79 (.agg 5 [str C,str K,int Pd,boo Fr,.sl 34 (((L.take q.1).map fun t=>stOf (rhdV t)).map staA) (some q.2)]),.var gr 189 (rdA S5 B5),.var g2 79 (.agg 5 [str [],str [],int 0,boo false,nils])])
  (fun q=>q.1≤L.length∧(L.take q.1).all (rcT C)=true) (fun q=>L.length - q.1) (0,.slice none 0 0) ⟨rfl,rfl,rfl,rfl,rfl,trivial⟩ (List.Sublist.refl _) ⟨Nat.zero_le _,rfl⟩ ?_
 rintro⟨i,v⟩ ⟨h1,h2⟩
 dsimp only at h1 h2 ⊢
 repeat' first|refine Yz ?_|intro _
 refine ac_cond (fun hlt=>?_) (fun hlt=>?_)
 ·have hil:i < L.length:=by omega
  have ht:=hm L[i] (List.getElem_mem hil)
  have hml2:((L.take i).map fun t=>stOf (rhdV t)).length≤32:=by simp;omega
  repeat' first|refine Yz ?_|intro _
  by_cases he:rhdE L[i]=0
  rotate_left
  ·rw [all_not hil (show rcT C L[i]=false by unfold rcT;rw [decide_eq_false he];rfl),Bool.false_and]
   repeat' first|refine Yz ?_|intro _
   refine reI ?_
   exact imp_rzC
  by_cases hcc:(rhdV L[i]).c=C
  rotate_left
  ·rw [all_not hil (show rcT C L[i]=false by unfold rcT;rw [decide_eq_false hcc,Bool.and_false]),Bool.false_and]
   repeat' first|refine Yz ?_|intro _
   rw [decide_eq_true (show (rhdV L[i]).c≠C from hcc)]
   repeat' first|refine Yz ?_|intro _
   refine reI ?_
   exact imp_rzC
  ·repeat' first|refine Yz ?_|intro _
   rw [decide_eq_false (show ¬ (rhdV L[i]).c≠C from fun h=>h hcc)]
   repeat' first|refine Yz ?_|intro _
   refine al_append (fun v'=>?_)
   repeat' first|refine Yz ?_|intro _
   refine ae_round (i + 1,v') ⟨rfl,rfl,rfl,rfl,rfl,trivial⟩ ?_ ⟨hil,all_take hil h2 (by unfold rcT;rw [decide_eq_true he,decide_eq_true hcc];rfl)⟩ (by dsimp only;omega)
   dsimp only
   rw [List.take_succ_eq_append_getElem hil,List.map_append,List.map_append]
   exact List.Sublist.cons _ (List.Sublist.refl _)
 ·obtain rfl:i=L.length:=by omega
  rw [List.take_length] at h2 ⊢
  rw [h2,Bool.true_and]
  repeat' first|refine Yz ?_|intro _
  cases hmc:mayC ⟨C,K,Pd,Fr,L.map fun t=>stOf (rhdV t)⟩
  ·repeat' first|refine Yz ?_|intro _
   refine reI ?_
   exact imp_rzC
  ·repeat' first|refine Yz ?_|intro _
   refine reI ?_
   exact imp_rcl⟩
end Go.Proofs.YtppngnhckahbnaaGreatDoor

namespace Go.Proofs.YtppngnhckahbnaaGreatDoor
open Go Go.RowKit Tw Av
theorem chkH_iff {x:Hdr}:chkH x=true↔(1≤x.c.length∧x.c.length≤32∧1≤x.h∧x.h≤1099511627776∧0≤x.t∧x.t≤1099511627776):=by
 unfold chkH
 exact decide_eq_true_iff
theorem all_iff {x:Cli}:mayC x=true↔((x.k.length≤64∧1≤x.p∧x.p≤1099511627776∧1≤x.l.length∧x.l.length≤32)∧∀ i,i < x.l.length→mayAt x.c x.l i=true):=by
 unfold mayC
 rw [Bool.and_eq_true,decide_eq_true_iff,List.all_eq_true]
 simp
theorem may_chk {x:Cli}(h:mayC x=true):∀ s ∈ x.l,chkH (hdOf x.c s)=true:=by
 intro s hs
 obtain⟨i,hi,rfl⟩:=List.getElem_of_mem hs
 have:=(all_iff.1 h).2 i hi
 unfold mayAt at this
 rw [Bool.and_eq_true,show x.l.getD i zeroS=x.l[i] by simp [List.getD,hi]] at this
 exact this.1
end Go.Proofs.YtppngnhckahbnaaGreatDoor
