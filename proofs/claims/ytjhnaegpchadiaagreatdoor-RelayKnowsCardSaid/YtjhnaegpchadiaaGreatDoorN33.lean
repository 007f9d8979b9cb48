/- . -/
import Derived.Test.YtjhnaegpchadiaaGreatDoorN32
set_option maxHeartbeats 64000000
namespace Go.Proofs.YtjhnaegpchadiaaGreatDoor
open Go Go.RowKit Tw Av
structure SlX where
 m:MkX
 l:Bs
 br:Bool
def J4 (n:Int):Int:=(n-2)*64
def dJ (x:DvX)(k:Nat):Bs:=(List.range k).flatMap fun (i:Nat)=>aF x (2+(i:Int))
def QX (b:Int):Nat:=((b+63) / 64).toNat
def U1 (x:DvX)(b:Int):Bs:=(dJ x (QX b)).take b.toNat
def J2 (s:Bs):Bs:=s.drop (s.length-s.length%64)
def H5 (x:DvX):MkX:=rR (aF x 0) (aF x 1)
def kW (x:DvX):Int:=if x.n<=2 then 1 else if x.on=false then 14 else if J4 x.n<(H5 x).b then 10 else
 if wY (U1 x (H5 x).b)=[]/\((mH (U1 x (H5 x).b)).length:Int)=(H5 x).c then 0 else 10
def dX (x:DvX):SlX:=⟨H5 x,U1 x (H5 x).b,false⟩
def EP (x:DvX):List Bs:=mH (U1 x (H5 x).b)
def M6 (s:Bs):Bs:=s.take 64++List.replicate (64-s.length) 0
theorem KE (s:Bs):(M6 s).length=64:=by
 unfold M6;simp;omega
theorem Bt {s:Bs}{k:Nat}(h:k<=s.length)(hk:k<=64):(M6 s).take k=s.take k:=by
 unfold M6;rw[List.take_append_of_le_length (by rw[List.length_take];omega),List.take_take,Nat.min_eq_left hk]
theorem Vt {s:Bs}:(M6 s).take s.length=s.take 64:=by
 by_cases h:s.length<=64
 ·rw[Bt (Nat.le_refl _) h,List.take_length,List.take_of_length_le h]
 ·unfold M6;rw[show 64-s.length=0 by omega,List.replicate_zero,List.append_nil,List.take_of_length_le (by rw[List.length_take];omega)]
def qL:Nat->Int->Bs->List (Int × Bs)
 | 0,_,_=>[]
 | f+1,a,s=>if s=[] then [] else (a,M6 s)::qL f (a+1) (s.drop 64)
def kV:Nat->DvX->Int->Bs->DvX × Int
 | 0,x,_,_=>(x,0)
 | f+1,x,a,s=>if s=[] then (x,0) else if (L9 x a (M6 s)).2=0 then kV f (L9 x a (M6 s)).1 (a+1) (s.drop 64) else L9 x a (M6 s)
def gX (x:DvX)(a:Int)(s:Bs):DvX × Int:=kV s.length x a s
theorem EM (f:Nat)(x:DvX)(a:Int):kV f x a []=(x,0):=by cases f <;> simp[kV]
theorem QD:∀ {f g:Nat} {x:DvX} {a:Int} {s:Bs},s.length<=f->s.length<=g->kV f x a s=kV g x a s
 | 0,g,x,a,s,h,_=>by
  obtain rfl:=List.length_eq_zero_iff.1 (Nat.le_zero.1 h);rw[EM,EM]
 | f+1,0,x,a,s,_,h=>by
  obtain rfl:=List.length_eq_zero_iff.1 (Nat.le_zero.1 h);rw[EM,EM]
 | f+1,g+1,x,a,s,h,h'=>by
  unfold kV;by_cases hs:s=[]
  ·rw[if_pos hs,if_pos hs]
  ·rw[if_neg hs,if_neg hs,QD (f:=f) (g:=g) (by rw[List.length_drop];omega) (by rw[List.length_drop];omega)]
theorem Bh {x:DvX}{a:Int}{s:Bs}(hs:s≠[]):gX x a s=if (L9 x a (M6 s)).2=0 then gX (L9 x a (M6 s)).1 (a+1) (s.drop 64) else L9 x a (M6 s):=by
 have hl:0<s.length:=List.length_pos_iff.2 hs;unfold gX;rw[QD (f:=s.length) (g:=s.length-1+1) (Nat.le_refl _) om];rw[kV,if_neg hs,QD (f:=s.length-1) (g:=(s.drop 64).length) (by rw[List.length_drop];omega) (Nat.le_refl _)]
def F7 (s:SlX)(r:Bs):MkX:=⟨s.m.e+1,s.m.b+(y8 r).length,s.m.c+1⟩
def aH (x:DvX)(s:SlX)(r:Bs):DvX × Int:=gX x (2+s.m.b / 64) (J2 s.l++y8 r)
def bC (x:DvX)(s:SlX)(r:Bs):DvX × Int:=W9 (aH x s r).1
def bB (x:DvX)(s:SlX)(r:Bs):DvX × Int:=L9 (bC x s r).1 ((F7 s r).e%2) (K4 (F7 s r))
def dN (x:DvX)(s:SlX)(r:Bs):DvX × Int:=W9 (bB x s r).1
def jH (x:DvX)(s:SlX)(r:Bs):DvX × SlX × Int:=
 if s.br=true then (x,s,13) else if 1048576<r.length then (x,s,11) else if J4 x.n-s.m.b<(y8 r).length then (x,s,15)
 else if (aH x s r).2≠0 then ((aH x s r).1,{ s with br:=true },(aH x s r).2)
 else if (bC x s r).2≠0 then ((bC x s r).1,{ s with br:=true },(bC x s r).2)
 else if (bB x s r).2≠0 then ((bB x s r).1,{ s with br:=true },(bB x s r).2)
 else if (dN x s r).2≠0 then ((dN x s r).1,{ s with br:=true },(dN x s r).2)
 else ((dN x s r).1,⟨F7 s r,s.l++y8 r,false⟩,0)
structure DvOk (x:DvX):Prop where
 n:0<=x.n/\x.n<=4096
 mn:MpN x.es
 el:∀ e∈x.es,e.2.1.length=64
 wl:∀ w∈x.ws,w.2.length=64
 lf:0<=x.lf/\x.lf<=1000000
theorem VY:qR.length=64:=by simp[qR]
theorem BD {x:DvX}(h:DvOk x)(a:Int):(H7 x a).length=64:=by
 unfold H7 dD;cases hf:x.es.find? fun e=>decide (e.1=a) with
 | none=>exact VY
 | some e=>exact h.el e (List.mem_of_find?_eq_some hf)
theorem Ot {x:DvX}(h:DvOk x){a:Int}{s:Bs}(hs:bL x.ws a=some s):s.length=64:=by
 unfold bL at hs;cases hf:x.ws.reverse.find? fun w=>decide (w.1=a) with
 | none=>rw[hf] at hs;cases hs
 | some w=>
  rw[hf] at hs;injection hs with hs
  subst hs;exact h.wl w (List.mem_reverse.1 (List.mem_of_find?_eq_some hf))
theorem LP {x:DvX}(h:DvOk x)(a:Int):(aF x a).length=64:=by
 unfold aF;cases hf:bL x.ws a with
 | none=>exact BD h a
 | some s=>exact Ot h hf
theorem yE (x:DvX)(k:Nat):dJ x (k+1)=dJ x k++aF x (2+(k:Int)):=by
 unfold dJ;rw[List.range_succ,List.flatMap_append];simp
theorem yF {x:DvX}(h:DvOk x):∀ k,(dJ x k).length=64*k
 | 0=>rfl
 | k+1=>by
  rw[yE,lla,yF h k,LP h];omega
theorem Cq {es:List MpE}{ck:Nat}{a:Int}{s:Bs}{P:Bs->Prop}(h:∀ e∈es,P e.2.1)(hs:P s):∀ e∈bQ es ck a s,P e.2.1:=by
 unfold bQ;intro e he;split at he
 ·obtain⟨i,hi,rfl⟩:=List.mem_iff_getElem.1 he;rw[List.getElem_modify];split
  ·exact hs
  ·exact h _ (List.getElem_mem _)
 ·rcases List.mem_append.1 he with he|he
  ·exact h e he
  ·obtain rfl:=List.mem_singleton.1 he;exact hs
theorem Ig {x:DvX}{w:Int × Bs}(h:DvOk x)(hw:w.2.length=64):DvOk (aG x w):=by
 refine⟨h.n,Du h.mn,?_,h.wl,h.lf⟩;intro e he;unfold aG FB at he;dsimp only at he;split at he
 ·exact Cq (P:=fun s=>s.length=64) h.el hw e ((List.eraseIdx_sublist _ _).subset he)
 ·exact Cq (P:=fun s=>s.length=64) h.el hw e he
theorem SX:∀ {ws:List (Int × Bs)} {x:DvX},DvOk x->(∀ w∈ws,w.2.length=64)->DvOk (ws.foldl aG x)
 | [],_,h,_=>h
 | w::ws,x,h,hw=>SX (ws:=ws) (Ig h (hw w sm)) fun v hv=>hw v (by simp[hv])
theorem Ik {x:DvX}(h:DvOk x):DvOk (X6 x):=by
 have:=SX h h.wl;exact⟨this.n,this.mn,this.el,by simp[X6],this.lf⟩
theorem FN {x:DvX}(h:DvOk x)(hm:bR x=true):DvOk (J3 x):=by
 refine⟨h.n,h.mn,h.el,h.wl,?_⟩;unfold J3 bR at *;have:=h.lf;dsimp only;split
 ·rename_i ha;rw[ha] at hm;simp at hm;omega
 ·exact this
theorem TL {x:DvX}(h:DvOk x):DvOk (dL x):=⟨h.n,h.mn,h.el,h.wl,h.lf⟩
theorem Ie {x:DvX}{w:Int × Bs}(h:DvOk x)(hw:w.2.length=64):DvOk (dK x w):=by
 refine⟨h.n,h.mn,h.el,?_,h.lf⟩;intro v hv;rcases List.mem_append.1 hv with hv|hv
 ·exact h.wl v hv
 ·obtain rfl:=List.mem_singleton.1 hv;exact hw
theorem yD {x:DvX}{a:Int}{s:Bs}(h:DvOk x):DvOk (L9 x a s).1:=by
 unfold L9;split
 ·exact h
 split
 ·exact h
 rename_i hh;have hl:s.length=64:=Classical.byContradiction fun e=>hh (.inr e);split
 ·exact Ie (TL h) hl
 ·rename_i hm;exact Ie (FN h (by simpa using hm)) hl
theorem LU {x:DvX}(h:DvOk x):DvOk (W9 x).1:=by
 unfold W9;split
 ·exact h
 split
 ·exact TL h
 ·rename_i hm;exact Ik (FN h (by simpa using hm))
theorem Bg:∀ {f:Nat} {x:DvX} {a:Int} {s:Bs},DvOk x->DvOk (kV f x a s).1
 | 0,_,_,_,h=>h
 | f+1,x,a,s,h=>by
  unfold kV;split
  ·exact h
  split
  ·exact Bg (yD h)
  ·exact yD h
theorem Bi {x:DvX}{a:Int}{s:Bs}(h:DvOk x):DvOk (gX x a s).1:=Bg h
theorem a3a {x:DvX}{k:List Bool}{torn cut:Int}{i:Nat}{w:Int × Bs}(h:DvOk x)(hw:w.2.length=64):DvOk (BG x k torn cut i w):=by
 unfold BG;split
 ·refine Ig h ?_;dsimp only;split
  ·have:=BD h w.1;rw[lla,List.length_take,List.length_drop];omega
  ·exact hw
 ·exact h
theorem a2t {x:DvX}{a:Int}{s:Bs}:(L9 x a s).1.n=x.n:=by unfold L9;(repeat' split) <;> rfl
theorem uU:∀ {ws:List (Int × Bs)} {x:DvX},(ws.foldl aG x).n=x.n/\(ws.foldl aG x).on=x.on/\(ws.foldl aG x).ar=x.ar/\(ws.foldl aG x).lf=x.lf
 | [],_=>⟨rfl,rfl,rfl,rfl⟩
 | w::ws,x=>uU (ws:=ws) (x:=aG x w)
theorem a2y {x:DvX}:(W9 x).1.n=x.n:=by
 unfold W9;split
 ·rfl
 split
 ·rfl
 ·exact(uU (ws:=(J3 x).ws) (x:=J3 x)).1
end Go.Proofs.YtjhnaegpchadiaaGreatDoor

namespace Go.Proofs.YtjhnaegpchadiaaGreatDoor
open Go Go.RowKit Tw Av Go.Proofs.Tryz
instance : TyMp prog 134 3 9 := ⟨kr, by kernel_rfl, by kernel_rfl⟩
abbrev oV (w:Int × Bs):AV:=.agg 2 [int w.1,str w.2]
abbrev uZ (gm:Nat)(x:DvX)(vw:Value):AV:=.agg 7 [int x.n,aA gm,.sl 2 (x.ws.map oV) (some vw),j3 x.on,j3 x.ar,int x.lf,int x.st]
structure DvI where
 gd:Nat
 gm:Nat
 vw:Value
abbrev F5 (I:DvI)(x:DvX):List Av.Piece:=[.var I.gd 137 (uZ I.gm x I.vw),.obj I.gm (O6 x.es x.ck),.tail 278 2 I.vw]
instance b4X {g gm:Nat}{x:DvX}{vw:Value}:AnsM prog GL 98 g [] 137 (uZ gm x vw) True (int x.n) (uZ gm x vw):=⟨fun _=>by
 refine qF func98 ntmps98 fun _ hs=>?_;repeat' first|refine Vz ?_|intro _
 exact l9 _ ⟨rfl,rfl⟩ slr⟩
instance b4Y {g gm:Nat}{x:DvX}{vw:Value}{a:Int}:AnsM prog GL 206 g [int a] 137 (uZ gm x vw) True (j3 (fD x a)) (uZ gm x vw):=⟨fun _=>by
 refine qF func206 ntmps206 fun _ hs=>?_;unfold fD;by_cases h1:0<=a
 ·rw[show decide (0<=a/\a<x.n)=decide (a<x.n) by simp[h1]];repeat' first|refine Zz ?_|intro _
  exact l9 _ ⟨rfl,rfl⟩ slr
 ·rw[dZ (show ¬ (0<=a/\a<x.n) from fun h=>h1 h.1)];repeat' first|refine Zz ?_|intro _
  exact l9 _ ⟨rfl,rfl⟩ slr⟩
attribute [local irreducible] fD
instance b1t {k:Nat}:ImpT (.lit (.slice none 0 0)) (.sl k [] (some (.slice none 0 0))):=⟨ImpC.nilT⟩
theorem a0q {n:Int}{gm:Nat}:ImpC (.agg 7 [int n,aA gm,.lit (.slice none 0 0),j3 true,j3 false,int 0,int 0]) (uZ gm (Q3 n) (.slice none 0 0)):=(inferInstance:ImpT _ (.agg 7 [int n,aA gm,.sl 2 [] (some (.slice none 0 0)),j3 true,j3 false,int 0,int 0])).imp
theorem Gv {n:Int}(h1:1<=n)(h2:n<=4096):Av.Spec prog GL 19 [int n] [] fun u m=>∃ I,u=ptr I.gd/\m=F5 I (Q3 n):=by
 refine qF func19 ntmps19 fun _ hs=>?_;repeat' first|refine Zz ?_|intro _
 refine a5e (fun gm=>?_);repeat' first|refine Zz ?_|intro _
 rename_i gd;refine GM (g:=gd) a0q ?_;refine sJ (fun ok w h=>h.full 278 2 none 0) ?_;refine sJ (fun ok w h=>h.perm (m':=F5 ⟨gd,gm,.slice none 0 0⟩ (Q3 n)) (List.perm_append_comm (l₁:=[_,_]) (l₂:=[_]))) ?_;exact l9 _ ⟨_,rfl,rfl⟩ slr
theorem a1G {I:DvI}{x:DvX}{w:Int × Bs}:Av.Spec prog GL 238 [ptr I.gd,oV w] (F5 I x) fun u m=>u=.tup []/\m=F5 I (aG x w):=by
 refine qF func238 ntmps238 fun _ hs=>?_;repeat' first|refine Zz ?_|intro _
 apply bP [2];exact rfl;exact rfl;kernel_rfl
 ·intro _ _;refine a5c (pre:=[]) (post:=[]) ?_ rfl;exact j4 (bW rfl)
 ·exact rfl
 ·exact rfl
 repeat' first|refine Zz ?_|intro _
 apply x8 [];exact rfl;exact rfl;kernel_rfl
 ·intro _ _;refine GH ?_;exact j4 (o9 rfl rfl)
 repeat' first|refine Zz ?_|intro _
 have hk:aG x w={ x with es:=if w.2=List.replicate (Int.toNat 64) 0 then kD (bQ x.es x.ck w.1 w.2) w.1 else bQ x.es x.ck w.1 w.2,ck:=wH x.es x.ck w.1 }:=rfl;rw[hk];refine o8 (fun h=>?_) (fun h=>?_)
 ·rw[if_pos h];repeat' first|refine Zz ?_|intro _
  apply bP [2];exact rfl;exact rfl;kernel_rfl
  ·intro _ _;refine a5d (pre:=[]) (post:=[]) ?_ rfl;exact j4 (bW rfl)
  ·exact rfl
  ·exact rfl
  repeat' first|refine Zz ?_|intro _
  refine iW _ ⟨rfl,rfl⟩ ?_;exact x9
 ·rw[if_neg h];repeat' first|refine Zz ?_|intro _
  refine iW _ ⟨rfl,rfl⟩ ?_;exact x9
theorem a1F {I:DvI}{x:DvX}{a:Int}:Av.Spec prog GL 207 [ptr I.gd,int a] (F5 I x) fun u m=>u=str (if fD x a=true then H7 x a else [])/\m=F5 I x:=by
 refine qF func207 ntmps207 fun _ hs=>?_;repeat' first|refine Zz ?_|intro _
 cases hh:fD x a
 ·repeat' first|refine Zz ?_|intro _
  exact l9 _ ⟨rfl,rfl⟩ slr
 repeat' first|refine Zz ?_|intro _
 refine a5f ?_;repeat' first|refine Zz ?_|intro _
 unfold H7;cases hf:dD x.es a with
 | none=>
  repeat' first|refine Zz ?_|intro _
  refine GH ?_;repeat' first|refine Zz ?_|intro _
  exact l9 _ ⟨rfl,rfl⟩ slr
 | some t=>
  repeat' first|refine Zz ?_|intro _
  exact l9 _ ⟨rfl,rfl⟩ slr
theorem Ou (l r:List (Int × Bs))(a:Int):bL (l++r) a=match bL r a with|some s=>some s|none=>bL l a:=by
 unfold bL;rw[List.reverse_append,List.find?_append];cases r.reverse.find? fun w=>decide (w.1=a) <;> rfl
theorem WC {ws:List (Int × Bs)}{a:Int}{k:Nat}(hk:k<ws.length):bL (ws.take (k+1)) a=if ws[k].1=a then some ws[k].2 else bL (ws.take k) a:=by
 rw[<- List.take_append_getElem hk,Ou];by_cases h:ws[k].1=a
 ·rw[if_pos h];simp[bL,h]
 ·rw[if_neg h];simp[bL,h]
theorem TC {I:DvI}{x:DvX}{a:Int}(hon:x.on=true)(ha:fD x a=true)(hl:x.ws.length<=1000000):Av.Spec prog GL 99 [ptr I.gd,int a] (F5 I x) fun u m=>u=.tup [str (aF x a),int 0]/\m=F5 I x:=by
 have hm:(x.ws.map oV).length=x.ws.length:=llm _;refine qF func99 ntmps99 fun _ hs=>?_;repeat' first|refine Zz ?_|intro _
 rw[hon];repeat' first|refine Zz ?_|intro _
 rw[ha];repeat' first|refine Zz ?_|intro _
 rw[hm];refine y5 (α:=Nat) (fun k=>[(0,ptr I.gd),(1,int a),(6,int ((k:Int)-1))]) (fun _=>F5 I x) (fun k=>k<=x.ws.length/\bL x.ws a=bL (x.ws.take k) a) (fun k=>k) x.ws.length ⟨rfl,rfl,rfl,trivial⟩ slr ⟨Nat.le_refl _,by rw[List.take_length]⟩ ?_;rintro k ⟨hk,hI⟩;rcases k with _|k
 ·repeat' first|refine Zz ?_|intro _
  refine gJ [] (F5 I x) [] a1F (fun u m1 hh=>?_);obtain⟨rfl,rfl⟩:=hh;rw[if_pos ha];repeat' first|refine Zz ?_|intro _
  have e:aF x a=H7 x a:=by
   unfold aF;rw[hI];rfl
  rw[e];exact l9 _ ⟨rfl,rfl⟩ slr
 ·rw[show ((k+1:Nat):Int)-1=(k:Int) by omega];have hk':k<x.ws.length:=hk;rw[WC hk'] at hI;repeat' first|refine Zz ?_|intro _
  by_cases he:x.ws[k].1=a
  ·rw[if_pos he] at hI;repeat' first|refine Zz ?_|intro _
   have e:aF x a=x.ws[k].2:=by
    unfold aF;rw[hI];rfl
   rw[e];exact l9 _ ⟨rfl,rfl⟩ slr
  ·rw[if_neg he] at hI;repeat' first|refine Zz ?_|intro _
   exact o6 k ⟨rfl,rfl,rfl,trivial⟩ slr ⟨om,hI⟩ (Nat.lt_succ_self _)
end Go.Proofs.YtjhnaegpchadiaaGreatDoor

namespace Go.Proofs.YtjhnaegpchadiaaGreatDoor
open Go Go.RowKit Tw Av Go.Proofs.Tryz
abbrev dE (m:MkX):AV:=.agg 3 [int m.e,int m.b,int m.c]
def KM (m:MkX)(i:Nat):Nat:=if i=0 then m.e.toNat else if i=1 then m.b.toNat else m.c.toNat
def Bj (m:MkX)(j:Nat):UInt8:=UInt8.ofNat (dg (KM m (j / 8)) (7-j%8))
def iC (F:Nat->UInt8):Bs:=(List.range 64).map F
def fP (m:MkX)(i k:Nat):Nat->UInt8:=fun j=>if j<8*i\/(8*i+8-k<=j/\j<8*i+8) then Bj m j else 0
theorem VA (F:Nat->UInt8):(iC F).length=64:=by simp[iC]
theorem a4p {F G:Nat->UInt8}{j:Nat}{v:UInt8}(h1:G j=v)(h2:∀ i,i≠j->G i=F i):(iC F).set j v=iC G:=by
 apply List.ext_getElem
 ·simp[iC]
 ·intro i a b;rw[List.getElem_set];simp only[iC,List.getElem_map,List.getElem_range];by_cases h:j=i
  ·subst h;rw[if_pos rfl,h1]
  ·rw[if_neg h,h2 i (fun e=>h e.symm)]
theorem a4q {F G:Nat->UInt8}(h:∀ i,i<64->F i=G i):iC F=iC G:=List.map_congr_left fun i hi=>h i (List.mem_range.1 hi)
theorem a2b {m:MkX}{i k:Nat}(hk:k<8):(iC (fP m i k)).set (8*i+7-k) (UInt8.ofNat (KM m i / 256 ^ k))=iC (fP m i (k+1)):=by
 refine a4p ?_ ?_
 ·unfold fP;rw[if_pos (.inr ⟨om,om⟩)];unfold Bj;rw[show (8*i+7-k) / 8=i by omega,show 7-(8*i+7-k)%8=k by omega];unfold dg;apply UInt8.toNat_inj.1;rw[UInt8.toNat_ofNat',UInt8.toNat_ofNat'];omega
 ·intro j hj;unfold fP;by_cases h:j<8*i\/(8*i+8-k<=j/\j<8*i+8)
  ·rw[if_pos h,if_pos om]
  ·rw[if_neg h,if_neg om]
theorem a2d {m:MkX}{i:Nat}:iC (fP m i 8)=iC (fP m (i+1) 0):=a4q fun j _=>by
 unfold fP;by_cases h:j<8*i\/(8*i+8-8<=j/\j<8*i+8)
 ·rw[if_pos h,if_pos om]
 ·rw[if_neg h,if_neg om]
theorem a2c {m:MkX}:uR (iC (fP m 3 0)) 56 0 8=K4 m:=rfl
instance b1L {m:MkX}:Ans prog GL 145 [dE m] (MkB m) (str (K4 m)):=⟨fun hm=>by
 have he:=hm.e;have hb:=hm.b;have hc:=hm.c;refine qF func145 ntmps145 fun _ hs=>?_;repeat' first|refine Zz ?_|intro _
 rename_i g1 g3;refine gK (g:=g3) (v':=.agg 64 ((iC (fP m 0 0)).map w9)) (fun ok w cs h=>h) ?_;refine y5 (α:=Nat) (fun i=>[(3,ptr g3),(13,.agg 3 [int m.e,int m.b,int m.c]),(14,int i)]) (fun i=>[.var g3 304 (.agg 64 ((iC (fP m i 0)).map w9))]) (fun i=>i<=3) (fun i=>3-i) 0 ⟨rfl,rfl,rfl,trivial⟩ (by repeat (first|exact List.nil_sublist _|exact List.Sublist.refl _|apply List.Sublist.cons_cons|apply List.Sublist.cons)) (Nat.zero_le _) ?_;intro i hi;by_cases hi':i<3
 rotate_left
 ·obtain rfl:i=3:=by omega
  repeat' first|refine Zz ?_|intro _
  apply x8 [];exact rfl;exact rfl;kernel_rfl
  ·intro _ _;refine MO 56 64 ?_;exact j4 (o9 rfl rfl)
  apply x8 [];exact rfl;exact rfl;kernel_rfl
  ·intro _ _;refine MO 0 8 ?_;exact j4 (o9 rfl rfl)
  apply kC [0];exact rfl;exact rfl;kernel_rfl
  ·intro _ _;refine a5u (l:=iC (fP m 3 0)) 8 rfl ?_ (h1:=by rw[VA];decide) (h2:=by rw[VA];decide);exact j4 (o9 rfl rfl)
  ·exact rfl
  ·exact rfl
  rw[a2c];repeat' first|refine Zz ?_|intro _
  exact d9 rfl
 have hnm:∃ n:Int,[int m.e,int m.b,int m.c][i]?=some (int n)/\(KM m i:Int)=n/\0<=n:=by
  rcases i with _|_|_|i
  ·exact⟨m.e,rfl,Int.toNat_of_nonneg he.1,he.1⟩
  ·exact⟨m.b,rfl,Int.toNat_of_nonneg hb.1,hb.1⟩
  ·exact⟨m.c,rfl,Int.toNat_of_nonneg hc.1,hc.1⟩
  ·omega
 obtain⟨n,hn1,hn2,hn3⟩:=hnm;repeat' first|refine Zz ?_|intro _
 refine VF (nn:=3) (ps:=[int m.e,int m.b,int m.c]) i ?_ rfl hi' hn1 (by simp[AV.size]) rfl;repeat' first|refine Zz ?_|intro _
 refine y5 (α:=Nat) (fun k=>[(3,ptr g3),(13,.agg 3 [int m.e,int m.b,int m.c]),(14,int i),(4,int i),(5,int n),(18,int k)]) (fun k=>[.var g3 304 (.agg 64 ((iC (fP m i k)).map w9))]) (fun k=>k<=8) (fun k=>8-k) 0 ⟨rfl,rfl,rfl,rfl,rfl,rfl,trivial⟩ slr (Nat.zero_le _) ?_;intro k hk;by_cases hk':k<8
 rotate_left
 ·obtain rfl:k=8:=by omega
  rw[a2d];repeat' first|refine Zz ?_|intro _
  exact o6 (i+1) ⟨rfl,rfl,rfl,trivial⟩ slr hi' om
 have hst:=a2b (m:=m) (i:=i) hk';have hml:((iC (fP m i k)).map w9).length=64:=by rw[llm,VA]
 repeat' first|refine Zz ?_|intro _
 refine jL 28 (v:=int (max n 0)) (v':=int (KM m i:Nat)) (Imp.of_eq (by rw[hn2,Int.max_eq_left hn3])) ?_;refine yS (k:=.i64) (n:=8*k) ?_ (hb:=by show (8:Int)*k=((8*k:Nat):Int);omega) (hn:=Nat.ble_eq_true_of_le (show 8*k<=64 by omega));rw[JY,<- Int.natCast_ediv];refine wW ?_;rw[NL];refine O4 (8*i+7-k) ?_;refine kM (j:=8*i+7-k) (by rw[hml];omega) ?_;rw[<- List.map_set,hst];repeat' first|refine Zz ?_|intro _
 exact o6 (k+1) ⟨rfl,rfl,rfl,rfl,rfl,rfl,trivial⟩ slr hk' om⟩
attribute [local irreducible] K4
def dC (s:Bs)(j:Nat):Nat:=pX ((s.drop (8*j)).take 8)
theorem JU (s:Bs):rM s=⟨dC s 0,dC s 1,dC s 2⟩:=rfl
abbrev zX (s:Bs)(i:Nat):List AV:=[int (if 0<i then dC s 0 else 0:Nat),int (if 1<i then dC s 1 else 0:Nat),int (if 2<i then dC s 2 else 0:Nat)]
theorem Xn {s:Bs}{i:Nat}(h:i<3):(zX s i).set i (int (dC s i))=zX s (i+1):=by
 rcases i with _|_|_|i
 ·rfl
 ·rfl
 ·rfl
 ·omega
theorem IG {s:Bs}{i:Nat}(h:i<3)(hn:¬ (dC s i:Int)<=1099511627776):T9 s=none:=by
 unfold T9;rw[if_neg];rintro⟨_,h2,_⟩;rw[JU] at h2;have:=of_decide_eq_true h2;rcases i with _|_|_|i
 ·exact hn this.1
 ·exact hn this.2.1
 ·exact hn this.2.2
 ·omega
instance b1J {s:Bs}:Ans prog GL 208 [str s] True (.tup [dE ((T9 s).getD jE),j3 (T9 s).isSome]):=⟨fun _=>by
 refine qF func208 ntmps208 fun _ hs=>?_;repeat' first|refine Zz ?_|intro _
 by_cases h64:s.length=64
 rotate_left
 ·have hu:T9 s=none:=by
   unfold T9;rw[if_neg (fun h=>h64 h.1)]
  rw[hu];repeat' first|refine Zz ?_|intro _
  exact d9 rfl
 repeat' first|refine Zz ?_|intro _
 rename_i g2 g4;refine y5 (α:=Nat) (fun i=>[(0,str s),(2,ptr g2),(4,ptr g4),(5,j3 true),(15,int i)]) (fun i=>[.var g4 305 (.agg 3 (zX s i)),.var g2 183 (dE jE)]) (fun i=>i<=3/\∀ j,j<i->dC s j<=1099511627776) (fun i=>3-i) 0 ⟨rfl,rfl,rfl,rfl,rfl,trivial⟩ slr ⟨Nat.zero_le _,fun j h=>absurd h om⟩ ?_;rintro i ⟨hi,hN⟩;by_cases hi':i<3
 rotate_left
 ·obtain rfl:i=3:=by omega
  have h0:=hN 0 om;have h1:=hN 1 om;have h2:=hN 2 om;obtain⟨M,hM⟩:∃ M,rM s=M:=⟨_,rfl⟩;have hB:MkB M:=by
   rw[<- hM];exact⟨by rw[JU];dsimp only;omega,by rw[JU];dsimp only;omega,by rw[JU];dsimp only;omega⟩
  have hok:KH (rM s)=true:=by
   rw[hM];exact dT ⟨hB.e.2,hB.b.2,hB.c.2⟩
  have hu:T9 s=if K4 M=s then some M else none:=by
   unfold T9;rw[hM] at hok ⊢;by_cases h:K4 M=s
   ·rw[if_pos ⟨h64,hok,h⟩,if_pos h]
   ·rw[if_neg (fun e=>h e.2.2),if_neg h]
  have hA:AV.agg 3 (zX s 3)=dE M:=by
   rw[<- hM];rfl
  rw[hA];repeat' first|refine Zz ?_|intro _
  rw[hu];refine o8 (fun h=>?_) (fun h=>?_)
  ·rw[if_neg h];repeat' first|refine Zz ?_|intro _
   exact d9 rfl
  ·rw[if_pos (Classical.not_not.1 h)];repeat' first|refine Zz ?_|intro _
   exact d9 rfl
 repeat' first|refine Zz ?_|intro _
 refine U7 (8*i) (8*i+8) ?_;have hc:((s.take (8*i+8)).drop (8*i)).length=8:=by rw[List.length_drop,List.length_take];omega
 have hnm:dC s i=bI ((s.take (8*i+8)).drop (8*i)) 8:=by
  unfold dC pX bI;rw[List.drop_take,show 8*i+8-8*i=8 by omega,List.take_take,Nat.min_self]
 generalize (s.take (8*i+8)).drop (8*i)=c at *;have hmc:(c.map fun c=>AV.lit (o5 c)).length=8:=by rw[llm,hc]
 repeat' first|refine Zz ?_|intro _
 refine y5 (α:=Nat) (fun k=>[(0,str s),(2,ptr g2),(4,ptr g4),(5,j3 true),(15,int i),(6,int i),(7,.lit (.int .u64 (bI c k))),(25,.sl 1 (c.map fun c=>.lit (o5 c)) none),(26,int ((c.map fun c=>AV.lit (o5 c)).length)),(27,int k)])
  (fun k=>[.var g4 305 (.agg 3 (zX s i)),.var g2 183 (dE jE)]) (fun k=>k<=8) (fun k=>8-k) 0 ⟨rfl,rfl,rfl,rfl,rfl,rfl,rfl,rfl,rfl,rfl,trivial⟩ slr (Nat.zero_le _) ?_
 intro k hk;by_cases hk':k<8
 ·have hkc:k<c.length:=om
  have hst:=KT hkc;have hlt8:=KU c k;have hlt9:=KU c (k+1);have hpw:256 ^ (k+1)<=18446744073709551616:=Nat.pow_le_pow_right (n:=256) (j:=8) dc om;have hby:=c[k].toNat_lt;repeat' first|refine Yz ?_|intro _
  refine aR 7 (v:=.lit (.int .u64 ((bI c k:Int)*256+c[k].toNat))) (v':=.lit (.int .u64 (bI c (k+1)))) (Imp.of_eq (by rw[hst,Int.natCast_add,Int.natCast_mul];rfl)) ?_;exact o6 (k+1) ⟨rfl,rfl,rfl,rfl,rfl,rfl,rfl,rfl,rfl,rfl,trivial⟩ slr hk' om
 ·obtain rfl:k=8:=by omega
  rw[<- hnm];by_cases hn:dC s i<=1099511627776
  ·repeat' first|refine Zz ?_|intro _
   refine O4 i ?_;refine kM (ps:=zX s i) (j:=i) (show i<3 from hi') ?_;rw[Xn hi'];repeat' first|refine Zz ?_|intro _
   refine aR 5 (v:=j3 (decide ((dC s i:Int)<=1099511627776))) (v':=j3 true) (Imp.of_eq (by rw[dT om])) ?_;refine o6 (i+1) ⟨rfl,rfl,rfl,rfl,rfl,trivial⟩ slr ⟨hi',fun j hj=>?_⟩ om;by_cases e:j=i
   ·rw[e];exact hn
   ·exact hN j om
  ·rw[IG hi' om];repeat' first|refine Zz ?_|intro _
   exact d9 rfl⟩
attribute [local irreducible] T9 jE
instance b1M {a b:Bs}:Ans prog GL 100 [str a,str b] True (dE (rR a b)):=⟨fun _=>by
 refine qF func100 ntmps100 fun _ hs=>?_;repeat' first|refine Zz ?_|intro _
 unfold rR;refine o8 (fun h=>?_) (fun h=>?_)
 ·rw[if_pos h];repeat' first|refine Zz ?_|intro _
  exact d9 rfl
 ·rw[if_neg h];repeat' first|refine Zz ?_|intro _
  exact d9 rfl⟩
instance b1K {g gm:Nat}{x:DvX}{vw:Value}:AnsM prog GL 101 g [] 137 (uZ gm x vw) (0<=x.n/\x.n<=4096) (int (J4 x.n)) (uZ gm x vw):=⟨fun hn=>by
 refine qF func101 ntmps101 fun _ hs=>?_;repeat' first|refine Zz ?_|intro _
 exact l9 _ ⟨rfl,rfl⟩ slr⟩
abbrev zH (gd:Nat)(s:SlX):AV:=.agg 6 [ptr gd,dE s.m,str (J2 s.l),j3 s.br]
instance b1N {g gd:Nat}{s:SlX}:AnsM prog GL 135 g [] 198 (zH gd s) True (j3 s.br) (zH gd s):=⟨fun _=>by
 refine qF func135 ntmps135 fun _ hs=>?_;repeat' first|refine Zz ?_|intro _
 cases s.br
 ·repeat' first|refine Zz ?_|intro _
  exact l9 _ ⟨rfl,rfl⟩ slr
 ·repeat' first|refine Zz ?_|intro _
  exact l9 _ ⟨rfl,rfl⟩ slr⟩
structure SlI extends DvI where
 gs:Nat
abbrev O8 (I:SlI)(x:DvX)(s:SlX):List Av.Piece:=.var I.gs 198 (zH I.gd s)::F5 I.toDvI x
theorem a0Y {I:SlI}{x:DvX}{s:SlX}(hn:0<=x.n/\x.n<=4096)(hb:0<=s.m.b/\s.m.b<=1099511627776):Av.Spec prog GL 137 [ptr I.gs] (O8 I x s) fun u m=>u=int (J4 x.n-s.m.b)/\m=O8 I x s:=by
 have hr:-128<=J4 x.n/\J4 x.n<=1000000:=by unfold J4;omega
 refine qF func137 ntmps137 fun _ hs=>?_;repeat' first|refine Zz ?_|intro _
 exact l9 _ ⟨rfl,rfl⟩ slr
end Go.Proofs.YtjhnaegpchadiaaGreatDoor

namespace Go.Proofs.YtjhnaegpchadiaaGreatDoor
open Go Go.RowKit Tw Av Go.Proofs.Tryz
theorem XD {f1 f2:FuncId}[FnB prog f1][FnB prog f2]{cs1 cs2:List Value}{I:DvI}{x:DvX}{A:List Av.Piece}{D L:DvX->DvX}(hlf:0<=x.lf/\x.lf<=1000000)(hc1:∀ v∈cs1,v.oneCell'=true)(hc2:∀ v∈cs2,v.oneCell'=true)
  (h1:Av.Spec prog GL f1 (cs1.map .lit) (F5 I (J3 x)++A) fun u m=>u=.tup []/\∃ v,m=F5 { I with vw:=v } (D (J3 x))++A) (h2:Av.Spec prog GL f2 (cs2.map .lit) (F5 I (dL x)++A) fun u m=>u=.tup []/\∃ v,m=F5 { I with vw:=v } (L (dL x))++A) :
  Av.Spec prog GL 236 [ptr I.gd,F4 f1 cs1,F4 f2 cs2] (F5 I x++A) fun u m=>u=int (if bR x=false then 14 else 0)/\∃ v,m=F5 { I with vw:=v } (if bR x=false then L (dL x) else D (J3 x))++A:=by
 obtain⟨n,es,ck,ws,on,ar,lf,st⟩:=x;dsimp only at hlf;refine qF func236 ntmps236 fun _ hs=>?_;unfold bR;dsimp only;cases ar
 ·repeat' first|refine Zz ?_|intro _
  refine yV ?_;repeat' first|refine Zz ?_|intro _
  refine wX (args:=[]) h1 (fun u m1 hh=>?_) (hcs:=hc1);obtain⟨rfl,v,rfl⟩:=hh;repeat' first|refine Zz ?_|intro _
  exact l9 _ ⟨rfl,v,rfl⟩ slr
 ·by_cases hl:lf=0
  ·subst hl;repeat' first|refine Zz ?_|intro _
   refine wX (args:=[]) h2 (fun u m1 hh=>?_) (hcs:=hc2);obtain⟨rfl,v,rfl⟩:=hh;repeat' first|refine Zz ?_|intro _
   exact l9 _ ⟨rfl,v,rfl⟩ slr
  ·rw[dZ hl];repeat' first|refine Zz ?_|intro _
   refine yV ?_;repeat' first|refine Zz ?_|intro _
   refine wX (args:=[]) h1 (fun u m1 hh=>?_) (hcs:=hc1);obtain⟨rfl,v,rfl⟩:=hh;repeat' first|refine Zz ?_|intro _
   exact l9 _ ⟨rfl,v,rfl⟩ slr
abbrev UM (T3 T4 T5:TypeId)(g3 g4 g5:Nat)(gd:Nat)(a:Int)(s:Bs):List Av.Piece:=[.var g5 T5 (str s),.var g4 T4 (int a),.var g3 T3 (ptr gd)]
theorem Gu {I:DvI}{x:DvX}{T3 T4 T5:TypeId}{g3 g4 g5:Nat}{a:Int}{s:Bs}(hl:x.ws.length<=1000000):Av.Spec prog GL 240 [ptr g3,ptr g4,ptr g5] (F5 I x++UM T3 T4 T5 g3 g4 g5 I.gd a s) fun u m=>u=.tup []/\∃ v,m=F5 { I with vw:=v } (dK x (a,s))++UM T3 T4 T5 g3 g4 g5 I.gd a s:=by
 have hm:(x.ws.map oV).length=x.ws.length:=llm _;refine qF func240 ntmps240 fun _ hs=>?_;repeat' first|refine Zz ?_|intro _
 apply Y8 [2];exact rfl;exact rfl;kernel_rfl;kernel_rfl;intro _ _;refine I1 (fun v'=>?_);refine j4 (R6 [.tail 278 2 v'] [] rfl rfl lpr rfl ?_);repeat' first|refine Zz ?_|intro _
 refine iW _ ⟨rfl,v',?_⟩ slr;unfold dK;dsimp only[F5,uZ];rw[List.map_append];rfl
attribute [local irreducible] fD
theorem Gt {I:DvI}{x:DvX}{a:Int}{s:Bs}(hlf:0<=x.lf/\x.lf<=1000000)(hl:x.ws.length<=1000000):Av.Spec prog GL 144 [ptr I.gd,int a,str s] (F5 I x) fun u m=>u=int (L9 x a s).2/\∃ v,m=F5 { I with vw:=v } (L9 x a s).1:=by
 refine qF func144 ntmps144 fun _ hs=>?_;repeat' first|refine Zz ?_|intro _
 rename_i g3 g4 g5;unfold L9;cases hon:x.on
 ·rw[if_pos rfl];repeat' first|refine Zz ?_|intro _
  refine l9 (F5 I x) ⟨rfl,I.vw,rfl⟩ ?_;exact x9
 rw[if_neg dc];repeat' first|refine Zz ?_|intro _
 cases hh:fD x a
 ·rw[if_pos (.inl rfl)];repeat' first|refine Zz ?_|intro _
  refine l9 (F5 I x) ⟨rfl,I.vw,rfl⟩ ?_;exact x9
 repeat' first|refine Zz ?_|intro _
 by_cases h64:s.length=64
 ·rw[if_neg (by rintro (h|h);cases h;exact h h64),h64];have hcs:∀ v∈[Value.pointer (some ⟨g3,0,none⟩),.pointer (some ⟨g4,0,none⟩),.pointer (some ⟨g5,0,none⟩)],v.oneCell'=true:=by simp[Value.oneCell']
  repeat' first|refine Zz ?_|intro _
  refine gH (vs:=[.pointer (some ⟨g3,0,none⟩),.pointer (some ⟨g4,0,none⟩),.pointer (some ⟨g5,0,none⟩)]) ?_;repeat' first|refine Zz ?_|intro _
  refine Mi (UM _ _ _ g3 g4 g5 I.gd a s) (F5 I x) ?_;refine X4 (XD (D:=fun x=>dK x (a,s)) (L:=fun x=>dK x (a,s)) hlf hcs hcs (Gu hl) (Gu hl)) (fun u m1 hh=>?_);obtain⟨rfl,v,rfl⟩:=hh;cases hm:bR x
  ·rw[if_pos rfl,if_pos rfl,if_pos rfl];repeat' first|refine Zz ?_|intro _
   refine l9 (F5 { I with vw:=v } (dK (dL x) (a,s))) ⟨rfl,v,rfl⟩ ?_;exact x9
  ·rw[if_neg dc,if_neg dc,if_neg dc];repeat' first|refine Zz ?_|intro _
   refine l9 (F5 { I with vw:=v } (dK (J3 x) (a,s))) ⟨rfl,v,rfl⟩ ?_;exact x9
 ·rw[if_pos (.inr h64)];repeat' first|refine Zz ?_|intro _
  refine l9 (F5 I x) ⟨rfl,I.vw,rfl⟩ ?_;exact x9
theorem a0p {n:Int}{gm:Nat}{on ar:Bool}{lf st:Int}:ImpC (.agg 7 [int n,aA gm,.lit (.slice none 0 0),j3 on,j3 ar,int lf,int st]) (.agg 7 [int n,aA gm,.sl 2 [] (some (.slice none 0 0)),j3 on,j3 ar,int lf,int st]):=(inferInstance:ImpT _ _).imp
def aX (x:DvX)(k:Nat):DvX:=(x.ws.take k).foldl aG x
theorem Gb:∀ (ws:List (Int × Bs)) (x:DvX),(ws.foldl aG x).ws=x.ws
 | [],_=>rfl
 | w::ws,x=>Gb ws (aG x w)
theorem Dr {x:DvX}{k:Nat}(h:k<x.ws.length):aX x (k+1)=aG (aX x k) x.ws[k]:=by
 unfold aX;rw[<- List.take_append_getElem h,List.foldl_append];rfl
theorem a1I {I:DvI}{x:DvX}{T1:TypeId}{g1:Nat}(hl:x.ws.length<=1000000):Av.Spec prog GL 237 [ptr g1] (F5 I x++[.var g1 T1 (ptr I.gd)]) fun u m=>u=.tup []/\∃ v,m=F5 { I with vw:=v } (X6 x)++[.var g1 T1 (ptr I.gd)]:=by
 have hm:(x.ws.map oV).length=x.ws.length:=llm _;refine qF func237 ntmps237 fun _ hs=>?_;repeat' first|refine Zz ?_|intro _
 rw[hm];refine y5 (α:=Nat) (fun k=>[(0,ptr g1),(6,.sl 2 (x.ws.map oV) (some I.vw)),(7,int x.ws.length),(8,int k)]) (fun k=>F5 I (aX x k)++[.var g1 T1 (ptr I.gd)]) (fun k=>k<=x.ws.length) (fun k=>x.ws.length-k) 0 ⟨rfl,rfl,rfl,rfl,trivial⟩ slr (Nat.zero_le _) ?_;intro k hk;by_cases hk':k<x.ws.length
 ·repeat' first|refine Zz ?_|intro _
  rename_i g2;refine gJ [_] (F5 I (aX x k)) [_] (a1G (w:=x.ws[k])) (fun u m1 hh=>?_);obtain⟨rfl,rfl⟩:=hh;rw[<- Dr hk'];repeat' first|refine Zz ?_|intro _
  exact o6 (k+1) ⟨rfl,rfl,rfl,rfl,trivial⟩ (List.sublist_cons_self _ _) hk' om
 ·obtain rfl:k=x.ws.length:=by omega
  repeat' first|refine Zz ?_|intro _
  refine GM (g:=I.gd) a0p ?_;refine sJ (fun ok w h=>h.full 278 2 none 0) ?_;rw[show aX x x.ws.length=x.ws.foldl aG x by unfold aX;rw[List.take_length]];refine nU (F5 { I with vw:=.slice none 0 0 } (X6 x)++[.var g1 T1 (ptr I.gd)]) [_,_,_,_] ?_ (List.perm_middle (l₁:=[_,_])) ?_
  ·exact iW _ ⟨rfl,_,rfl⟩ slr
  ·exact x9
instance : FnB prog 239 := ⟨kr⟩
theorem a1H {m:List Av.Piece}:Av.Spec prog GL 239 [] m fun u m'=>u=.tup []/\m'=m:=by
 refine qF func239 ntmps239 fun _ hs=>?_;repeat' first|refine Zz ?_|intro _
 exact iW _ ⟨rfl,rfl⟩ slr
theorem a1J {I:DvI}{x:DvX}(hlf:0<=x.lf/\x.lf<=1000000)(hl:x.ws.length<=1000000):Av.Spec prog GL 139 [ptr I.gd] (F5 I x) fun u m=>u=int (W9 x).2/\∃ v,m=F5 { I with vw:=v } (W9 x).1:=by
 refine qF func139 ntmps139 fun _ hs=>?_;repeat' first|refine Zz ?_|intro _
 rename_i g1;unfold W9;cases hon:x.on
 ·rw[if_pos rfl];repeat' first|refine Zz ?_|intro _
  refine l9 (F5 I x) ⟨rfl,I.vw,rfl⟩ ?_;exact x9
 rw[if_neg dc];have hcs:∀ v∈[Value.pointer (some ⟨g1,0,none⟩)],v.oneCell'=true:=by simp[Value.oneCell']
 repeat' first|refine Zz ?_|intro _
 refine gH (vs:=[.pointer (some ⟨g1,0,none⟩)]) ?_;repeat' first|refine Zz ?_|intro _
 refine Mi [_] (F5 I x) ?_;refine X4 (XD (cs2:=[]) (D:=X6) (L:=fun x=>x) hlf hcs sm (a1I hl) (a1H.mono fun _ _ h=>⟨h.1,I.vw,h.2⟩)) (fun u m1 hh=>?_);obtain⟨rfl,v,rfl⟩:=hh;cases hm:bR x
 ·rw[if_pos rfl,if_pos rfl,if_pos rfl];repeat' first|refine Zz ?_|intro _
  refine l9 (F5 { I with vw:=v } (dL x)) ⟨rfl,v,rfl⟩ ?_;exact x9
 ·rw[if_neg dc,if_neg dc,if_neg dc];repeat' first|refine Zz ?_|intro _
  refine l9 (F5 { I with vw:=v } (X6 (J3 x))) ⟨rfl,v,rfl⟩ ?_;exact x9
end Go.Proofs.YtjhnaegpchadiaaGreatDoor
