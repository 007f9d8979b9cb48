/- . -/
import Derived.Test.YtocpacdnjbjjmaaGreatDoorS40
set_option maxHeartbeats 64000000
namespace Go.Proofs.YtocpacdnjbjjmaaGreatDoor
open Go Go.RowKit Tw Av
theorem JS (c:Int)(s:Bs):(o8 c s).length<=s.length+4:=by
 simp[o8,oO,List.length_take];omega
theorem QB (c n:Int):(D8 c n).length<=12:=by
 have:=IB 8 n.toNat;have:=JS c (V4 8 n.toNat);show (oO _ (V4 8 n.toNat)).length<=12;unfold o8 at this;omega
def wY (l:List Bs):Nat:=(l.map List.length).sum
theorem Kc (c:Int):∀ l:List Bs,(l.flatMap (o8 c)).length<=wY l+4*l.length
 | []=>by simp[wY]
 | s::l=>by
  have h1:=Kc c l;have h2:=JS c s;unfold wY at h1 ⊢;rw[List.flatMap_cons,lla,List.map_cons,List.sum_cons,List.length_cons];omega
theorem Ol (b:BlkX):(K5 b).length<=wY b.x+4*b.x.length+28:=by
 have h1:=QB 104 b.h;have h2:=QB 116 b.t;have h3:=JS 120 (b.x.flatMap (o8 120));have h4:=Kc 120 b.x;show (D8 104 b.h++D8 116 b.t++o8 120 (b.x.flatMap (o8 120))).length<=_;rw[lla,lla];omega
theorem QE {n:Nat}:∀ {l:List Bs},(∀ s∈l,s.length<=n)->wY l<=n*l.length
 | [],_=>by simp[wY]
 | s::l,h=>by
  have h1:=QE (l:=l) (fun t ht=>h t (by simp[ht]));have h2:=h s sm;unfold wY at h1 ⊢;rw[List.map_cons,List.sum_cons,List.length_cons,Nat.mul_add];omega
theorem NV {b:BlkX}(h:BkG b):(K5 b).length<=200000:=by
 have h1:=Ol b;have h2:=QE h.s;have h3:=h.l;omega
theorem Cr (s:Bs):(y7 s).length<=s.length+16:=by
 unfold y7;rw[lla];have:=JS 82 s;have:=QB 83 (dN (o8 82 s));omega
def dR (bs:List BlkX):Bs:=J2 (bs.map K5)
def MC (bs:List BlkX):MkX:=⟨bs.length,(dR bs).length,bs.length⟩
def F9 (bs:List BlkX):SlX:=⟨MC bs,dR bs,false⟩
theorem FX (bs:List BlkX)(b:BlkX):dR (bs++[b])=dR bs++y7 (K5 b):=by
 unfold dR J2;rw[List.map_append,List.flatMap_append];simp
theorem SQ (bs:List BlkX)(b:BlkX):xN (F9 bs) (K5 b)=F9 (bs++[b]):=by
 unfold xN F9 MC F5;rw[FX];simp
structure Ro (x:DvX)(bs:List BlkX):Prop where
 dv:DvOk x
 on:x.on=true
 ws:x.ws=[]
 n:3<=x.n
 fit:DFits (D9 x) (dR bs) (MC bs)
 rm:((dR bs).length:Int)<=M0 x.n
 bg:BsG bs
theorem a0Z:J9 iH=qH:=by kernel_rfl
theorem KJ {n:Int}(h:3<=n)(h2:n<=4096):Ro (iM n) []:=by
 have hz:∀ a,D9 (iM n) a=qH:=fun a=>rfl;refine⟨⟨⟨by show 0<=n;omega,h2⟩,?_,?_,?_,by show (0:Int)<=0/\(0:Int)<=1000000;decide⟩,rfl,rfl,h,⟨fun a=>by rw[hz];exact XC,?_,⟨by show (0:Int)<=0/\(0:Int)<200;decide,?_,?_,0,?_,dc,.inr rfl⟩⟩,?_,?_⟩
 ·exact List.Pairwise.nil
 ·simp[iM]
 ·simp[iM]
 ·intro j hj;simp[dR,J2] at hj
 ·exact⟨dc,dc,dc⟩
 ·rw[hz];exact a0Z.symm
 ·rw[hz];kernel_rfl
 ·show (0:Int)<=(n-2)*64;omega
 ·exact⟨sm,sm,fun i h=>by simp at h⟩
theorem Bh {x:DvX}{bs:List BlkX}(h:Ro x bs):kI x=0/\dO x=F9 bs/\FP x=bs.map K5:=
 a1s h.dv h.on h.ws h.fit rfl (by show ((bs.length:Nat):Int)=((bs.map K5).length:Nat);rw[llm]) h.rm (by have:=h.n;omega)
  (fun s hs=>by
   obtain⟨b,hb,rfl⟩:=List.mem_map.1 hs;have:=NV (h.bg.g b hb).1;omega)
theorem a0b {x:DvX}{bs:List BlkX}(h:Ro x bs)(he:bs.length<190):LogOk x (F9 bs):=
 ⟨h.dv,h.on,h.ws,h.fit,rfl,h.rm,h.n,rfl,by show ((bs.length:Nat):Int)<190;omega,by show (0:Int)<=((bs.length:Nat):Int)/\((bs.length:Nat):Int)<=1000;omega⟩
section
variable {nm ky:Bs} {d:List Ent} {bs:List BlkX} {ws:List Bs} {x:DvX}
def x8 (nm ky:Bs)(d:List Ent)(bs:List BlkX)(ws:List Bs)(dd:Bool):ChX:={ opC nm ky d bs with ws:=ws,dd:=dd }
theorem WB (hd:DOk d)(hb:BsG bs):x8 nm ky d bs [] false=opC nm ky d bs:=by
 have h:=AR (nm:=nm) (ky:=ky) hd hb bs.length (Nat.le_refl _);rw[List.take_length] at h;unfold x8;rw[<- h.ws,<- h.dd]
theorem vQ (hd:DOk d)(hb:BsG bs):OpI nm ky bs (opC nm ky d bs):=by
 have h:=AR (nm:=nm) (ky:=ky) hd hb bs.length (Nat.le_refl _)
 rwa [List.take_length] at h
structure WsG (ws:List Bs):Prop where
 l:ws.length<=16
 t:∀ s∈ws,Tx20 s
theorem YS (hb:BsG bs):0<=aW bs/\aW bs<=1099511627776:=by
 unfold aW;cases h:bs.getLast? with
 | none=>simp
 | some b=>exact(hb.g b (List.mem_of_getLast? h)).1.t
def L6 (bs:List BlkX)(ws:List Bs)(t:Int):BlkX:=⟨bs.length+1,max (min t 1099511627776) (aW bs),ws⟩
theorem SS (hb:BsG bs)(hl:bs.length<190)(hw:WsG ws)(t:Int):BsG (bs++[L6 bs ws t]):=by
 have ht:=YS hb;refine⟨by rw[lla,List.length_singleton];omega,?_,?_⟩
 ·intro b hm;rcases List.mem_append.1 hm with hm|hm
  ·exact hb.g b hm
  ·obtain rfl:=List.mem_singleton.1 hm;refine⟨⟨?_,?_,hw.l,fun s hs=>(hw.t s hs).1⟩,hw.t⟩
   ·show (1:Int)<=bs.length+1/\((bs.length:Nat):Int)+1<=1099511627776;omega
   ·show 0<=max (min t 1099511627776) (aW bs)/\max (min t 1099511627776) (aW bs)<=1099511627776;omega
 ·intro i hi;rw[lla,List.length_singleton] at hi;by_cases h:i<bs.length
  ·rw[List.getElem_append_left h,List.take_append_of_le_length om];exact hb.h i h
  ·obtain rfl:i=bs.length:=by omega
   rw[List.getElem_append_right (Nat.le_refl _),List.take_left];simp only[Nat.sub_self,List.getElem_singleton];refine⟨rfl,?_⟩;show aW bs<=max (min t 1099511627776) (aW bs);omega
theorem WA (hd:DOk d)(h:Ro x bs)(hl:bs.length<190)(hw:WsG ws):ChOk x (F9 bs) (x8 nm ky d bs ws false):=by
 have o:=vQ (nm:=nm) (ky:=ky) hd h.bg;have h1:=o.hs;have h2:=o.ms;have h3:=o.ev;have h4:=h.dv.n;have h5:=h.rm;have h6:M0 x.n=(x.n-2)*64:=rfl;refine⟨h.dv,by rw[h.ws];decide,?_,?_,?_,rfl,?_,?_,o.st,hw.l,hw.t,?_⟩
 ·show (0:Int)<=((bs.length:Nat):Int)/\((bs.length:Nat):Int)<=1000000;omega
 ·show (0:Int)<=(((dR bs).length:Nat):Int)/\(((dR bs).length:Nat):Int)<=1000000;omega
 ·show (0:Int)<=((bs.length:Nat):Int)/\((bs.length:Nat):Int)<=1000000;omega
 ·show (opC nm ky d bs).hs.length<(opC nm ky d bs).ms.length/\(opC nm ky d bs).ms.length<=100000;omega
 ·show (opC nm ky d bs).ev.length<=100000;omega
 ·show 0<=fB (opC nm ky d bs)/\fB (opC nm ky d bs)<=1099511627776;rw[o.tm];exact YS h.bg
theorem Mf (hd:DOk d)(hb:BsG bs){t:Int}:dX (x8 nm ky d bs ws false) t=L6 bs ws t:=by
 have o:=vQ (nm:=nm) (ky:=ky) hd hb;unfold dX L6;have h1:(x8 nm ky d bs ws false).hs.length=bs.length:=o.hs;have h2:fB (x8 nm ky d bs ws false)=aW bs:=o.tm;rw[h1,h2];rfl
theorem a5z (hd:DOk d)(hb:BsG bs){b:BlkX}:dW { x8 nm ky d bs ws false with ws:=[] } b=x8 nm ky d (bs++[b]) [] false:=by
 have o:=vQ (nm:=nm) (ky:=ky) hd hb;have e:({ x8 nm ky d bs ws false with ws:=[] }:ChX)=opC nm ky d bs:=WB hd hb;rw[e,<- LF];unfold x8;have hw:(opC nm ky d (bs++[b])).ws=[]:=by rw[LF];exact o.ws
 have hdd:(opC nm ky d (bs++[b])).dd=false:=by rw[LF];exact o.dd
 rw[<- hw,<- hdd]
inductive CuS (nm ky:Bs)(d:List Ent)(x:DvX)(bs:List BlkX)(ws:List Bs)(t:Int):DvX->SlX->ChX->Int->List Rep->Prop where
 | full (h:M0 x.n-(dR bs).length<(y7 (K5 (L6 bs ws t))).length):CuS nm ky d x bs ws t x (F9 bs) (x8 nm ky d bs ws false) 15 []
 | lost (y:DvX) (hy:y.n=x.n) (ha:x.ar=true) (h:Old y (F9 bs) (F9 (bs++[L6 bs ws t]))) (hr:((dR (bs++[L6 bs ws t])).length:Int)<=M0 x.n):CuS nm ky d x bs ws t y { F9 bs with br:=true } (x8 nm ky d bs ws true) 14 []
 | yes (y:DvX) (hy:y.n=x.n) (ha:y.ar=x.ar) (h:Ro y (bs++[L6 bs ws t])):CuS nm ky d x bs ws t y (F9 (bs++[L6 bs ws t])) (x8 nm ky d (bs++[L6 bs ws t]) [] false) 0 (M7 (L9 (opC nm ky d bs)) (L6 bs ws t)).2.1
theorem NM (hd:DOk d)(h:Ro x bs)(hl:bs.length<189)(hw:WsG ws)(t:Int) :
  CuS nm ky d x bs ws t (J4 x (F9 bs) (x8 nm ky d bs ws false) t).1 (J4 x (F9 bs) (x8 nm ky d bs ws false) t).2.1 (tC x (F9 bs) (x8 nm ky d bs ws false) t) (J4 x (F9 bs) (x8 nm ky d bs ws false) t).2.2 (sZ x (F9 bs) (x8 nm ky d bs ws false) t):=by
 have hg:=SS h.bg om hw t;have hbl:=NV (hg.g (L6 bs ws t) sm).1;have hbe:=Mf (nm:=nm) (ky:=ky) (ws:=ws) hd h.bg (t:=t);unfold tC sZ;have hq:J4 x (F9 bs) (x8 nm ky d bs ws false) t=fK x (F9 bs) (K5 (L6 bs ws t)):=by unfold J4;rw[hbe]
 rw[hq,hbe];have hs:=a6e (r:=K5 (L6 bs ws t)) (a0b h om);have hlen:((dR (bs++[L6 bs ws t])).length:Int)=(dR bs).length+(y7 (K5 (L6 bs ws t))).length:=by
  rw[FX,lla];omega
 have hst:L9 (x8 nm ky d bs ws false)=L9 (opC nm ky d bs):=rfl;have hroom:(fK x (F9 bs) (K5 (L6 bs ws t))).2.2≠15->¬ M0 x.n-(dR bs).length<((y7 (K5 (L6 bs ws t))).length:Int):=by
  intro h1 h2;apply h1;unfold fK;rw[if_neg (show ¬ (F9 bs).br=true from by show ¬ (false=true);decide),if_neg om,if_pos (show M0 x.n-(F9 bs).m.b<((y7 (K5 (L6 bs ws t))).length:Int) from h2)]
 generalize hz:fK x (F9 bs) (K5 (L6 bs ws t))=z at *;rcases hs with⟨e,he⟩|⟨y,hy,ha,ho⟩|⟨y,hy,ha,hr,hL,hf,hk,hn,hw',hm⟩
 ·rcases he with⟨_,he⟩|⟨rfl,he⟩
  ·omega
  ·rw[if_neg (show ¬ ((15:Int)=0) by decide),if_neg (show ¬ ((15:Int)=0) by decide)];exact .full he
 ·rw[if_neg (show ¬ ((14:Int)=0) by decide),if_neg (show ¬ ((14:Int)=0) by decide)];rw[SQ] at ho;have:=hroom (show (14:Int)≠15 by decide);exact .lost y hy ha ho om
 ·have hst2:=hroom (show (0:Int)≠15 by decide);rw[if_pos rfl,if_pos rfl,SQ,a5z hd h.bg,hst];have e:=congrArg SlX.m (SQ bs (L6 bs ws t));refine .yes y hy ha ⟨hk,hn,hw',by rw[hy];exact h.n,?_,by rw[hy];omega,hg⟩;rw[FX,<- show F5 (F9 bs) (K5 (L6 bs ws t))=MC (bs++[L6 bs ws t]) from e];exact hf
end
end Go.Proofs.YtocpacdnjbjjmaaGreatDoor

namespace Go.Proofs.YtocpacdnjbjjmaaGreatDoor
open Go Go.RowKit Tw Av Go.Proofs.Tryz
attribute [local irreducible] lT
instance (priority:=high) b6w {d:List Ent}{h t:Int}{x:TxX}{xs:List AV}{id:Option Value}[hx:Ents xs d]:Ans prog GL 78 [.sl 2 xs id,U0 x,int h,int t] ((DOk d/\TxB x)/\K20 x.k) (qA (lT d x)):=⟨fun hp=>by
 obtain⟨hq,hk⟩:=hp;refine qE func78 rfl ntmps78 rfl (fun _ hs=>?_);rcases hk with h|h
 ·repeat' first|refine Zz ?_|intro _
  refine d9 ?_;rfl
 ·repeat' first|refine Zz ?_|intro _
  refine d9 ?_;rfl⟩
theorem a4V {d:List Ent}{x:TxX}{h t:Int}(hk:K20 x.k):vY d (lT d x)=E5 d x h t:=by
 rcases hk with e|e
 ·rw[a4W e,VL e]
 ·rw[a4U e,VK e]
attribute [local irreducible] E5
instance (priority:=high) Jq {d:List Ent}{h t:Int}{x:TxX}{xs:List AV}{id:Option Value}[hx:Ents xs d]:Ans prog GL 35 [.sl 2 xs id,U0 x,int h,int t] ((DOk d/\TxB x)/\K20 x.k) (.tup [Z9 (E5 d x h t).1,J6 (E5 d x h t).2]):=⟨fun hp=>by
 have h':=hx.out;subst h';refine qE func35 rfl ntmps35 rfl (fun _ hs=>?_);refine aM 0 Imp.sl ?_;repeat' first|refine Zz ?_|intro _
 rw[<- a4V hp.2];unfold vY;by_cases h:(lT d x).2.e=0
 ·rw[if_pos h,dZ (nni h)];repeat' first|refine Zz ?_|intro _
  refine d9 ?_;rfl
 ·rw[if_neg h,dT h];repeat' first|refine Zz ?_|intro _
  refine d9 ?_;rfl⟩
end Go.Proofs.YtocpacdnjbjjmaaGreatDoor

namespace Go.Proofs.YtocpacdnjbjjmaaGreatDoor
open Go Go.RowKit Tw Av Go.Proofs.Tryz
attribute [local irreducible] E5
def zB:TxX:=⟨1,[],[],[],[],[],0,⟨[],0,0,J7⟩,J7,⟨0,[],[],[120],⟨20,dc⟩,[],[97,110,110],0,0⟩,[],0,⟨0,0,[]⟩,⟨0,[],[],⟨0,0,[]⟩,⟨0,0,[]⟩⟩⟩
def y9:List Ent:=[⟨F7 [97,110,110] [120],X9 20⟩,⟨O4 [120],X9 20⟩]
theorem a5A:E5 [] zB 1 1=(y9,vM):=by kernel_rfl
theorem uT:DOk y9:=⟨by simp[Srt,y9];decide,by intro x hx;simp[y9] at hx;rcases hx with rfl|rfl <;> decide,dc⟩
theorem wE:dG y9=y9:=by kernel_rfl
theorem Sm:TxB zB:=⟨dc,dc,dc,dc,dc,dc,dc,dc,dc,dc,dc,dc,dc,dc,dc⟩
set_option maxRecDepth 100000 in
instance b7N:Ans prog GL 8 [] True (.sl 2 (y9.map C8) none):=⟨fun _=>by
 refine qE func8 rfl ntmps8 rfl (fun _ hs=>?_);repeat' first|refine Zz ?_|intro _
 refine nL 10 (v':=U0 zB) ?_ ?_
 ·show Imp _ (.agg 100 [int 1,str [],str [],str [],str [],str [],int 0,.agg 35 [str [],int 0,int 0,hA J7],hA J7,.agg 12 [int 0,str [],str [],.agg 7 [str [120],.agg 4 [.lit (.int .u64 20),.lit (.int .u64 0),.lit (.int .u64 0),.lit (.int .u64 0)],str [],str [97,110,110]],int 0,int 0],str [],int 0,.agg 3 [int 0,int 0,.sl 32 [] none],.agg 9 [int 0,.sl 2 [] none,.sl 2 [] none,.agg 3 [int 0,int 0,.sl 32 [] none],.agg 3 [int 0,int 0,.sl 32 [] none]]]);exact ImpR.imp
 have hp:(DOk []/\TxB zB)/\K20 zB.k:=⟨⟨.nil,Sm⟩,.inl rfl⟩;refine Qs [.sl 2 [] none,U0 zB,int 1,int 1] (hc:=Jq (d:=[]) (xs:=[]) (id:=none) (hx:=⟨rfl⟩)) (hp:=hp) ?_;rw[a5A];repeat' first|refine Zz ?_|intro _
 refine d9 ?_;rfl⟩
end Go.Proofs.YtocpacdnjbjjmaaGreatDoor

namespace Go.Proofs.YtocpacdnjbjjmaaGreatDoor
open Go Go.RowKit Tw Av Go.Proofs.Tryz
def sN (j:Nat):Bs:=match j with|0=>[97,110,110]|1=>[98,111,98]|2=>[99,97,116]|_=>[97,110,110]
def rV (k:Int)(a i j:Nat):TxX:=⟨k,[],[],[],[],[],0,⟨[],0,0,J7⟩,J7,⟨0,[],[],[120],X4 a,sN i,sN j,0,0⟩,[],0,⟨0,0,[]⟩,⟨0,[],[],⟨0,0,[]⟩,⟨0,0,[]⟩⟩⟩
def PW (n:Int):TxX:=rV (if n / 128%4=1 then 1 else 2) (n%8).toNat (n / 8%4).toNat (n / 32%4).toNat
def bI (n:Int):Bs:=if n / 128%8=2 then [110,111,110,101] else gV (PW n)
attribute [local irreducible] gV X4
theorem YM {k a:Int}{i j:Nat}(h0:0<=a)(h1:a<8):Imp (.agg 100 [int k,str [],str [],str [],str [],str [],int 0,.agg 35 [str [],int 0,int 0,hA J7],hA J7,.agg 12 [int 0,str [],str [],.agg 7 [str [120],.agg 4 [.lit (.int .u64 a),.lit (.int .u64 0),.lit (.int .u64 0),.lit (.int .u64 0)],str (sN i),str (sN j)],int 0,int 0],str [],int 0,.agg 3 [int 0,int 0,P9],.agg 9 [int 0,P9,P9,.agg 3 [int 0,int 0,P9],.agg 3 [int 0,int 0,P9]]]) (U0 (rV k a.toNat i j)):=by
 have e:=Uu h0 h1;show Imp _ (.agg 100 [int k,str [],str [],str [],str [],str [],int 0,.agg 35 [str [],int 0,int 0,hA J7],hA J7,.agg 12 [int 0,str [],str [],.agg 7 [str [120],C9 (X4 a.toNat),str (sN i),str (sN j)],int 0,int 0],str [],int 0,.agg 3 [int 0,int 0,.sl 32 [] none],.agg 9 [int 0,.sl 2 [] none,.sl 2 [] none,.agg 3 [int 0,int 0,.sl 32 [] none],.agg 3 [int 0,int 0,.sl 32 [] none]]]);rw[e];exact ImpR.imp
theorem Ev {i:Nat}(h:i<4):([str [97,110,110],str [98,111,98],str [99,97,116],str [97,110,110]]:List AV)[i]?=some (str (sN i)):=by
 match i,h with
 | 0,_=>rfl
 | 1,_=>rfl
 | 2,_=>rfl
 | 3,_=>rfl
theorem Sd:GapW ⟨0,[],[],⟨0,0,[]⟩,⟨0,0,[]⟩⟩:=⟨⟨dc,dc,dc,dc⟩,⟨dc,dc,dc,dc⟩,dc⟩
theorem YL {k:Int}{a i j:Nat}(h:k<=16):TxW (rV k a i j):=
 have z:(0:Int)<=9223372036854775807:=dc
 ⟨Int.le_trans h dc,z,z,z,z,z,z,z,⟨Nat.zero_le _,z,z⟩,Sd⟩
set_option maxRecDepth 100000 in
instance b4B {n:Int}:Ans prog GL 12 [int n] True (str (bI n)):=⟨fun _=>by
 obtain⟨i,hi,hi4⟩:∃ i:Nat,n / 8%4=(i:Int)/\i<4:=⟨(n / 8%4).toNat,om,om⟩;obtain⟨j,hj,hj4⟩:∃ j:Nat,n / 32%4=(j:Int)/\j<4:=⟨(n / 32%4).toNat,om,om⟩;have ha0:0<=n%8:=by omega
 have ha1:n%8<8:=om
 refine qE func12 rfl ntmps12 rfl (fun _ hs=>?_);repeat' first|refine Zz ?_|intro _
 apply u7 [];exact rfl;exact rfl;kernel_rfl;intro _ _;refine IR ?_;exact j4 (o7 rfl rfl);repeat' first|refine Zz ?_|intro _
 apply u7 [];exact rfl;exact rfl;kernel_rfl;intro _ _;refine O8 i ?_ rfl rfl hi hi4;exact j4 (o7 rfl rfl);apply u7 [0];exact rfl;exact rfl;kernel_rfl;intro _ _;refine bR (j:=i) (Ev hi4) ?_;exact j4 (o7 rfl rfl);repeat' first|refine Zz ?_|intro _
 apply u7 [];exact rfl;exact rfl;kernel_rfl;intro _ _;refine O8 j ?_ rfl rfl hj hj4;exact j4 (o7 rfl rfl);apply u7 [0];exact rfl;exact rfl;kernel_rfl;intro _ _;refine bR (j:=j) (Ev hj4) ?_;exact j4 (o7 rfl rfl);repeat' first|refine Zz ?_|intro _
 unfold bI PW;have ei:(n / 8%4).toNat=i:=by omega
 have ej:(n / 32%4).toNat=j:=om
 rw[ei,ej];by_cases k1:n / 128%4=1
 ·rw[if_neg (show ¬ n / 128%8=2 by omega),if_pos k1];have hw:TxW (rV 1 (n%8).toNat i j):=YL dc;rw[dT (show n / ((2 ^ 7:Nat):Int)%4=1 from k1)];repeat' first|refine Zz ?_|intro _
  refine IR ?_;repeat' first|refine Zz ?_|intro _
  rw[dZ (show ¬ n / ((2 ^ 7:Nat):Int)%8=2 from fun (e:n / 128%8=2)=>by omega)];repeat' first|refine Zz ?_|intro _
  refine nL 33 (v':=U0 (rV 1 (n%8).toNat i j)) (YM ha0 ha1) ?_;repeat' first|refine Zz ?_|intro _
  refine d9 ?_;rfl
 ·rw[if_neg k1];have hw:TxW (rV 2 (n%8).toNat i j):=YL dc;rw[dZ (show ¬ n / ((2 ^ 7:Nat):Int)%4=1 from k1)];by_cases k2:n / 128%8=2
  ·rw[if_pos k2];repeat' first|refine Zz ?_|intro _
   refine IR ?_;repeat' first|refine Zz ?_|intro _
   rw[dT (show n / ((2 ^ 7:Nat):Int)%8=2 from k2)];repeat' first|refine Zz ?_|intro _
   refine d9 ?_;rfl
  ·rw[if_neg k2];repeat' first|refine Zz ?_|intro _
   refine IR ?_;repeat' first|refine Zz ?_|intro _
   rw[dZ (show ¬ n / ((2 ^ 7:Nat):Int)%8=2 from k2)];repeat' first|refine Zz ?_|intro _
   refine nL 33 (v':=U0 (rV 2 (n%8).toNat i j)) (YM ha0 ha1) ?_;repeat' first|refine Zz ?_|intro _
   refine d9 ?_;rfl⟩
end Go.Proofs.YtocpacdnjbjjmaaGreatDoor

namespace Go.Proofs.YtocpacdnjbjjmaaGreatDoor
open Go Go.RowKit Tw Av
theorem a1F (i:Nat):(sN i).length=3:=by
 unfold sN;split <;> rfl
theorem Wx {k:Int}{a i j:Nat}(h0:0<=k)(h1:k<=16):TxG (rV k a i j):=
 have z:(0:Int)<=0/\(0:Int)<=1099511627776:=dc
 have n0:([]:Bs).length<=4000:=dc
 have n1:([120]:Bs).length<=4000:=dc
 have nm:∀ i,(sN i).length<=4000:=fun i=>by rw[a1F];decide
 ⟨⟨h0,h1⟩,n0,n0,n0,n0,n0,z,n0,z,z,z,z,z,z,n0,n0,n1,nm i,nm j,n0,PH,Sa,nlb (show Nat.ble (jL vC).length 4000=true by kernel_rfl)⟩
theorem Wv:([1,2]:List Int).all (fun k=>(List.range 8).all fun a=>(List.range 4).all fun i=>(List.range 4).all fun j=>Nat.ble (gV (rV k a i j)).length 1000)=true:=by kernel_rfl
theorem Ww {k:Int}{a i j:Nat}(hk:k=1\/k=2)(ha:a<8)(hi:i<4)(hj:j<4):(gV (rV k a i j)).length<=1000:=by
 have h1:=List.all_eq_true.1 Wv k (by rcases hk with rfl|rfl <;> simp);have h2:=List.all_eq_true.1 h1 a (List.mem_range.2 ha);have h3:=List.all_eq_true.1 h2 i (List.mem_range.2 hi);exact nlb (List.all_eq_true.1 h3 j (List.mem_range.2 hj))
theorem zK (n:Int):(bI n).length<=1000:=by
 unfold bI;split
 ·decide
 ·refine Ww ?_ om om om;split
  ·exact .inl rfl
  ·exact .inr rfl
theorem DX (n:Int):Tx20 (bI n):=by
 refine⟨Nat.le_trans (zK n) dc,fun e=>?_⟩;unfold bI at e ⊢;split at e
 ·rw[Zp dc] at e;cases e
 ·rename_i h;rw[if_neg h];have hk:(0:Int)<=(if n / 128%4=1 then 1 else 2)/\(if n / 128%4=1 then (1:Int) else 2)<=16:=by split <;> decide
  have:=(Zo (x:=PW n) (Wx hk.1 hk.2) (Xc _)).1;rw[this];show K20 (if n / 128%4=1 then 1 else 2);split
  ·exact .inl rfl
  ·exact .inr rfl
end Go.Proofs.YtocpacdnjbjjmaaGreatDoor

namespace Go.Proofs.YtocpacdnjbjjmaaGreatDoor
open Go Go.RowKit Tw Av Go.Proofs.Tryz
section
variable {nm ky:Bs} {d:List Ent} {bs:List BlkX} {ws:List Bs} {x:DvX}
theorem UV {I:DvI}{gen:List Ent}{xs:List AV}{id:Option Value}(hxs:xs=gen.map C8)(hn:1<=nm.length/\nm.length<=32/\ky.length<=64)(h:Ro x bs)(hg:gen.length<=1000)(hd:DOk (dG gen))(he:dG gen=d) :
  Av.Spec prog GL 6 [ptr I.gd,str nm,str ky,.sl 2 xs id] (F4 I x) fun u m=>∃ J:ChI,J.gd=I.gd/\J.gm=I.gm/\u=.tup [ptr J.gc,int 0]/\m=O1 J x (F9 bs) (x8 nm ky d bs [] false):=by
 subst he;obtain⟨h0,h1,h2⟩:=Bh h;have:=a4K (I:=I) (id:=id) hxs hn h.dv (by rw[h.ws];decide) h0 h2 h.bg hg hd;rw[h1,<- WB hd h.bg] at this;exact this
theorem Jg {I:ChI}{s:SlX}{t:Bs}(hw:ws.length<=16)(ht:t.length<=6000) :
  Av.Spec prog GL 11 [ptr I.gc,str t] (O1 I x s (x8 nm ky d bs ws false)) fun u m=>(ws.length<16/\u=int 0/\∃ v,m=O1 { I with vt:=v } x s (x8 nm ky d bs (ws++[t]) false))\/(ws.length=16/\u=int 15/\∃ v,m=O1 { I with vt:=v } x s (x8 nm ky d bs ws false)):=by
 refine(GQ (I:=I) (x:=x) (s:=s) (c:=x8 nm ky d bs ws false) (t:=t) (by show ws.length<=1000000;omega)).mono ?_;rintro u m ⟨rfl,v,rfl⟩;have e:eG (x8 nm ky d bs ws false) t=if 16<=ws.length then 15 else 0:=by
  unfold eG;rw[if_neg (show ¬ (x8 nm ky d bs ws false).dd=true from by show ¬ (false=true);decide),if_neg om];rfl
 unfold tZ;rw[e];by_cases hl:16<=ws.length
 ·rw[if_pos hl,if_neg dc];exact .inr ⟨om,rfl,v,rfl⟩
 ·rw[if_neg hl,if_pos rfl];exact .inl ⟨om,rfl,v,rfl⟩
theorem a4F {I:ChI}{t:Int}(hd:DOk d)(h:Ro x bs)(hl:bs.length<189)(hw:WsG ws) :
  Av.Spec prog GL 14 [ptr I.gc,int t] (O1 I x (F9 bs) (x8 nm ky d bs ws false)) fun u m=>∃ v vm vh ve vt y s c e r,CuS nm ky d x bs ws t y s c e r/\u=.tup [.sl 3 (r.map J6) none,int e]/\m=O1 { I with vw:=v,vm:=vm,vh:=vh,ve:=ve,vt:=vt } y s c:=by
 refine(Jy (I:=I) (WA (nm:=nm) (ky:=ky) hd h om hw) rfl (t:=t)).mono ?_;rintro u m ⟨rfl,v,vm,vh,ve,vt,rfl⟩;exact⟨v,vm,vh,ve,vt,_,_,_,_,_,NM hd h hl hw t,rfl,rfl⟩
theorem Gb {t:Int}(h:∀ s∈ws,s.length<=1000):(dR (bs++[L6 bs ws t])).length<=(dR bs).length+1004*ws.length+44:=by
 rw[FX,lla];have h1:=Cr (K5 (L6 bs ws t));have h2:=Ol (L6 bs ws t);have h3:=QE h;have h4:(L6 bs ws t).x=ws:=rfl;rw[h4] at h2;omega
theorem Me {t:Int}{y:DvX}{s:SlX}{c:ChX}{e:Int}{r:List Rep}(hc:CuS nm ky d x bs ws t y s c e r)(ha:x.ar=false)(hr:((dR bs).length:Int)+1004*ws.length+44<=M0 x.n)(hw:∀ s∈ws,s.length<=1000) :
  y.n=x.n/\y.ar=false/\Ro y (bs++[L6 bs ws t])/\s=F9 (bs++[L6 bs ws t])/\c=x8 nm ky d (bs++[L6 bs ws t]) [] false/\e=0/\r=(M7 (L9 (opC nm ky d bs)) (L6 bs ws t)).2.1:=by
 have hn:=Gb (bs:=bs) (t:=t) hw;rw[FX,lla] at hn;cases hc with
 | full h=>omega
 | lost y hy hb=>rw[hb] at ha;cases ha
 | yes y hy hb hR=>exact⟨hy,by rw[hb];exact ha,hR,rfl,rfl,rfl,rfl⟩
theorem Bi {k:List Bool}{torn cut:Int}(h:Ro x bs):Ro (S9 x k torn cut) bs:=by
 have hn:=h.n;have e:S9 x k torn cut={ x with ws:=[],on:=true,ar:=false }:=by
  unfold S9;rw[if_neg om,h.ws];rfl
 rw[e];exact⟨⟨h.dv.n,h.dv.mn,h.dv.el,sm,h.dv.lf⟩,rfl,rfl,h.n,h.fit,h.rm,h.bg⟩
theorem Ni {dd:Bool}(hd:DOk d)(hb:BsG bs):(x8 nm ky d bs ws dd).hs.length=bs.length:=(vQ (nm:=nm) (ky:=ky) hd hb).hs
theorem a6m {dd:Bool}(hd:DOk d)(hb:BsG bs):fB (x8 nm ky d bs ws dd)=aW bs:=(vQ (nm:=nm) (ky:=ky) hd hb).tm
end
theorem a4G {I:DvI}{x:DvX}{bs:List BlkX}(h:Ro x bs):Av.Spec prog GL 26 [ptr I.gd,P9,int 0,int 0] (F4 I x) fun u m=>u=.tup []/\∃ v y,Ro y bs/\y.n=x.n/\m=F4 { I with vw:=v } y:=by
 have hn:=h.n;have hq:=Ju (I:=I) (x:=x) (k:=[]) (torn:=0) (cut:=0) (xs:=[]) (id:=none) h.dv (by rw[h.ws];simp) om (by rw[h.ws];decide) rfl;refine(ZL hq).mono ?_;rintro u m ⟨rfl,v,rfl⟩;exact⟨rfl,v,_,Bi h,(VS om).2.2.1,rfl⟩
set_option maxRecDepth 100000 in
instance c5q:Ans prog GL 5 [] True (j3 true):=⟨fun _=>by
 refine qE func5 rfl ntmps5 rfl (fun _ hs=>?_);repeat' first|refine Zz ?_|intro _
 refine R6 (UY (n:=200) dc dc) (fun u m1 hu=>?_);obtain⟨I,rfl,rfl⟩:=hu;repeat' first|refine Zz ?_|intro _
 refine R6 (UV (nm:=[97]) (ky:=[107]) (gen:=y9) (d:=y9) rfl dc (KJ dc dc) dc (by rw[wE];exact uT) wE) (fun u m1 hu=>?_);obtain⟨J,hj1,hj2,rfl,rfl⟩:=hu;rw[<- hj1];repeat' first|refine Zz ?_|intro _
 refine R6 (Jg dc (Nat.le_trans (zK 1) dc)) (fun u m1 hu=>?_);rcases hu with⟨_,rfl,v1,rfl⟩|⟨hu,_⟩
 rotate_left
 ·exact absurd hu dc
 repeat' first|refine Zz ?_|intro _
 have hr0:=KJ (n:=200) dc dc;have hw1:WsG [bI 1]:=⟨dc,fun s hs=>by rw[List.mem_singleton.1 hs];exact DX 1⟩;refine R6 (a4F (I:={ J with vt:=v1 }) uT hr0 dc hw1) (fun u m1 hu=>?_);obtain⟨v,vm,vh,ve,vt,y,s,c,e,r,hc,rfl,rfl⟩:=hu;obtain⟨hyn,hya,hR,rfl,rfl,rfl,rfl⟩:=Me hc rfl dc (fun s hs=>by rw[List.mem_singleton.1 hs];exact zK 1);repeat' first|refine Zz ?_|intro _
 refine aC (O1 { J with vw:=v,vm:=vm,vh:=vh,ve:=ve,vt:=vt } y (F9 _) (x8 [97] [107] y9 _ [] false) |>.take 6) _ (a4G (I:={ J with vw:=v,vm:=vm,vh:=vh,ve:=ve,vt:=vt }.toDvI) hR) (fun u m1 hu=>?_);obtain⟨rfl,v2,y2,hR2,hn2,rfl⟩:=hu;repeat' first|refine Zz ?_|intro _
 refine aC _ _ (UV (I:=⟨J.gd,J.gm,v2⟩) (nm:=[97]) (ky:=[107]) (gen:=y9) (d:=y9) rfl dc hR2 dc (by rw[wE];exact uT) wE) (fun u m1 hu=>?_);obtain⟨L,hl1,hl2,rfl,rfl⟩:=hu;have e1:=Ni (nm:=[97]) (ky:=[107]) (ws:=[]) (dd:=false) uT hR2.bg;have e2:=a6m (nm:=[97]) (ky:=[107]) (ws:=[]) (dd:=false) uT hR2.bg;have e3:(M7 (L9 (opC [97] [107] y9 [])) (L6 [] ([]++[bI 1]) 5)).2.1.length=1:=(xD ..).1;have e4:([]++[L6 [] ([]++[bI 1]) 5]).length=1:=rfl;have e5:aW ([]++[L6 [] ([]++[bI 1]) 5])=5:=rfl;rw[e4] at e1;rw[e5] at e2;clear hc hr0 hw1;generalize (M7 (L9 (opC [97] [107] y9 [])) (L6 [] ([]++[bI 1]) 5)).2.1=rr at *;generalize x8 [97] [107] y9 ([]++[L6 [] ([]++[bI 1]) 5]) [] false=c at *;have e6:(rr.map J6).length=1:=by rw[llm];exact e3
 refine IQ (O1 L y2 _ c) _ ?_ lpr (List.sublist_append_right _ _);repeat' first|refine Zz ?_|intro _
 rw[e2];refine d9 ?_;rfl⟩
end Go.Proofs.YtocpacdnjbjjmaaGreatDoor

namespace Go.Proofs.YtocpacdnjbjjmaaGreatDoor
open Go Go.RowKit Tw Av
section
variable {nm ky:Bs} {d:List Ent} {bs:List BlkX}
theorem a3z (hb:BsG bs):∀ y∈(opC nm ky d bs).hs,y.h<=9223372036854775807/\y.t<=9223372036854775807:=by
 have key:∀ l:List BlkX,(∀ b∈l,BkG b)->∀ c:ChX,(∀ y∈c.hs,y.h<=9223372036854775807/\y.t<=9223372036854775807)->∀ y∈(l.foldl dW c).hs,y.h<=9223372036854775807/\y.t<=9223372036854775807:=by
  intro l
  induction l with
  | nil=>exact fun _ c h=>h
  | cons b l ih=>
   intro hl c h;rw[List.foldl_cons];refine ih (fun x hx=>hl x (by simp[hx])) _ ?_;intro y hy;rcases List.mem_append.1 (show y∈c.hs++[MU c b] from hy) with hy|hy
   ·exact h y hy
   ·obtain rfl:=List.mem_singleton.1 hy;have g:=hl b sm;have g1:=g.h;have g2:=g.t;show b.h<=9223372036854775807/\b.t<=9223372036854775807;omega
 exact key bs (fun b h=>(hb.g b h).1) _ (by simp[GD])
end

abbrev uU (gd gm gs gc:Nat)(v:Value × Value × Value × Value × Value)(x:DvX)(s:SlX)(c:ChX):List Av.Piece:=O1 ⟨⟨⟨gd,gm,v.1⟩,gs⟩,gc,v.2.1,v.2.2.1,v.2.2.2.1,v.2.2.2.2⟩ x s c
structure LvN (x:DvX)(n:Int)(bs:List BlkX):Prop where
 n:x.n=n
 ar:x.ar=false
 ro:Ro x bs
end Go.Proofs.YtocpacdnjbjjmaaGreatDoor

namespace Go.Proofs.YtocpacdnjbjjmaaGreatDoor
open Go Go.RowKit Tw Av Go.Proofs.Tryz
instance b4U {a:List Rep}{id id2:Option Value}:Ans prog GL 23 [.sl 3 (a.map J6) id,.sl 3 (a.map J6) id2] True (j3 true):=⟨fun _=>by
 have hma:(a.map J6).length=a.length:=llm _;refine qE func23 rfl ntmps23 rfl (fun _ hs=>?_);refine uZ 0 (fun hb=>?_);have hb:=lJ hb;repeat' first|refine Zz ?_|intro _
 refine z8 (α:=Nat) (fun i=>[(0,.sl 3 (a.map J6) id),(1,.sl 3 (a.map J6) id2),(5,int i)]) (fun _=>[]) (fun i=>i<=a.length) (fun i=>a.length-i) 0 ⟨rfl,rfl,rfl,trivial⟩ slr (Nat.zero_le _) ?_;intro i hi;repeat' first|refine Vz ?_|intro _
 refine o9 (fun hlt=>?_) (fun hlt=>?_)
 ·have hia:i<a.length:=om
  repeat' first|refine Vz ?_|intro _
  exact o6 (i+1) ⟨rfl,rfl,rfl,trivial⟩ slr hia om
 ·repeat' first|refine Vz ?_|intro _
  refine d9 ?_;rfl⟩
instance b4T {a:List EvX}{id id2:Option Value}:Ans prog GL 57 [.sl 15 (a.map V9) id,.sl 15 (a.map V9) id2] True (j3 true):=⟨fun _=>by
 have hma:(a.map V9).length=a.length:=llm _;refine qE func57 rfl ntmps57 rfl (fun _ hs=>?_);refine uZ 0 (fun hb=>?_);have hb:=lJ hb;repeat' first|refine Zz ?_|intro _
 refine z8 (α:=Nat) (fun i=>[(0,.sl 15 (a.map V9) id),(1,.sl 15 (a.map V9) id2),(5,int i)]) (fun _=>[]) (fun i=>i<=a.length) (fun i=>a.length-i) 0 ⟨rfl,rfl,rfl,trivial⟩ slr (Nat.zero_le _) ?_;intro i hi;repeat' first|refine Vz ?_|intro _
 refine o9 (fun hlt=>?_) (fun hlt=>?_)
 ·have hia:i<a.length:=om
  repeat' first|refine Vz ?_|intro _
  exact o6 (i+1) ⟨rfl,rfl,rfl,trivial⟩ slr hia om
 ·repeat' first|refine Vz ?_|intro _
  refine d9 ?_;rfl⟩

abbrev MP (l:List Int):AV:=.sl 1 (l.map fun (i:Int)=>(int i:AV)) none
theorem UW {I:DvI}{x:DvX}{bs:List BlkX}(h:Ro x bs):Av.Spec prog GL 6 [ptr I.gd,str [97],str [107],.sl 2 (y9.map C8) none] (F4 I x) fun u m=>∃ gs gc v,u=.tup [ptr gc,int 0]/\m=uU I.gd I.gm gs gc v x (F9 bs) (x8 [97] [107] y9 bs [] false):=by
 refine(UV (nm:=[97]) (ky:=[107]) (gen:=y9) (d:=y9) (id:=none) rfl dc h dc (by rw[wE];exact uT) wE).mono ?_;rintro u m ⟨J,h1,h2,rfl,rfl⟩;obtain⟨⟨⟨⟨gd,gm,v1⟩,gs⟩,gc,v2,v3,v4,v5⟩,hJ⟩:∃ J':ChI,J'=J:=⟨J,rfl⟩;subst hJ;dsimp only at h1 h2;subst h1 h2;exact⟨gs,gc,(v1,v2,v3,v4,v5),rfl,rfl⟩
abbrev V5:=Value × Value × Value × Value × Value
end Go.Proofs.YtocpacdnjbjjmaaGreatDoor

namespace Go.Proofs.YtocpacdnjbjjmaaGreatDoor
open Go Go.RowKit Tw Av
def M4 (x:DvX):List Bs:=(List.range x.n.toNat).map fun (i:Nat)=>D9 x (i:Int)
theorem JY (x:DvX):(M4 x).length=x.n.toNat:=by simp[M4]
theorem zQ {x:DvX}{i:Nat}(h:i<x.n.toNat):(M4 x)[i]?=some (D9 x (i:Int)):=by
 unfold M4;rw[List.getElem?_map,List.getElem?_range h];rfl
theorem Yy {x y:DvX}(hn:x.n=y.n)(h:∀ i:Nat,i<x.n.toNat->D9 x (i:Int)=D9 y (i:Int)):M4 x=M4 y:=by
 unfold M4;rw[<- hn];exact List.map_congr_left fun i hi=>h i (List.mem_range.1 hi)
theorem xA {x y:DvX}(hn:x.n=y.n)(h:x.es=y.es):M4 x=M4 y:=Yy hn fun i _=>by unfold D9;rw[h]
theorem ZP {x:DvX}{w:Int × Bs}(hn:MpN x.es)(h:0<=w.1):M4 (Y6 x w)=(M4 x).set w.1.toNat w.2:=by
 apply List.ext_getElem?;intro i;have e:(Y6 x w).n=x.n:=rfl;rw[List.getElem?_set,JY];by_cases hi:i<x.n.toNat
 ·rw[zQ (x:=Y6 x w) (by rw[e];exact hi),VH hn];by_cases hw:w.1.toNat=i
  ·rw[if_pos hw,if_pos om,if_pos om]
  ·rw[if_neg hw,if_neg om,zQ hi]
 ·rw[List.getElem?_eq_none (by rw[JY,e];omega),List.getElem?_eq_none (l:=M4 x) (by rw[JY];omega)];split
  ·rw[if_neg om]
  ·rfl
theorem Yw {n:Int}:M4 (iM n)=List.replicate n.toNat qH:=by
 apply List.ext_getElem?;intro i;rw[List.getElem?_replicate];split
 ·rename_i h;rw[zQ (x:=iM n) h];rfl
 ·rename_i h;exact List.getElem?_eq_none (by rw[JY];exact Nat.le_of_not_lt h)
end Go.Proofs.YtocpacdnjbjjmaaGreatDoor
