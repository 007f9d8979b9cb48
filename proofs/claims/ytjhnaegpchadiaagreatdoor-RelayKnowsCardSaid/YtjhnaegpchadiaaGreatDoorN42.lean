/- . -/
import Derived.Test.YtjhnaegpchadiaaGreatDoorN41
set_option maxHeartbeats 64000000
namespace Go.Proofs.YtjhnaegpchadiaaGreatDoor
open Go Go.RowKit Tw Av
theorem Li:BsG []:=(ZB (n:=3000) dc dc).bg
theorem a3O:BsG [bk1]:=Cg Li dc ⟨dc,sm⟩ 1
theorem BsG.init {bs:List BlkX}{b:BlkX}(h:BsG (bs++[b])):BsG bs:=by
 refine⟨?_,fun x hx=>h.g x (by simp[hx]),fun i hi=>?_⟩
 ·have:=h.l;rw[lla] at this;omega
 ·have:=h.h i (by rw[lla];omega);rw[List.getElem_append_left hi,List.take_append_of_le_length om] at this;exact this
section
variable {nm:Bs} {bs:List BlkX}
theorem IR (hb:BsG bs)(b:BlkX):o7 (G9 nm (bs++[b]))=(L8 (o7 (G9 nm bs)) b).1:=by
 have o:=nP (nm:=nm) (ky:=y9) dM hb;have o1:=o.ms;have o2:=o.hs;show o7 (opC nm y9 F6 (bs++[b]))=(L8 (o7 (opC nm y9 F6 bs)) b).1;rw[xN];show ((opC nm y9 F6 bs).ms++[(L8 (o7 (opC nm y9 F6 bs)) b).1]).getD ((opC nm y9 F6 bs).hs++[xW (opC nm y9 F6 bs) b]).length []=_;rw[lla,List.length_singleton,List.getD_eq_getElem?_getD,List.getElem?_append_right om,show (opC nm y9 F6 bs).hs.length+1-(opC nm y9 F6 bs).ms.length=0 by omega];rfl
theorem TH (b:BlkX):(G9 nm (bs++[b])).ev=(G9 nm bs).ev++(L8 (o7 (G9 nm bs)) b).2.2:=by
 show (opC nm y9 F6 (bs++[b])).ev=_;rw[xN];rfl
theorem a0w (b:BlkX):(G9 nm (bs++[b])).hs=(G9 nm bs).hs++[xW (G9 nm bs) b]:=by
 show (opC nm y9 F6 (bs++[b])).hs=_;rw[xN];rfl
theorem Qc (hb:BsG bs)(h1:1<=bs.length):vQ (G9 nm bs)=⟨nm,bs.length,O5 bs,uJ (o7 (G9 nm bs))⟩:=by
 obtain⟨l,b,rfl⟩:∃ l b,bs=l++[b]:=⟨bs.dropLast,bs.getLast (by intro e;rw[e] at h1;simp at h1),(List.dropLast_concat_getLast _).symm⟩;have hl:=hb.init;have hh:=(hb.h l.length sm).1;rw[List.getElem_append_right (Nat.le_refl _)] at hh;simp only[Nat.sub_self,List.getElem_singleton] at hh;have o:=nP (nm:=nm) (ky:=y9) dM hl;have on:(G9 nm l).nm=nm:=o.nm;unfold vQ;rw[a0w,lla,List.length_singleton,Nat.add_sub_cancel,List.getD_eq_getElem?_getD,List.getElem?_append_right (Nat.le_refl _),Nat.sub_self];show xW (G9 nm l) b=_;unfold xW;rw[on,hh,DC,IR hl,lla,List.length_singleton];rfl
end
theorem OB {nm:Bs}:o7 (G9 nm [bk1])=F6:=(IR (nm:=nm) Li bk1).trans rfl
theorem Ht {nm:Bs}:(G9 nm [bk1]).ev=[]:=(TH (nm:=nm) (bs:=[]) bk1).trans rfl
theorem TV:F6.length<=1000:=Nat.le_trans FP dc
theorem YS:L8 F6 (G7 [bk1] [G5 lF] 1)=(eP F6 [98] 1 uM,[lN],[]):=YM dM TV dc dc FQ
theorem Su:L8 F6 (G7 [bk1] [G5 oU] 1)=(eP F6 [97] 2 PY,[lN],[]):=YM dM TV dc dc FQ
theorem OA:o7 (G9 [97] M5)=eP F6 [98] 1 uM:=by
 show o7 (G9 [97] ([bk1]++[G7 [bk1] [G5 lF] 1]))=_;rw[IR a3O,OB,YS]
theorem a2f:(G9 [97] M5).ev=[]:=by
 show (G9 [97] ([bk1]++[G7 [bk1] [G5 lF] 1])).ev=_;rw[TH,OB,YS,Ht];rfl
theorem a2e:(G9 [98] qM).ev=[]:=by
 show (G9 [98] ([bk1]++[G7 [bk1] [G5 oU] 1])).ev=_;rw[TH,OB,Su,Ht];rfl
theorem Dv:E9 (o7 (G9 [97] M5)) [107]=1:=by
 rw[OA];exact(UA (h:=0) (t:=0) dM TV dc dc FQ).2.2
theorem CZ {ws:List Bs}:O5 ([bk1]++[G7 [bk1] ws 1])=1:=by
 rw[DC];rfl
theorem FV {nm:Bs}{bs:List BlkX}(hb:BsG bs)(h1:1<=bs.length)(_:O5 bs<=1000) :
  ((((G9 nm bs).hs.length<=1000000/\(G9 nm bs).ky.length<=1000000)/\∀ y∈(G9 nm bs).hs,y.h<=9223372036854775807/\y.t<=9223372036854775807)/\1<=(G9 nm bs).hs.length) /\
  (((G9 nm bs).hs.length<(G9 nm bs).ms.length/\(G9 nm bs).ms.length<=1000000)/\DOk (o7 (G9 nm bs))):=by
 have o:=nP (nm:=nm) (ky:=y9) dM hb;have o1:(G9 nm bs).hs.length=bs.length:=o.hs;have o2:(G9 nm bs).ms.length=bs.length+1:=o.ms;have o3:(G9 nm bs).ky=y9:=o.ky;have hl:=hb.l;rw[o1,o2,o3];exact⟨⟨⟨⟨om,dc⟩,a0v hb⟩,h1⟩,⟨om,om⟩,o.st⟩
theorem WH {x:Hdr}{m:Hsh}(hc:x.c.length<=32)(hh:0<=x.h/\x.h<=1000)(ht:0<=x.t/\x.t<=1000):TxG (M0 [107] x m):=
 have z:(0:Int)<=0/\(0:Int)<=1099511627776:=dc
 have n0:([]:Bs).length<=4000:=dc
 ⟨by show (0:Int)<=4/\(4:Int)<=16;decide,by show 1<=4000;decide,n0,n0,n0,n0,z,by show x.c.length<=4000;omega,by show 0<=x.h/\x.h<=1099511627776;omega,by show 0<=x.t/\x.t<=1099511627776;omega,
  z,z,z,z,n0,n0,n0,n0,n0,n0,GZ,VW,nlb (show Nat.ble (jF qQ).length 4000=true by kernel_rfl)⟩
theorem Pn {x:Hdr}{m:Hsh}(hh:x.h<=1000)(ht:x.t<=1000):TxW (M0 [107] x m):=
 have gz:GapW qQ:=⟨⟨dc,dc,dc,dc⟩,⟨dc,dc,dc,dc⟩,dc⟩;have z:(0:Int)<=9223372036854775807:=by decide
 ⟨by show (4:Int)<=9223372036854775807;decide,z,by show x.h<=9223372036854775807;omega,by show x.t<=9223372036854775807;omega,z,z,z,z,⟨Nat.zero_le _,z,z⟩,gz⟩
theorem Po {x:Hdr}{m:Hsh}(hh:x.h<=1000)(ht:x.t<=1000):TxB (M0 [107] x m):=
 have n0:([]:Bs).length<=400000000:=dc
 have z:(0:Int)<=9223372036854775807:=dc
 ⟨by show 1<=400000000;decide,n0,n0,n0,n0,n0,n0,n0,n0,n0,n0,by show x.h<=9223372036854775807;omega,by show x.t<=9223372036854775807;omega,z,⟨z,z⟩⟩
theorem CW {x:Hdr}{m:Hsh}(hc:x.c.length<=32):(G5 (M0 [107] x m)).length<=1000:=by
 have h1:=dU 99 x.c;have h2:=dU 114 x.r.l;have h3:=x.r.len;have h4:=jP 104 x.h;have h5:=jP 116 x.t;have h6:=dU 77 m.l;have h7:=m.len;have e:(G5 (M0 [107] x m)).length+(j6 99 ([]:Bs)).length+(p9 104 0).length+(p9 116 0).length+(j6 114 F3.l).length+(j6 77 F3.l).length=(G5 (M0 [107] ⟨[],0,0,F3⟩ F3)).length+(j6 99 x.c).length+(p9 104 x.h).length+(p9 116 x.t).length+(j6 114 x.r.l).length+(j6 77 m.l).length:=by
  unfold G5 M0;simp only[List.length_append];omega
 have e3:(G5 (M0 [107] ⟨[],0,0,F3⟩ F3)).length<=500:=nlb kr;omega
def yK (c:Bs)(k:Int)(r:Hsh)(x:Hdr):Cli:={ kK c k r with l:=[⟨k,1,r⟩,R7 x] }
def wS (d:List Ent)(c:Bs)(k:Int)(r:Hsh)(x:Hdr):List Ent:=dW (eP d c k r) (H6 [67] [107]) (P5 (yK c k r x))
theorem a3j {c:Bs}{k:Int}{r:Hsh}{x:Hdr}(h1:k<x.h)(h2:1<=x.t):gW (kK c k r) (R7 x)=yK c k r x:=by
 have e1:F9 [⟨k,1,r⟩] (R7 x).h=1:=by
  unfold F9;rw[List.findIdx_cons,dZ (show ¬ (R7 x).h<=k from by show ¬ x.h<=k;omega)];rfl
 have e2:bE [⟨k,1,r⟩] (R7 x).h=false:=by
  unfold bE;rw[e1];exact dZ (fun h=>absurd h.1 (by show ¬ 1<1;omega))
 have e3:fF [⟨k,1,r⟩] (R7 x) 1=false:=by
  unfold fF;have:Y2 ⟨k,1,r⟩ (R7 x)=true:=by
   unfold Y2;exact dT ⟨h1,h2⟩
  show ((decide (0<1) && !Y2 ⟨k,1,r⟩ (R7 x)) || (decide (1<1)&&_))=false;rw[this];rfl
 unfold gW;rw[show (kK c k r).l=[⟨k,1,r⟩] from rfl,if_neg (by rw[e2];rintro⟨h,_⟩;cases h),if_neg (by rw[e1,e2,e3];rintro (h|h) <;> cases h)];have e4:uS [⟨k,1,r⟩] (R7 x)=[⟨k,1,r⟩,R7 x]:=by
  unfold uS;rw[e1];rfl
 rw[e4];rfl
theorem a3k {c:Bs}{k:Int}{r:Hsh}{x:Hdr}(hc:1<=c.length/\c.length<=32)(hk:1<=k/\k<=1000)(h1:k<x.h/\x.h<=1000)(h2:1<=x.t/\x.t<=1000):V6 (yK c k r x)=true:=by
 unfold V6 yK kK wG;dsimp only;have h0:([107,101,121]:Bs).length<=64/\(1:Int)<=1000/\(1000:Int)<=1099511627776/\1<=[(⟨k,1,r⟩:Sta),R7 x].length/\[(⟨k,1,r⟩:Sta),R7 x].length<=32:=⟨dc,dc,dc,by show 1<=2;decide,by show 2<=32;decide⟩;rw[dT h0,Bool.true_and,List.all_eq_true];intro i hi;have hi:i<2:=List.mem_range.1 hi;obtain rfl|rfl:i=0\/i=1:=by omega
 ·unfold kX;have h1:1<=c.length/\c.length<=32/\1<=k/\k<=1099511627776/\(0:Int)<=1/\(1:Int)<=1099511627776:=⟨hc.1,hc.2,hk.1,om,dc,dc⟩;have h3:Q4 (V9 c ⟨k,1,r⟩)=true:=by
   unfold Q4 V9;exact dT h1
  show (Q4 (V9 c ⟨k,1,r⟩)&&_)=true;rw[h3];rfl
 ·unfold kX;have h1':1<=c.length/\c.length<=32/\1<=x.h/\x.h<=1099511627776/\0<=x.t/\x.t<=1099511627776:=⟨hc.1,hc.2,om,om,om,om⟩;have h3:Q4 (V9 c (R7 x))=true:=by
   unfold Q4 V9;exact dT h1'
  have h4:Y2 ⟨k,1,r⟩ (R7 x)=true:=by
   unfold Y2;exact dT ⟨h1.1,h2.1⟩
  show (Q4 (V9 c (R7 x))&&(decide (1=0) || Y2 ⟨k,1,r⟩ (R7 x)))=true;rw[h3,h4];rfl
theorem a3g {c:Bs}{k:Int}{r:Hsh}{x:Hdr}(hc:c.length<=32):(P5 (yK c k r x)).length<=1000:=by
 show (j6 99 c++j6 107 [107,101,121]++p9 112 1000++p9 102 0++j6 115 (j6 115 (j6 99 c++p9 104 k++p9 116 1++j6 114 r.l)++(j6 115 (j6 99 c++p9 104 x.h++p9 116 x.t++j6 114 x.r.l)++[]))).length<=1000;have h1:=dU 99 c;have h2:=dU 114 r.l;have h3:=r.len;have h4:=dU 107 [107,101,121];have h5:=jP 112 1000;have h6:=jP 102 0;have h7:=jP 104 k;have h8:=jP 116 1;have h9:=dU 115 (j6 99 c++p9 104 k++p9 116 1++j6 114 r.l);have h10:=dU 115 (j6 99 c++p9 104 x.h++p9 116 x.t++j6 114 x.r.l);have h11:=dU 115 (j6 115 (j6 99 c++p9 104 k++p9 116 1++j6 114 r.l)++(j6 115 (j6 99 c++p9 104 x.h++p9 116 x.t++j6 114 x.r.l)++[]));have h12:=dU 114 x.r.l;have h13:=x.r.len;have h14:=jP 104 x.h;have h15:=jP 116 x.t;simp only[List.length_append,List.length_nil,List.length_cons] at *;omega
theorem Pm {d:List Ent}{x:TxX}{t:Int}(h1:M8 d x.i=true)(h2:jM (P8 d x.i) t=true)(h3:Q4 x.h=true)(h4:x.h.c=(P8 d x.i).c)(h5:J8 (P8 d x.i).k x.h=x.m):mP d x t=lT d (H6 [67] x.i) (P5 (gW (P8 d x.i) (R7 x.h))):=by
 have e:bM (P8 d x.i) x.h x.m t=0:=by
  unfold bM;rw[if_neg (by rw[h2];decide),if_neg (by rw[h3,h4];simp),if_neg (by rw[h5];simp)]
 unfold mP gL;rw[if_neg (by rw[h1];decide),e,if_neg dc,if_pos rfl]
section
variable {d:List Ent} {c:Bs} {k:Int} {r:Hsh} {x:Hdr} {h t:Int}
theorem WG (hd:DOk d)(hl:d.length<=900)(hc:1<=c.length/\c.length<=32)(hk:1<=k/\k<=1000)(hn:M8 d [107]=false)(hx:x.c=c)(h1:k<x.h/\x.h<=1000)(h2:1<=x.t/\x.t<=1000)(ht:t<=1000) :
  E8 (eP d c k r) (M0 [107] x (J8 y9 x)) h t=(wS d c k r x,lN)/\DOk (wS d c k r x)/\E9 (wS d c k r x) [107]=x.h:=by
 obtain⟨_,hD,_⟩:=UA (r:=r) (h:=h) (t:=t) hd om hc hk hn;have hm:=Jv (r:=r) hc hk;have hv:P9 (eP d c k r) (H6 [67] [107])=P5 (kK c k r):=by
  unfold eP;rw[IC hd.s,if_pos rfl]
 obtain⟨r1,r2⟩:=PU hm;have hR:P8 (eP d c k r) [107]=kK c k r:=by
  unfold P8;rw[hv,r1]
 have hB:M8 (eP d c k r) [107]=true:=by
  unfold M8;rw[hv,r2];rfl
 have hm2:=a3k (r:=r) (x:=x) hc hk h1 h2;have hlb:=a3g (k:=k) (r:=r) (x:=x) hc.2;have hdl:(eP d c k r).length<=901:=by
  unfold eP;rw[Uo hd.s];split <;> omega
 have hp:J5 (eP d c k r) (H6 [67] [107]) (P5 (yK c k r x))=0:=by
  unfold J5;rw[if_neg (by
   have:(H6 [67] [107]).length<=400:=by decide
   omega)]
  split
  ·rfl
  ·rw[if_neg om]
 have hD2:=hD.put hp;refine⟨?_,hD2,?_⟩
 ·rw[LW rfl,Pm (x:=M0 [107] x (J8 y9 x)) hB (by rw[show (M0 [107] x (J8 y9 x)).i=[107] from rfl,hR];unfold jM;rw[dT (show t<(dF (kK c k r).l).t+(kK c k r).p by show t<1+1000;omega)];rfl) (by
   show Q4 x=true;unfold Q4;exact dT ⟨by rw[hx];exact hc.1,by rw[hx];exact hc.2,om,om,om,om⟩) (by rw[show (M0 [107] x (J8 y9 x)).i=[107] from rfl,hR];exact hx) (by rw[show (M0 [107] x (J8 y9 x)).i=[107] from rfl,hR];rfl)]
  rw[show (M0 [107] x (J8 y9 x)).i=[107] from rfl,show (M0 [107] x (J8 y9 x)).h=x from rfl,hR,a3j h1.1 h2.1];unfold lT mR R4;rw[if_pos hp];rfl
 ·have hv2:P9 (wS d c k r x) (H6 [67] [107])=P5 (yK c k r x):=by
   unfold wS;rw[IC hD.s,if_pos rfl]
  obtain⟨q1,q2⟩:=PU hm2;unfold E9 M8 P8;rw[hv2,q1,q2];rfl
theorem Sm (hd:DOk d)(hl:d.length<=900)(hc:1<=c.length/\c.length<=32)(hk:1<=k/\k<=1000)(hn:M8 d [107]=false)(hx:x.c=c)(h1:k<x.h/\x.h<=1000)(h2:1<=x.t/\x.t<=1000)(ht:t<=1000) :
  L8 (eP d c k r) ⟨h,t,[G5 (M0 [107] x (J8 y9 x))]⟩=(wS d c k r x,[lN],[]):=by
 obtain⟨a1,a2⟩:=JI (WH (x:=x) (m:=J8 y9 x) (by rw[hx];exact hc.2) om om) (Nat.le_trans (CW (by rw[hx];exact hc.2)) dc);obtain⟨b1,_,_⟩:=WG (r:=r) (h:=h) (t:=t) hd hl hc hk hn hx h1 h2 ht;generalize G5 (M0 [107] x (J8 y9 x))=B at a1 a2 ⊢;show fJ h t (eP d c k r,[],[]) B=_;unfold fJ;rw[if_pos a2,a1];unfold xF;dsimp only;rw[b1,if_neg (by rintro⟨_,h2⟩;exact absurd h2 (by show ¬ (13:Int)<=4;decide))];rfl
end
end Go.Proofs.YtjhnaegpchadiaaGreatDoor

namespace Go.Proofs.YtjhnaegpchadiaaGreatDoor
open Go Go.RowKit Tw Av Go.Proofs.Tryz
set_option maxRecDepth 100000 in
instance c1W:Ans prog GL 5 [] True (j3 true):=⟨fun _=>by
 refine qF func5 ntmps5 fun _ hs=>?_;repeat' first|refine Zz ?_|intro _
 refine I8 (args:=[]) [] _ (by rw[hs];exact Gy (.inl rfl)) (fun u m1 hh=>?_) lpr;obtain⟨a,b,hA,hB,rfl,rfl⟩:=hh;have h1:1<=M5.length:=by decide
 have h2:1<=qM.length:=dc
 obtain⟨q1,q2⟩:=FV (nm:=[97]) hA.ro.bg h1 (by show O5 ([bk1]++[G7 [bk1] [G5 lF] 1])<=1000;rw[CZ];decide);obtain⟨q3,q4⟩:=FV (nm:=[98]) hB.ro.bg h2 (by show O5 ([bk1]++[G7 [bk1] [G5 oU] 1])<=1000;rw[CZ];decide);have hk:=Dv;have e1:=a2f;have e2:=a2e;rw[List.append_nil];dsimp only[P6];generalize G9 [97] M5=cA at *;generalize G9 [98] qM=cB at *;repeat' first|refine Zz ?_|intro _
 refine I8 (args:=[ptr a.q.gc,ptr b.q.gc,str [107]]) [.var a.q.gc 108 (A9 a.q.gs a.q.v.2.1 a.q.v.2.2.1 a.q.v.2.2.2.1 a.q.v.2.2.2.2 cA),.var b.q.gc 108 (A9 b.q.gs b.q.v.2.1 b.q.v.2.2.1 b.q.v.2.2.2.1 b.q.v.2.2.2.2 cB)] _ (by rw[hs];exact Vl q2 e1 q3.1 q4.1.2 e2) (fun u m1 hh=>?_) (pO _ pR [11,29,0,1,2,3,4,5,6,7,8,9,10,12,13,14,15,16,17,18,19,20,21,22,23,24,25,26,27,28,30,31,32,33,34,35,36,37]);obtain⟨rfl,rfl⟩:=hh;repeat' first|refine Zz ?_|intro _
 exact d9 rfl⟩

abbrev Oj:AV:=.agg 100 [int 0,str [],str [],str [],str [],str [],int 0,.agg 35 [str [],int 0,int 0,hA F3],hA F3,.agg 12 [int 0,str [],str [],.agg 7 [str [],.agg 4 [.lit (.int .u64 0),.lit (.int .u64 0),.lit (.int .u64 0),.lit (.int .u64 0)],str [],str []],int 0,int 0],str [],int 0,.agg 3 [int 0,int 0,A7],.agg 9 [int 0,A7,A7,.agg 3 [int 0,int 0,A7],.agg 3 [int 0,int 0,A7]]]
instance b1d {i:Bs}:Ans prog GL 8 [K5,str i] True (.tup [Oj,j3 false]):=⟨fun _=>by
 refine qF func8 ntmps8 fun _ hs=>?_;repeat' first|refine Zz ?_|intro _
 exact d9 rfl⟩
instance b1f {i:Bs}:Ans prog GL 15 [K5,K5,str i] True (.sl 100 [] none):=⟨fun _=>Vk⟩
instance b1k {i:Bs}:Ans prog GL 16 [K5,K5,str i] True A7:=⟨fun _=>Jj⟩
instance b1l {i:Bs}:Ans prog GL 17 [K5,K5,str i] True A7:=⟨fun _=>Lu⟩
set_option maxRecDepth 100000 in
instance a1f {i0:Bs}:Ans prog GL 4 [str i0] True (j3 true):=⟨fun _=>by
 refine qF func4 ntmps4 fun _ hs=>?_;repeat' first|refine Zz ?_|intro _
 refine o8 (fun h=>?_) (fun h=>?_)
 ·repeat' first|refine Zz ?_|intro _
  refine U7 0 20 ?_;generalize (i0.take 20).drop 0=i;repeat' first|refine Zz ?_|intro _
  rw[show ((([]:List AV).length:Nat):Int)=0 from rfl];repeat' first|refine Zz ?_|intro _
  exact d9 rfl
 ·repeat' first|refine Zz ?_|intro _
  rw[show ((([]:List AV).length:Nat):Int)=0 from rfl];repeat' first|refine Zz ?_|intro _
  exact d9 rfl⟩
end Go.Proofs.YtjhnaegpchadiaaGreatDoor
