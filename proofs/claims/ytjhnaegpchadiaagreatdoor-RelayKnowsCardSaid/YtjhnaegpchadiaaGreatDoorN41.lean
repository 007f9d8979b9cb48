/- . -/
import Derived.Test.YtjhnaegpchadiaaGreatDoorN40
namespace Go.Proofs.YtjhnaegpchadiaaGreatDoor
open Go Go.RowKit Tw Av Go.Proofs.Tryz
theorem NG {n:Nat}(h:n<18446744073709551616):O0 (Z6 n)=.agg 4 [.lit (.int .u64 (n:Int)),.lit (.int .u64 0),.lit (.int .u64 0),.lit (.int .u64 0)]:=by
 have e:(Z6 n).n=n:=uD om;have h0:lm n 0=n:=by
  unfold lm;rw[Nat.pow_zero,Nat.div_one,Nat.mod_eq_of_lt h]
 have hz:∀ i,1<=i->lm n i=0:=fun i hi=>by
  unfold lm;rw[Nat.div_eq_of_lt (Nat.lt_of_lt_of_le h (by
   have:=Nat.pow_le_pow_right (n:=18446744073709551616) dc hi;rw[Nat.pow_one] at this;exact this))]
 show iL (Z6 n).n=_;rw[e,iL,h0,hz 1 dc,hz 2 dc,hz 3 dc];rfl
theorem Rf {P:Program}{gl:List (Nat × AV)}{f:FuncId}{a b:AV}{r:List AV}{m:List Av.Piece}{K:AV->List Av.Piece->Prop}(hi:∀ ok w v,RV0 ok w a v->RV0 ok w b v)(h:Av.Spec P gl f (b::r) m K):Av.Spec P gl f (a::r) m K:=Av.Spec.mk fun ok w c hS hv=>by
 refine h.run ok w c hS ?_;rw[RVs] at hv ⊢;obtain⟨u,us,h1,h2,h3⟩:=hv;exact⟨u,us,h1,hi _ _ _ h2,h3⟩
abbrev AQ:List Ent:=(eF [] [97,110,110] [120] (Z6 30)).1
abbrev AP:List Ent:=(eF AQ [98,111,98] [99,47,120] (Z6 9)).1
abbrev SV:List Ent:=(eF AP [101,115,99,114,111,119,47,99] [120] (Z6 9)).1
def TJ (o p:Bs):Bs:=p9 115 3++j6 111 o++j6 113 o++j6 112 p
abbrev Fj:List Ent:=(R4 SV ([75]++j6 105 [110]) (TJ [107] [110])).1
abbrev F6:List Ent:=(R4 Fj ([72]++j6 105 [99]) (TJ [110] [99])).1
theorem Fp:DOk SV:=uP (uP (uP .nil))
theorem Fh:DOk Fj:=QB Fp kr
theorem dM:DOk F6:=QB Fh kr
theorem LY:aY F6=F6:=dM.id
theorem FP:F6.length<=10:=nlb kr
theorem FQ:M8 F6 [107]=false:=by kernel_rfl
instance b4l:Ans prog GL 53 [.lit (.slice none 0 0),str [97,110,110],str [120],.agg 4 [.lit (.int .u64 30),.lit (.int .u64 0),.lit (.int .u64 0),.lit (.int .u64 0)]] True (.tup [Y3 AQ,int (eF [] [97,110,110] [120] (Z6 30)).2]):=⟨fun _=>Rf (b:=.sl 2 [] none) (fun ok w v h=>Imp.nilN ok w v h) (by
 rw[<- show O0 (Z6 30)=.agg 4 [.lit (.int .u64 30),.lit (.int .u64 0),.lit (.int .u64 0),.lit (.int .u64 0)] from NG (n:=30) dc];exact(TA (d:=[]) (xs:=[]) (id:=none)).spec .nil)⟩
instance b4k:Ans prog GL 53 [.sl 2 (AQ.map D5) none,str [98,111,98],str [99,47,120],.agg 4 [.lit (.int .u64 9),.lit (.int .u64 0),.lit (.int .u64 0),.lit (.int .u64 0)]] True (.tup [Y3 AP,int (eF AQ [98,111,98] [99,47,120] (Z6 9)).2]):=⟨fun _=>by
 rw[<- show O0 (Z6 9)=.agg 4 [.lit (.int .u64 9),.lit (.int .u64 0),.lit (.int .u64 0),.lit (.int .u64 0)] from NG (n:=9) dc];exact(TA (d:=AQ) (xs:=AQ.map D5) (id:=none)).spec (uP .nil)⟩
instance b4j:Ans prog GL 53 [.sl 2 (AP.map D5) none,str [101,115,99,114,111,119,47,99],str [120],.agg 4 [.lit (.int .u64 9),.lit (.int .u64 0),.lit (.int .u64 0),.lit (.int .u64 0)]] True (.tup [Y3 SV,int (eF AP [101,115,99,114,111,119,47,99] [120] (Z6 9)).2]):=⟨fun _=>by
 rw[<- show O0 (Z6 9)=.agg 4 [.lit (.int .u64 9),.lit (.int .u64 0),.lit (.int .u64 0),.lit (.int .u64 0)] from NG (n:=9) dc];exact(TA (d:=AP) (xs:=AP.map D5) (id:=none)).spec (uP (uP .nil))⟩
attribute [local irreducible] eF R4
instance b4V {o p:Bs}:Ans prog GL 56 [str o,str p] (o.length<=1000000/\p.length<=1000000) (str (TJ o p)):=⟨fun hp=>by
 obtain⟨h1,h2⟩:=hp;refine qF func56 ntmps56 fun _ hs=>?_;repeat' first|refine Zz ?_|intro _
 exact d9 rfl⟩
instance b4Q:Ans prog GL 20 [] True (.sl 2 (F6.map D5) none):=⟨fun _=>by
 have hc:=Fp;have hd:=Fh;have l1:([107]:Bs).length<=1000000/\([110]:Bs).length<=1000000:=⟨dc,dc⟩;have l2:([110]:Bs).length<=1000000/\([99]:Bs).length<=1000000:=⟨dc,dc⟩;refine qF func20 ntmps20 fun _ hs=>?_;repeat' first|refine Zz ?_|intro _
 exact d9 rfl⟩
end Go.Proofs.YtjhnaegpchadiaaGreatDoor

namespace Go.Proofs.YtjhnaegpchadiaaGreatDoor
open Go Go.RowKit Tw Av
def aP (c:Bs)(k:Int)(r:Hsh):TxX:={ iF with k:=3,i:=[107],y:=[107,101,121],e:=1000,h:=⟨c,k,1,r⟩ }
theorem Ju {c:Bs}{k:Int}{r:Hsh}(hc:c.length<=32)(hk:1<=k/\k<=1000):TxG (aP c k r):=
 have z:(0:Int)<=0/\(0:Int)<=1099511627776:=dc
 have n0:([]:Bs).length<=4000:=dc
 ⟨by show (0:Int)<=3/\(3:Int)<=16;decide,by show 1<=4000;decide,n0,n0,n0,by show 3<=4000;decide,by show (0:Int)<=1000/\(1000:Int)<=1099511627776;decide,by show c.length<=4000;omega,by show (0:Int)<=k/\k<=1099511627776;omega,by show (0:Int)<=1/\(1:Int)<=1099511627776;decide,
  z,z,z,z,n0,n0,n0,n0,n0,n0,GZ,VW,nlb (show Nat.ble (jF qQ).length 4000=true by kernel_rfl)⟩
theorem Jt {c:Bs}{k:Int}{r:Hsh}(hk:1<=k/\k<=1000):TxW (aP c k r):=
 have gz:GapW qQ:=⟨⟨dc,dc,dc,dc⟩,⟨dc,dc,dc,dc⟩,dc⟩;have z:(0:Int)<=9223372036854775807:=by decide
 ⟨by show (3:Int)<=9223372036854775807;decide,by show (1000:Int)<=9223372036854775807;decide,by show k<=9223372036854775807;omega,by show (1:Int)<=9223372036854775807;decide,z,z,z,z,⟨Nat.zero_le _,z,z⟩,gz⟩
theorem vD {c:Bs}{k:Int}{r:Hsh}(hc:c.length<=32):(G5 (aP c k r)).length<=1000:=by
 have h1:=dU 99 c;have h2:=dU 114 r.l;have h3:=r.len;have h4:=jP 104 k;have e:(G5 (aP c k r)).length+(j6 99 ([]:Bs)).length=(G5 (aP [] k r)).length+(j6 99 c).length:=by
  unfold G5 aP;simp only[List.length_append];omega
 have e2:(G5 (aP [] k r)).length+(j6 114 F3.l).length=(G5 (aP [] k F3)).length+(j6 114 r.l).length:=by
  unfold G5 aP;simp only[List.length_append];omega
 have e4:(G5 (aP [] k F3)).length+(p9 104 0).length=(G5 (aP [] 0 F3)).length+(p9 104 k).length:=by
  unfold G5 aP;simp only[List.length_append];omega
 have e3:(G5 (aP [] 0 F3)).length<=500:=nlb kr;omega
def kK (c:Bs)(k:Int)(r:Hsh):Cli:=wG [107,101,121] 1000 ⟨c,k,1,r⟩
def eP (d:List Ent)(c:Bs)(k:Int)(r:Hsh):List Ent:=dW d (H6 [67] [107]) (P5 (kK c k r))
theorem Jv {c:Bs}{k:Int}{r:Hsh}(hc:1<=c.length/\c.length<=32)(hk:1<=k/\k<=1000):V6 (kK c k r)=true:=by
 unfold V6 kK wG;dsimp only;have h0:([107,101,121]:Bs).length<=64/\(1:Int)<=1000/\(1000:Int)<=1099511627776/\1<=[R7 ⟨c,k,1,r⟩].length/\[R7 ⟨c,k,1,r⟩].length<=32:=⟨dc,dc,dc,Nat.le_refl 1,by show 1<=32;decide⟩;rw[dT h0,Bool.true_and,List.all_eq_true];intro i hi;obtain rfl:i=0:=by
  have:=List.mem_range.1 hi;simp at this;exact this
 unfold kX;have h1:1<=c.length/\c.length<=32/\1<=k/\k<=1099511627776/\(0:Int)<=1/\(1:Int)<=1099511627776:=⟨hc.1,hc.2,hk.1,om,dc,dc⟩;have h2:Q4 (V9 c ⟨k,1,r⟩)=true:=by
  unfold Q4 V9;exact dT h1
 rw[show ([R7 ⟨c,k,1,r⟩].getD 0 Q7)=⟨k,1,r⟩ from rfl,h2];rfl
theorem a3h {c:Bs}{k:Int}{r:Hsh}(hc:c.length<=32):(P5 (kK c k r)).length<=1000:=by
 show (j6 99 c++j6 107 [107,101,121]++p9 112 1000++p9 102 0++j6 115 (j6 115 (j6 99 c++p9 104 k++p9 116 1++j6 114 r.l)++[])).length<=1000;have h1:=dU 99 c;have h2:=dU 114 r.l;have h3:=r.len;have h4:=dU 107 [107,101,121];have h5:=jP 112 1000;have h6:=jP 102 0;have h7:=jP 104 k;have h8:=jP 116 1;have h9:=dU 115 (j6 99 c++p9 104 k++p9 116 1++j6 114 r.l);have h10:=dU 115 (j6 115 (j6 99 c++p9 104 k++p9 116 1++j6 114 r.l)++[]);simp only[List.length_append,List.length_nil,List.length_cons] at *;omega
theorem UA {d:List Ent}{c:Bs}{k:Int}{r:Hsh}{h t:Int}(hd:DOk d)(hl:d.length<=1000)(hc:1<=c.length/\c.length<=32)(hk:1<=k/\k<=1000)(hn:M8 d [107]=false):E8 d (aP c k r) h t=(eP d c k r,lN)/\DOk (eP d c k r)/\E9 (eP d c k r) [107]=k:=by
 have hm:=Jv (r:=r) hc hk;have hlb:=a3h (k:=k) (r:=r) hc.2;have hp:J5 d (H6 [67] [107]) (P5 (kK c k r))=0:=by
  unfold J5;rw[if_neg (by
   have:(H6 [67] [107]).length<=400:=by decide
   omega)]
  split
  ·rfl
  ·rw[if_neg om]
 have hD:=hd.put hp;refine⟨?_,hD,?_⟩
 ·rw[LX rfl];unfold qI;rw[if_neg (by show ¬ I5 [107]=false;decide),if_neg (by show ¬ M8 d [107]=true;rw[hn];decide)];have e0:qB (aP c k r).y (aP c k r).e (aP c k r).h=0:=by
   unfold qB;exact if_pos hm
  have e1:pY (aP c k r).y (aP c k r).e (aP c k r).h=kK c k r:=by
   unfold pY;exact if_pos hm
  rw[if_neg (by rw[e0];decide),e1];unfold lT mR R4;rw[if_pos (show J5 d (H6 [67] (aP c k r).i) (P5 (kK c k r))=0 from hp)];rfl
 ·have hv:P9 (eP d c k r) (H6 [67] [107])=P5 (kK c k r):=by
   unfold eP;rw[IC hd.s,if_pos rfl]
  obtain⟨r1,r2⟩:=PU hm;unfold E9 M8 P8;rw[hv,r1,r2];rfl
theorem YM {d:List Ent}{c:Bs}{k:Int}{r:Hsh}{h t:Int}(hd:DOk d)(hl:d.length<=1000)(hc:1<=c.length/\c.length<=32)(hk:1<=k/\k<=1000)(hn:M8 d [107]=false):L8 d ⟨h,t,[G5 (aP c k r)]⟩=(eP d c k r,[lN],[]):=by
 obtain⟨a1,a2⟩:=JI (Ju (r:=r) hc.2 hk) (Nat.le_trans (vD hc.2) dc);obtain⟨b1,_,_⟩:=UA (r:=r) (h:=h) (t:=t) hd hl hc hk hn;generalize G5 (aP c k r)=B at a1 a2 ⊢;show fJ h t (d,[],[]) B=_;unfold fJ;rw[if_pos a2,a1];unfold xF;dsimp only;rw[b1,if_neg (by rintro⟨_,h2⟩;exact absurd h2 (by show ¬ (13:Int)<=3;decide))];rfl
end Go.Proofs.YtjhnaegpchadiaaGreatDoor

namespace Go.Proofs.YtjhnaegpchadiaaGreatDoor
open Go Go.RowKit Tw Av Go.Proofs.Tryz
abbrev y9:Bs:=[107,101,121]
theorem Gs {nm:Bs}(hn:1<=nm.length/\nm.length<=32/\y9.length<=64){I:DvI}{x:DvX}{bs:List BlkX}(h:Ro x bs):Av.Spec prog GL 18 [ptr I.gd,str nm,str [107,101,121],.sl 2 (F6.map D5) none] (F5 I x) fun u m=>∃ gs gc v,u=.tup [ptr gc,int 0]/\m=UC I.gd I.gm gs gc v x (D6 bs) (C9 nm y9 F6 bs [] false):=by
 refine(a1D (nm:=nm) (ky:=y9) (gen:=F6) (d:=F6) (id:=none) rfl hn h (Nat.le_trans FP dc) (by rw[LY];exact dM) LY).mono ?_;rintro u m ⟨J,h1,h2,rfl,rfl⟩;obtain⟨⟨⟨⟨gd,gm,v1⟩,gs⟩,gc,v2,v3,v4,v5⟩,hJ⟩:∃ J':ChI,J'=J:=⟨J,rfl⟩;subst hJ;dsimp only at h1 h2;subst h1 h2;exact⟨gs,gc,(v1,v2,v3,v4,v5),rfl,rfl⟩
theorem Gn {nm:Bs}(hn:1<=nm.length/\nm.length<=32/\y9.length<=64){I:R6I}{x:DvX}{bs:List BlkX}(h:Ro x bs):Av.Spec prog GL 21 [ptr I.gd,str nm,str [107,101,121],.sl 2 (F6.map D5) none] (K9 I x) fun u m=>∃ gl gc v,u=.tup [ptr gc,int 0]/\m=JJ I.gd I.gs I.c gl gc v x (D6 bs) (C9 nm y9 F6 bs [] false):=by
 refine(a1o (nm:=nm) (ky:=y9) (gen:=F6) (d:=F6) (id:=none) rfl hn h (Nat.le_trans FP dc) (by rw[LY];exact dM) LY).mono ?_;rintro u m ⟨J,h1,h2,h3,rfl,rfl⟩;obtain⟨⟨⟨⟨gd,gs,cc,v1⟩,gl⟩,gc,v2,v3,v4,v5⟩,hJ⟩:∃ J':R20I,J'=J:=⟨J,rfl⟩;subst hJ;dsimp only at h1 h2 h3;subst h1 h2 h3;exact⟨gl,gc,(v1,v2,v3,v4,v5),rfl,rfl⟩
abbrev bk1:BlkX:=G7 [] [] 1
theorem EA:(5000:Int)<=J4 3000:=by decide
theorem RN:(U2 [bk1]).length<=200:=nlb kr
theorem Bp {α:Type _}(a b c d e:List α):(a++b++c++d++e).Perm ((e++d)++(c++b)++a):=by
 refine List.perm_append_comm.trans ?_;rw[laa e d,laa e];refine List.Perm.append_left e ?_;refine List.perm_append_comm.trans ?_;rw[laa d];refine List.Perm.append_left d ?_;refine List.perm_append_comm.trans ?_;rw[laa c];exact List.Perm.append_left c List.perm_append_comm
abbrev tZ (gd gs gc:Nat)(v:V5)(s:SlX)(c:ChX):List Av.Piece:=[.var gc 108 (A9 gs v.2.1 v.2.2.1 v.2.2.2.1 v.2.2.2.2 c),.tail 56 1 v.2.1,.tail 36 35 v.2.2.1,.tail 172 15 v.2.2.2.1,.tail 9 1 v.2.2.2.2,.var gs 198 (zH gd s)]
abbrev wB (gd gl gc:Nat)(v:V5)(s:SlX)(c:ChX):List Av.Piece:=[.var gc 150 (uN gl v.2.1 v.2.2.1 v.2.2.2.1 v.2.2.2.2 c),.tail 47 1 v.2.1,.tail 130 3 v.2.2.1,.tail 172 15 v.2.2.2.1,.tail 9 1 v.2.2.2.2,.var gl 217 (Ay gd s)]
structure Sd where
 q:SdI
 y:DvX
structure L21 (z:Sd):Prop where
 n:z.y.n=3000
 ar:z.y.ar=false
 ro:Ro z.y [bk1]
abbrev vT (nm:Bs)(z:Sd):List Av.Piece:=bO z.q z.y (D6 [bk1]) (C9 nm y9 F6 [bk1] [] false)
def KF:Nat->Sd->Sd->AV
 | 0,_,_=>X9 none none none none
 | 1,a,_=>X9 (D9 a.q.gc) none (D9 a.q.gr) none
 | _,a,b=>X9 (D9 a.q.gc) (D9 b.q.gc) (D9 a.q.gr) (D9 b.q.gr)
def KR:Nat->Sd->Sd->List Av.Piece
 | 0,_,_=>[]
 | 1,a,_=>vT [97] a
 | _,a,b=>vT [97] a++vT [98] b
def h21:Nat->Sd->Sd->Prop
 | 0,_,_=>True
 | 1,a,_=>L21 a
 | _,a,b=>L21 a/\L21 b
abbrev G9 (nm:Bs)(bs:List BlkX):ChX:=C9 nm y9 F6 bs [] false
def uM:Hsh:=uJ (o7 (G9 [98] [bk1]))
def lF:TxX:=aP [98] 1 uM
def M5:List BlkX:=[bk1]++[G7 [bk1] [G5 lF] 1]
def PY:Hsh:=uJ (o7 (G9 [97] M5))
def oU:TxX:=aP [97] 2 PY
def qM:List BlkX:=[bk1]++[G7 [bk1] [G5 oU] 1]
structure LB21 (bs:List BlkX)(z:Sd):Prop where
 n:z.y.n=3000
 ar:z.y.ar=false
 ro:Ro z.y bs
def FZ:Nat->List BlkX
 | 0=>[bk1]
 | _=>M5
def FY:Nat->List BlkX
 | 0=>[bk1]
 | 1=>[bk1]
 | _=>qM
abbrev P6 (nm:Bs)(bs:List BlkX)(z:Sd):List Av.Piece:=bO z.q z.y (D6 bs) (G9 nm bs)
def VX:Sd:=⟨⟨0,0,0,0,0,0,0,0,0,((.bool false),(.bool false),(.bool false),(.bool false),(.bool false)),((.bool false),(.bool false),(.bool false),(.bool false),(.bool false))⟩,Q3 3000⟩
theorem WO {nm:Bs}{bs:List BlkX}{y:DvX}(hR:Ro y bs)(h1:1<=bs.length)(ht:O5 bs<=1000):(((G9 nm bs).ms.length=(G9 nm bs).hs.length+1/\(G9 nm bs).ms.length<=1000000)/\DOk (o7 (G9 nm bs)))/\((1<=(G9 nm bs).bl.length/\(G9 nm bs).bl.length<=1000000)/\(G9 nm bs).ky.length<=1000000/\O5 (G9 nm bs).bl<=9223372036854775807):=by
 have o:=nP (nm:=nm) (ky:=y9) dM hR.bg;have r:=UH (nm:=nm) (ky:=y9) (ws:=[]) (dd:=false) dM hR.bg;have e1:(G9 nm bs).bl.length=(G9 nm bs).hs.length:=r.bl;have e0:(G9 nm bs).ms.length=bs.length+1:=o.ms;have e2:(G9 nm bs).bl=bs:=Kb;have e3:(G9 nm bs).ky=y9:=o.ky;have hl:=hR.bg.l;rw[e2] at e1;rw[e2,e3];refine⟨⟨⟨om,om⟩,o.st⟩,⟨h1,om⟩,dc,om⟩
theorem WV {nm:Bs}{bs:List BlkX}{y:DvX}(hR:Ro y bs):sN (G9 nm bs)=⟨nm,bs.length,O5 bs,uJ (o7 (G9 nm bs))⟩:=by
 have o:=nP (nm:=nm) (ky:=y9) dM hR.bg;have e2:(G9 nm bs).bl=bs:=Kb;have e3:(G9 nm bs).nm=nm:=o.nm;unfold sN;rw[e2,e3]
theorem Et {h:Hdr}:Imp (.agg 100 [int 3,str [107],str [],str [],str [],str y9,int 1000,V8 h,hA F3,.agg 12 [int 0,str [],str [],.agg 7 [str [],.agg 4 [.lit (.int .u64 0),.lit (.int .u64 0),.lit (.int .u64 0),.lit (.int .u64 0)],str [],str []],int 0,int 0],str [],int 0,.agg 3 [int 0,int 0,A7],.agg 9 [int 0,A7,A7,.agg 3 [int 0,int 0,A7],.agg 3 [int 0,int 0,A7]]]) (N7 { iF with k:=3,i:=[107],y:=[107,101,121],e:=1000,h:=h }):=by
 have e0:O0 wZ=.agg 4 [.lit (.int .u64 0),.lit (.int .u64 0),.lit (.int .u64 0),.lit (.int .u64 0)]:=kr
 have e:N7 { iF with k:=3,i:=[107],y:=[107,101,121],e:=1000,h:=h }=.agg 100 [int 3,str [107],str [],str [],str [],str y9,int 1000,V8 h,hA F3,.agg 12 [int 0,str [],str [],.agg 7 [str [],O0 wZ,str [],str []],int 0,int 0],str [],int 0,.agg 3 [int 0,int 0,.sl 32 [] none],.agg 9 [int 0,.sl 2 [] none,.sl 2 [] none,.agg 3 [int 0,int 0,.sl 32 [] none],.agg 3 [int 0,int 0,.sl 32 [] none]]]:=rfl;rw[e,e0];exact ImpR.imp
theorem permA {α:Type _}(a b c:List α):(a++(b++c)).Perm (b++(a++c)):=by
 rw[<- laa,<- laa];exact List.Perm.append_right c List.perm_append_comm
theorem WB {c:Bs}{k:Int}{r:Hsh}(h3:K20 3)(hc:c.length<=32)(hk:1<=k/\k<=1000):WsG ([]++[G5 (aP c k r)]):=⟨by show 1<=16;decide,fun s hs=>by
 rw[List.nil_append,List.mem_singleton] at hs;rw[hs];refine⟨Nat.le_trans (vD hc) dc,fun _=>?_⟩;rw[(JI (Ju (r:=r) hc hk) (Nat.le_trans (vD hc) dc)).1];exact h3⟩
theorem KD {α:Type _}(a b c:List α):(a++(b++c)).Perm (c++(a++b)):=by
 rw[<- laa];exact List.perm_append_comm
set_option maxRecDepth 100000 in
set_option maxHeartbeats 4000000 in
theorem Gy (h3:K20 3):Av.Spec prog GL 6 [] [] fun u m=>∃ a b:Sd,LB21 M5 a/\LB21 qM b/\u=.tup [pU a.q b.q,j3 true]/\m=P6 [97] M5 a++P6 [98] qM b:=by
 refine qF func6 ntmps6 fun _ hs=>?_;repeat' first|refine Zz ?_|intro _
 rename_i g0 g1 g2;refine y5 (α:=Nat × Sd × Sd) (fun z=>[(0,ptr g0),(1,j3 false),(2,ptr g1),(3,ptr g2),(4,int z.1)])
  (fun z=>[Av.Piece.var g2 70 (.agg 2 [str [97],str [98]]),Av.Piece.var g1 29 (KF z.1 z.2.1 z.2.2),Av.Piece.var g0 29 (X9 none none none none)]++KR z.1 z.2.1 z.2.2)
  (fun z=>z.1<=2/\h21 z.1 z.2.1 z.2.2) (fun z=>2-z.1) (0,VX,VX) ⟨rfl,rfl,rfl,rfl,rfl,trivial⟩ slr ⟨Nat.zero_le _,trivial⟩ ?_
 have hR0:Ro (Q3 3000) []:=ZB dc dc;have hnB:1<=([98]:Bs).length/\([98]:Bs).length<=32/\y9.length<=64:=by decide
 have ws0:WsG []:=⟨dc,sm⟩;have rm0:((U2 ([]:List BlkX)).length:Int)+1004*(([]:List Bs).length:Int)+44<=J4 (Q3 3000).n:=by
  have h1:=EA;have e:(U2 ([]:List BlkX)).length=0:=rfl;rw[e];show ((0:Nat):Int)+1004*((0:Nat):Int)+44<=J4 3000;omega
 have hnA:1<=([97]:Bs).length/\([97]:Bs).length<=32/\y9.length<=64:=dc
 rintro⟨i,za,zb⟩ ⟨hi,hh⟩;dsimp only at hi hh ⊢;obtain rfl|rfl|rfl:i=0\/i=1\/i=2:=by omega
 ·dsimp only[KF,KR];clear hh;rw[show ((0:Nat):Int)=0 from rfl];repeat' (first|refine bK ?_|refine O3 ?_|refine U0 ?_|refine M7 ?_|intro _)
  refine xB [1,2,3,0,4,5,6,7,8,9,10] kr rfl hs kr ?_;repeat' first|refine Zz ?_|intro _
  apply wF [] [];exact rfl;exact rfl;kernel_rfl;kernel_rfl;kernel_rfl;exact trivial;intro _ _;refine X4 (Gv (n:=3000) dc dc) (fun u m1 hu=>?_);obtain⟨I,rfl,rfl⟩:=hu;refine j4 (R6 [] (F5 I (Q3 3000)) rfl rfl lpr rfl ?_);repeat' first|refine Zz ?_|intro _
  apply wF [] [3,4,5];exact rfl;exact rfl;kernel_rfl;kernel_rfl;kernel_rfl;exact trivial;intro _ _;refine X4 (Gs hnA (I:=I) hR0) (fun u m1 hu=>?_);obtain⟨gs,gc,v,rfl,rfl⟩:=hu;refine j4 (R6 (F5 ⟨I.gd,I.gm,v.1⟩ (Q3 3000)) (tZ I.gd gs gc v (D6 []) (C9 [97] y9 F6 [] [] false)) rfl rfl (List.perm_append_comm (l₁:=tZ I.gd gs gc v (D6 []) (C9 [97] y9 F6 [] [] false)) (l₂:=F5 ⟨I.gd,I.gm,v.1⟩ (Q3 3000))) rfl ?_);refine zT ([Av.Piece.var g2 70 (.agg 2 [str [97],str [98]]),Av.Piece.var g1 29 (X9 none none none none),Av.Piece.var g0 29 (X9 none none none none)]++F5 ⟨I.gd,I.gm,v.1⟩ (Q3 3000)++tZ I.gd gs gc v (D6 []) (C9 [97] y9 F6 [] [] false)) ?_ rfl
  iterate 6 (first|refine rQ ?_|refine lV ?_)
  repeat' (first|refine bK ?_|refine O3 ?_|refine U0 ?_|refine M7 ?_|intro _)
  refine xB [1,2,3,0,4,5,6,7,8,9,10] kr rfl hs kr ?_;repeat' first|refine Zz ?_|intro _
  apply wF [] [];exact rfl;exact rfl;kernel_rfl;kernel_rfl;kernel_rfl;exact trivial;intro _ _;refine X4 (Gl (n:=3000) dc dc) (fun u m1 hu=>?_);obtain⟨J,rfl,rfl⟩:=hu;refine j4 (R6 [] (K9 J (Q3 3000)) rfl rfl lpr rfl ?_);repeat' first|refine Zz ?_|intro _
  apply wF [] [12,13,14];exact rfl;exact rfl;kernel_rfl;kernel_rfl;kernel_rfl;exact trivial;intro _ _;refine X4 (Gn hnA (I:=J) hR0) (fun u m1 hu=>?_);obtain⟨gl,gr,w,rfl,rfl⟩:=hu;refine j4 (R6 (K9 ⟨J.gd,J.gs,J.c,w.1⟩ (Q3 3000)) (wB J.gd gl gr w (D6 []) (C9 [97] y9 F6 [] [] false)) rfl rfl (List.perm_append_comm (l₁:=wB J.gd gl gr w (D6 []) (C9 [97] y9 F6 [] [] false)) (l₂:=K9 ⟨J.gd,J.gs,J.c,w.1⟩ (Q3 3000))) rfl ?_);refine zT ([Av.Piece.var g2 70 (.agg 2 [str [97],str [98]]),Av.Piece.var g1 29 (X9 none none none none),Av.Piece.var g0 29 (X9 none none none none)]++F5 ⟨I.gd,I.gm,v.1⟩ (Q3 3000)++tZ I.gd gs gc v (D6 []) (C9 [97] y9 F6 [] [] false)++K9 ⟨J.gd,J.gs,J.c,w.1⟩ (Q3 3000)++wB J.gd gl gr w (D6 []) (C9 [97] y9 F6 [] [] false)) ?_ rfl;repeat' first|refine Zz ?_|intro _
  refine I8 (args:=[X9 (D9 gc) none (D9 gr) none,int 0,int 1]) (bO ⟨I.gd,I.gm,gs,gc,J.gd,J.gs,J.c,gl,gr,v,w⟩ (Q3 3000) (D6 []) (C9 [97] y9 F6 [] [] false)) ([Av.Piece.var g2 70 (.agg 2 [str [97],str [98]]),Av.Piece.var g1 29 (X9 (D9 gc) none (D9 gr) none),Av.Piece.var g0 29 (X9 none none none none)]) (by rw[hs];exact AU (nm:=[97]) (ky:=y9) (d:=F6) (bs:=[]) (ws:=[]) (x:=Q3 3000) (c0:=D9 gc) (c1:=none) (r0:=D9 gr) (r1:=none) (i:=0) (t:=1) ⟨I.gd,I.gm,gs,gc,J.gd,J.gs,J.c,gl,gr,v,w⟩ (.inl ⟨rfl,rfl,rfl⟩) dM hR0 dc ws0 rfl rm0 sm) (fun u m1 hh=>?_) (Bp ([Av.Piece.var g2 70 (.agg 2 [str [97],str [98]]),Av.Piece.var g1 29 (X9 (D9 gc) none (D9 gr) none),Av.Piece.var g0 29 (X9 none none none none)]) (F5 ⟨I.gd,I.gm,v.1⟩ (Q3 3000)) (tZ I.gd gs gc v (D6 []) (C9 [97] y9 F6 [] [] false)) (K9 ⟨J.gd,J.gs,J.c,w.1⟩ (Q3 3000)) (wB J.gd gl gr w (D6 []) (C9 [97] y9 F6 [] [] false)));obtain⟨v',w',y,⟨hn,ha,hR⟩,rfl,rfl⟩:=hh;refine gG (fun ok w h=>h.perm (m':=([Av.Piece.var g2 70 (.agg 2 [str [97],str [98]]),Av.Piece.var g1 29 (X9 (D9 gc) none (D9 gr) none),Av.Piece.var g0 29 (X9 none none none none)])++bO ⟨I.gd,I.gm,gs,gc,J.gd,J.gs,J.c,gl,gr,v',w'⟩ y (D6 [bk1]) (C9 [97] y9 F6 [bk1] [] false)) List.perm_append_comm) ?_;repeat' first|refine Zz ?_|intro _
  exact o6 (1,⟨⟨I.gd,I.gm,gs,gc,J.gd,J.gs,J.c,gl,gr,v',w'⟩,y⟩,zb) ⟨rfl,rfl,rfl,rfl,rfl,trivial⟩ slr ⟨by show (1:Nat)<=2;decide,⟨hn,ha,hR⟩⟩ (by show (2-1:Nat)<2-0;decide)
 ·dsimp only[KF,KR];have hh0:L21 za:=hh;clear hh;rw[show ((1:Nat):Int)=1 from rfl];repeat' (first|refine bK ?_|refine O3 ?_|refine U0 ?_|refine M7 ?_|intro _)
  refine xB [1,2,3,0,4,5,6,7,8,9,10] kr rfl hs kr ?_;repeat' first|refine Zz ?_|intro _
  apply wF [] [];exact rfl;exact rfl;kernel_rfl;kernel_rfl;kernel_rfl;exact trivial;intro _ _;refine X4 (Gv (n:=3000) dc dc) (fun u m1 hu=>?_);obtain⟨I,rfl,rfl⟩:=hu;refine j4 (R6 [] (F5 I (Q3 3000)) rfl rfl lpr rfl ?_);repeat' first|refine Zz ?_|intro _
  apply wF [] [21,22,23];exact rfl;exact rfl;kernel_rfl;kernel_rfl;kernel_rfl;exact trivial;intro _ _;refine X4 (Gs hnB (I:=I) hR0) (fun u m1 hu=>?_);obtain⟨gs,gc,v,rfl,rfl⟩:=hu;refine j4 (R6 (F5 ⟨I.gd,I.gm,v.1⟩ (Q3 3000)) (tZ I.gd gs gc v (D6 []) (C9 [98] y9 F6 [] [] false)) rfl rfl (List.perm_append_comm (l₁:=tZ I.gd gs gc v (D6 []) (C9 [98] y9 F6 [] [] false)) (l₂:=F5 ⟨I.gd,I.gm,v.1⟩ (Q3 3000))) rfl ?_);refine zT (([Av.Piece.var g2 70 (.agg 2 [str [97],str [98]]),Av.Piece.var g1 29 (X9 (D9 za.q.gc) none (D9 za.q.gr) none),Av.Piece.var g0 29 (X9 none none none none)]++vT [97] za)++F5 ⟨I.gd,I.gm,v.1⟩ (Q3 3000)++tZ I.gd gs gc v (D6 []) (C9 [98] y9 F6 [] [] false)) ?_ rfl
  iterate 6 (first|refine rQ ?_|refine lV ?_)
  repeat' (first|refine bK ?_|refine O3 ?_|refine U0 ?_|refine M7 ?_|intro _)
  refine xB [1,2,3,0,4,5,6,7,8,9,10] kr rfl hs kr ?_;repeat' first|refine Zz ?_|intro _
  apply wF [] [];exact rfl;exact rfl;kernel_rfl;kernel_rfl;kernel_rfl;exact trivial;intro _ _;refine X4 (Gl (n:=3000) dc dc) (fun u m1 hu=>?_);obtain⟨J,rfl,rfl⟩:=hu;refine j4 (R6 [] (K9 J (Q3 3000)) rfl rfl lpr rfl ?_);repeat' first|refine Zz ?_|intro _
  apply wF [] [30,31,32];exact rfl;exact rfl;kernel_rfl;kernel_rfl;kernel_rfl;exact trivial;intro _ _;refine X4 (Gn hnB (I:=J) hR0) (fun u m1 hu=>?_);obtain⟨gl,gr,w,rfl,rfl⟩:=hu;refine j4 (R6 (K9 ⟨J.gd,J.gs,J.c,w.1⟩ (Q3 3000)) (wB J.gd gl gr w (D6 []) (C9 [98] y9 F6 [] [] false)) rfl rfl (List.perm_append_comm (l₁:=wB J.gd gl gr w (D6 []) (C9 [98] y9 F6 [] [] false)) (l₂:=K9 ⟨J.gd,J.gs,J.c,w.1⟩ (Q3 3000))) rfl ?_);refine zT (([Av.Piece.var g2 70 (.agg 2 [str [97],str [98]]),Av.Piece.var g1 29 (X9 (D9 za.q.gc) none (D9 za.q.gr) none),Av.Piece.var g0 29 (X9 none none none none)]++vT [97] za)++F5 ⟨I.gd,I.gm,v.1⟩ (Q3 3000)++tZ I.gd gs gc v (D6 []) (C9 [98] y9 F6 [] [] false)++K9 ⟨J.gd,J.gs,J.c,w.1⟩ (Q3 3000)++wB J.gd gl gr w (D6 []) (C9 [98] y9 F6 [] [] false)) ?_ rfl;repeat' first|refine Zz ?_|intro _
  refine I8 (args:=[X9 (D9 za.q.gc) (D9 gc) (D9 za.q.gr) (D9 gr),int 1,int 1]) (bO ⟨I.gd,I.gm,gs,gc,J.gd,J.gs,J.c,gl,gr,v,w⟩ (Q3 3000) (D6 []) (C9 [98] y9 F6 [] [] false)) (([Av.Piece.var g2 70 (.agg 2 [str [97],str [98]]),Av.Piece.var g1 29 (X9 (D9 za.q.gc) (D9 gc) (D9 za.q.gr) (D9 gr)),Av.Piece.var g0 29 (X9 none none none none)]++vT [97] za)) (by rw[hs];exact AU (nm:=[98]) (ky:=y9) (d:=F6) (bs:=[]) (ws:=[]) (x:=Q3 3000) (c0:=D9 za.q.gc) (c1:=D9 gc) (r0:=D9 za.q.gr) (r1:=D9 gr) (i:=1) (t:=1) ⟨I.gd,I.gm,gs,gc,J.gd,J.gs,J.c,gl,gr,v,w⟩ (.inr ⟨rfl,rfl,rfl⟩) dM hR0 dc ws0 rfl rm0 sm) (fun u m1 hh=>?_) (Bp (([Av.Piece.var g2 70 (.agg 2 [str [97],str [98]]),Av.Piece.var g1 29 (X9 (D9 za.q.gc) (D9 gc) (D9 za.q.gr) (D9 gr)),Av.Piece.var g0 29 (X9 none none none none)]++vT [97] za)) (F5 ⟨I.gd,I.gm,v.1⟩ (Q3 3000)) (tZ I.gd gs gc v (D6 []) (C9 [98] y9 F6 [] [] false)) (K9 ⟨J.gd,J.gs,J.c,w.1⟩ (Q3 3000)) (wB J.gd gl gr w (D6 []) (C9 [98] y9 F6 [] [] false)));obtain⟨v',w',y,⟨hn,ha,hR⟩,rfl,rfl⟩:=hh;refine gG (fun ok w h=>h.perm (m':=(([Av.Piece.var g2 70 (.agg 2 [str [97],str [98]]),Av.Piece.var g1 29 (X9 (D9 za.q.gc) (D9 gc) (D9 za.q.gr) (D9 gr)),Av.Piece.var g0 29 (X9 none none none none)]++vT [97] za))++bO ⟨I.gd,I.gm,gs,gc,J.gd,J.gs,J.c,gl,gr,v',w'⟩ y (D6 [bk1]) (C9 [98] y9 F6 [bk1] [] false)) List.perm_append_comm) ?_;repeat' first|refine Zz ?_|intro _
  exact o6 (2,za,⟨⟨I.gd,I.gm,gs,gc,J.gd,J.gs,J.c,gl,gr,v',w'⟩,y⟩) ⟨rfl,rfl,rfl,rfl,rfl,trivial⟩ slr ⟨by show (2:Nat)<=2;decide,hh0,⟨hn,ha,hR⟩⟩ (by show (2-2:Nat)<2-1;decide)
 ·dsimp only[KF,KR];obtain⟨hA,hB⟩:L21 za/\L21 zb:=hh;rw[show ((2:Nat):Int)=2 from rfl];repeat' first|refine Zz ?_|intro _
  refine y5 (α:=Nat × Sd × Sd) (fun z=>[(0,ptr g0),(1,j3 false),(2,ptr g1),(10,int z.1)])
   (fun z=>[Av.Piece.var g2 70 (.agg 2 [str [97],str [98]]),Av.Piece.var g1 29 (pU z.2.1.q z.2.2.q),Av.Piece.var g0 29 (X9 none none none none)]++(P6 [97] (FZ z.1) z.2.1++P6 [98] (FY z.1) z.2.2))
   (fun z=>z.1<=2/\LB21 (FZ z.1) z.2.1/\LB21 (FY z.1) z.2.2) (fun z=>2-z.1) (0,za,zb) ⟨rfl,rfl,rfl,rfl,trivial⟩ slr ⟨Nat.zero_le _,⟨hA.n,hA.ar,hA.ro⟩,⟨hB.n,hB.ar,hB.ro⟩⟩ ?_
  clear hA hB;rintro⟨i,ya,yb⟩ ⟨hi,hA,hB⟩;dsimp only at hi hA hB ⊢;obtain rfl|rfl|rfl:i=0\/i=1\/i=2:=by omega
  ·dsimp only[FZ,FY] at hA hB ⊢;rw[show ((0:Nat):Int)=0 from rfl];repeat' first|refine Zz ?_|intro _
   rw[show (1:Int)-0=1 from rfl];have hup:=WO (nm:=[98]) hB.ro dc dc;have htp:(M0 [107] (sN (G9 [98] [bk1])) (J8 (G9 [98] [bk1]).ky (sN (G9 [98] [bk1])))).h=⟨[98],1,1,uM⟩:=WV (nm:=[98]) hB.ro;repeat' first|refine Zz ?_|intro _
   rw[htp];refine jL 83 (v':=N7 lF) Et ?_;refine I8 (args:=[pU ya.q yb.q,int 0,N7 lF]) (P6 [97] [bk1] ya) ([_,_,_,_,_]++P6 [98] [bk1] yb) (by rw[hs];exact TB (nm:=[97]) (ky:=y9) (d:=F6) (bs:=[bk1]) (ws:=[]) (x:=ya.y) (c0:=D9 ya.q.gc) (c1:=D9 yb.q.gc) (r0:=D9 ya.q.gr) (r1:=D9 yb.q.gr) (i:=0) (z:=lF) (s:=D6 [bk1]) ya.q (.inl ⟨rfl,rfl,rfl⟩) (Jt dc) (Nat.le_trans (vD dc) dc) dc) (fun u m1 hh=>?_) (permA [_,_,_,_,_] (P6 [97] [bk1] ya) (P6 [98] [bk1] yb));obtain⟨v,w,rfl,rfl⟩:=hh;repeat' first|refine Zz ?_|intro _
   have hws:WsG ([]++[G5 lF]):=WB h3 dc dc;have hrm:((U2 [bk1]).length:Int)+1004*(([]++[G5 lF]:List Bs).length:Int)+44<=J4 ya.y.n:=by
    have h1:=EA;have h2:=RN;rw[hA.n];show ((U2 [bk1]).length:Int)+1004*((1:Nat):Int)+44<=J4 3000;omega
   have hwl:∀ s∈([]++[G5 lF]:List Bs),s.length<=1000:=fun s hs=>by
    rw[List.nil_append,List.mem_singleton] at hs;rw[hs];exact vD dc
   refine I8 (args:=[pU ya.q yb.q,int 0,int 1]) (bO { ya.q with v:=v,w:=w } ya.y (D6 [bk1]) (C9 [97] y9 F6 [bk1] ([]++[G5 lF]) false)) ([_,_,_,_,_]++P6 [98] [bk1] yb) (by rw[hs];exact AU (nm:=[97]) (ky:=y9) (d:=F6) (bs:=[bk1]) (ws:=[]++[G5 lF]) (x:=ya.y) (c0:=D9 ya.q.gc) (c1:=D9 yb.q.gc) (r0:=D9 ya.q.gr) (r1:=D9 yb.q.gr) (i:=0) (t:=1) { ya.q with v:=v,w:=w } (.inl ⟨rfl,rfl,rfl⟩) dM hA.ro dc hws hA.ar hrm hwl) (fun u m1 hh=>?_) lpr;obtain⟨v',w',y,⟨hn,ha,hR⟩,rfl,rfl⟩:=hh;refine gG (fun ok w h=>h.perm (m':=[_,_,_,_,_]++(P6 [97] M5 ⟨{ ya.q with v:=v',w:=w' },y⟩++P6 [98] [bk1] yb)) (permA [_,_,_,_,_] (P6 [97] M5 ⟨{ ya.q with v:=v',w:=w' },y⟩) (P6 [98] [bk1] yb))) ?_;repeat' first|refine Zz ?_|intro _
   refine o6 (1,⟨{ ya.q with v:=v',w:=w' },y⟩,yb) ⟨rfl,rfl,rfl,rfl,trivial⟩ ((List.sublist_cons_self _ _).trans (List.sublist_cons_self _ _)) ⟨by show (1:Nat)<=2;decide,⟨hn.trans hA.n,ha,hR⟩,hB⟩ (by show (2-1:Nat)<2-0;decide)
  ·dsimp only[FZ,FY] at hA hB ⊢;rw[show ((1:Nat):Int)=1 from rfl];repeat' first|refine Zz ?_|intro _
   rw[show (1:Int)-1=0 from rfl];have hup:=WO (nm:=[97]) hA.ro dc dc;have htp:(M0 [107] (sN (G9 [97] M5)) (J8 (G9 [97] M5).ky (sN (G9 [97] M5)))).h=⟨[97],2,1,PY⟩:=WV (nm:=[97]) hA.ro;repeat' first|refine Zz ?_|intro _
   rw[htp];refine jL 83 (v':=N7 oU) Et ?_;refine I8 (args:=[pU ya.q yb.q,int 1,N7 oU]) (P6 [98] [bk1] yb) ([_,_,_,_,_]++P6 [97] M5 ya) (by rw[hs];exact TB (nm:=[98]) (ky:=y9) (d:=F6) (bs:=[bk1]) (ws:=[]) (x:=yb.y) (c0:=D9 ya.q.gc) (c1:=D9 yb.q.gc) (r0:=D9 ya.q.gr) (r1:=D9 yb.q.gr) (i:=1) (z:=oU) (s:=D6 [bk1]) yb.q (.inr ⟨rfl,rfl,rfl⟩) (Jt dc) (Nat.le_trans (vD dc) dc) dc) (fun u m1 hh=>?_) (KD [_,_,_,_,_] (P6 [97] M5 ya) (P6 [98] [bk1] yb));obtain⟨v,w,rfl,rfl⟩:=hh;repeat' first|refine Zz ?_|intro _
   have hws:WsG ([]++[G5 oU]):=WB h3 dc dc;have hrm:((U2 [bk1]).length:Int)+1004*(([]++[G5 oU]:List Bs).length:Int)+44<=J4 yb.y.n:=by
    have h1:=EA;have h2:=RN;rw[hB.n];show ((U2 [bk1]).length:Int)+1004*((1:Nat):Int)+44<=J4 3000;omega
   have hwl:∀ s∈([]++[G5 oU]:List Bs),s.length<=1000:=fun s hs=>by
    rw[List.nil_append,List.mem_singleton] at hs;rw[hs];exact vD dc
   refine I8 (args:=[pU ya.q yb.q,int 1,int 1]) (bO { yb.q with v:=v,w:=w } yb.y (D6 [bk1]) (C9 [98] y9 F6 [bk1] ([]++[G5 oU]) false)) ([_,_,_,_,_]++P6 [97] M5 ya) (by rw[hs];exact AU (nm:=[98]) (ky:=y9) (d:=F6) (bs:=[bk1]) (ws:=[]++[G5 oU]) (x:=yb.y) (c0:=D9 ya.q.gc) (c1:=D9 yb.q.gc) (r0:=D9 ya.q.gr) (r1:=D9 yb.q.gr) (i:=1) (t:=1) { yb.q with v:=v,w:=w } (.inr ⟨rfl,rfl,rfl⟩) dM hB.ro dc hws hB.ar hrm hwl) (fun u m1 hh=>?_) lpr;obtain⟨v',w',y,⟨hn,ha,hR⟩,rfl,rfl⟩:=hh;refine gG (fun ok w h=>h.perm (m':=[_,_,_,_,_]++(P6 [97] M5 ya++P6 [98] qM ⟨{ yb.q with v:=v',w:=w' },y⟩)) (KD [_,_,_,_,_] (P6 [97] M5 ya) (P6 [98] qM ⟨{ yb.q with v:=v',w:=w' },y⟩))) ?_;repeat' first|refine Zz ?_|intro _
   refine o6 (2,ya,⟨{ yb.q with v:=v',w:=w' },y⟩) ⟨rfl,rfl,rfl,rfl,trivial⟩ ((List.sublist_cons_self _ _).trans (List.sublist_cons_self _ _)) ⟨by show (2:Nat)<=2;decide,hA,⟨hn.trans hB.n,ha,hR⟩⟩ (by show (2-2:Nat)<2-1;decide)
  ·dsimp only[FZ,FY] at hA hB ⊢;rw[show ((2:Nat):Int)=2 from rfl];repeat' first|refine Zz ?_|intro _
   refine l9 (P6 [97] M5 ya++P6 [98] qM yb) ⟨ya,yb,hA,hB,rfl,rfl⟩ ?_;exact x9
end Go.Proofs.YtjhnaegpchadiaaGreatDoor
