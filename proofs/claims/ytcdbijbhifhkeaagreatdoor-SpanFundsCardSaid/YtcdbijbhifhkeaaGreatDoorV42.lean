/- . -/
import Derived.Test.YtcdbijbhifhkeaaGreatDoorV41
set_option maxHeartbeats 64000000
namespace Go.Proofs.Z
open Go Go.RowKit Tw Av Go.Proofs.Tryz
section
variable {L:List TxX}{z:SpX}
def eQ (z:SpX):SpX:=if z.c.ws.length=0 then z else (O4 z (M6 z.c)).1
def rE (z:SpX)(L:List TxX):SpX:=L.foldl (λz x=>K7 z (j6 x)) z
def EW (z o:SpX):SpX:=(S9 (eQ z) (j6 (O3 o.c))).1
def oM (z o:SpX):SpX:=rE (EW z o) (lU (EW z o).c o.c [107])
def fM (z o:SpX):SpX:=(O4 (oM z o) (M6 z.c)).1
structure RndOk (z o:SpX):Prop where
 z0:SpC z
 oc:SpC o
 w:(eQ z).c.ws.length=0
 z1:SpC (eQ z)
 u:(K7 (eQ z) (j6 (O3 o.c))).c.dd=false->ChOk (eQ z).x (eQ z).s (K7 (eQ z) (j6 (O3 o.c))).c
 z2:SpC (EW z o)
 z3:(oM z o).c.dd=false->ChOk (oM z o).x (oM z o).s (oM z o).c
 r3:(oM z o).rp.length<=100000
def VQ (z:SpX):Nat->SpX|0=>z|_+1=>eQ z
theorem a4M {j:Nat}(h:j<L.length):rE z (L.take (j+1))=K7 (rE z (L.take j)) (j6 L[j]):=by
 rw[List.take_succ_eq_append_getElem h];unfold rE;rw[List.foldl_append];rfl
theorem a4N :rE z (L.take 0)=z:=rfl
theorem a2j {s:Bs}(h:z.c.ws.length<=16):(K7 z s).c.ws.length<=16:=by
 show (pY z.c s).ws.length<=16;unfold pY;split
 ·rename_i he;unfold R6 at he;by_cases h1:z.c.dd=true
  ·rw[if_pos h1] at he;cases he
  rw[if_neg h1] at he;by_cases h2:6000<s.length
  ·rw[if_pos h2] at he;cases he
  rw[if_neg h2] at he;by_cases h3:16<=z.c.ws.length
  ·rw[if_pos h3] at he;cases he
  show (z.c.ws++[s]).length<=16;rw[lla,List.length_singleton];omega
 exact h
theorem a4L (h:z.c.ws.length<=16):(rE z L).c.ws.length<=16:=by
 induction L generalizing z with
 | nil=>exact h
 | cons x L ih=>exact ih (z:=K7 z (j6 x)) (a2j h)
attribute [local irreducible] H9 O5 j6 R6 pY A9 eU O7 lU eD iQ O4 S9 K7 rE
section
variable {nz no:Bs} {q qo:SpI} {z o:SpX} {gx:Nat}
abbrev FL (nz no:Bs)(q qo:SpI)(z o:SpX):List Av.Piece:=D6 nz q z++D6 no qo o
set_option maxRecDepth 100000 in
theorem Su (h:RndOk z o):Av.Spec prog GL 39 [ptr gx,ptr q.g,ptr qo.g] (FL nz no q qo z o) λu m=>∃ v r,u=.tup []/\m=FL nz no { q with v:=v,r:=r } qo (fM z o) o:=by
 have hq:=h.z0.g.q;have htm:0<=M6 z.c/\M6 z.c<=1099511627776:=by rw[h.z0.g.t];exact h.z0.g.tm
 have hzr:=h.z0.r;have hu:=OP h.oc.g;have hw:=Az h.oc.g;have hwl:=h.z1.w;refine zc func39 ntmps39 λ_ hs=>?_;repeat' first|refine O ?_|intro
 obtain⟨t,ht⟩:∃ t,M6 z.c=t:=⟨_,rfl⟩;rw[ht] at htm ⊢;refine sO (α:=V5 × Value) (λp=>[(0,ptr gx),(1,ptr q.g),(2,ptr qo.g),(6,int t)]) (λp=>FL nz no { q with v:=p.1,r:=p.2 } qo (eQ z) o) ?_ (λp=>?_)
 ·refine H7 (α:=Nat × V5 × Value) (λp=>[(0,ptr gx),(1,ptr q.g),(2,ptr qo.g),(6,int t),(16,int p.1)]) (λp=>FL nz no { q with v:=p.2.1,r:=p.2.2 } qo (VQ z p.1) o) (λp=>p.1<=1) (λp=>1-p.1) (0,q.v,q.r) za slr (Nat.zero_le _) ?_;rintro⟨i,v,r⟩ hi;have hw0:=h.w;obtain rfl|rfl:i=0\/i=1:=by dsimp only at hi;omega
  ·dsimp only[VQ];unfold eQ at hw0 ⊢;rw[ht] at hw0 ⊢;repeat' first|refine O ?_|intro
   by_cases hz0:z.c.ws.length=0
   ·rw[if_pos hz0,hz0];repeat' first|refine O ?_|intro
    exact P9 (v,r) za slr
   rw[if_neg hz0,dZ om];repeat' first|refine O ?_|intro
   refine aI [] (D6 nz { q with v:=v,r:=r } z) (D6 no qo o) (KN (nm:=nz) (q:={ q with v:=v,r:=r }) (z:=z) (t:=t) h.z0.o om) (λu m1 hu=>?_);obtain⟨v',r',rfl,rfl⟩:=hu;repeat' first|refine O ?_|intro
   refine y7 (1,v',r') za ?_ (Nat.le_refl 1) (by dsimp only;omega);exact List.Sublist.refl _
  dsimp only[VQ];repeat' first|refine O ?_|intro
  rw[hw0];repeat' first|refine O ?_|intro
  exact P9 (v,r) za slr
 obtain⟨v1,r1⟩:=p;dsimp only;repeat' first|refine O ?_|intro
 rename_i gb;rw[show eT [107] (eU o.c) (O7 o.c.ky (eU o.c))=O3 o.c from rfl];refine aI [_] (D6 nz { q with v:=v1,r:=r1 } (eQ z)) (D6 no qo o) (GJ (nm:=nz) (q:={ q with v:=v1,r:=r1 }) (z:=eQ z) hw om h.u (by have:=h.z1.r;omega)) (λu m1 hu=>?_);obtain⟨v2,r2,rfl,rfl⟩:=hu;have hr3:=h.r3;have hz3:=h.z3;have hZ:=h.z2;unfold fM;rw[ht];unfold oM at hr3 hz3 ⊢;unfold EW at hr3 hz3 hZ ⊢;generalize (S9 (eQ z) (j6 (O3 o.c))).1=Z at *;generalize (S9 (eQ z) (j6 (O3 o.c))).2=bZ at *;have hP:=Nl (q:={ q with v:=v2,r:=r2 }) (qo:=qo) hZ h.oc;have hpz:=YK hZ.g h.oc.g (i:=[107]);have hpl:=Nk hZ h.oc;have hzw:=hZ.w;generalize lU Z.c o.c [107]=L at *;have hll:(L.map D8).length=L.length:=llm _;repeat' first|refine O ?_|intro
 apply zd [12];exact zg
 ·intro _ _;refine bV ?_;exact j5 (A7 rfl rfl)
 apply zd [3,14];exact zg
 ·intro _ _;refine T9 hP (λu m1 hu=>?_);obtain⟨rfl,rfl⟩:=hu;exact j5 (A7 rfl rfl)
 repeat' first|refine O ?_|intro
 rw[hll];refine sO (α:=V5) (λv=>[(0,ptr gx),(1,ptr q.g),(2,ptr qo.g),(6,int t)]) (λv=>FL nz no { q with v:=v,r:=r2 } qo (rE Z L) o) ?_ (λv3=>?_)
 ·refine H7 (α:=Nat × V5) (λp=>[(0,ptr gx),(1,ptr q.g),(2,ptr qo.g),(6,int t),(48,.sl 100 (L.map D8) none),(49,int L.length),(50,int p.1)]) (λp=>FL nz no { q with v:=p.2,r:=r2 } qo (rE Z (L.take p.1)) o) (λp=>p.1<=L.length) (λp=>L.length-p.1) (0,v2) za (by dsimp only;rw[a4N];exact List.sublist_cons_self _ _) (Nat.zero_le _) ?_;rintro⟨i,v⟩ hi;dsimp only at hi ⊢;by_cases hil:i<L.length
  rotate_left
  ·obtain rfl:i=L.length:=by omega
   repeat' first|refine O ?_|intro
   rw[List.take_length];exact P9 v za slr
  have hxw:=(hpz _ (List.getElem_mem hil)).1.w;have hws:=a4L (z:=Z) (L:=L.take i) hzw;repeat' first|refine O ?_|intro
  refine aI [_] (D6 nz { q with v:=v,r:=r2 } (rE Z (L.take i))) (D6 no qo o) (KM (nm:=nz) (q:={ q with v:=v,r:=r2 }) (z:=rE Z (L.take i)) (x:=L[i]) hxw om) (λu m1 hu=>?_);obtain⟨v',rfl,rfl⟩:=hu;rw[<- a4M hil];repeat' first|refine O ?_|intro
  exact y7 (i+1,v') za (List.sublist_cons_self _ _) hil (by dsimp only;omega)
 repeat' first|refine O ?_|intro
 refine aI [] (D6 nz { q with v:=v3,r:=r2 } (rE Z L)) (D6 no qo o) (KN (nm:=nz) (q:={ q with v:=v3,r:=r2 }) (z:=rE Z L) (t:=t) hz3 hr3) (λu m1 hu=>?_);obtain⟨v4,r4,rfl,rfl⟩:=hu;repeat' first|refine O ?_|intro
 exact iV _ ⟨v4,r4,rfl,rfl⟩ slr
end
end

def FH (p:SpX × SpX):SpX × SpX:=(fM p.1 p.2,fM p.2 (fM p.1 p.2))
def Z8:Nat->SpX × SpX->SpX × SpX
 | 0,p=>p
 | k+1,p=>FH (Z8 k p)
structure SetOk (n:Nat)(p:SpX × SpX):Prop where
 a:p.1.c.dd=false/\p.1.am=false
 b:p.2.c.dd=false/\p.2.am=false
 r1:∀ k<n,RndOk (Z8 k p).1 (Z8 k p).2
 r2:∀ k<n,RndOk (Z8 k p).2 (fM (Z8 k p).1 (Z8 k p).2)
 e:CG (Z8 n p).1.c/\CG (Z8 n p).2.c
abbrev V4:=V5 × Value × V5 × Value
def QY (y:SpX × SpX):Nat->SpX|0=>y.1|_+1=>fM y.1 y.2
def QX (y:SpX × SpX):Nat->SpX|0=>y.2|1=>y.2|_+2=>fM y.2 (fM y.1 y.2)
theorem Nr {c:ChX}(h:CG c):iW c<=2000:=Nat.le_trans (List.takeWhile_sublist _).length_le (Nat.le_trans (List.drop_sublist _ _).length_le h.k.2.l)
attribute [local irreducible] fM
section
variable {na nb:Bs} {qa qb:SpI} {gx:Nat} {p:SpX × SpX} {n:Nat}
set_option maxRecDepth 100000 in
theorem Bh (h:SetOk n p)(hn:n<=40):Av.Spec prog GL 12 [ptr gx,int n] (C8 gx qa.g qb.g na nb qa qb p.1 p.2) λu m=>∃ va ra vb rb,u=int (iW (Z8 n p).1.c+iW (Z8 n p).2.c:Nat) /\
  m=C8 gx qa.g qb.g na nb { qa with v:=va,r:=ra } { qb with v:=vb,r:=rb } (Z8 n p).1 (Z8 n p).2:=by
 obtain⟨a1,a2⟩:=h.a;obtain⟨b1,b2⟩:=h.b;refine zc func12 ntmps12 λ_ hs=>?_;repeat' first|refine O ?_|intro
 refine sP 14 (v':=.agg 2 [ptr qa.g,ptr qb.g]) Aq ?_;refine sO (α:=Unit) (λ_=>[(0,ptr gx),(1,int n)]) (λ_=>C8 gx qa.g qb.g na nb qa qb p.1 p.2) ?_ (λ_=>?_)
 ·refine H7 (α:=Nat) (λi=>[(0,ptr gx),(1,int n),(14,.agg 2 [ptr qa.g,ptr qb.g]),(15,int i)]) (λ_=>C8 gx qa.g qb.g na nb qa qb p.1 p.2) (λi=>i<=2) (λi=>2-i) 0 za slr (Nat.zero_le _) ?_;intro i hi;obtain rfl|rfl|rfl:i=0\/i=1\/i=2:=by omega
  ·rw[show ((0:Nat):Int)=0 from rfl];repeat' first|refine O ?_|intro
   refine LM 0 ?_;repeat' first|refine O ?_|intro
   rw[a1];repeat' first|refine O ?_|intro
   rw[a2];repeat' first|refine O ?_|refine D5 ?_|intro
   refine y7 (1:Nat) za ?_ dc dc;dsimp only[C8,D6];rw[a2];exact List.Sublist.refl _
  ·rw[show ((1:Nat):Int)=1 from rfl];repeat' first|refine O ?_|intro
   refine LM 1 ?_;repeat' first|refine O ?_|intro
   rw[b1];repeat' first|refine O ?_|intro
   rw[b2];repeat' first|refine O ?_|refine D5 ?_|intro
   refine y7 (2:Nat) za ?_ dc dc;dsimp only[C8,D6];rw[b2];exact List.Sublist.refl _
  repeat' first|refine O ?_|intro
  exact P9 () za slr
 repeat' first|refine O ?_|intro
 rw[show min (max (n:Int) 0) 40=(n:Int) by omega];refine sO (α:=V4) (λw=>[(0,ptr gx)]) (λw=>C8 gx qa.g qb.g na nb { qa with v:=w.1,r:=w.2.1 } { qb with v:=w.2.2.1,r:=w.2.2.2 } (Z8 n p).1 (Z8 n p).2) ?_ (λw=>?_)
 ·refine H7 (α:=Nat × V4) (λy=>[(0,ptr gx),(39,int n),(40,int y.1)]) (λy=>C8 gx qa.g qb.g na nb { qa with v:=y.2.1,r:=y.2.2.1 } { qb with v:=y.2.2.2.1,r:=y.2.2.2.2 } (Z8 y.1 p).1 (Z8 y.1 p).2)
   (λy=>y.1<=n) (λy=>n-y.1) (0,qa.v,qa.r,qb.v,qb.r) za slr (Nat.zero_le _) ?_
  rintro⟨k,va,ra,vb,rb⟩ hk;dsimp only at hk ⊢;by_cases hkn:k<n
  rotate_left
  ·obtain rfl:k=n:=by omega
   repeat' first|refine O ?_|intro
   exact P9 (va,ra,vb,rb) za slr
  have hr1:=h.r1 k hkn;have hr2:=h.r2 k hkn;obtain⟨y,hy⟩:∃ y,Z8 k p=y:=⟨_,rfl⟩;have hy1:Z8 (k+1) p=FH y:=by rw[<- hy];rfl
  rw[hy] at hr1 hr2 ⊢;repeat' first|refine O ?_|intro
  refine sP 45 (v':=.agg 2 [ptr qa.g,ptr qb.g]) Aq ?_;refine H7 (α:=Nat × V4) (λx=>[(0,ptr gx),(39,int n),(40,int k),(45,.agg 2 [ptr qa.g,ptr qb.g]),(46,int x.1)]) (λx=>C8 gx qa.g qb.g na nb { qa with v:=x.2.1,r:=x.2.2.1 } { qb with v:=x.2.2.2.1,r:=x.2.2.2.2 } (QY y x.1) (QX y x.1))
   (λx=>x.1<=2) (λx=>2-x.1) (0,va,ra,vb,rb) za slr (Nat.zero_le _) ?_
  rintro⟨i,va,ra,vb,rb⟩ hi;obtain rfl|rfl|rfl:i=0\/i=1\/i=2:=by dsimp only at hi;omega
  ·dsimp only[QY,QX];rw[show ((0:Nat):Int)=0 from rfl];repeat' first|refine O ?_|intro
   refine LM 0 ?_;repeat' first|refine O ?_|intro
   refine J5 [_] _ (Su (nz:=na) (no:=nb) (q:={ qa with v:=va,r:=ra }) (qo:={ qb with v:=vb,r:=rb }) (gx:=gx) hr1) (λu m1 hu=>?_);obtain⟨v',r',rfl,rfl⟩:=hu;repeat' first|refine O ?_|intro
   exact y7 (1,v',r',vb,rb) za slr (by show (1:Nat)<=2;decide) (by show (2-1:Nat)<2-0;decide)
  ·dsimp only[QY,QX];rw[show ((1:Nat):Int)=1 from rfl];repeat' first|refine O ?_|intro
   refine LM 1 ?_;repeat' first|refine O ?_|intro
   refine qQ (.var gx 75 (xA qa.g qb.g)::FL nb na { qb with v:=vb,r:=rb } { qa with v:=va,r:=ra } y.2 (fM y.1 y.2)) _ ?_ (List.Perm.cons _ List.perm_append_comm) slr;refine J5 [_] _ (Su (nz:=nb) (no:=na) (q:={ qb with v:=vb,r:=rb }) (qo:={ qa with v:=va,r:=ra }) (gx:=gx) hr2) (λu m1 hu=>?_);obtain⟨v',r',rfl,rfl⟩:=hu;repeat' first|refine O ?_|intro
   refine bG (C8 gx qa.g qb.g na nb { qa with v:=va,r:=ra } { qb with v:=v',r:=r' } (fM y.1 y.2) (fM y.2 (fM y.1 y.2))) _ ?_ (List.Perm.cons _ List.perm_append_comm) slr;exact y7 (2,va,ra,v',r') za slr (by show (2:Nat)<=2;decide) (by show (2-2:Nat)<2-1;decide)
  dsimp only[QY,QX];repeat' first|refine O ?_|intro
  exact y7 (k+1,va,ra,vb,rb) za (by dsimp only;rw[hy1];exact List.Sublist.refl _) hkn (by dsimp only;omega)
 obtain⟨va,ra,vb,rb⟩:=w;dsimp only;have he1:=h.e.1;have he2:=h.e.2;generalize Z8 n p=y at *;have hpa:(iW y.1.c:Int)<=2000:=Int.ofNat_le.2 (Nr he1);have hpb:(iW y.2.c:Int)<=2000:=Int.ofNat_le.2 (Nr he2);repeat' first|refine O ?_|intro
 refine T9 (zN (nz:=na) (no:=nb) (q:={ qa with v:=va,r:=ra }) (qo:={ qb with v:=vb,r:=rb }) (z:=y.1) (o:=y.2) (gx:=gx) (ga:=qa.g) (gb:=qb.g) (i:=0) (.inl ⟨rfl,rfl,rfl⟩) he1) (λu m1 hu=>?_);obtain⟨rfl,rfl⟩:=hu;repeat' first|refine O ?_|intro
 refine qQ (C8 gx qa.g qb.g nb na { qb with v:=vb,r:=rb } { qa with v:=va,r:=ra } y.2 y.1) _ ?_ (List.Perm.cons _ List.perm_append_comm) slr;refine T9 (zN (nz:=nb) (no:=na) (q:={ qb with v:=vb,r:=rb }) (qo:={ qa with v:=va,r:=ra }) (z:=y.2) (o:=y.1) (gx:=gx) (ga:=qa.g) (gb:=qb.g) (i:=1) (.inr ⟨rfl,rfl,rfl⟩) he2) (λu m1 hu=>?_);obtain⟨rfl,rfl⟩:=hu;repeat' first|refine O ?_|intro
 refine bG (C8 gx qa.g qb.g na nb { qa with v:=va,r:=ra } { qb with v:=vb,r:=rb } y.1 y.2) _ ?_ (List.Perm.cons _ List.perm_append_comm) slr;rw[<- Int.natCast_add];exact j4 _ ⟨va,ra,vb,rb,rfl,rfl⟩ slr
end
end Go.Proofs.Z

namespace Go.Proofs.Z
open Go Go.RowKit Tw Av
section
attribute [local irreducible] j6 O7 N9 O9 M9 Z9
section
variable {nm no:Bs} {z o:SpX} {bs bo:List BlkX} {ws:List Bs} {l l':List Sta} {s s':Sta} {m m':Nat} {F F':Bs->Option Bs} {ev ev':List EvX} {x:TxX}
def RmS (z:SpX):Prop:=62000<=(z.x.n-2)*64
theorem SpL.cutN (h:SpL nm z bs ws)(hr:RmS z)(hb:bs.length<=58):∃ z',O4 z 0=(z',true)/\SpL nm z' (bs++[J7 bs ws 0]) []/\z'.rp=z.rp++(M4 (Dm nm bs) (J7 bs ws 0)).2.1/\RmS z':=by
 have hw:=VV h.w;have hw1:=h.w.1;have hn:=h.n;have hlg:=h.lg;have hrp:=h.rp;unfold RmS at hr ⊢;have hrm:Y6 z.x.n=(z.x.n-2)*64:=rfl;have hc:=UK (nm:=nm) (ky:=x8 nm) bD h.ro om hw 0;obtain⟨hyn,hya,hR,e1,e2,e3,e4⟩:=Wq hc h.ar om h.w.2;have hx:=ZT (bs:=bs) (t:=0) h.w.2;have hr:(M4 (j3 (opC nm (x8 nm) w9 bs)) (J7 bs ws 0)).2.1.length=ws.length:=(yR.1).trans (Nat.zero_add _);refine⟨{ z with x:=(R5 z.x (J3 bs) (F5 nm (x8 nm) w9 bs ws false) 0).1,s:=(R5 z.x (J3 bs) (F5 nm (x8 nm) w9 bs ws false) 0).2.1,c:=wO z.x (J3 bs) (F5 nm (x8 nm) w9 bs ws false) 0,rp:=z.rp++fG z.x (J3 bs) (F5 nm (x8 nm) w9 bs ws false) 0 },?_,⟨hR,e1,e2,hya,h.am,by dsimp only;rw[hyn];exact hn,?_,?_,?_,Nat.zero_le _,sm⟩,?_,by dsimp only;rw[hyn];assumption⟩
 ·unfold O4;rw[if_neg (by rw[h.c];show ¬ (false=true);decide),h.s,h.c,e3];rfl
 ·rw[lla,List.length_singleton];omega
 ·show (z.rp++fG z.x (J3 bs) (F5 nm (x8 nm) w9 bs ws false) 0).length<=_;rw[e4,lla,lla,List.length_singleton,hr];omega
 ·rw[WH];show max (min 0 1099511627776) (X4 bs)=0;rw[h.t];rfl
 show z.rp++fG z.x (J3 bs) (F5 nm (x8 nm) w9 bs ws false) 0=_;rw[e4];rfl
def fC (no:Bs)(l:List Sta)(s:Sta)(F:Bs->Option Bs):Bs->Option Bs:=D9 F kC (some (Q8 (dQ no (l++[s]))))
theorem vC {k:Bs}(h:k≠kC):fC no l s F k=F k:=if_neg h
theorem a9i {v:Option Bs}:D9 (fC no l s F) kC v=D9 F kC v:=by
 funext y
 unfold fC D9;split <;> rfl
theorem wK {k:Bs}{v:Option Bs}(h:k≠kC):D9 (fC no l s F) k v=fC no l s (D9 F k v):=by
 funext y
 unfold fC D9;by_cases h1:y=k
 ·rw[if_pos h1,if_neg (by rw[h1];exact h),if_pos h1]
 rw[if_neg h1];split
 ·rfl
 rfl
structure SvS (nm no:Bs)(z:SpX)(bs:List BlkX)(ws:List Bs)(l:List Sta)(s:Sta)(m:Nat)(F:Bs->Option Bs)(ev:List EvX):Prop where
 L:SpL nm z bs ws
 r:RmS z
 b:1<=bs.length/\bs.length<=50
 g:StG l s
 ll:l.length<=24
 M:Mp (Dm nm bs) m (fC no l s F)
 m:m<=12
 k:F kK=some (E9 (Q5 3))
 h:F kH=some (E9 (U6 3))
 ev:(opC nm (x8 nm) w9 bs).ev=ev
theorem SvS.c (h:SvS nm no z bs ws l s m F ev):CliG (Dm nm bs) no l s:=⟨by rw[h.M.f];exact iT,h.g⟩
theorem SvS.ch (h:SvS nm no z bs ws l s m F ev):ChnG (Dm nm bs):=⟨by rw[h.M.f,vC GA];exact h.k,by rw[h.M.f,vC GD];exact h.h⟩
theorem a9j (hno:no.length=1)(g:StG l s):(Q8 (dQ no (l++[s]))).length<=4000:=Da hno g
theorem SvS.cut0 (h:SvS nm no z bs [] l s m F ev)(hb:bs.length<=49):∃ z' b,O4 z 0=(z',true)/\SvS nm no z' (bs++[b]) [] l s m F ev:=by
 obtain⟨z',e,L,_,r⟩:=h.L.cutN h.r om;refine⟨z',_,e,L,r,by rw[lla,List.length_singleton];omega,h.g,h.ll,?_,h.m,h.k,h.h,?_⟩
 ·rw[EM h.L.ro.bg];show Mp (M4 (Dm nm bs) ⟨_,_,[]⟩).1 _ _;rw[Ji];exact h.M
 rw[GM];show _++(M4 (Dm nm bs) ⟨_,_,[]⟩).2.2=_;rw[Ji,h.ev];exact List.append_nil _
theorem SvS.cut1 (h:SvS nm no z bs [j6 x] l s m F ev)(hb:bs.length<=49)(hg:TxG x)(hl:(j6 x).length<=1000){l':List Sta}{s':Sta}{m':Nat}{F':Bs->Option Bs}{r:Rep}
  (g':StG l' s') (ll':l'.length<=24) (hd:∃ d',u7 (Dm nm bs) x (bs.length+1) 0=(d',r)/\Mp d' m' (fC no l' s' F')) (hm':m'<=12) (hk':F' kK=some (E9 (Q5 3))) (hh':F' kH=some (E9 (U6 3))) :
  ∃ z' b,O4 z 0=(z',true)/\SvS nm no z' (bs++[b]) [] l' s' m' F' (ev++if r.e=0/\13<=x.k then [jF (Dm nm (bs++[b])) (bs.length+1) x r] else [])/\b=J7 bs [j6 x] 0:=by
 obtain⟨z',e,L,_,rr⟩:=h.L.cutN h.r om;obtain⟨d',e1,M1⟩:=hd;have ht:max (min 0 1099511627776) (X4 bs)=0:=by rw[h.L.t];rfl
 have hrun:M4 (Dm nm bs) (J7 bs [j6 x] 0)=(d',[r],if r.e=0/\13<=x.k then [jF d' (bs.length+1) x r] else []):=by
  show M4 (Dm nm bs) ⟨bs.length+1,max (min 0 1099511627776) (X4 bs),[j6 x]⟩=_;rw[ht,FE hg hl,e1]
 have hD:Dm nm (bs++[J7 bs [j6 x] 0])=d':=by rw[EM h.L.ro.bg,hrun]
 refine⟨z',_,e,⟨L,rr,by rw[lla,List.length_singleton];omega,g',ll',by rw[hD];exact M1,hm',hk',hh',?_⟩,rfl⟩;rw[GM,hrun,hD,h.ev]
theorem SvS.sub (h:SvS nm no z bs [] l s m F ev){t:Bs}(hl:t.length<=1000):R6 z.c t=0/\SvS nm no (K7 z t) bs [t] l s m F ev:=by
 obtain⟨e,L⟩:=h.L.sub hl;exact⟨e,L,h.r,h.b,h.g,h.ll,h.M,h.m,h.k,h.h,h.ev⟩
theorem SvS.sc (h:SvS nm no z bs ws l s m F ev)(hn:nm.length=1):SpC z:=h.L.sc om h.b.1 (by have:=h.b;omega)
theorem SvS.upd (h:SvS nm no z bs [] l s m F ev){wo:List Bs}(ho:SpL no o bo wo)(hno:no.length=1)(hbo:1<=bo.length/\bo.length<=100)(hs:s.h<bo.length)(hb:bs.length<=49)(hll:l.length<=23) :
  ∃ z' b,S9 z (j6 (O3 o.c))=(z',true)/\SvS nm no z' (bs++[b]) [] (l++[s]) (aR no bo) m F ev:=by
 obtain⟨t1,t2⟩:=ho.top om hbo.1;have hu:O3 o.c=eT [107] (jC no bo) (O7 (x8 no) (jC no bo)):=by
  unfold O3;rw[t1,t2]
 rw[hu];have hg:TxG (eT [107] (jC no bo) (O7 (x8 no) (jC no bo))):=Gn hno (by show (0:Int)<=bo.length/\(bo.length:Int)<=1000;omega) rfl;have hlen:(j6 (eT [107] (jC no bo) (O7 (x8 no) (jC no bo)))).length<=1000:=QB hno;have g2:StG (l++[s]) (aR no bo):=h.g.snoc om ⟨hs,by show (bo.length:Int)<=1000;omega⟩ rfl;have hM:=h.M;have hm:=h.m;obtain⟨p1,p2,p3⟩:=Gm (h:=(bs.length:Int)+1) hM.ok (by have:=hM.l;omega) hno h.c om (x:=jC no bo) rfl ⟨hs,by show (bo.length:Int)<=1000;omega⟩ rfl;obtain⟨q1,q2⟩:=hM.put (k:=kC) (v:=Q8 (dQ no (l++[s]++[X8 (jC no bo)]))) om dc (a9j hno g2);have q3:Mp (O8 (Dm nm bs) kC (Q8 (dQ no (l++[s]++[X8 (jC no bo)])))) m (fC no (l++[s]) (aR no bo) F):=by
  rw[a9i,show mo (fC no l s F kC)=0 from by rw[show fC no l s F kC=_ from iT];rfl] at q2;exact q2
 obtain⟨e,h1⟩:=h.sub hlen;obtain⟨z',b,e2,h2,_⟩:=h1.cut1 (r:=oG) hb hg hlen g2 (by rw[lla,List.length_singleton];omega) ⟨_,p1,q3⟩ h.m h.k h.h;refine⟨z',b,by unfold S9;rw[if_pos e];exact e2,?_⟩;rw[if_neg (by rintro⟨_,h⟩;exact absurd h (by show ¬ (13:Int)<=4;decide)),List.append_nil] at h2;exact h2
end
end

section
attribute [local irreducible] j6 O7 N9 O9 M9 Z9 O4 S9 K7
def DD (D Do:List Ent)(n k:Int)(ev evo:List EvX):List TxX:=eD D Do (n+1) 0 k (V6 evo k)++iQ D Do (gV evo) k (some 0) (V6 ev n)
section
variable {nm no:Bs} {z z0 z1 o:SpX} {bs bs1 bo:List BlkX} {ws wo:List Bs} {l l' lo:List Sta} {s s' so:Sta} {m m' mo':Nat} {F F' Fo:Bs->Option Bs} {ev ev' evo:List EvX} {x:TxX} {r:Rep}
theorem SpL.evs (h:SpL nm z bs ws):z.c.ev=(opC nm (x8 nm) w9 bs).ev:=by rw[h.c];rfl
theorem SpL.hl (h:SpL nm z bs ws):z.c.hs.length=bs.length:=by
 have o1:=uS (nm:=nm) (ky:=x8 nm) bD h.ro.bg;rw[h.c];exact o1.hs
theorem SpL.tm (h:SpL nm z bs ws)(hn:nm.length<=32)(h1:1<=bs.length):M6 z.c=0:=by
 have o1:=uS (nm:=nm) (ky:=x8 nm) bD h.ro.bg;rw[(h.cg hn h1).t,h.c];show X4 (opC nm (x8 nm) w9 bs).bl=0;rw[o1.bl,h.t]
theorem a4K (h:SvS nm no z bs [] l (aR no bo) m F ev)(ho:SvS no nm o bo wo lo so mo' Fo evo)(hnm:nm.length=1)(hno:no.length=1):lU z.c o.c [107]=DD (Dm nm bs) (Dm no bo) bs.length bo.length ev evo:=by
 have h1:A9 (j3 z.c) [107]=bo.length:=by rw[h.L.st];exact h.c.kn hno
 have hob:=ho.b;have h2:qW o.c bo.length=some 0:=by
  have e:=(ho.L.top om hob.1).1;unfold eU at e;rw[ho.L.hl] at e;unfold qW;rw[ho.L.hl,if_pos om,show ((bo.length:Int)-1).toNat=bo.length-1 by omega,e];rfl
 unfold lU DD;rw[h1,h2,h.L.st,ho.L.map,h.L.hl,h.L.tm om h.b.1,ho.L.evs,ho.ev,h.L.evs,h.ev]
theorem Jz (hz:SpC z)(_:M6 z.c=0)(hw:eQ z=z0)(h:SvS nm no z0 bs [] l s m F ev)(ho:SvS no nm o bo wo lo so mo' Fo evo)(hnm:nm.length=1)(hno:no.length=1)(hs:s.h<bo.length)(hb:bs.length<=48)(hll:l.length<=23) :
  ∃ z1 b,EW z o=z1/\SvS nm no z1 (bs++[b]) [] (l++[s]) (aR no bo) m F ev/\oM z o=rE z1 (DD (Dm nm (bs++[b])) (Dm no bo) (bs.length+1) bo.length ev evo) /\
   (((oM z o).c.dd=false->ChOk (oM z o).x (oM z o).s (oM z o).c)->(oM z o).rp.length<=100000->RndOk z o):=by
 have hob:=ho.b;have hsb:=h.b;obtain⟨z1,b,e,h1⟩:=h.upd ho.L hno ⟨hob.1,om⟩ hs om hll;have hu:EW z o=z1:=by
  unfold EW;rw[hw,e]
 have hhl:(j6 (O3 o.c)).length<=1000:=by
  obtain⟨t1,t2⟩:=ho.L.top om hob.1;unfold O3;rw[t1,t2];exact QB hno
 have hss:=h.sub hhl;refine⟨z1,b,hu,h1,?_,λc1 c2=>⟨hz,ho.sc hno,by rw[hw,h.L.c];rfl,by rw[hw];exact h.sc hnm,?_,by rw[hu];exact h1.sc hnm,c1,c2⟩⟩
 ·unfold oM;rw[hu,a4K h1 ho hnm hno,lla,List.length_singleton];rfl
 rw[hw];intro _;have:=hss.2.L.ok om;unfold K7 at this ⊢;exact this
theorem SvS.rnd0 (hz:SpC z)(ht:M6 z.c=0)(hw:eQ z=z0)(h:SvS nm no z0 bs [] l s m F ev)(ho:SvS no nm o bo wo lo so mo' Fo evo)(hnm:nm.length=1)(hno:no.length=1)(hs:s.h<bo.length)(hb:bs.length<=48)(hll:l.length<=23)
  (hp:∀ D,Mp D m (fC no (l++[s]) (aR no bo) F)->DD D (Dm no bo) (bs.length+1) bo.length ev evo=[]) :
  RndOk z o/\∃ bs',SvS nm no (fM z o) bs' [] (l++[s]) (aR no bo) m F ev/\bs'.length=bs.length+2:=by
 obtain⟨z1,b,e1,h1,e2,h2⟩:=Jz hz ht hw h ho hnm hno hs hb hll;rw[hp _ h1.M] at e2;have e3:oM z o=z1:=e2;have hbl:(bs++[b]).length=bs.length+1:=by rw[lla,List.length_singleton]
 refine⟨h2 ?_ ?_,?_⟩
 ·rw[e3];exact λ_=>h1.L.ok om
 ·rw[e3];have:=h1.L.rp;omega
 obtain⟨z2,b2,e4,h3⟩:=h1.cut0 om;refine⟨bs++[b]++[b2],?_,?_⟩
 ·unfold fM;rw[e3,ht,e4];exact h3
 rw[lla,List.length_singleton];omega
theorem SvS.rnd1 (hz:SpC z)(ht:M6 z.c=0)(hw:eQ z=z0)(h:SvS nm no z0 bs [] l s m F ev)(ho:SvS no nm o bo wo lo so mo' Fo evo)(hnm:nm.length=1)(hno:no.length=1)(hs:s.h<bo.length)(hb:bs.length<=48)(hll:l.length<=23)
  (hg:TxG x) (hl:(j6 x).length<=1000) (hm':m'<=12) (hk':F' kK=some (E9 (Q5 3))) (hh':F' kH=some (E9 (U6 3))) (hre:r.e=0/\13<=x.k) {e:EvX}
  (hp:∀ D,Mp D m (fC no (l++[s]) (aR no bo) F)->CliG D no (l++[s]) (aR no bo)->ChnG D->DD D (Dm no bo) (bs.length+1) bo.length ev evo=[x]/\∃ d',u7 D x (bs.length+2) 0=(d',r)/\Mp d' m' (fC no (l++[s]) (aR no bo) F')/\jF d' (bs.length+2) x r=e) :
  RndOk z o/\∃ bs',SvS nm no (fM z o) bs' [] (l++[s]) (aR no bo) m' F' (ev++[e])/\bs'.length=bs.length+2:=by
 obtain⟨z1,b,e1,h1,e2,h2⟩:=Jz hz ht hw h ho hnm hno hs hb hll;obtain⟨p1,d',p2,p3,p4⟩:=hp _ h1.M h1.c h1.ch;rw[p1] at e2;have e3:oM z o=K7 z1 (j6 x):=e2;have hbl:(bs++[b]).length=bs.length+1:=by rw[lla,List.length_singleton]
 obtain⟨s1,s2⟩:=h1.sub hl;refine⟨h2 ?_ ?_,?_⟩
 ·rw[e3];exact λ_=>s2.L.ok om
 ·rw[e3];have:=s2.L.rp;omega
 have hh:((bs++[b]).length:Int)+1=bs.length+2:=by rw[hbl];omega
 obtain⟨z2,b2,e4,h3,hb2⟩:=s2.cut1 (r:=r) om hg hl h1.g h1.ll ⟨d',by rw[hh];exact p2,p3⟩ hm' hk' hh';refine⟨bs++[b]++[b2],?_,?_⟩
 ·unfold fM;rw[e3,ht,e4];have hD:Dm nm (bs++[b]++[b2])=d':=by
   rw[EM h1.L.ro.bg,hb2];have htl:max (min 0 1099511627776) (X4 (bs++[b]))=0:=by rw[h1.L.t];rfl
   show (M4 (Dm nm (bs++[b])) ⟨(bs++[b]).length+1,max (min 0 1099511627776) (X4 (bs++[b])),[j6 x]⟩).1=_;rw[htl,FE hg hl,hh,p2]
  rw[if_pos hre,hD,hh,p4] at h3;exact h3
 rw[lla,List.length_singleton];omega
end
end

section
attribute [local irreducible] j6 O7 N9 M9 Z9 O4 S9 K7
def sn (ev:List EvX):List Pkt:=(ev.filter λv=>decide (v.k=13)).map (·.x)
section
variable {nm no:Bs} {z o:SpX} {bs bo:List BlkX} {ws wo:List Bs} {l lo:List Sta} {s so:Sta} {m:Nat} {F:Bs->Option Bs} {ev evo:List EvX} {D Do:List Ent} {den f g:Bs} {a:Wd} {h k n t:Int} {A:Pkt->Option Bs}
theorem SvS.evh (hz:SvS nm no z bs ws l s m F ev)(hnm:nm.length=1):∀ v∈ev,v.h<=bs.length:=by
 have c:=(hz.L.cg om hz.b.1).h;rw[hz.L.evs,hz.ev,hz.L.hl] at c;exact c
theorem Hz (he:∀ v∈ev,v.h<=k):V6 ev k=sn ev:=by
 unfold V6 sn;congr 1
 refine List.filter_congr λv hv=>?_;unfold CK;rw[dT (he v hv),Bool.and_true]
theorem SF (h1:∀ v∈ev,v.h<=n)(h2:∀ v∈evo,v.h<=k):DD D Do n k ev evo=eD D Do (n+1) 0 k (sn evo)++iQ D Do (gV evo) k (some 0) (sn ev):=by
 unfold DD;rw[Hz h1,Hz h2]
theorem Xe (hG:(gO D kG).isSome=true):eD D Do n t k [F7 den f g a h]=[]:=by
 show wQ D Do n t k (F7 den f g a h)++[]=[];unfold wQ;rw[if_pos (.inl hG)];rfl
theorem b0v (hG:gO D kG=none)(hh:n<h):eD D Do n 0 k [F7 den f g a h]=[qD Do k (F7 den f g a h)]:=by
 show wQ D Do n 0 k (F7 den f g a h)++[]=_;have h1:OT D (F7 den f g a h)=false:=by
  show (gO D kG).isSome=false;rw[hG];rfl
 have hla:aV (F7 den f g a h) n 0=false:=dZ (by show ¬ ((h≠0/\h<=n)\/((0:Int)≠0/\(0:Int)<=0));omega);unfold wQ;rw[h1,hla,if_neg dc];rfl
theorem Zv (hP:gO D kP=none){o:Option Int}:iQ D Do A k o [F7 den f g a h]=[]:=by
 show pG D Do A k o (F7 den f g a h)++[]=[];have h1:BA D (F7 den f g a h)=false:=by
  show (gO D kP).isSome=false;rw[hP];rfl
 unfold pG;rw[if_pos h1];rfl
theorem b1x (hP:(gO D kP).isSome=true)(hd:DOk Do)(hG:(gO Do kG).isSome=true){o:Option Int}:iQ D Do A k o [F7 den f g a h]=[yJ Do k (F7 den f g a h) ((A (F7 den f g a h)).getD [])]:=by
 show pG D Do A k o (F7 den f g a h)++[]=_;have h1:BA D (F7 den f g a h)=true:=hP;have h2:K8 Do (G9 [71] (F7 den f g a h).k (F7 den f g a h).q)=true:=by
  rw[xY hd.s];exact hG
 unfold pG;rw[h1,if_neg dc,if_pos h2];rfl
theorem b1v (hd:DOk Do)(hG:gO Do kG=none)(hh:k<h)(hP:(gO D kP).isSome=true):iQ D Do A k (some 0) [F7 den f g a h]=[]:=by
 show pG D Do A k (some 0) (F7 den f g a h)++[]=_;have h1:BA D (F7 den f g a h)=true:=hP;have h2:K8 Do (G9 [71] (F7 den f g a h).k (F7 den f g a h).q)=false:=by
  rw[xY hd.s];show (gO Do kG).isSome=false;rw[hG];rfl
 have hla:aV (F7 den f g a h) k 0=false:=dZ (by show ¬ ((h≠0/\h<=k)\/((0:Int)≠0/\(0:Int)<=0));omega);unfold pG;rw[h1,if_neg dc,if_neg (by rw[h2];decide),show TK (some 0) (F7 den f g a h) k=aV (F7 den f g a h) k 0 from rfl,hla,if_neg dc];rfl
theorem Mx {l:List Ent}{k:Bs}(hs:Srt l)(hl:l.length<=12):PG (O9 l k)/\(R7 (O9 l k)).length<=460:=by
 have h1:=PH l k hs;have h3:=(ZP (d:=l) (i:=G5 l k) (b:=K8 l k)).1;have h2:PG (O9 l k):=by
  have h5:(O9 l k).p.length<=l.length:=h3;unfold O9 fV at h5 ⊢;split
  ·rename_i hb;rw[if_pos hb] at h5;have ea:(qP l (G5 l k)).a=(G5 l k:Int):=rfl;have em:(qP l (G5 l k)).m=(l.length:Int):=rfl;exact⟨by rw[ea];omega,by rw[em];omega,om⟩
  exact zU
 have h4:=Nb (p:=O9 l k);have h5:(O9 l k).p.length<=l.length:=h3;exact⟨h2,om⟩
def vP (den f g:Bs):Prop:=den.length<=3/\f.length<=3/\g.length<=3
theorem MW (hs:vP den f g)(hh:0<=h/\h<=1000):TxG { X0 with k:=13,x:=⟨0,[99],[],den,a,f,g,h,0⟩ }/\(j6 { X0 with k:=13,x:=⟨0,[99],[],den,a,f,g,h,0⟩ }).length<=1000:=by
 obtain⟨s1,s2,s3⟩:=hs;refine⟨⟨by show (0:Int)<=13/\(13:Int)<=16;decide,J8,J8,J8,J8,J8,zi,J8,zi,zi,zi,by show 0<=h/\h<=1099511627776;omega,zi,zi,by show 1<=4000;decide,J8,by show den.length<=4000;omega,by show f.length<=4000;omega,by show g.length<=4000;omega,J8,zU,zV,Nat.le_trans pF dc⟩,?_⟩;have h1:=EX (x:={ X0 with k:=13,x:=⟨0,[99],[],den,a,f,g,h,0⟩ });have h2:=pF;have h3:=YF;have e:(j6 { X0 with k:=13,x:=⟨0,[99],[],den,a,f,g,h,0⟩ }).length<=260+0+0+0+0+0+0+1+0+den.length+f.length+g.length+0+(R7 P6).length+(dY lD).length:=h1;omega
theorem a4c (hs:vP den f g)(hh:0<=h/\h<=1000)(hk:0<=k/\k<=1000)(hd:DOk Do)(hl:Do.length<=12):TxG (qD Do k (F7 den f g a h))/\(j6 (qD Do k (F7 den f g a h))).length<=1000:=by
 obtain⟨s1,s2,s3⟩:=hs;obtain⟨g1,g2⟩:=Mx (k:=kP) hd.s hl;refine⟨⟨by show (0:Int)<=14/\(14:Int)<=16;decide,J8,J8,J8,J8,J8,zi,J8,zi,zi,by show (0:Int)<=1/\(1:Int)<=1099511627776;decide,by show 0<=h/\h<=1099511627776;omega,zi,by show 0<=k/\k<=1099511627776;omega,by show 1<=4000;decide,by show 1<=4000;decide,by show den.length<=4000;omega,by show f.length<=4000;omega,by show g.length<=4000;omega,J8,g1,zV,Nat.le_trans pF dc⟩,?_⟩;have h1:=EX (x:=qD Do k (F7 den f g a h));have h2:=pF;have e:(j6 (qD Do k (F7 den f g a h))).length<=260+0+0+0+0+0+0+1+1+den.length+f.length+g.length+0+(R7 (O9 Do kP)).length+(dY lD).length:=h1;omega
theorem b3K (hs:vP den f g)(hh:0<=h/\h<=1000)(hk:0<=k/\k<=1000)(hd:DOk Do)(hl:Do.length<=12):TxG (yJ Do k (F7 den f g a h) [43])/\(j6 (yJ Do k (F7 den f g a h) [43])).length<=1000:=by
 obtain⟨s1,s2,s3⟩:=hs;obtain⟨g1,g2⟩:=Mx (k:=kG) hd.s hl;refine⟨⟨by show (0:Int)<=15/\(15:Int)<=16;decide,J8,J8,J8,J8,J8,zi,J8,zi,zi,by show (0:Int)<=1/\(1:Int)<=1099511627776;decide,by show 0<=h/\h<=1099511627776;omega,zi,by show 0<=k/\k<=1099511627776;omega,by show 1<=4000;decide,by show 1<=4000;decide,by show den.length<=4000;omega,by show f.length<=4000;omega,by show g.length<=4000;omega,by show 1<=4000;decide,g1,zV,Nat.le_trans pF dc⟩,?_⟩;have h1:=EX (x:=yJ Do k (F7 den f g a h) [43]);have h2:=pF;have e:(j6 (yJ Do k (F7 den f g a h) [43])).length<=260+0+0+0+0+0+0+1+1+den.length+f.length+g.length+1+(R7 (O9 Do kG)).length+(dY lD).length:=h1;omega
end
inductive RnL:Nat->SpX × SpX->SpX × SpX->Prop
 | nil (p:SpX × SpX):RnL 0 p p
 | step {n:Nat} {p q:SpX × SpX} (h1:RndOk p.1 p.2) (h2:RndOk p.2 (fM p.1 p.2)) (h:RnL n (FH p) q):RnL (n+1) p q
theorem Kb {n:Nat}{p:SpX × SpX}:Z8 (n+1) p=Z8 n (FH p):=by
 induction n with
 | zero=>rfl
 | succ n ih=>
  show FH (Z8 (n+1) p)=FH (Z8 n (FH p));rw[ih]
theorem RnL.all {n:Nat}{p q:SpX × SpX}(h:RnL n p q):Z8 n p=q/\∀ k<n,RndOk (Z8 k p).1 (Z8 k p).2/\RndOk (Z8 k p).2 (fM (Z8 k p).1 (Z8 k p).2):=by
 induction h with
 | nil p=>exact⟨rfl,λk hk=>absurd hk (Nat.not_lt_zero k)⟩
 | @step n p q h1 h2 h ih=>
  refine⟨Kb.trans ih.1,λk hk=>?_⟩;cases k with
  | zero=>exact⟨h1,h2⟩
  | succ k=>
   rw[Kb];exact ih.2 k om
theorem RnL.set {n:Nat}{p q:SpX × SpX}(h:RnL n p q)(ha:p.1.c.dd=false/\p.1.am=false)(hb:p.2.c.dd=false/\p.2.am=false)(he:CG q.1.c/\CG q.2.c):SetOk n p:=
 ⟨ha,hb,λk hk=>(h.all.2 k hk).1,λk hk=>(h.all.2 k hk).2,by rw[h.all.1];exact he⟩
end

section
attribute [local irreducible] j6 O7 N9 M9 Z9 O4 S9 K7
def Idl (F:Bs->Option Bs)(ev evo:List EvX):Prop:=
 (sn evo=[]\/∃ den f g a h,sn evo=[F7 den f g a h]/\(F kG).isSome=true)/\(sn ev=[]\/∃ den f g a h,sn ev=[F7 den f g a h]/\F kP=none)
theorem EA:kP≠kC:=by decide
theorem EB:kG≠kC:=by decide
theorem Am:kN≠kC:=by decide
theorem FV {v:Option Bs}:mo v<=1:=by unfold mo;split <;> omega
section
variable {nm no:Bs} {z a b o:SpX} {bs bo bA bB:List BlkX} {ws wo:List Bs} {l lo lA lB:List Sta} {s so sA sB:Sta} {m mA mB:Nat} {F FA FB:Bs->Option Bs} {ev evo O0 evB:List EvX} {D Do:List Ent} {n k:Int}
theorem Mp.g {d:List Ent}(h:Mp d m (fC no l s F)){q:Bs}(hq:q≠kC):gO d q=F q:=by rw[h.f,vC hq]
theorem KE (hM:Mp D m (fC no l s F))(h1:∀ v∈ev,v.h<=n)(h2:∀ v∈evo,v.h<=k)(hI:Idl F ev evo):DD D Do n k ev evo=[]:=by
 rw[SF h1 h2];obtain⟨i1,i2⟩:=hI;have e1:eD D Do (n+1) 0 k (sn evo)=[]:=by
  rcases i1 with e|⟨den,f,g,a,h,e,hG⟩
  ·rw[e];rfl
  rw[e];exact Xe (by rw[hM.g EB];exact hG)
 have e2:iQ D Do (gV evo) k (some 0) (sn ev)=[]:=by
  rcases i2 with e|⟨den,f,g,a,h,e,hP⟩
  ·rw[e];rfl
  rw[e];exact Zv (by rw[hM.g EA];exact hP)
 rw[e1,e2];rfl
theorem EU (h:SvS nm no z bs [] l s m F ev):eQ z=z:=by
 unfold eQ;rw[if_pos (by rw[h.L.c];rfl)]
theorem SvS.tm (h:SvS nm no z bs ws l s m F ev)(hn:nm.length=1):M6 z.c=0:=h.L.tm om h.b.1
theorem Aw (n:Nat)(ha:SvS [97] [98] a bA [] lA sA mA FA O0)(hb:SvS [98] [97] b bB [] lB sB mB FB evB)(iA:Idl FA O0 evB)(iB:Idl FB evB O0)(s1:sA.h<bB.length)(s2:sB.h<bA.length+2)
  (n1:bA.length+2*n<=49) (n2:bB.length+2*n<=49) (l1:lA.length+n<=24) (l2:lB.length+n<=24) :
  ∃ a' b' bA' bB' lA' lB' sA' sB',RnL n (a,b) (a',b')/\SvS [97] [98] a' bA' [] lA' sA' mA FA O0/\SvS [98] [97] b' bB' [] lB' sB' mB FB evB/\bA'.length=bA.length+2*n/\bB'.length=bB.length+2*n/\sA'.h<bB'.length/\sB'.h<bA'.length+2/\lA'.length=lA.length+n/\lB'.length=lB.length+n/\sB.h<=sB'.h:=by
 induction n generalizing a b bA bB lA lB sA sB with
 | zero=>exact⟨a,b,bA,bB,lA,lB,sA,sB,.nil _,ha,hb,om,om,s1,s2,om,om,Int.le_refl _⟩
 | succ n ih=>
  have eA:=ha.evh rfl;have eB:=hb.evh rfl;obtain⟨r1,bA1,ha1,hl1⟩:=ha.rnd0 (ha.sc rfl) (ha.tm rfl) (EU ha) hb rfl rfl s1 om om (λD hM=>KE hM (λv hv=>by have:=eA v hv;omega) eB iA);have eA1:=ha1.evh rfl;obtain⟨r2,bB1,hb1,hl2⟩:=hb.rnd0 (hb.sc rfl) (hb.tm rfl) (EU hb) ha1 rfl rfl om om om (λD hM=>KE hM (λv hv=>by have:=eB v hv;omega) eA1 iB);obtain⟨a',b',bA',bB',lA',lB',sA',sB',g0,g1,g2,g3,g4,g5,g6,g7,g8,g9⟩:=ih ha1 hb1 (by show (bB.length:Int)<bB1.length;omega) (by show (bA1.length:Int)<bA1.length+2;omega) om om (by rw[lla,List.length_singleton];omega) (by rw[lla,List.length_singleton];omega);rw[lla,List.length_singleton] at g7 g8;have g9':(bA1.length:Int)<=sB'.h:=g9;exact⟨a',b',bA',bB',lA',lB',sA',sB',.step r1 r2 g0,g1,g2,om,om,g5,g6,om,om,om⟩
end
end

attribute [local irreducible] j6 O7 N9 M9 Z9 O4 S9 K7
def N8 (den f g:Bs)(w:Wd)(h:Int):TxX:={ X0 with k:=13,x:=⟨0,[99],[],den,w,f,g,h,0⟩ }
section
variable {nm no:Bs} {z o:SpX} {bs bo:List BlkX} {ws wo:List Bs} {l lo:List Sta} {s so:Sta} {m m1 mo':Nat} {F F1 Fo:Bs->Option Bs} {ev evo:List EvX} {D Do:List Ent} {n k h:Int} {den f g:Bs} {w:Wd}
theorem Mp.mono (hM:Mp D m F)(h:m<=m1):Mp D m1 F:=⟨hM.ok,Nat.le_trans hM.l h,hM.f⟩
theorem WQ {e:EvX}:sn (ev++[e])=sn ev++if e.k=13 then [e.x] else []:=by
 unfold sn;rw[List.filter_append,List.map_append];congr 1
 by_cases h:e.k=13
 ·rw[if_pos h];simp[h]
 rw[if_neg h];simp[h]
def ComN (F:Bs->Option Bs)(evo:List EvX):Prop:=sn evo=[]\/∃ den f g a h,sn evo=[F7 den f g a h]/\(F kG).isSome=true
def BakN (F:Bs->Option Bs)(ev:List EvX):Prop:=sn ev=[]\/∃ den f g a h,sn ev=[F7 den f g a h]/\F kP=none
theorem Xd (hM:Mp D m (fC no l s F)){t:Int}(hI:ComN F evo):eD D Do n t k (sn evo)=[]:=by
 rcases hI with e|⟨den,f,g,a,h,e,hG⟩
 ·rw[e];rfl
 rw[e];exact Xe (by rw[hM.g EB];exact hG)
theorem b1w (hM:Mp D m (fC no l s F)){A:Pkt->Option Bs}{o:Option Int}(hI:BakN F ev):iQ D Do A k o (sn ev)=[]:=by
 rcases hI with e|⟨den,f,g,a,h,e,hP⟩
 ·rw[e];rfl
 rw[e];exact Zv (by rw[hM.g EA];exact hP)
theorem SvS.snd (hz:SvS nm no z bs [] l s m F ev)(hnm:nm.length=1)(hno:no.length=1)(hN:F kN=none)(hpk:vY den f g=true)(hsh:vP den f g)(hw:w.n≠0)(hb:bs.length<=48)
  (hs:∀ D,Mp D m (fC no l s F)->∃ d1,Z6 D (F7 den f g w (s.h+20))=(d1,0)/\Mp d1 m1 (fC no l s F1)) (hm:m1<=10) (h1:F1 kK=F kK) (h2:F1 kH=F kH) (hsn:s.h<=900) :
  R6 z.c (j6 (N8 den f g w (s.h+20)))=0/\SpC (K7 z (j6 (N8 den f g w (s.h+20))))/\M6 (K7 z (j6 (N8 den f g w (s.h+20)))).c=0 /\
   ∃ z1 b,eQ (K7 z (j6 (N8 den f g w (s.h+20))))=z1/\SvS nm no z1 (bs++[b]) [] l s (m1+2) (D9 (D9 F1 kP (some (M9 (F7 den f g w (s.h+20))))) kN (some (y9 110 2))) (ev++[⟨bs.length+1,13,F7 den f g w (s.h+20),[]⟩]):=by
 have hg:=hz.g.s;obtain⟨x1,x2⟩:=MW (a:=w) (h:=s.h+20) hsh om;obtain⟨e,hsub⟩:=hz.sub (t:=j6 (N8 den f g w (s.h+20))) x2;refine⟨e,hsub.sc hnm,hsub.tm hnm,?_⟩;obtain⟨d1,a1,M1⟩:=hs _ hz.M;obtain⟨d2,a2,M2⟩:=a2C hz.ch hz.c hno (by rw[hz.M.g Am];exact hN) hpk hw a1 M1 om;rw[wK EA,wK Am] at M2;have M3:=M2.mono (m1:=m1+2) (by have:=FV (v:=fC no l s F1 kP);have:=FV (v:=fC no l s (D9 F1 kP (some (M9 (F7 den f g w (s.h+20))))) kN);omega);have kk:D9 (D9 F1 kP (some (M9 (F7 den f g w (s.h+20))))) kN (some (y9 110 2)) kK=some (E9 (Q5 3)):=by
  rw[J2 dc,J2 dc,h1];exact hz.k
 have hh:D9 (D9 F1 kP (some (M9 (F7 den f g w (s.h+20))))) kN (some (y9 110 2)) kH=some (E9 (U6 3)):=by
  rw[J2 dc,J2 dc,h2];exact hz.h
 obtain⟨z1,b,e1,hv,hb1⟩:=SvS.cut1 (x:=N8 den f g w (s.h+20)) (r:=⟨0,1,[]⟩) hsub om x1 x2 hz.g hz.ll ⟨d2,a2,M3⟩ om kk hh;refine⟨z1,b,?_,?_⟩
 ·unfold eQ;rw[if_neg (by rw[hsub.L.c];show ¬ (1:Nat)=0;decide),hsub.tm hnm,e1]
 have hev:jF (Dm nm (bs++[b])) (bs.length+1) (N8 den f g w (s.h+20)) ⟨0,1,[]⟩=⟨bs.length+1,13,F7 den f g w (s.h+20),[]⟩:=by
  have h4:=hv.ch.en.2.2.2;show (⟨_,13,⟨1,[99],(I1 (Dm nm (bs++[b])) [72] [99]).p,den,w,f,g,s.h+20,0⟩,[]⟩:EvX)=_;rw[h4];rfl
 rw[if_pos ⟨rfl,by show (13:Int)<=13;decide⟩,hev] at hv;exact hv
theorem SvS.rcv (hz:SvS nm no z bs [] l s m F ev)(ho:SvS no nm o bo wo lo so mo' Fo evo)(hnm:nm.length=1)(hno:no.length=1)(hs:s.h<bo.length)(hb:bs.length<=46)(hll:l.length<=23)(hpk:vY den f g=true)(hsh:vP den f g)(hw:w.n≠0)
  (hsn:sn evo=[F7 den f g w h]) (hG:F kG=none) (hB:BakN F ev) (hh:(bs.length:Int)+2<h/\h<=1000) (hP:Fo kP=some (M9 (F7 den f g w h)))
  (hr:∀ D,Mp D m (fC no (l++[s]) (aR no bo) F)->∃ d1,Y7 D (F7 den f g w h)=(d1,0)/\Mp d1 m1 (fC no (l++[s]) (aR no bo) F1)) (hm:m1<=11) (h1:F1 kK=F kK) (h2:F1 kH=F kH) :
  RndOk z o/\∃ bs',SvS nm no (fM z o) bs' [] (l++[s]) (aR no bo) (m1+1) (D9 F1 kG (some (Z9 [43]))) (ev++[⟨bs.length+2,14,F7 den f g w h,[43]⟩])/\bs'.length=bs.length+2:=by
 have hob:=ho.b;have hdo:=ho.M.ok;have hdl:(Dm no bo).length<=12:=Nat.le_trans ho.M.l ho.m;obtain⟨x1,x2⟩:=a4c (a:=w) (h:=h) (k:=bo.length) hsh om om hdo hdl;have eo:=ho.evh hno;have ez:=hz.evh hnm;refine hz.rnd1 (x:=qD (Dm no bo) bo.length (F7 den f g w h)) (r:=⟨0,0,[43]⟩) (hz.sc hnm) (hz.tm hnm) (EU hz) ho hnm hno hs om hll x1 x2 om (by rw[J2 dc,h1];exact hz.k) (by rw[J2 dc,h2];exact hz.h) ⟨rfl,by show (13:Int)<=14;decide⟩ ?_;intro D hM hc hch;refine⟨?_,?_⟩
 ·rw[SF (λv hv=>by have:=ez v hv;omega) eo,hsn,b0v (by rw[hM.g EB];exact hG) om,b1w hM hB];rfl
 obtain⟨d1,a1,M1⟩:=hr D hM;obtain⟨d2,a2,M2⟩:=a4b hch hc hno hdo (l:=Dm no bo) rfl hpk hw (h:=h) om (i:=(bs.length:Int)+2) hh.1 (by rw[hM.g EB];exact hG) (by rw[ho.M.g EA];exact hP) a1 M1 om;rw[wK EB] at M2;exact⟨d2,a2,M2.mono (by have:=FV (v:=fC no (l++[s]) (aR no bo) F1 kG);omega),rfl⟩
theorem SvS.ack (hz:SvS nm no z bs [] l s m F ev)(ho:SvS no nm o bo wo lo so mo' Fo evo)(hnm:nm.length=1)(hno:no.length=1)(hs:s.h<bo.length)(hb:bs.length<=46)(hll:l.length<=23)(hpk:vY den f g=true)(hsh:vP den f g)(hw:w.n≠0)
  (hsn:sn ev=[F7 den f g w h]) (hP:F kP=some (M9 (F7 den f g w h))) (hC:ComN F evo) (hh:1<=h/\h<=1000) (hG:Fo kG=some (Z9 [43])) (hA:gV evo (F7 den f g w h)=some [43]) :
  RndOk z o/\∃ bs',SvS nm no (fM z o) bs' [] (l++[s]) (aR no bo) m (D9 F kP none) (ev++[⟨bs.length+2,15,F7 den f g w h,[43]⟩])/\bs'.length=bs.length+2:=by
 have hob:=ho.b;have hdo:=ho.M.ok;have hdl:(Dm no bo).length<=12:=Nat.le_trans ho.M.l ho.m;obtain⟨x1,x2⟩:=b3K (a:=w) (h:=h) (k:=bo.length) hsh om om hdo hdl;have eo:=ho.evh hno;have ez:=hz.evh hnm;refine hz.rnd1 (x:=yJ (Dm no bo) bo.length (F7 den f g w h) [43]) (r:=oG) (hz.sc hnm) (hz.tm hnm) (EU hz) ho hnm hno hs om hll x1 x2 hz.m (by rw[J2 dc];exact hz.k) (by rw[J2 dc];exact hz.h) ⟨rfl,by show (13:Int)<=15;decide⟩ ?_;intro D hM hc hch;refine⟨?_,?_⟩
 ·rw[SF (λv hv=>by have:=ez v hv;omega) eo,hsn,Xd hM hC,b1x (by rw[hM.g EA,hP];rfl) hdo (by rw[ho.M.g EB,hG];rfl),hA];rfl
 obtain⟨a1,M1⟩:=b3J hM hch hc hno hdo (l:=Dm no bo) rfl hpk hw (h:=h) om (by rw[hM.g EA];exact hP) (by rw[ho.M.g EB];exact hG);rw[wK EA] at M1;exact⟨_,a1,M1,rfl⟩
theorem SvS.wait {z0:SpX}(hz:SpC z)(ht:M6 z.c=0)(hw:eQ z=z0)(h0:SvS nm no z0 bs [] l s m F ev)(ho:SvS no nm o bo wo lo so mo' Fo evo)(hnm:nm.length=1)(hno:no.length=1)(hs:s.h<bo.length)(hb:bs.length<=48)(hll:l.length<=23)
  (hC:ComN F evo) (hsn:sn ev=[F7 den f g w h]) (hP:(F kP).isSome=true) (hG:Fo kG=none) (hh:(bo.length:Int)<h) :
  RndOk z o/\∃ bs',SvS nm no (fM z o) bs' [] (l++[s]) (aR no bo) m F ev/\bs'.length=bs.length+2:=by
 have eo:=ho.evh hno;have ez:=h0.evh hnm;refine h0.rnd0 hz ht hw ho hnm hno hs hb hll ?_;intro D hM;rw[SF (λv hv=>by have:=ez v hv;omega) eo,hsn,Xd hM hC,b1v ho.M.ok (by rw[ho.M.g EB];exact hG) hh (by rw[hM.g EA];exact hP)];rfl
end
end Go.Proofs.Z
