/- . -/
import Derived.Test.YtcdbijbhifhkeaaGreatDoorV40
set_option maxHeartbeats 64000000
namespace Go.Proofs.Z
open Go Go.RowKit Tw Av
section
attribute [local irreducible] j6 O7 N9 O9
structure SdS (nm no:Bs)(z:SpX)(bs:List BlkX)(l:List Sta)(s:Sta)(kv hv:Option Bs)(m:Nat):Prop where
 L:SpL nm z bs []
 b:1<=bs.length/\bs.length<=20
 c:CliG (Dm nm bs) no l s
 k:gO (Dm nm bs) kK=kv
 h:gO (Dm nm bs) kH=hv
 o:∀ k,k≠kC->k≠kK->k≠kH->gO (Dm nm bs) k=gO w9 k
 n:(Dm nm bs).length<=m
 ev:(opC nm (x8 nm) w9 bs).ev=[]
section
variable {nm no:Bs} {z o:SpX} {bs bo:List BlkX} {l l':List Sta} {s s':Sta} {kv hv kv' hv':Option Bs} {m m':Nat} {d:List Ent} {key v:Bs}
def jC (no:Bs)(bo:List BlkX):Hdr:=⟨no,bo.length,0,N9 (Dm no bo)⟩
theorem SpL.top {ws:List Bs}(h:SpL no o bo ws)(hn:no.length<=32)(h1:1<=bo.length):eU o.c=jC no bo/\o.c.ky=x8 no:=by
 have o1:=uS (nm:=no) (ky:=x8 no) bD h.ro.bg;have e1:=(h.cg hn h1).top;refine⟨?_,by rw[h.c];exact o1.ky⟩;rw[e1];unfold xI jC;rw[h.st,h.c];show (⟨(opC no (x8 no) w9 bo).nm,((opC no (x8 no) w9 bo).bl.length:Int),X4 (opC no (x8 no) w9 bo).bl,_⟩:Hdr)=_;rw[o1.nm,o1.bl,h.t]
theorem SpL.map {ws:List Bs}(h:SpL no o bo ws):Q7 o.c bo.length=Dm no bo:=by
 have o1:=uS (nm:=no) (ky:=x8 no) bD h.ro.bg;have h2:o.c.ms.length=bo.length+1:=by rw[h.c];exact o1.ms
 have h3:o.c.hs.length=bo.length:=by rw[h.c];exact o1.hs
 unfold Q7;rw[if_pos om,<- h.st];unfold j3;rw[h3,Int.toNat_natCast]
theorem Gn {x:Hdr}{q:Hsh}(hc:x.c.length=1)(hh:0<=x.h/\x.h<=1000)(ht:x.t=0):TxG (eT [107] x q):=
 have z:(0:Int)<=0/\(0:Int)<=1099511627776:=dc
 have n0:([]:Bs).length<=4000:=dc
 ⟨by show (0:Int)<=4/\(4:Int)<=16;decide,by show 1<=4000;decide,n0,n0,n0,n0,z,by show x.c.length<=4000;omega,by show 0<=x.h/\x.h<=1099511627776;omega,by show 0<=x.t/\x.t<=1099511627776;omega,
  z,z,z,z,n0,n0,n0,n0,n0,n0,zU,zV,Nat.le_trans pF dc⟩
theorem QB {x:Hdr}{q:Hsh}(hc:x.c.length=1):(j6 (eT [107] x q)).length<=1000:=by
 have h1:=EX (x:=eT [107] x q);have h2:=pF;have h3:=YF;have e:(j6 (eT [107] x q)).length<=260+1+0+0+0+0+x.c.length+0+0+0+0+0+0+(R7 P6).length+(dY lD).length:=h1;omega
theorem a4h {w:Bs}(hd:DOk d)(h:gO d key=some w):(O8 d key v).length=d.length:=by
 rw[RZ hd.s,if_pos (by rw[xY hd.s,h];rfl)];rfl
theorem SdS.upd (hz:SdS nm no z bs l s kv hv m)(ho:SpL no o bo [])(hb:1<=bo.length/\bo.length<=100)(hno:no.length=1)(hs:s.h<bo.length)(hll:l.length<=29)(hm:m<=100) :
  ∃ z',S9 z (j6 (O3 o.c))=(z',true)/\SpL nm z' (bs++[J7 bs [j6 (O3 o.c)] 0]) []/\CliG (Dm nm (bs++[J7 bs [j6 (O3 o.c)] 0])) no (l++[s]) ⟨bo.length,0,N9 (Dm no bo)⟩ /\
   (∀ k,k≠kC->gO (Dm nm (bs++[J7 bs [j6 (O3 o.c)] 0])) k=gO (Dm nm bs) k)/\(Dm nm (bs++[J7 bs [j6 (O3 o.c)] 0])).length=(Dm nm bs).length/\(opC nm (x8 nm) w9 (bs++[J7 bs [j6 (O3 o.c)] 0])).ev=(opC nm (x8 nm) w9 bs).ev/\z'.x.n=z.x.n:=by
 obtain⟨t1,t2⟩:=ho.top om hb.1;have hu:O3 o.c=eT [107] (jC no bo) (O7 (x8 no) (jC no bo)):=by
  unfold O3;rw[t1,t2]
 rw[hu];have hd:=wN (nm:=nm) hz.L.ro.bg;have hg:TxG (eT [107] (jC no bo) (O7 (x8 no) (jC no bo))):=Gn hno (by show (0:Int)<=bo.length/\(bo.length:Int)<=1000;omega) rfl;have hlen:(j6 (eT [107] (jC no bo) (O7 (x8 no) (jC no bo)))).length<=1000:=QB hno;obtain⟨z',e1,L1,nn⟩:=hz.L.does hlen (by have:=hz.b;omega);have ht:max (min 0 1099511627776) (X4 bs)=0:=by rw[hz.L.t];rfl
 have hlt:(Dm nm bs).length<2000:=by have:=hz.n;omega
 obtain⟨p1,p2,p3⟩:=Gm (h:=(bs.length:Int)+1) hd hlt hno hz.c hll (x:=jC no bo) rfl ⟨hs,by show (bo.length:Int)<=1000;omega⟩ rfl;have hD:Dm nm (bs++[J7 bs [j6 (eT [107] (jC no bo) (O7 (x8 no) (jC no bo)))] 0])=O8 (Dm nm bs) kC (Q8 (dQ no (l++[s]++[X8 (jC no bo)]))):=by
  rw[EM hz.L.ro.bg];show (M4 (Dm nm bs) ⟨bs.length+1,max (min 0 1099511627776) (X4 bs),[j6 _]⟩).1=_;rw[ht,FE hg hlen,p1]
 refine⟨z',e1,L1,?_,?_,?_,?_,nn⟩
 ·rw[hD];exact p3
 ·intro k hk;rw[hD,uX hd.s,if_neg hk]
 ·rw[hD];exact a4h hd hz.c.v
 rw[GM];show _++(M4 (Dm nm bs) ⟨bs.length+1,max (min 0 1099511627776) (X4 bs),[j6 _]⟩).2.2=_;rw[ht,FE hg hlen,if_neg (by rintro⟨_,h⟩;exact absurd h (by show ¬ (13:Int)<=4;decide))];exact List.append_nil _
theorem SdS.hand {x:TxX}(hz:SdS nm no z bs l s kv hv m)(ho:SpL no o bo [])(hb:1<=bo.length/\bo.length<=100)(hol:(Dm no bo).length<=10)(hnm:nm.length=1)(hno:no.length=1)(hs:s.h<bo.length)(hll:l.length<=29)(hm:m<=100)
  (hx1:∀ t f,0<=t/\t<=1000->PG f->TxG { x with t:=t,f:=f }) (hx2:∀ t f,(R7 f).length<=388->(j6 { x with t:=t,f:=f }).length<=1000) (hx3:∀ t f,t<=1000->PG f->TxW { x with t:=t,f:=f }) (hx4:x.k<13) (hkey:key≠kC)
  (hdo:∀ d h,DOk d->d.length<2000->CliG d no (l++[s]) ⟨bo.length,0,N9 (Dm no bo)⟩->gO d kK=kv->gO d kH=hv->HsG d key v (u7 d { x with t:=bo.length,f:=O9 (Dm no bo) key } h 0)) (hkK:kK≠kC) (hkH:kH≠kC) :
  ∃ z' bs',HandOk z o z' x key/\SpL nm z' bs' []/\bs'.length=bs.length+2/\CliG (Dm nm bs') no (l++[s]) ⟨bo.length,0,N9 (Dm no bo)⟩/\(∀ k,k≠kC->gO (Dm nm bs') k=if k=key then some v else gO (Dm nm bs) k) /\
   (Dm nm bs').length=(Dm nm bs).length+(if (gO (Dm nm bs) key).isSome=true then 0 else 1)/\(opC nm (x8 nm) w9 bs').ev=(opC nm (x8 nm) w9 bs).ev/\z'.x.n=z.x.n:=by
 obtain⟨z1,e1,L1,c1,g1,n1,v1,nn1⟩:=hz.upd ho hb hno hs hll hm;obtain⟨bs1,hbs1⟩:∃ b,bs++[J7 bs [j6 (O3 o.c)] 0]=b:=⟨_,rfl⟩;have hbl1:bs1.length=bs.length+1:=by rw[<- hbs1,lla,List.length_singleton]
 rw[hbs1] at L1 c1 g1 n1 v1;have hzb:=hz.b;have U9:=wN (nm:=nm) L1.ro.bg;have hdo1:=wN (nm:=no) ho.ro.bg;have hlt:(Dm nm bs1).length<2000:=by have:=hz.n;omega
 obtain⟨pg,pl⟩:=a4y (k:=key) hdo1.s hol;obtain⟨x2,hx⟩:∃ y,y={ x with t:=(bo.length:Int),f:=O9 (Dm no bo) key }:=⟨_,rfl⟩;have hx2k:x2.k<13:=by rw[hx];exact hx4
 have hg2:TxG x2:=by rw[hx];exact hx1 _ _ om pg
 have hl2:(j6 x2).length<=1000:=by rw[hx];exact hx2 _ _ pl
 have hw2:TxW x2:=by rw[hx];exact hx3 _ _ om pg
 have hH:HsG (Dm nm bs1) key v (u7 (Dm nm bs1) x2 (bs1.length+1) 0):=by
  rw[hx];exact hdo _ _ U9 hlt c1 (by rw[g1 _ hkK];exact hz.k) (by rw[g1 _ hkH];exact hz.h)
 obtain⟨h1,h2⟩:=hH;obtain⟨z2,e2,L2,nn2⟩:=L1.does hl2 om;have hhan:EF x key z1.c o.c=x2:=by
  unfold EF;rw[L1.st,c1.kn hno,hx];show ({ x with t:=(bo.length:Int),f:=O9 (Q7 o.c bo.length) key }:TxX)=_;rw[ho.map]
 have e1':(S9 z (j6 (O3 o.c))).1=z1:=by rw[e1]
 have ht:max (min 0 1099511627776) (X4 bs1)=0:=by rw[L1.t];rfl
 have hD:Dm nm (bs1++[J7 bs1 [j6 x2] 0])=O8 (Dm nm bs1) key v:=by
  rw[EM L1.ro.bg];show (M4 (Dm nm bs1) ⟨bs1.length+1,max (min 0 1099511627776) (X4 bs1),[j6 _]⟩).1=_;rw[ht,FE hg2 hl2,h1]
 have s1:=hz.L.sub (s:=j6 (O3 o.c)) (by
  obtain⟨t1,t2⟩:=ho.top om hb.1;unfold O3;rw[t1,t2];exact QB hno)
 have s2:=L1.sub hl2;refine⟨z2,bs1++[J7 bs1 [j6 x2] 0],⟨hz.L.sc om hzb.1 om,ho.sc om hb.1 hb.2,λ_=>s1.2.ok om,by rw[e1],?_,?_,?_,?_⟩,L2,?_,?_,?_,?_,?_,nn2.trans nn1⟩
 ·rw[e1'];exact L1.sc om om om
 ·rw[e1',hhan];exact hw2
 ·rw[e1',hhan];exact λ_=>s2.2.ok om
 ·rw[e1',hhan];exact e2
 ·rw[lla,List.length_singleton];omega
 ·rw[hD];exact c1.put U9 hkey
 ·intro k hk;rw[hD,uX U9.s];by_cases hkk:k=key
  ·rw[if_pos hkk,if_pos hkk]
  rw[if_neg hkk,if_neg hkk,g1 k hk]
 ·rw[hD,RZ U9.s,xY U9.s,g1 key hkey,n1]
 rw[GM];show _++(M4 (Dm nm bs1) ⟨bs1.length+1,max (min 0 1099511627776) (X4 bs1),[j6 _]⟩).2.2=_;rw[ht,FE hg2 hl2,if_neg (by rintro⟨_,h⟩;omega),v1];exact List.append_nil _
end
end

section
theorem GA:kK≠kC:=by decide
theorem GD:kH≠kC:=by decide
theorem Qn:kK≠kH:=by decide
attribute [local irreducible] j6 O7 N9 O9
section
variable {k t:Int} {f:Prf}
theorem zi:(0:Int)<=0/\(0:Int)<=1099511627776:=by decide
theorem J8:([]:Bs).length<=4000:=by decide
theorem b0u (hk:0<=k/\k<=16)(t:Int)(f:Prf)(ht:0<=t/\t<=1000)(hf:PG f):TxG (dD k t f):=
 ⟨hk,by show 1<=4000;decide,by show 1<=4000;decide,by show 1<=4000;decide,by show 1<=4000;decide,J8,zi,J8,zi,zi,zi,zi,zi,by show 0<=t/\t<=1099511627776;omega,J8,J8,J8,J8,J8,J8,hf,zV,Nat.le_trans pF dc⟩
theorem b0R (hk:0<=k/\k<=16)(t:Int)(f:Prf)(ht:0<=t/\t<=1000)(hf:PG f):TxG (dE k t f):=
 ⟨hk,by show 1<=4000;decide,by show 1<=4000;decide,by show 1<=4000;decide,by show 1<=4000;decide,J8,zi,J8,zi,zi,zi,zi,zi,by show 0<=t/\t<=1099511627776;omega,J8,J8,J8,J8,J8,J8,hf,zV,Nat.le_trans pF dc⟩
theorem b0t (t:Int)(f:Prf)(hf:(R7 f).length<=388):(j6 (dD k t f)).length<=1000:=by
 have h1:=EX (x:=dD k t f);have h2:=pF;have e:(j6 (dD k t f)).length<=260+1+1+1+1+0+0+0+0+0+0+0+0+(R7 f).length+(dY lD).length:=h1;omega
theorem b0Q (t:Int)(f:Prf)(hf:(R7 f).length<=388):(j6 (dE k t f)).length<=1000:=by
 have h1:=EX (x:=dE k t f);have h2:=pF;have e:(j6 (dE k t f)).length<=260+1+1+1+1+0+0+0+0+0+0+0+0+(R7 f).length+(dY lD).length:=h1;omega
theorem b0s (hk:k<=16)(t:Int)(f:Prf)(ht:t<=1000)(hf:PG f):TxW (dD k t f):=by
 have h1:=hf.a;have h2:=hf.m;have h3:=hf.l;exact⟨by show k<=_;omega,Z5,Z5,Z5,Z5,Z5,Z5,by show t<=_;omega,⟨by show f.p.length<=_;omega,by show f.a<=_;omega,by show f.m<=_;omega⟩,BZ⟩
theorem b0P (hk:k<=16)(t:Int)(f:Prf)(ht:t<=1000)(hf:PG f):TxW (dE k t f):=by
 have h1:=hf.a;have h2:=hf.m;have h3:=hf.l;exact⟨by show k<=_;omega,Z5,Z5,Z5,Z5,Z5,Z5,by show t<=_;omega,⟨by show f.p.length<=_;omega,by show f.a<=_;omega,by show f.m<=_;omega⟩,BZ⟩
end
section
variable {nm no:Bs} {z o:SpX} {bs bo:List BlkX} {l l':List Sta} {s s':Sta} {kv hv kv' hv':Option Bs} {m m':Nat} {v:Bs}
abbrev aR (no:Bs)(bo:List BlkX):Sta:=⟨bo.length,0,N9 (Dm no bo)⟩
theorem SdS.handK {k:Int}(hz:SdS nm no z bs l s kv hv m)(ho:SdS no nm o bo l' s' kv' hv' m')(hnm:nm.length=1)(hno:no.length=1)(hs:s.h<bo.length)(hll:l.length<=20)(hm:m<=9)(hm':m'<=10)(hb:bs.length<=18)(hk:0<=k/\k<13)
  (hdo:∀ d h,DOk d->d.length<2000->CliG d no (l++[s]) (aR no bo)->gO d kK=kv->gO d kH=hv->HsG d kK v (u7 d (dD k bo.length (O9 (Dm no bo) kK)) h 0)) :
  ∃ z' bs',HandOk z o z' (dD k 0 P6) kK/\SdS nm no z' bs' (l++[s]) (aR no bo) (some v) hv (m+1)/\bs'.length=bs.length+2/\z'.x.n=z.x.n:=by
 have hob:=ho.b;have hon:=ho.n;have hzb:=hz.b;have hzn:=hz.n;obtain⟨z',bs',h1,h2,h3,h4,h5,h6,h7,h8⟩:=hz.hand (x:=dD k 0 P6) (key:=kK) (v:=v) ho.L ⟨hob.1,om⟩ om hnm hno hs om om (λt f=>b0u (k:=k) om t f) (λt f=>b0t t f) (λt f=>b0s (k:=k) om t f) hk.2 GA hdo GA GD;refine⟨z',bs',h1,⟨h2,om,h4,by rw[h5 kK GA,if_pos rfl],by rw[h5 kH GD,if_neg (λe=>Qn e.symm)];exact hz.h,λk a1 a2 a3=>by rw[h5 k a1,if_neg a2];exact hz.o k a1 a2 a3,by rw[h6];split <;> omega,by rw[h7];exact hz.ev⟩,h3,h8⟩
theorem SdS.handH {k:Int}(hz:SdS nm no z bs l s kv hv m)(ho:SdS no nm o bo l' s' kv' hv' m')(hnm:nm.length=1)(hno:no.length=1)(hs:s.h<bo.length)(hll:l.length<=20)(hm:m<=9)(hm':m'<=10)(hb:bs.length<=18)(hk:0<=k/\k<13)
  (hdo:∀ d h,DOk d->d.length<2000->CliG d no (l++[s]) (aR no bo)->gO d kK=kv->gO d kH=hv->HsG d kH v (u7 d (dE k bo.length (O9 (Dm no bo) kH)) h 0)) :
  ∃ z' bs',HandOk z o z' (dE k 0 P6) kH/\SdS nm no z' bs' (l++[s]) (aR no bo) kv (some v) (m+1)/\bs'.length=bs.length+2/\z'.x.n=z.x.n:=by
 have hob:=ho.b;have hon:=ho.n;have hzb:=hz.b;have hzn:=hz.n;obtain⟨z',bs',h1,h2,h3,h4,h5,h6,h7,h8⟩:=hz.hand (x:=dE k 0 P6) (key:=kH) (v:=v) ho.L ⟨hob.1,om⟩ om hnm hno hs om om (λt f=>b0R (k:=k) om t f) (λt f=>b0Q t f) (λt f=>b0P (k:=k) om t f) hk.2 GD hdo GA GD;refine⟨z',bs',h1,⟨h2,om,h4,by rw[h5 kK GA,if_neg Qn];exact hz.k,by rw[h5 kH GD,if_pos rfl],λk a1 a2 a3=>by rw[h5 k a1,if_neg a3];exact hz.o k a1 a2 a3,by rw[h6];split <;> omega,by rw[h7];exact hz.ev⟩,h3,h8⟩
end
abbrev mI:BlkX:=J7 [] [] 0
section
variable {nm no:Bs} {z o:SpX} {n:Int}
theorem Rb (hn:400<=n/\n<=4096):∃ z,O4 (mR (dN n) nm [] []) 0=(z,true)/\SpL nm z [mI] []/\z.x.n=n:=by
 have h0:SpL nm (mR (dN n) nm [] []) [] []:=⟨XG om hn.2,rfl,rfl,rfl,rfl,hn.1,Nat.zero_le _,Nat.zero_le _,rfl,Nat.zero_le _,sm⟩;obtain⟨z,e,L,_,nn⟩:=h0.cut dc;exact⟨z,e,L,nn⟩
theorem a7C (h:SpL nm z [mI] []):U9 z.c=⟨nm,1,0,N9 w9⟩:=by
 have e:=TR (nm:=nm) (ky:=x8 nm) (ws:=[]) (dd:=false) bD h.ro.bg (z:=⟨[],0,0,G8⟩) (k:=0) dc;unfold U9;rw[h.c,e];rfl
theorem a7B {b1:BlkX}(h:SpL nm z [mI,b1] []):U9 z.c=⟨nm,1,0,N9 w9⟩:=by
 have e:=TR (nm:=nm) (ky:=x8 nm) (ws:=[]) (dd:=false) bD h.ro.bg (z:=⟨[],0,0,G8⟩) (k:=0) sm;unfold U9;rw[h.c,e];rfl
theorem b0F {x:Hdr}(hn:no.length=1)(hc:x.c.length=1)(hh:0<=x.h/\x.h<=1000)(ht:x.t=0):TxG (kX no x):=by
 have hy:=TL (nm:=no) om;exact⟨by show (0:Int)<=3/\(3:Int)<=16;decide,by show 1<=4000;decide,J8,J8,J8,by show (x8 no).length<=4000;omega,by show (0:Int)<=1000000/\(1000000:Int)<=1099511627776;decide,by show x.c.length<=4000;omega,by show 0<=x.h/\x.h<=1099511627776;omega,by show 0<=x.t/\x.t<=1099511627776;omega,
  zi,zi,zi,zi,J8,J8,J8,J8,J8,J8,zU,zV,Nat.le_trans pF dc⟩
theorem b0E {x:Hdr}(hn:no.length=1)(hc:x.c.length=1):(j6 (kX no x)).length<=1000:=by
 have hy:=TL (nm:=no) om;have h1:=EX (x:=kX no x);have h2:=pF;have h3:=YF;have e:(j6 (kX no x)).length<=260+1+0+0+0+(x8 no).length+x.c.length+0+0+0+0+0+0+(R7 P6).length+(dY lD).length:=h1;omega
theorem b0D {x:Hdr}(hh:x.h<=1000)(ht:x.t=0):TxW (kX no x):=⟨by show (3:Int)<=_;decide,by show (1000000:Int)<=_;decide,by show x.h<=_;omega,by show x.t<=_;omega,Z5,Z5,Z5,Z5,LX,BZ⟩
theorem a9W:U7 w9 [107]=false:=by kernel_rfl
theorem Wl:w9.length<=2:=nlb kr
theorem a9Z:gO w9 kK=none:=by kernel_rfl
theorem b0a:gO w9 kH=none:=by kernel_rfl
theorem Xn {bo:List BlkX}(h:SpL nm z [mI] [])(ho:SpL no o bo [])(hb:1<=bo.length/\bo.length<=20)(hnm:nm.length=1)(hno:no.length=1)(hh:U9 o.c=⟨no,1,0,N9 w9⟩) :
  ∃ z' b1,CltOk no z o z'/\SdS nm no z' [mI,b1] [] ⟨1,0,N9 w9⟩ none none 3/\z'.x.n=z.x.n:=by
 have hg:=b0F (no:=no) (x:=⟨no,1,0,N9 w9⟩) hno hno (by show (0:Int)<=1/\(1:Int)<=1000;decide) rfl;have hl:=b0E (no:=no) (x:=⟨no,1,0,N9 w9⟩) hno hno;obtain⟨p1,p2,p3⟩:=b0h (d:=w9) (nm:=no) (h:=2) bD (Nat.lt_of_le_of_lt Wl dc) hno a9W (x:=⟨no,1,0,N9 w9⟩) rfl (by show (1:Int)<=1/\(1:Int)<=1000;decide) rfl;obtain⟨z',e1,L1,nn⟩:=h.does hl dc;have s1:=h.sub hl;have hr:M4 (Dm nm [mI]) (J7 [mI] [j6 (kX no ⟨no,1,0,N9 w9⟩)] 0)=(O8 w9 kC (Q8 (dQ no [X8 ⟨no,1,0,N9 w9⟩])),[oG],[]):=by
  show M4 w9 ⟨2,0,[j6 (kX no ⟨no,1,0,N9 w9⟩)]⟩=_;rw[FE hg hl,show u7 w9 (kX no ⟨no,1,0,N9 w9⟩) 2 0=_ from p1,if_neg (by rintro⟨_,h⟩;exact absurd h (by show ¬ (13:Int)<=3;decide))]
 have hD:Dm nm ([mI]++[J7 [mI] [j6 (kX no ⟨no,1,0,N9 w9⟩)] 0])=O8 w9 kC (Q8 (dQ no [X8 ⟨no,1,0,N9 w9⟩])):=by
  rw[EM h.ro.bg,hr]
 refine⟨z',J7 [mI] [j6 (kX no ⟨no,1,0,N9 w9⟩)] 0,⟨h.sc om dc dc,ho.sc om hb.1 om,by rw[hh];exact b0D (by show (1:Int)<=1000;decide) rfl,λ_=>by rw[hh];exact s1.2.ok dc,by rw[hh];exact e1⟩,⟨L1,by show 1<=2/\2<=20;decide,?_,?_,?_,?_,?_,?_⟩,nn⟩
 ·exact hD ▸ p3
 ·rw[show Dm nm [mI,_]=_ from hD,uX bD.s,if_neg GA,a9Z]
 ·rw[show Dm nm [mI,_]=_ from hD,uX bD.s,if_neg GD,b0a]
 ·intro k a1 _ _;rw[show Dm nm [mI,_]=_ from hD,uX bD.s,if_neg a1]
 ·rw[show Dm nm [mI,_]=_ from hD];have:=a4k (k:=kC) (v:=Q8 (dQ no [X8 ⟨no,1,0,N9 w9⟩])) bD;have:=Wl;omega
 show (opC nm (x8 nm) w9 ([mI]++[J7 [mI] [j6 (kX no ⟨no,1,0,N9 w9⟩)] 0])).ev=[];rw[GM,hr];rfl
end
end

section
attribute [local irreducible] j6 O7 N9 O9
theorem JU {n:Int}(hn:400<=n/\n<=4096):∃ a0 b0 a1 b1 a2 b2 a3 b3 a4 b4 a5 b5,NewOk n a0 b0 a1 b1 a2 b2 a3 b3 a4 b4 a5 b5/\∃ bA bB lA lB sA sB,SdS [97] [98] a5 bA lA sA (some (E9 (Q5 3))) (some (E9 (U6 3))) 7/\SdS [98] [97] b5 bB lB sB (some (E9 (Q5 3))) (some (E9 (U6 3))) 7 /\
  (bA.length=10/\bB.length=10)/\(sA.h=8/\sB.h=10)/\lA.length=4/\lB.length=4/\a5.x.n=n/\b5.x.n=n:=by
 obtain⟨a0,ea,La,na0⟩:=Rb (nm:=[97]) hn;obtain⟨b0,eb,Lb,nb0⟩:=Rb (nm:=[98]) hn;obtain⟨a1,p1,k1,A1,na1⟩:=Xn La Lb dc rfl rfl (a7C Lb);obtain⟨b1,q1,k2,B1,nb1⟩:=Xn Lb A1.L (by show 1<=2/\2<=20;decide) rfl rfl (a7B A1.L);obtain⟨x1,hx1⟩:∃ x,[mI,p1]=x:=⟨_,rfl⟩;obtain⟨y1,hy1⟩:∃ x,[mI,q1]=x:=⟨_,rfl⟩;have eA1:x1.length=2:=by rw[<- hx1];rfl
 have eB1:y1.length=2:=by rw[<- hy1];rfl
 rw[hx1] at A1;rw[hy1] at B1;obtain⟨a2,x2,h1,A2,eA2,na2⟩:=A1.handK (k:=5) (v:=E9 (Q5 1)) B1 rfl rfl (by show (1:Int)<(y1.length:Int);omega) (nlb rfl) dc dc om dc (λd h hd hl c h1 h2=>b0r hd hl rfl c h1);obtain⟨b2,y2,h2,B2,eB2,nb2⟩:=B1.handK (k:=6) (v:=E9 (Q5 2)) A2 rfl rfl (by show (1:Int)<(x2.length:Int);omega) (nlb rfl) dc dc om dc (λd h hd hl c h1 h2=>b0q (s:=aR [97] x2) (l:=Dm [97] x2) hd hl rfl c h1 (wN A2.L.ro.bg) rfl A2.k);obtain⟨a3,x3,h3,A3,eA3,na3⟩:=A2.handK (k:=7) (v:=E9 (Q5 3)) B2 rfl rfl (by show (y1.length:Int)<(y2.length:Int);omega) (nlb rfl) dc dc om dc (λd h hd hl c h1 h2=>b0p (s:=aR [98] y2) (l:=Dm [98] y2) hd hl rfl c h1 (wN B2.L.ro.bg) rfl B2.k);obtain⟨b3,y3,h4,B3,eB3,nb3⟩:=B2.handK (k:=8) (v:=E9 (Q5 3)) A3 rfl rfl (by show (x2.length:Int)<(x3.length:Int);omega) (nlb rfl) dc dc om dc (λd h hd hl c h1 h2=>b0o (s:=aR [97] x3) (l:=Dm [97] x3) hd hl rfl c h1 (wN A3.L.ro.bg) rfl A3.k);obtain⟨a4,x4,h5,A4,eA4,na4⟩:=A3.handH (k:=9) (v:=E9 (U6 1)) B3 rfl rfl (by show (y2.length:Int)<(y3.length:Int);omega) (nlb rfl) dc dc om dc (λd h hd hl c h1 h2=>b0L hd hl h1 h2);obtain⟨b4,y4,h6,B4,eB4,nb4⟩:=B3.handH (k:=10) (v:=E9 (U6 2)) A4 rfl rfl (by show (x3.length:Int)<(x4.length:Int);omega) (nlb rfl) dc dc om dc (λd h hd hl c h1 h2=>b0O (s:=aR [97] x4) (l:=Dm [97] x4) hd hl rfl c h1 h2 (wN A4.L.ro.bg) rfl A4.h);obtain⟨a5,x5,h7,A5,eA5,na5⟩:=A4.handH (k:=11) (v:=E9 (U6 3)) B4 rfl rfl (by show (y3.length:Int)<(y4.length:Int);omega) (nlb rfl) dc dc om dc (λd h hd hl c h1 h2=>b0N (s:=aR [98] y4) (l:=Dm [98] y4) hd hl rfl c h1 h2 (wN B4.L.ro.bg) rfl B4.h);obtain⟨b5,y5,h8,B5,eB5,nb5⟩:=B4.handH (k:=12) (v:=E9 (U6 3)) A5 rfl rfl (by show (x4.length:Int)<(x5.length:Int);omega) (nlb rfl) dc dc om dc (λd h hd hl c h1 h2=>b0M (s:=aR [97] x5) (l:=Dm [97] x5) hd hl rfl c h1 h2 (wN A5.L.ro.bg) rfl A5.h);exact⟨a0,b0,a1,b1,a2,b2,a3,b3,a4,b4,a5,b5,⟨ea,eb,k1,k2,h1,h2,h3,h4,h5,h6,h7,h8⟩,x5,y5,_,_,_,_,A5,B5,om,⟨by show (y4.length:Int)=8;omega,by show (x5.length:Int)=10;omega⟩,rfl,rfl,by rw[na5,na4,na3,na2,na1,na0],by rw[nb5,nb4,nb3,nb2,nb1,nb0]⟩
end

structure Mp (d:List Ent)(m:Nat)(F:Bs->Option Bs):Prop where
 ok:DOk d
 l:d.length<=m
 f:∀ k,gO d k=F k
def D9 (F:Bs->Option Bs)(k:Bs)(v:Option Bs):Bs->Option Bs:=λx=>if x=k then v else F x
def mo (v:Option Bs):Nat:=if v.isSome=true then 0 else 1
def F4 (n:Nat):Option Bs:=if n=0 then none else some (bF n)
section
variable {d:List Ent} {m:Nat} {F:Bs->Option Bs} {k v:Bs} {n:Wd} {c:Nat}
theorem iT {w:Option Bs}:D9 F k w k=w:=if_pos rfl
theorem J2 {w:Option Bs}{x:Bs}(h:x≠k):D9 F k w x=F x:=if_neg h
theorem Mp.put (h:Mp d m F)(hm:m<2000)(hk:k.length<=400)(hv:v.length<=4000):bJ d k v=(O8 d k v,0)/\Mp (O8 d k v) (m+mo (F k)) (D9 F k (some v)):=by
 have hl:=h.l;have e:Q0 d k v=0:=Mo.2 ⟨hk,hv,.inr om⟩;refine⟨by unfold bJ;rw[if_pos e],h.ok.put e,?_,λx=>?_⟩
 ·rw[RZ h.ok.s,xY h.ok.s,h.f k];unfold mo;omega
 rw[uX h.ok.s,h.f x];rfl
theorem Mp.drp (h:Mp d m F):Mp (iM d k) m (D9 F k none):=by
 have hl:=h.l;refine⟨h.ok.drp k,Nat.le_trans (UI d k).length_le hl,λx=>?_⟩;rw[OV h.ok.s,h.f x];rfl
theorem yA (h:gO d k=F4 c)(hc:c<=1000000):(F9 d k).n=c:=by
 unfold F9 P7;rw[h];unfold F4;by_cases h0:c=0
 ·rw[if_pos h0,h0];rfl
 have hw:(H9 c).n=c:=mO om;have hb:=Ea (H9 c);rw[hw] at hb;rw[if_neg h0];show (if (bF c).length=32 then H9 (mH (bF c)) else wZ).n=c;rw[if_pos (yG c),hb,hw]
theorem ZK (h:Mp d m F)(hm:m<2000)(hk:k.length<=400)(hf:F k=F4 c)(hc:c+n.n<=1000000)(hn:1<=n.n):∃ d',iY k n d=(d',0)/\Mp d' (m+mo (F k)) (D9 F k (F4 (c+n.n))):=by
 have hg:=yA (d:=d) (k:=k) (c:=c) (by rw[h.f k,hf]) om;obtain⟨p1,p2⟩:=h.put (k:=k) (v:=bF (c+n.n)) hm hk (by rw[yG];omega);refine⟨_,?_,by have e:F4 (c+n.n)=some (bF (c+n.n)):=if_neg om;rw[e];exact p2⟩;unfold iY;rw[hg,if_pos (show lK (c+n.n)=true from dT om),p1]
theorem ZY (h:Mp d m F)(hm:m<2000)(hk:k.length<=400)(hf:F k=F4 c)(hc:c<=1000000)(hn:1<=n.n/\n.n<=c):∃ d',fZ k n d=(d',0)/\Mp d' m (D9 F k (F4 (c-n.n))):=by
 have hg:=yA (d:=d) (k:=k) (c:=c) (by rw[h.f k,hf]) hc;have h0:mo (F k)=0:=by
  rw[hf];unfold F4;rw[if_neg om];rfl
 unfold fZ;rw[hg,if_neg om];by_cases he:c=n.n
 ·refine⟨_,if_pos he,?_⟩;have e:F4 (c-n.n)=none:=if_pos om;rw[e];exact h.drp
 obtain⟨p1,p2⟩:=h.put (k:=k) (v:=bF (c-n.n)) hm hk (by rw[yG];omega);rw[h0] at p2;have e:F4 (c-n.n)=some (bF (c-n.n)):=if_neg om;rw[if_neg he,p1,e];exact⟨_,rfl,p2⟩
theorem a6o (h:Mp d m F)(hf:F k=F4 c)(hc:c<=1000000)(hn:c<n.n):fZ k n d=([],16):=by
 have hg:=yA (d:=d) (k:=k) (c:=c) (by rw[h.f k,hf]) hc;unfold fZ;rw[hg,if_pos hn]
variable {a b t:Bs} {p q:Nat}
theorem UW (ha:a.length<=64)(ht:t.length<=200):(F6 a t).length<=400:=by
 have h1:=aZ 97 a;have h2:=aZ 100 t;unfold F6;simp only[List.length_append,List.length_singleton];omega
theorem Ha (ht:t.length<=200):(R9 t).length<=400:=by
 have h2:=aZ 100 t;unfold R9;simp only[List.length_append,List.length_singleton];omega
theorem Pj (h:Mp d m F)(hm:m<2000)(ha:aJ a=true)(hb:aJ b=true)(ht:iO t=true)(hab:a≠b)(hk:F6 b t≠F6 a t)(hp:F (F6 a t)=F4 p)(hq:F (F6 b t)=F4 q)(hpl:p<=1000)(hql:q<=1000)(hn:1<=n.n/\n.n<=p) :
  ∃ d',aC d a b t n=(d',0)/\Mp d' (m+mo (F (F6 b t))) (D9 (D9 F (F6 a t) (F4 (p-n.n))) (F6 b t) (F4 (q+n.n))):=by
 have ha':=of_decide_eq_true ha;have hb':=of_decide_eq_true hb;have ht':=of_decide_eq_true ht;obtain⟨d1,e1,m1⟩:=ZY h hm (UW ha'.2 ht'.2) hp om hn;have hq1:D9 F (F6 a t) (F4 (p-n.n)) (F6 b t)=F4 q:=by rw[J2 hk,hq]
 obtain⟨d2,e2,m2⟩:=ZK (n:=n) m1 hm (UW hb'.2 ht'.2) hq1 om hn.1;rw[hq1,<- hq] at m2;have e:aF (fZ (F6 a t) n) (iY (F6 b t) n) d=(d2,0):=by
  unfold aF;rw[e1,if_pos rfl,e2]
 refine⟨d2,?_,m2⟩;unfold aC;rw[if_neg (by rw[ha,hb,ht];simp;omega),if_neg (λh=>hab h.1),e]
theorem a5X (h:Mp d m F)(hm:m<1990)(ha:aJ a=true)(ht:iO t=true)(hk:F6 a t≠R9 t)(hp:F (R9 t)=F4 p)(hq:F (F6 a t)=F4 q)(hpl:p<=1000)(hql:q<=1000)(hn:1<=n.n/\n.n<=1000) :
  ∃ d',aL d a t n=(d',0)/\Mp d' (m+mo (F (R9 t))+mo (F (F6 a t))) (D9 (D9 F (R9 t) (F4 (p+n.n))) (F6 a t) (F4 (q+n.n))):=by
 have ha':=of_decide_eq_true ha;have ht':=of_decide_eq_true ht;have hmo:mo (F (R9 t))<=1:=by unfold mo;split <;> omega
 obtain⟨d1,e1,m1⟩:=ZK (n:=n) h om (Ha ht'.2) hp om hn.1;have hq1:D9 F (R9 t) (F4 (p+n.n)) (F6 a t)=F4 q:=by rw[J2 hk,hq]
 obtain⟨d2,e2,m2⟩:=ZK (n:=n) m1 om (UW ha'.2 ht'.2) hq1 om hn.1;rw[hq1,<- hq] at m2;have hg:=yA (d:=d) (k:=F6 a t) (c:=q) (by rw[h.f,hq]) om;refine⟨d2,?_,m2⟩;unfold aL;rw[if_neg (by rw[ha,ht];simp;omega),hg,if_neg (by unfold lK;simp;omega)];unfold aF;rw[e1,if_pos rfl,e2]
theorem b1b (h:Mp d m F)(hm:m<1990)(ha:aJ a=true)(ht:iO t=true)(hk:F6 a t≠R9 t)(hp:F (R9 t)=F4 p)(hq:F (F6 a t)=F4 q)(hpl:p<=1000)(hql:q<=1000)(hn:1<=n.n/\n.n<=q/\n.n<=p) :
  ∃ d',nR d a t n=(d',0)/\Mp d' m (D9 (D9 F (R9 t) (F4 (p-n.n))) (F6 a t) (F4 (q-n.n))):=by
 have ha':=of_decide_eq_true ha;have ht':=of_decide_eq_true ht;obtain⟨d1,e1,m1⟩:=ZY (n:=n) h om (Ha ht'.2) hp om ⟨hn.1,hn.2.2⟩;have hq1:D9 F (R9 t) (F4 (p-n.n)) (F6 a t)=F4 q:=by rw[J2 hk,hq]
 obtain⟨d2,e2,m2⟩:=ZY (n:=n) m1 om (UW ha'.2 ht'.2) hq1 om ⟨hn.1,hn.2.1⟩;refine⟨d2,?_,m2⟩;unfold nR;rw[if_neg (by rw[ha,ht];simp;omega)];unfold aF;rw[e1,if_pos rfl,e2]
end

section
variable {l:List Ent}{p:Nat}
abbrev kP:Bs:=G9 [80] [99] 1
abbrev kG:Bs:=G9 [71] [99] 1
abbrev kN:Bs:=E5 [78] [99]
def F7 (den f g:Bs)(a:Wd)(h:Int):Pkt:=⟨1,[99],[99],den,a,f,g,h,0⟩
structure ChnG (d:List Ent):Prop where
 k:gO d kK=some (E9 (Q5 3))
 h:gO d kH=some (E9 (U6 3))
theorem Ay {f g:Bs}{a:Wd}{h:Int}:¬ wH (F7 [120] f g a h)=true:=by
 show ¬ xP [99] [120]=true;decide
theorem TS {f g:Bs}{a:Wd}{h:Int}:wH (F7 [99,47,120] f g a h)=true:=by
 show xP [99] [99,47,120]=true;decide
theorem Mw {k:Bs}:fV l (G5 l k) (K8 l k)=O9 l k:=rfl
attribute [local irreducible] M9 Z9 j6 O7 N9 O9
section
variable {d:List Ent} {m:Nat} {F:Bs->Option Bs} {nm:Bs} {L:List Sta} {s:Sta} {den f g:Bs} {a:Wd} {h t:Int}
theorem ChnG.en (c:ChnG d):M5 d [75] [110]=true/\I1 d [75] [110]=Q5 3/\M5 d [72] [99]=true/\I1 d [72] [99]=U6 3:=by
 have r:=dL 3 dc;obtain⟨a1,a2⟩:=wL c.k r.1 r.2.1;obtain⟨a3,a4⟩:=wL c.h r.2.2.2.1 r.2.2.2.2.1;exact⟨a1,a2,a3,a4⟩
theorem ChnG.ch (c:ChnG d):(∀ q:EndX->Bool,q (U6 3)=true->nO d [99] q=0)/\sG d [99]=true/\aO d [99]=[107]:=by
 obtain⟨a1,a2,a3,a4⟩:=c.en;refine⟨λq hq=>?_,?_,?_⟩
 ·unfold nO;rw[a3,a4,hq];decide
 ·unfold sG;rw[a4];exact a1
 unfold aO;rw[a4];show (I1 d [75] [110]).o=[107];rw[a2];rfl
def vY (den f g:Bs):Bool:=gL den&&(fT f&&fT g)
theorem AU (hb:vY den f g=true)(ha:a.n≠0)(hh:1<=h/\h<=1099511627776):aN (F7 den f g a h)=true:=by
 unfold vY at hb;obtain⟨h1,h2⟩:=Bool.and_eq_true_iff.1 hb;have e1:NU (F7 den f g a h)=true:=dT ⟨by show (1:Int)<=1;decide,by show (1:Int)<=1099511627776;decide,by show 0<=h;omega,hh.2,by show (0:Int)<=0;decide,by show (0:Int)<=1099511627776;decide,λe=>by have:h=0:=e.1;omega⟩;have e2:FU (F7 den f g a h)=true:=by
  show (I4 [99]&&(I4 [99]&&gL den))=true;rw[h1];decide
 have e3:KU (F7 den f g a h)=true:=by
  show (decide (a.n≠0)&&(fT f&&fT g))=true;rw[h2,dT ha];rfl
 unfold aN;rw[e1,e2,e3];rfl
theorem Al (hd:gO d kN=none):X7 d [99]=1:=by
 have e:P7 d (E5 [78] [99])=[]:=by
  unfold P7;rw[hd];rfl
 have e2:¬ xV []=0:=by
  have:decide (xV []=0)=false:=by kernel_rfl
  exact of_decide_eq_false this
 unfold X7;rw[e,if_neg e2]
theorem a2C (c:ChnG d)(cl:CliG d nm L s)(hn:nm.length=1)(hN:gO d kN=none)(hb:vY den f g=true)(ha:a.n≠0){d1:List Ent}{m1:Nat}{F1:Bs->Option Bs}
  (hs:Z6 d (F7 den f g a (s.h+20))=(d1,0)) (hm:Mp d1 m1 F1) (hl:m1<1990) :
  ∃ d2,eX d ⟨0,[99],[],den,a,f,g,s.h+20,0⟩=(d2,⟨0,1,[]⟩)/\Mp d2 (m1+mo (F1 kP)+mo (D9 F1 kP (some (M9 (F7 den f g a (s.h+20)))) kN)) (D9 (D9 F1 kP (some (M9 (F7 den f g a (s.h+20))))) kN (some (y9 110 2))):=by
 obtain⟨c1,c2,c3⟩:=c.ch;obtain⟨a1,a2,a3,a4⟩:=c.en;have hg:=cl.g.s;have hgo:goes d ⟨0,[99],[],den,a,f,g,s.h+20,0⟩=F7 den f g a (s.h+20):=by
  show (⟨X7 d [99],[99],(I1 d [72] [99]).p,den,a,f,g,s.h+20,0⟩:Pkt)=_;rw[Al hN,a4];rfl
 have hch:=AU (den:=den) (f:=f) (g:=g) (a:=a) (h:=s.h+20) hb ha om;have hmo:mo (F1 kP)<=1:=by unfold mo;split <;> omega
 have hcl:(M9 (F7 den f g a (s.h+20))).length<=4000:=by
  unfold M9;rw[(nX _).len];decide
 obtain⟨p1,p2⟩:=hm.put (k:=kP) (v:=M9 (F7 den f g a (s.h+20))) om dc hcl;obtain⟨q1,q2⟩:=p2.put (k:=kN) (v:=y9 110 2) om dc (nlb kr);refine⟨_,?_,q2⟩;unfold eX;rw[hgo];show (if nO d [99] (λ_=>true)≠0 then _ else _)=_;rw[if_neg (by rw[c1 _ rfl];decide),if_neg (by rw[hch];decide),show sG d [99]=true from c2,show aO d [99]=[107] from c3,if_neg (by rw[cl.b hn];decide),cl.r hn,show dW (dQ nm (L++[s])).l=s from TJ];have hla:aV (F7 den f g a (s.h+20)) s.h s.t=false:=dZ (by show ¬ ((s.h+20≠0/\s.h+20<=s.h)\/((0:Int)≠0/\0<=s.t));omega);rw[if_neg (by rw[hla];decide)];have hq:(F7 den f g a (s.h+20)).q=1:=rfl;simp only[aF,hgo,hs,hq,if_true,p1,Int.reduceAdd,q1];rfl
theorem a2T (hM:Mp d m F)(hm:m<1990){q:Nat}(hp:F (F6 [97,110,110] [120])=F4 p)(hq:F (F6 (gK [99]) [120])=F4 q)(hpl:p<=1000)(hql:q<=1000)(ha:1<=a.n/\a.n<=p)(hh:1<=h/\h<=1099511627776) :
  ∃ d',Z6 d (F7 [120] [97,110,110] [98,111,98] a h)=(d',0)/\Mp d' (m+mo (F (F6 (gK [99]) [120]))) (D9 (D9 F (F6 [97,110,110] [120]) (F4 (p-a.n))) (F6 (gK [99]) [120]) (F4 (q+a.n))):=by
 obtain⟨d',e,M⟩:=Pj (n:=a) hM om (a:=[97,110,110]) (b:=gK [99]) (t:=[120]) dc dc dc dc dc hp hq hpl hql ha;refine⟨d',?_,M⟩;unfold Z6;rw[if_neg (by rw[AU dc om hh];decide),if_neg Ay];exact e
theorem a2U (hM:Mp d m F)(hm:m<1990){q:Nat}(hp:F (R9 [99,47,120])=F4 p)(hq:F (F6 [98,111,98] [99,47,120])=F4 q)(hpl:p<=1000)(hql:q<=1000)(ha:1<=a.n/\a.n<=q/\a.n<=p)(hh:1<=h/\h<=1099511627776) :
  ∃ d',Z6 d (F7 [99,47,120] [98,111,98] [97,110,110] a h)=(d',0)/\Mp d' m (D9 (D9 F (R9 [99,47,120]) (F4 (p-a.n))) (F6 [98,111,98] [99,47,120]) (F4 (q-a.n))):=by
 obtain⟨d',e,M⟩:=b1b (n:=a) hM om (a:=[98,111,98]) (t:=[99,47,120]) dc dc dc hp hq hpl hql ha;refine⟨d',?_,M⟩;unfold Z6;rw[if_neg (by rw[AU dc om hh];decide),if_pos TS];exact e
theorem a3O (hM:Mp d m F)(hm:m<1990){q:Nat}(hp:F (R9 [99,47,120])=F4 p)(hq:F (F6 [98,111,98] [99,47,120])=F4 q)(hpl:p<=1000)(hql:q<=1000)(ha:1<=a.n/\a.n<=1000)(hh:1<=h/\h<=1099511627776) :
  ∃ d',Y7 d (F7 [120] [97,110,110] [98,111,98] a h)=(d',0)/\Mp d' (m+mo (F (R9 [99,47,120]))+mo (F (F6 [98,111,98] [99,47,120]))) (D9 (D9 F (R9 [99,47,120]) (F4 (p+a.n))) (F6 [98,111,98] [99,47,120]) (F4 (q+a.n))):=by
 obtain⟨d',e,M⟩:=a5X (n:=a) hM hm (a:=[98,111,98]) (t:=[99,47,120]) dc dc dc hp hq hpl hql ha;refine⟨d',?_,M⟩;have e1:xB (F7 [120] [97,110,110] [98,111,98] a h)=[99,47,120]:=by
  unfold xB;rw[if_neg Ay];rfl
 unfold Y7;rw[e1,if_neg (by rw[AU dc om hh];decide),if_neg Ay];exact e
theorem a3P (hM:Mp d m F)(hm:m<1990){q:Nat}(hp:F (F6 (gK [99]) [120])=F4 p)(hq:F (F6 [97,110,110] [120])=F4 q)(hpl:p<=1000)(hql:q<=1000)(ha:1<=a.n/\a.n<=p)(hh:1<=h/\h<=1099511627776) :
  ∃ d',Y7 d (F7 [99,47,120] [98,111,98] [97,110,110] a h)=(d',0)/\Mp d' (m+mo (F (F6 [97,110,110] [120]))) (D9 (D9 F (F6 (gK [99]) [120]) (F4 (p-a.n))) (F6 [97,110,110] [120]) (F4 (q+a.n))):=by
 obtain⟨d',e,M⟩:=Pj (n:=a) hM om (a:=gK [99]) (b:=[97,110,110]) (t:=[120]) dc dc dc dc dc hp hq hpl hql ha;refine⟨d',?_,M⟩;have e1:xB (F7 [99,47,120] [98,111,98] [97,110,110] a h)=[120]:=by
  unfold xB;rw[if_pos TS];rfl
 unfold Y7;rw[e1,if_neg (by rw[AU dc om hh];decide),if_pos TS];exact e
theorem a4b (c:ChnG d)(cl:CliG d nm L s)(hn:nm.length=1)(hl:DOk l)(hr:s.r=N9 l)(hb:vY den f g=true)(ha:a.n≠0)(hh:1<=h/\h<=1099511627776){i:Int}(hi:i<h)(hG:gO d kG=none)
  (hP:gO l kP=some (M9 (F7 den f g a h))) {d1:List Ent} {m1:Nat} {F1:Bs->Option Bs} (hs:Y7 d (F7 den f g a h)=(d1,0)) (hm:Mp d1 m1 F1) (hlm:m1<1990) :
  ∃ d2,rA d (qD l s.h (F7 den f g a h)) i 0=(d2,⟨0,0,[43]⟩)/\Mp d2 (m1+mo (F1 kG)) (D9 F1 kG (some (Z9 [43]))):=by
 obtain⟨c1,c2,c3⟩:=c.ch;have hch:=AU (den:=den) (f:=f) (g:=g) (a:=a) (h:=h) hb ha hh;have hcl:(Z9 [43]).length<=4000:=by
  unfold Z9;rw[(nX _).len];decide
 obtain⟨p1,p2⟩:=hm.put (k:=kG) (v:=Z9 [43]) om dc hcl;refine⟨_,?_,p2⟩;have hla:aV (F7 den f g a h) i 0=false:=dZ (by show ¬ ((h≠0/\h<=i)\/((0:Int)≠0/\(0:Int)<=0));omega);have hac:zS d (F7 den f g a h)=[43]:=by
  unfold zS;rw[hs,if_pos rfl]
 have hpr:=DC (k:=kP) hn cl hl hr hP;unfold rA qD;dsimp only;rw[if_neg (by rw[hch];decide),show (F7 den f g a h).k=[99] from rfl,if_neg (by rw[c1 _ (by show decide (([99]:Bs)=[99])=true;decide)];decide),if_neg (by rw[hla];decide),show (F7 den f g a h).q=1 from rfl,if_neg (by rw[hG];decide),if_neg (by rw[c2];decide),c3,
  show (F7 den f g a h).s=[99] from rfl,Mw (k:=G9 [80] [99] 1),hpr,if_neg dc,hs,if_pos rfl,hac,p1]
 rfl
theorem b3J (hM:Mp d m F)(c:ChnG d)(cl:CliG d nm L s)(hn:nm.length=1)(hl:DOk l)(hr:s.r=N9 l)(hb:vY den f g=true)(ha:a.n≠0)(hh:1<=h/\h<=1099511627776)(hP:gO d kP=some (M9 (F7 den f g a h)))(hG:gO l kG=some (Z9 [43])) :
  qR d (yJ l s.h (F7 den f g a h) [43]) 0=(iM d kP,oG)/\Mp (iM d kP) m (D9 F kP none):=by
 obtain⟨c1,c2,c3⟩:=c.ch;have hch:=AU (den:=den) (f:=f) (g:=g) (a:=a) (h:=h) hb ha hh;have hpr:=DC (k:=kG) hn cl hl hr hG;refine⟨?_,hM.drp⟩;unfold qR yJ;dsimp only;rw[if_neg (by rw[hch];decide),show (F7 den f g a h).k=[99] from rfl,show (F7 den f g a h).q=1 from rfl,show (F7 den f g a h).s=[99] from rfl,c3,Mw (k:=G9 [71] [99] 1),hpr];unfold jU;rw[show (F7 den f g a h).k=[99] from rfl,show (F7 den f g a h).q=1 from rfl,show (F7 den f g a h).s=[99] from rfl,if_neg (by rw[c1 _ (by show decide (([99]:Bs)=[99])=true;decide)];decide),if_neg (by rw[hP,c2];simp),if_neg dc];have e:decide (ET [43]≠0)=false:=by decide
 rw[e,if_neg sm,if_neg dc]
end
end
end Go.Proofs.Z

namespace Go.Proofs.Z
open Go Go.RowKit Tw Av Go.Proofs.Tryz
def preB (p s:Bs):Bool:=decide (s.take p.length=p)
def zY (d:List Ent)(p:Bs):List Ent:=(d.drop (G5 d p)).takeWhile λx=>preB p x.key
instance c1Z {s p:Bs}:Ans prog GL 88 [str s,str p] True (d9 (preB p s)):=⟨λ_=>by
 refine zc func88 ntmps88 λ_ hs=>?_;exact o8⟩
theorem Gw {E:List Ent}{q:Ent->Bool}{i:Nat}(h:∀ j (hj:j<E.length),j<i->q E[j]=true)(hi:i<=E.length)(he:i=E.length\/∃ h:i<E.length,q E[i]=false):E.takeWhile q=E.take i:=by
 induction E generalizing i with
 | nil=>simp
 | cons a E ih=>
  cases i with
  | zero=>
   rcases he with he|⟨h0,he⟩
   ·cases he
   simp only[List.getElem_cons_zero] at he;simp[he]
  | succ i=>
   have h0:=h 0 sm om;simp only[List.getElem_cons_zero] at h0;rw[List.takeWhile_cons,h0,if_pos rfl,List.take_succ_cons];congr 1
   refine ih (λj hj hji=>?_) (by simpa using hi) ?_
   ·have:=h (j+1) (by simp;omega) om;simpa using this
   rcases he with he|⟨h1,he⟩
   ·exact .inl (by simpa using he)
   exact .inr ⟨by simpa using h1,by simpa using he⟩
theorem a6f {E:List Ent}{i:Nat}(h:i<E.length):(E.take (i+1)).map J4=(E.take i).map J4++[J4 E[i]]:=by
 rw[List.take_succ_eq_append_getElem h,List.map_append];rfl
theorem Rh {xs:List AV}{v:Value}:Imp (L6 [.sl 2 xs (some v)]) (.sl 2 xs none):=(ImpR.imp:Imp (.sl 2 xs (some v)) (.sl 2 xs none))
instance c2r {d:List Ent}{p:Bs}:Ans prog GL 47 [dA d,str p] (DOk d) (.sl 2 ((zY d p).map J4) none):=⟨λhd=>by
 have hl:=hd.l;have hm:(d.map J4).length=d.length:=llm _;have hb:=PH d p hd.s;refine zc func47 ntmps47 λ_ hs=>?_;repeat' first|refine O ?_|intro
 refine vK (G5 d p) d.length ?_;rw[List.take_of_length_le om,<- List.map_drop];unfold zY;have hEl:(d.drop (G5 d p)).length<=2000:=by rw[List.length_drop];omega
 generalize d.drop (G5 d p)=E at *;have hm2:(E.map J4).length=E.length:=llm _;repeat' first|refine O ?_|intro
 rw[hm2];rename_i g2;refine sP 7 (v':=.sl 2 (([]:List Ent).map J4) (some (.slice none 0 0))) (Imp.nil (k:=2)) ?_;refine eO (λok w h=>h.full 88 2 none 0) ?_;refine H7 (α:=Nat × Value) (λz=>[(1,str p),(7,.sl 2 ((E.take z.1).map J4) (some z.2)),(19,.sl 2 (E.map J4) none),(20,int E.length),(21,int z.1)]) (λz=>[.tail 88 2 z.2])
  (λz=>z.1<=E.length/\∀ j (hj:j<E.length),j<z.1->preB p E[j].key=true) (λz=>E.length-z.1) (0,.slice none 0 0) za zb ⟨Nat.zero_le _,λj _ h=>absurd h (Nat.not_lt_zero j)⟩ ?_
 rintro⟨i,v⟩ ⟨hi,hq⟩;dsimp only at hi hq ⊢;by_cases hil:i<E.length
 rotate_left
 ·obtain rfl:i=E.length:=by omega
  rw[Gw hq (Nat.le_refl _) (.inl rfl)];repeat' first|refine O ?_|intro
  refine Y1 (.sl 2 ((E.take E.length).map J4) none) [] Rh ⟨rfl,rfl⟩ (List.nil_sublist _)
 repeat' first|refine O ?_|intro
 by_cases hp:E[i].key.take p.length=p
 rotate_left
 ·rw[Gw hq hi (.inr ⟨hil,dZ hp⟩),dT hp];repeat' first|refine O ?_|intro
  refine Y1 (.sl 2 ((E.take i).map J4) none) [] Rh ⟨rfl,rfl⟩ (List.nil_sublist _)
 rw[dZ (nni hp)];repeat' first|refine O ?_|intro
 refine aP (λv'=>?_);rw[<- a6f hil];repeat' first|refine O ?_|intro
 refine y7 (i+1,v') za zb ⟨hil,λj hj hji=>?_⟩ (by dsimp only;omega);rcases Nat.lt_succ_iff_lt_or_eq.1 hji with h|rfl
 ·exact hq j hj h
 exact dT hp⟩

def iW (c:ChX):Nat:=(zY (j3 c) (E5 [80] [99])).length
theorem SC:List.length (G9 [80] [99] 0)=10:=by kernel_rfl
theorem Ni:((G9 [80] [99] 0).take 6).drop 0=E5 [80] [99]:=by kernel_rfl
section
variable {nz no:Bs} {q qo:SpI} {z o:SpX} {gx ga gb:Nat} {i:Int}
set_option maxRecDepth 100000 in
theorem zN (hi:i=0/\ga=q.g/\gb=qo.g\/i=1/\ga=qo.g/\gb=q.g)(h:CG z.c) :
  Av.Spec prog GL 20 [ptr gx,int i] (C8 gx ga gb nz no q qo z o) λu m=>u=int (iW z.c)/\m=C8 gx ga gb nz no q qo z o:=by
 have hk:=h.k;have hq:=h.q;have hd:=hk.2;have hum:(zY (j3 z.c) (E5 [80] [99])).length<=2000:=Nat.le_trans (List.takeWhile_sublist _).length_le (Nat.le_trans (List.drop_sublist _ _).length_le hk.2.l);have hm2:((zY (j3 z.c) (E5 [80] [99])).map J4).length=(zY (j3 z.c) (E5 [80] [99])).length:=llm _;rcases hi with⟨rfl,rfl,rfl⟩|⟨rfl,rfl,rfl⟩
 ·refine zc func20 ntmps20 λ_ hs=>?_;repeat' first|refine O ?_|intro
  rw[SC];repeat' first|refine O ?_|intro
  refine dG 0 6 ?_ (h4:=by rw[SC];decide);rw[Ni];repeat' first|refine O ?_|intro
  rw[hm2];exact j4 _ ⟨rfl,rfl⟩ slr
 refine zc func20 ntmps20 λ_ hs=>?_;repeat' first|refine O ?_|intro
 rw[SC];repeat' first|refine O ?_|intro
 refine dG 0 6 ?_ (h4:=by rw[SC];decide);rw[Ni];repeat' first|refine O ?_|intro
 rw[hm2];exact j4 _ ⟨rfl,rfl⟩ slr
end
end Go.Proofs.Z
