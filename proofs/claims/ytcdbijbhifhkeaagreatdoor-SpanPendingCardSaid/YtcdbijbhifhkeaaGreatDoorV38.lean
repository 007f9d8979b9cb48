/- . -/
import Derived.Test.YtcdbijbhifhkeaaGreatDoorV37
set_option maxHeartbeats 64000000
namespace Go.Proofs.Z
open Go Go.RowKit Tw Av
theorem Pw {c:ChX}{k:Int}(h:∀ d∈c.ms,DOk d):DOk (Q7 c k):=by
 unfold Q7;split
 ·have h2:k.toNat<c.ms.length:=om
  rw[List.getD_eq_getElem?_getD,List.getElem?_eq_getElem h2];exact h _ (List.getElem_mem _)
 exact .nil
section
variable {g gs:Nat} {vm vb ve vt:Value} {c:ChX} {k:Int}
end
section
variable {ga gb gs0 gs1:Nat} {a1 a2 a3 a4 b1 b2 b3 b4:Value} {c0 c1:ChX} {i:Bs}
def Hd (c:ChX)(k:Int):Option Int:=if 1<=k/\k<=(c.bl.length:Int) then some (c.bl.getD (k-1).toNat ⟨0,0,[]⟩).t else none
end

section
variable {d:List Ent}{k:Bs}
structure RepB (r:Rep):Prop where
 q:0<=r.q/\r.q<=1099511627776
 a:r.a.length<=400000000
theorem a3K (e:Int):RepB (yS e):=⟨by show (0:Int)<=0/\(0:Int)<=_;decide,Nat.zero_le _⟩
theorem RI:RepB oG:=⟨dc,dc⟩
theorem jE {e:Int}:RepB (K6 d e).2:=a3K e
theorem MS {r:List Ent × Int}{p:Rep}(h:RepB p):RepB (jN d r p).2:=by
 unfold jN;split
 ·exact h
 exact jE
theorem NN {v:Bs}:RepB (kQ d k v).2:=MS RI
theorem Zr {x:TxX}{i:Bs}{b:Bool}{t:Int}:RepB (nS d x i k b t).2:=by
 unfold nS;repeat' (first|exact jE|exact NN|split)
theorem Qs {x:TxX}{own:EndX}{i:Bs}{b:Bool}{t:Int}:RepB (rM d x own i k b t).2:=by
 cases b
 ·rw[OJ];unfold wF;repeat' (first|exact jE|exact NN|split)
 rw[OI];unfold wF;repeat' (first|exact jE|exact NN|split)
theorem Uk {x:Pkt}{b:Bool}{e:Int}:RepB (jU d x b e).2:=by
 unfold jU;split
 ·exact jE
 split
 ·exact jE
 split
 ·exact jE
 split
 ·exact jE
 exact RI
theorem a3F {c m:Int}{s:Bs}{b:Bool}:0<=N7 c m s b:=by
 unfold N7;split <;> omega
theorem a5v (d:List Ent)(i:Bs):0<=X7 d i/\X7 d i<=1099511627776:=by
 unfold X7;split
 ·rename_i h;unfold FZ;rw[if_pos h];exact⟨a3F,Ki dc⟩
 decide
theorem b3L (d:List Ent)(x:Pkt):(zS d x).length<=400000000:=by
 unfold zS;split
 ·show 1<=400000000;decide
 show 2<=400000000;decide
theorem a9K (d:List Ent)(x:TxX)(h t:Int):RepB (u7 d x h t).2:=by
 unfold u7;split
 ·unfold rQ;split <;> first|exact jE|exact MS RI
 split
 ·unfold wC;split <;> first|exact jE|exact MS RI
 split
 ·unfold rW;repeat' (first|exact jE|exact NN|split)
 split
 ·unfold lL;repeat' (first|exact jE|exact NN|split)
 split
 ·unfold qK;repeat' (first|exact jE|exact Zr|split)
 split
 ·unfold rY;repeat' (first|exact jE|exact Qs|split)
 split
 ·unfold qG;repeat' (first|exact jE|exact Zr|split)
 split
 ·unfold rF;repeat' (first|exact jE|exact Qs|split)
 split
 ·unfold eX;have hn:=a5v d x.x.s;have hg:RepB ⟨0,(goes d x.x).q,[]⟩:=⟨hn,Nat.zero_le _⟩;repeat' (first|exact jE|exact MS hg|split)
 split
 ·unfold rA;have hg:RepB ⟨0,0,zS d x.x⟩:=⟨by show (0:Int)<=0/\(0:Int)<=_;decide,b3L _ _⟩;repeat' (first|exact jE|exact MS hg|split)
 split
 ·unfold qR;repeat' (first|exact jE|exact Uk|split)
 split
 ·unfold uA;repeat' (first|exact jE|exact Uk|split)
 exact jE
theorem a6w (d:List Ent)(i:Bs):0<=(dW (U2 d i).l).h/\(dW (U2 d i).l).h<=1099511627776:=by
 unfold U2;rcases Ma (P7 d (E5 [67] i)) with h|h
 ·obtain⟨⟨h1,h2,h3,h4,h5⟩,h6⟩:=LG.1 h;have hne:(rC (P7 d (E5 [67] i))).l≠[]:=λe=>by rw[e] at h4;simp at h4
  obtain⟨_,_,c3,c4,_,_⟩:=GZ.1 (TB h _ (Qg hne));exact⟨by simp only[bT] at c3;omega,c4⟩
 rw[h];decide
end

section
variable {h:Int}{d:List Ent}
structure PkG (p:Pkt):Prop where
 q:0<=p.q/\p.q<=1099511627776
 h:0<=p.h/\p.h<=1099511627776
 t:0<=p.t/\p.t<=1099511627776
 s:p.s.length<=4000
 k:p.k.length<=4000
 d:p.d.length<=4000
 f:p.f.length<=4000
 g:p.g.length<=4000
theorem PkG.n {p:Pkt}(h:PkG p):PkN p:=
 ⟨by have:=h.q;omega,by have:=h.h;omega,by have:=h.t;omega,by have:=h.s;omega,by have:=h.k;omega,by have:=h.d;omega,by have:=h.f;omega,by have:=h.g;omega⟩
theorem a1J (σ:RS):PkG (IX σ).x:=by
 have ht:∀ (c:Int) (τ:RS),(gT c 4000 τ).length<=4000:=λc τ=>by
  have:=Sg (c:=c) (m:=4000) (σ:=τ) dc;omega
 have hi:∀ (c:Int) (τ:RS),0<=gI c 1099511627776 τ/\gI c 1099511627776 τ<=1099511627776:=λc τ=>Bf dc;exact⟨hi _ _,hi _ _,hi _ _,ht _ _,ht _ _,ht _ _,ht _ _,ht _ _⟩
theorem a3t (σ:RS):PkG (J9 σ).x:=by
 unfold J9;split
 ·exact a1J σ
 exact⟨dc,dc,dc,dc,dc,dc,dc,dc⟩
theorem a9l {x:TxX}{r:Rep}(hx:PkG x.x)(hr:RepB r):PkG (jF d h x r).x:=by
 unfold jF;dsimp only;split
 ·have hl:=(a9s d [72] x.x.s).2.2.1;exact⟨hr.q,hx.h,hx.t,hx.s,by dsimp only;omega,hx.d,hx.f,hx.g⟩
 exact hx
structure EvG (v:EvX):Prop where
 x:PkG v.x
 k:13<=v.k/\v.k<=16
theorem a3u (σ:RS):(J9 σ).k<=16:=by
 unfold J9;split
 ·exact(Bf dc).2
 decide
theorem a3n {t:Int}{q:Run3}{s:Bs}(hq:∀ v∈q.2.2,EvG v):∀ v∈(bP h t q s).2.2,EvG v:=by
 unfold bP xN;split
 ·dsimp only;split
  ·rename_i h1;intro v hv;rcases List.mem_append.1 hv with hv|hv
   ·exact hq v hv
   rw[List.mem_singleton.1 hv];exact⟨a9l (a3t _) (a9K _ _ _ _),h1.2,a3u _⟩
  exact hq
 exact hq
theorem Jm {h t:Int}:∀ {l:List Bs} {q:Run3},(∀ v∈q.2.2,EvG v)->∀ v∈(Z7 h t q l).2.2,EvG v
 | [],_,hq=>hq
 | s::l,q,hq=>by
  rw[CO];exact Jm (a3n hq)
theorem a3p {b:BlkX}:∀ v∈(M4 d b).2.2,EvG v:=Jm sm
theorem a5o {nm ky:Bs}{bs:List BlkX}:∀ v∈(opC nm ky d bs).ev,EvG v:=by
 have key:∀ (l:List BlkX) (c:ChX),(∀ v∈c.ev,EvG v)->∀ v∈(l.foldl iN c).ev,EvG v:=by
  intro l
  induction l with
  | nil=>exact λ_ h=>h
  | cons b l ih=>
   intro c h;refine ih (iN c b) ?_;intro v hv;rcases List.mem_append.1 (show v∈c.ev++(M4 (j3 c) b).2.2 from hv) with hv|hv
   ·exact h v hv
   exact a3p v hv
 exact key bs _ (λv hv=>by cases hv)
theorem a3m {t:Int}{q:Run3}{s:Bs}(hq:∀ v∈q.2.2,v.h=h):∀ v∈(bP h t q s).2.2,v.h=h:=by
 unfold bP xN;split
 ·dsimp only;split
  ·intro v hv;rcases List.mem_append.1 hv with hv|hv
   ·exact hq v hv
   rw[List.mem_singleton.1 hv];rfl
  exact hq
 exact hq
theorem Jl {h t:Int}:∀ {l:List Bs} {q:Run3},(∀ v∈q.2.2,v.h=h)->∀ v∈(Z7 h t q l).2.2,v.h=h
 | [],_,hq=>hq
 | s::l,q,hq=>by
  rw[CO];exact Jl (a3m hq)
theorem a5n {nm ky:Bs}{bs:List BlkX}(hb:BsG bs):∀ v∈(opC nm ky d bs).ev,1<=v.h/\v.h<=(bs.length:Int):=by
 have key:∀ (l:List BlkX) (c:ChX),∀ v∈(l.foldl iN c).ev,v∈c.ev\/∃ b∈l,v.h=b.h:=by
  intro l
  induction l with
  | nil=>exact λ_ v hv=>.inl hv
  | cons b l ih=>
   intro c v hv;rcases ih (iN c b) v hv with h|⟨b',hb',h⟩
   ·rcases List.mem_append.1 (show v∈c.ev++(M4 (j3 c) b).2.2 from h) with h|h
    ·exact .inl h
    exact .inr ⟨b,List.mem_cons_self,Jl (q:=(j3 c,[],[])) sm v h⟩
   exact .inr ⟨b',List.mem_cons_of_mem _ hb',h⟩
 intro v hv;rcases key bs _ v hv with h|⟨b,hm,h⟩
 ·cases h
 obtain⟨i,hi,rfl⟩:=List.mem_iff_getElem.1 hm;have:=(hb.h i hi).1;rw[h,this];omega
end

section
variable {nm ky:Bs} {d:List Ent} {bs:List BlkX} {ws:List Bs} {x:DvX}
theorem Rv (hd:DOk d)(hb:BsG bs){z:Hdr}:∀ i,i<=bs.length->∀ k (hk:k<bs.length),k<i->(opC nm ky d (bs.take i)).hs.getD k z=⟨nm,(k:Int)+1,bs[k].t,N9 ((opC nm ky d (bs.take i)).ms.getD (k+1) [])⟩
 | 0,_,k,_,h=>absurd h om
 | i+1,hi,k,hk,h=>by
  have hI:=NS (nm:=nm) (ky:=ky) hd hb i om;have h1:=hI.hs;have h2:=hI.ms;rw[List.length_take,Nat.min_eq_left om] at h1 h2;have hn:=hI.nm;have ih:=Rv hd hb (z:=z) i om k hk;rw[YT (show i<bs.length by omega)];obtain⟨c,hc⟩:∃ c,opC nm ky d (bs.take i)=c:=⟨_,rfl⟩;rw[hc] at h1 h2 hn ih ⊢;clear hI;show (c.hs++[OQ c bs[i]]).getD k z=⟨nm,(k:Int)+1,bs[k].t,N9 ((c.ms++[(M4 (j3 c) bs[i]).1]).getD (k+1) [])⟩;by_cases hk':k<i
  ·rw[List.getD_eq_getElem?_getD,List.getElem?_append_left om,<- List.getD_eq_getElem?_getD,ih hk',List.getD_eq_getElem?_getD (l:=c.ms++_),List.getElem?_append_left om,<- List.getD_eq_getElem?_getD]
  obtain rfl:k=i:=by omega
  rw[List.getD_eq_getElem?_getD,List.getElem?_append_right om,h1,Nat.sub_self,List.getD_eq_getElem?_getD (l:=c.ms++_),List.getElem?_append_right om,h2,Nat.sub_self];have:=(hb.h k hk).1;show (⟨c.nm,bs[k].h,bs[k].t,_⟩:Hdr)=_;rw[hn,this];rfl
theorem a5z (hd:DOk d):∀ y∈(opC nm ky d bs).ms,DOk y:=by
 have key:∀ (l:List BlkX) (c:ChX),(∀ y∈c.ms,DOk y)->∀ y∈(l.foldl iN c).ms,DOk y:=by
  intro l
  induction l with
  | nil=>exact λ_ h=>h
  | cons b l ih=>
   intro c h;refine ih (iN c b) ?_;intro y hy;rcases List.mem_append.1 (show y∈c.ms++[(M4 (j3 c) b).1] from hy) with hy|hy
   ·exact h y hy
   rw[List.mem_singleton.1 hy];refine WZ ?_;unfold j3;rw[List.getD_eq_getElem?_getD];cases e:c.ms[c.hs.length]? with
   | none=>exact .nil
   | some z=>exact h z (List.mem_of_getElem? e)
 exact key bs _ (λy hy=>by rw[List.mem_singleton.1 (show y∈[d] from hy)];exact hd)
theorem TR (hd:DOk d)(hb:BsG bs){z:Hdr}{dd:Bool}{k:Nat}(hk:k<bs.length):(F5 nm ky d bs ws dd).hs.getD k z=⟨nm,(k:Int)+1,bs[k].t,N9 ((F5 nm ky d bs ws dd).ms.getD (k+1) [])⟩:=by
 have h:=Rv (nm:=nm) (ky:=ky) hd hb (z:=z) bs.length (Nat.le_refl _) k hk hk;rw[List.take_length] at h;exact h
end

abbrev TxP (x:TxX):Prop:=x.f.p.length<=1073741823/\x.g.a.p.length<=1073741823/\x.g.b.p.length<=1073741823

section
variable {d:List Ent}{k:Int}{x:TxX}
structure CG (c:ChX):Prop where
 k:(c.hs.length<c.ms.length/\c.ms.length<=1000000)/\DOk (j3 c)
 r:(c.ms.length=c.hs.length+1/\c.ms.length<=1000000)/\DOk (j3 c)
 q:(c.hs.length<=1000000/\c.ky.length<=1000000)/\∀ y∈c.hs,y.h<=9223372036854775807/\y.t<=9223372036854775807
 m:∀ d∈c.ms,DOk d
 v:c.ev.length<=1000000
 g:∀ v∈c.ev,EvG v
 h:∀ v∈c.ev,v.h<=(c.hs.length:Int)
 b:c.bl.length=c.hs.length
 t:M6 c=X4 c.bl
 tk:∀ k,qW c k=Hd c k
 tm:0<=X4 c.bl/\X4 c.bl<=1099511627776
 top:eU c=xI c
 tb:(xI c).h<=1000/\1<=(xI c).h/\(xI c).t=X4 c.bl
theorem Xu {nm ky:Bs}{bs:List BlkX}{ws:List Bs}(hd:DOk d)(hb:BsG bs)(h1:1<=bs.length)(hk:ky.length<=1000000):CG (F5 nm ky d bs ws false):=by
 have o:=uS (nm:=nm) (ky:=ky) hd hb;have o1:(F5 nm ky d bs ws false).hs.length=bs.length:=o.hs;have o2:(F5 nm ky d bs ws false).ms.length=bs.length+1:=o.ms;have o3:(F5 nm ky d bs ws false).ky=ky:=o.ky;have o4:(F5 nm ky d bs ws false).bl=bs:=o.bl;have o5:M6 (F5 nm ky d bs ws false)=X4 bs:=o.tm;have o6:(F5 nm ky d bs ws false).nm=nm:=o.nm;have o7:(F5 nm ky d bs ws false).ev.length<=16*bs.length:=o.ev;have hl:=hb.l;have hst:DOk (j3 (F5 nm ky d bs ws false)):=o.st;have hE:∀ v∈(F5 nm ky d bs ws false).ev,v.h<=(bs.length:Int):=λv hv=>(a5n hb v hv).2;refine⟨⟨⟨om,om⟩,hst⟩,⟨⟨om,om⟩,hst⟩,⟨⟨om,by rw[o3];exact hk⟩,a7t hb⟩,λy hy=>a5z hd y hy,om,λv hv=>a5o v hv,by rw[o1];exact hE,by rw[o4,o1],by rw[o4,o5],λk=>?_,by rw[o4];exact WG hb,?_,?_⟩
 ·unfold qW Hd;rw[o1,o4];by_cases hk:1<=k/\k<=(bs.length:Int)
  ·rw[if_pos hk,if_pos hk];obtain⟨j,hj⟩:∃ j:Nat,(k-1).toNat=j:=⟨_,rfl⟩;have hjl:j<bs.length:=by omega
   rw[hj,TR hd hb hjl,List.getD_eq_getElem?_getD (l:=bs),List.getElem?_eq_getElem hjl];rfl
  rw[if_neg hk,if_neg hk]
 ·unfold eU xI;rw[o1,o4,o6,TR hd hb (show bs.length-1<bs.length by omega)];have e1:((bs.length-1:Nat):Int)+1=bs.length:=by omega
  have e2:bs.length-1+1=bs.length:=om
  have e3:X4 bs=bs[bs.length-1].t:=by
   unfold X4;rw[List.getLast?_eq_getElem?,List.getElem?_eq_getElem (show bs.length-1<bs.length by omega)];rfl
  rw[e1,e2,e3];have e4:j3 (F5 nm ky d bs ws false)=(F5 nm ky d bs ws false).ms.getD bs.length []:=by
   unfold j3;rw[o1]
  rw[e4]
 unfold xI;rw[o4];dsimp only;exact⟨om,om,rfl⟩
def lU (c0 c1:ChX)(i:Bs):List TxX:=eD (j3 c0) (Q7 c1 (A9 (j3 c0) i)) (c0.hs.length+1) (M6 c0) (A9 (j3 c0) i) (V6 c1.ev (A9 (j3 c0) i))++iQ (j3 c0) (Q7 c1 (A9 (j3 c0) i)) (gV c1.ev) (A9 (j3 c0) i) (qW c1 (A9 (j3 c0) i)) (V6 c0.ev c0.hs.length)
theorem Ia {evs:List EvX}{p:Pkt}(h:p∈V6 evs k):∃ v∈evs,v.k=13/\v.h<=k/\v.x=p:=by
 unfold V6 at h;obtain⟨v,hv,rfl⟩:=List.mem_map.1 h;obtain⟨h1,h2⟩:=List.mem_filter.1 hv;unfold CK at h2;rw[bet,decide_eq_true_iff,decide_eq_true_iff] at h2;exact⟨v,h1,h2.1,h2.2,rfl⟩
theorem b0w {e:List Ent}{h t:Int}{ps:List Pkt}(hx:x∈eD e d h t k ps):∃ p∈ps,OT e p=false/\aV p h t=false/\x=qD d k p:=by
 unfold eD at hx;obtain⟨p,hp,h1⟩:=List.mem_flatMap.1 hx;unfold wQ at h1;split at h1
 ·cases h1
 rename_i hn;refine⟨p,hp,?_,?_,List.mem_singleton.1 h1⟩
 ·cases hg:OT e p
  ·rfl
  exact absurd (.inl hg) hn
 cases hg:aV p h t
 ·rfl
 exact absurd (.inr hg) hn
theorem Zw {e:List Ent}{A:Pkt->Option Bs}{o:Option Int}{ps:List Pkt}(hx:x∈iQ e d A k o ps):∃ p∈ps,BA e p=true/\((K8 d (G9 [71] p.k p.q)=true/\x=yJ d k p ((A p).getD []))\/(K8 d (G9 [71] p.k p.q)=false/\TK o p k=true/\x=IY d k p)):=by
 unfold iQ at hx;obtain⟨p,hp,h1⟩:=List.mem_flatMap.1 hx;unfold pG at h1;split at h1
 ·cases h1
 rename_i hn;refine⟨p,hp,by cases ho:BA e p;exact absurd ho hn;rfl,?_⟩;split at h1
 ·rename_i hi;exact .inl ⟨hi,List.mem_singleton.1 h1⟩
 rename_i hi;split at h1
 ·rename_i hl;exact .inr ⟨by simpa using hi,hl,List.mem_singleton.1 h1⟩
 cases h1
theorem Ef {i:Int}:(qP d i).p.length<=d.length:=by
 show (AY (d.map dK) i).length<=_;rw[YN,llm];exact Gd _ _
theorem ZP {i:Nat}{b:Bool}:(fV d i b).p.length<=d.length/\((fV d i b).a<=(i:Int))/\(fV d i b).m<=(d.length:Int):=by
 unfold fV;split
 ·exact⟨Ef,Int.le_refl _,Int.le_refl _⟩
 exact⟨Nat.zero_le _,by show (0:Int)<=_;omega,by show (0:Int)<=_;omega⟩
theorem PH (d:List Ent)(k:Bs)(h:Srt d):G5 d k<=d.length:=by
 obtain⟨A,B,hA,hB,hl,h1⟩:=wX k h;rcases h1 with⟨h1,rfl⟩|⟨v,h1,rfl⟩
 ·rw[lla];omega
 rw[lla];omega
theorem b3U {i:Nat}{b:Bool}(hd:d.length<=2000)(hi:i<=d.length):GapW (zT d i b)/\(zT d i b).a.p.length<=2000/\(zT d i b).b.p.length<=2000:=by
 have h1:=Ef (d:=d) (i:=((i-1:Nat):Int));have h2:=Ef (d:=d) (i:=i);unfold zT;split
 ·exact⟨⟨⟨dc,dc,dc,dc⟩,⟨dc,dc,dc,dc⟩,dc⟩,dc,dc⟩
 refine⟨⟨⟨?_,?_,?_,?_⟩,⟨?_,?_,?_,?_⟩,by show (d.length:Int)<=_;omega⟩,?_,?_⟩ <;> dsimp only <;> split <;> first|decide|omega|(show ((i-1:Nat):Int)<=_;omega)|(show (d.length:Int)<=_;omega)|(show (i:Int)<=_;omega)|(show 1<=1000000;decide)
theorem KD (d:List Ent)(i:Bs):0<=A9 d i/\A9 d i<=1099511627776:=by
 unfold A9;split
 ·exact a6w d i
 decide
structure TxZ (x:TxX):Prop where
 w:TxW x
 p:TxP x
 k:x.k=3\/x.k=4\/x.k=13\/x.k=14\/x.k=15\/x.k=16
theorem LX:P6.p.length<=1000000/\P6.a<=9223372036854775807/\P6.m<=9223372036854775807:=⟨dc,dc,dc⟩
theorem BZ:GapW lD:=⟨⟨dc,dc,dc,dc⟩,⟨dc,dc,dc,dc⟩,dc⟩
theorem YK {c0 c1:ChX}(h0:CG c0)(h1:CG c1){i:Bs}:∀ x∈lU c0 c1 i,TxZ x/\x.t=A9 (j3 c0) i/\(x.k=14\/x.k=15\/x.k=16):=by
 have hk:=KD (j3 c0) i;have hd:=Pw (k:=A9 (j3 c0) i) h1.m;have hdl:=hd.l;have z:(0:Int)<=9223372036854775807:=by decide
 have hM:∀ key:Bs,(fV (Q7 c1 (A9 (j3 c0) i)) (G5 (Q7 c1 (A9 (j3 c0) i)) key) (K8 (Q7 c1 (A9 (j3 c0) i)) key)).p.length<=2000/\(fV (Q7 c1 (A9 (j3 c0) i)) (G5 (Q7 c1 (A9 (j3 c0) i)) key) (K8 (Q7 c1 (A9 (j3 c0) i)) key)).a<=9223372036854775807/\(fV (Q7 c1 (A9 (j3 c0) i)) (G5 (Q7 c1 (A9 (j3 c0) i)) key) (K8 (Q7 c1 (A9 (j3 c0) i)) key)).m<=9223372036854775807:=λkey=>by
  have q:=ZP (d:=Q7 c1 (A9 (j3 c0) i)) (i:=G5 (Q7 c1 (A9 (j3 c0) i)) key) (b:=K8 (Q7 c1 (A9 (j3 c0) i)) key);have q2:=PH _ key hd.s;omega
 have hP:∀ {c:ChX} {k:Int} {p:Pkt},CG c->p∈V6 c.ev k->p.q<=9223372036854775807/\p.h<=9223372036854775807/\p.t<=9223372036854775807:=λhc hp=>by
  obtain⟨v,hv,_,_,rfl⟩:=Ia hp;have g:=(hc.g v hv).x;have:=g.q;have:=g.h;have:=g.t;omega
 intro x hx;rcases List.mem_append.1 hx with hx|hx
 ·obtain⟨p,hp,_,_,rfl⟩:=b0w hx;obtain⟨q1,q2,q3⟩:=hP h1 hp;obtain⟨m1,m2,m3⟩:=hM (G9 [80] p.s p.q);exact⟨⟨⟨by show (14:Int)<=_;decide,z,z,z,q1,q2,q3,by show A9 (j3 c0) i<=_;omega,⟨by show (fV _ _ _).p.length<=_;omega,m2,m3⟩,BZ⟩,⟨by show (fV _ _ _).p.length<=_;omega,Nat.zero_le _,Nat.zero_le _⟩,.inr (.inr (.inr (.inl rfl)))⟩,rfl,.inl rfl⟩
 obtain⟨p,hp,_,h⟩:=Zw hx;obtain⟨q1,q2,q3⟩:=hP h0 hp;rcases h with⟨_,rfl⟩|⟨_,_,rfl⟩
 ·obtain⟨m1,m2,m3⟩:=hM (G9 [71] p.k p.q);exact⟨⟨⟨by show (15:Int)<=_;decide,z,z,z,q1,q2,q3,by show A9 (j3 c0) i<=_;omega,⟨by show (fV _ _ _).p.length<=_;omega,m2,m3⟩,BZ⟩,⟨by show (fV _ _ _).p.length<=_;omega,Nat.zero_le _,Nat.zero_le _⟩,.inr (.inr (.inr (.inr (.inl rfl))))⟩,rfl,.inr (.inl rfl)⟩
 obtain⟨g1,g2,g3⟩:=b3U (d:=Q7 c1 (A9 (j3 c0) i)) (i:=G5 (Q7 c1 (A9 (j3 c0) i)) (G9 [71] p.k p.q)) (b:=K8 (Q7 c1 (A9 (j3 c0) i)) (G9 [71] p.k p.q)) hdl (PH _ _ hd.s);exact⟨⟨⟨by show (16:Int)<=_;decide,z,z,z,q1,q2,q3,by show A9 (j3 c0) i<=_;omega,LX,g1⟩,⟨Nat.zero_le _,by show (zT _ _ _).a.p.length<=_;omega,by show (zT _ _ _).b.p.length<=_;omega⟩,.inr (.inr (.inr (.inr (.inr rfl))))⟩,rfl,.inr (.inr rfl)⟩
theorem QW (h:0<=x.k/\x.k<=16)(he:Y0 (I9 (j6 x))=0):(J9 (I9 (j6 x))).k=x.k:=by
 have e0:(I9 (j6 x)).1=(j6 x,false):=by
  unfold I9;rw[dif_pos (QC x)]
 generalize I9 (j6 x)=σ at *;have hB:∃ r,j6 x=y9 75 x.k++r:=by
  unfold j6;simp only[List.append_assoc];exact⟨_,rfl⟩
 obtain⟨r,hr⟩:=hB;rw[hr] at e0;unfold Y0 at he;by_cases hok:vN σ=true
 ·unfold J9;rw[if_pos hok];show N7 75 16 σ.1.1 σ.1.2=x.k;rw[e0];exact(oI dc dc h.1 h.2 dc).1
 rw[if_neg hok] at he;cases he
end
end Go.Proofs.Z

namespace Go.Proofs.Z
open Go Go.RowKit Tw Av Go.Proofs.Tryz
def aT (n m:Int):Int:=(n.tmod m+m).tmod m
theorem JE (n:Int){m:Int}(h:1<=m):0<=aT n m/\aT n m<m:=by
 unfold aT;have h1:=Int.lt_tmod_of_pos n (b:=m) om;have h2:0<=n.tmod m+m:=by omega
 exact⟨Int.tmod_nonneg _ h2,Int.tmod_lt_of_pos _ om⟩
instance b9W {n m:Int}:Ans prog GL 108 [int n,int m] (1<=m/\m<=1000000000) (int (aT n m)):=⟨λhp=>by
 obtain⟨h1,h2⟩:=hp;have h3:=Int.lt_tmod_of_pos n (b:=m) om;have h4:=Int.tmod_lt_of_pos n (b:=m) om;refine zc func108 ntmps108 λ_ hs=>?_;repeat' first|refine O ?_|intro
 refine b1V ?_;repeat' first|refine O ?_|intro
 have hq:0<=n.tmod m+m:=om
 refine x9 ?_;show int ((n.tmod m+m)%m)=int (aT n m);unfold aT;rw[Int.tmod_eq_emod_of_nonneg hq]⟩
def O5 (n:Int):Nat:=(aT n 8+1).toNat
theorem a0h (n:Int):1<=O5 n/\O5 n<=8:=by
 have:=JE n (m:=8) dc;unfold O5;omega
abbrev Xf (d f g:Bs)(n:Int):AV:=.agg 7 [str d,G6 (H9 (O5 n)),str f,str g]
theorem a1m {n:Nat}(h:n<18446744073709551616):G6 (H9 n)=.agg 4 [.lit (.int .u64 (n:Int)),.lit (.int .u64 0),.lit (.int .u64 0),.lit (.int .u64 0)]:=by
 have e:(H9 n).n=n:=mO om;have h0:lm n 0=n:=by
  unfold lm;rw[Nat.pow_zero,Nat.div_one,Nat.mod_eq_of_lt h]
 have hz:∀ i,1<=i->lm n i=0:=λi hi=>by
  unfold lm;rw[Nat.div_eq_of_lt (Nat.lt_of_lt_of_le h (by
   have:=Nat.pow_le_pow_right (n:=18446744073709551616) dc hi;rw[Nat.pow_one] at this;exact this))]
 show aD (H9 n).n=_;rw[e,aD,h0,hz 1 dc,hz 2 dc,hz 3 dc];rfl
instance a8a {n:Nat}:Ans prog GL 99 [.lit (.int .u64 (n:Int))] (n<18446744073709551616) (G6 (H9 n)):=⟨λhp=>by
 refine zc func99 ntmps99 λ_ hs=>?_;repeat' first|refine O ?_|intro
 refine x9 ?_;rw[a1m hp];rfl⟩
instance b9d:Ans prog GL 99 [.lit (.int .u64 1000)] True (G6 (H9 1000)):=⟨λ_=>(a8a (n:=1000)).spec dc⟩
instance c2z {d f g:Bs}{n:Int}:Ans prog GL 107 [str d,str f,str g,int n] True (Xf d f g n):=⟨λ_=>by
 have hr:=JE n (m:=8) dc;have ha:=a0h n;have he:aT n 8+1=(O5 n:Int):=by
  unfold O5;omega
 refine zc func107 ntmps107 λ_ hs=>?_;repeat' first|refine O ?_|intro
 rw[he];exact o8⟩
def w9:List Ent:=(aL [] [97,110,110] [120] (H9 1000)).1
theorem bD:DOk w9:=OB .nil
theorem Wh:rU w9=w9:=bD.id
theorem Wi:w9.length<=10:=nlb kr
instance b9C:Ans prog GL 54 [] True (.sl 2 (w9.map J4) none):=⟨λ_=>by
 refine zc func54 ntmps54 λ_ hs=>?_;repeat' first|refine O ?_|intro
 refine eH 4 (v':=dA []) (show Imp (.agg 1 [.lit (.slice none 0 0)]) (.agg 1 [.sl 2 [] none]) from ImpR.imp) ?_;have hdk:DOk ([]:List Ent):=.nil;repeat' first|refine O ?_|intro
 rw[show (aL [] [97,110,110] [120] (H9 1000)).1=w9 from rfl];have hdg:w9.length<=1000000:=Nat.le_trans Wi dc;exact o8⟩
end Go.Proofs.Z

namespace Go.Proofs.Z
open Go Go.RowKit Tw Av
section
variable {h t:Int}{x:TxX}{d:List Ent}
def LC (d:List Ent)(x:TxX)(k:Bs)(e:Int):Out18:=if e≠0 then K6 d e else if (pR x.o x.p ⟨1,x.q,x.o,[]⟩).2≠0 then K6 d (pR x.o x.p ⟨1,x.q,x.o,[]⟩).2 else kQ d (E5 k x.i) (E9 (pR x.o x.p ⟨1,x.q,x.o,[]⟩).1)
def Ct (d:List Ent)(x:TxX)(e:Int):Out18:=if I4 x.i=false then K6 d 1 else if M5 d [75] x.i=true then K6 d 13 else if U7 d x.o=false then K6 d 12 else LC d x [75] e
def YQ (d:List Ent)(x:TxX)(e:Int):Out18:=if I4 x.i=false then K6 d 1 else if M5 d [72] x.i=true then K6 d 13 else if M5 d [75] x.o=false then K6 d 12 else if (I1 d [75] x.o).s≠3 then K6 d 13 else LC d x [72] e
def zG (d:List Ent)(x:TxX)(own:EndX)(k:Bs)(ack:Bool)(e:Int):Out18:=
 if e≠0 then K6 d e else if (if ack=true then sN own x.i x.p (iC own x.i ack) else wR own x.i (iC own x.i ack)).2≠0 then K6 d (if ack=true then sN own x.i x.p (iC own x.i ack) else wR own x.i (iC own x.i ack)).2
 else kQ d (E5 k x.i) (E9 (if ack=true then sN own x.i x.p (iC own x.i ack) else wR own x.i (iC own x.i ack)).1)
def KV (d:List Ent)(x:TxX)(ack:Bool)(e:Int):Out18:=if M5 d [75] x.i=false then K6 d 12 else zG d x (I1 d [75] x.i) [75] ack e
def JP (d:List Ent)(x:TxX)(ack:Bool)(e:Int):Out18:=if M5 d [72] x.i=false\/M5 d [75] (I1 d [72] x.i).o=false then K6 d 12 else zG d x (I1 d [72] x.i) [72] ack e
theorem a9G (hk:x.k=6):u7 d x h t=Ct d x (Q3 d x.o x.t t (E5 [75] x.p) (E9 ⟨1,x.q,x.o,[]⟩) x.f):=by
 unfold u7 qK nS Ct LC;simp[hk]
theorem a9J (hk:x.k=10):u7 d x h t=YQ d x (Q3 d (I1 d [75] x.o).o x.t t (E5 [72] x.p) (E9 ⟨1,x.q,x.o,[]⟩) x.f):=by
 unfold u7 qG nS YQ LC;simp[hk]
theorem a9F (hk:x.k=7):u7 d x h t=KV d x true (Q3 d (I1 d [75] x.i).o x.t t (E5 [75] x.p) (E9 (iC (I1 d [75] x.i) x.i true)) x.f):=by
 unfold u7 rY rM KV zG;simp[hk]
theorem a9E (hk:x.k=8):u7 d x h t=KV d x false (Q3 d (I1 d [75] x.i).o x.t t (E5 [75] (I1 d [75] x.i).p) (E9 (iC (I1 d [75] x.i) x.i false)) x.f):=by
 unfold u7 rY rM KV zG;simp[hk]
theorem a9I (hk:x.k=11):u7 d x h t=JP d x true (Q3 d (I1 d [75] (I1 d [72] x.i).o).o x.t t (E5 [72] x.p) (E9 (iC (I1 d [72] x.i) x.i true)) x.f):=by
 unfold u7 rF rM JP zG;simp[hk]
theorem a9H (hk:x.k=12):u7 d x h t=JP d x false (Q3 d (I1 d [75] (I1 d [72] x.i).o).o x.t t (E5 [72] (I1 d [72] x.i).p) (E9 (iC (I1 d [72] x.i) x.i false)) x.f):=by
 unfold u7 rF rM JP zG;simp[hk]
theorem a1w (h1:U7 d x.i=true)(h2:sM (U2 d x.i) t=true)(h3:bE x.h=true)(h4:x.h.c=(U2 d x.i).c)(h5:O7 (U2 d x.i).k x.h=x.m):lL d x t=kQ d (E5 [67] x.i) (Q8 (nH (U2 d x.i) (X8 x.h))):=by
 have e:iU (U2 d x.i) x.h x.m t=0:=by
  unfold iU;rw[if_neg (by rw[h2];decide),if_neg (by rw[h3,h4];simp),if_neg (by rw[h5];simp)]
 unfold lL pM;rw[if_neg (by rw[h1];decide),e,if_neg dc,if_pos rfl]
end

section
variable {x:Hdr}{k v:Bs}
def x8 (nm:Bs):Bs:=[107,101,121,32]++nm
def dQ (nm:Bs)(l:List Sta):Cli:=⟨nm,x8 nm,1000000,false,l⟩
abbrev kC:Bs:=E5 [67] [107]
structure StG (l:List Sta)(s:Sta):Prop where
 n:l.length<=30
 r:Rise l
 b:∀ x∈l,1<=x.h/\x.h<s.h/\x.t=0
 s:1<=s.h/\s.h<=1000/\s.t=0
section
variable {nm:Bs} {l:List Sta} {s:Sta} {d:List Ent} {h t:Int}
theorem StG.rise (g:StG l s):Rise (l++[s]):=Rise.append.2 ⟨g.r,by unfold Rise;simp,λx hx y hy=>by
 rw[List.mem_singleton.1 hy];have:=g.b x hx;have:=g.s;omega⟩
theorem StG.all (g:StG l s):∀ x∈l++[s],1<=x.h/\x.h<=s.h/\x.t=0:=λx hx=>by
 rcases List.mem_append.1 hx with hx|hx
 ·have:=g.b x hx;omega
 rw[List.mem_singleton.1 hx];have:=g.s;omega
theorem StG.snoc (g:StG l s)(hl:l.length<=29){x:Sta}(h1:s.h<x.h/\x.h<=1000)(h2:x.t=0):StG (l++[s]) x:=
 ⟨by rw[List.length_append];simp;omega,g.rise,λy hy=>by
  have:=g.all y hy;omega,by have:=g.s;omega⟩
theorem Cz (hn:nm.length=1)(g:StG l s):bM (dQ nm (l++[s]))=true:=by
 have hg:=g.n;refine a6b ?_ (show (1:Int)<=1000000/\(1000000:Int)<=1099511627776 by decide) ?_ g.rise λx hx=>?_
 ·show (x8 nm).length<=64;unfold x8;rw[lla,hn];decide
 ·show 1<=(l++[s]).length/\(l++[s]).length<=32;rw[lla,List.length_singleton];omega
 have:=g.all x hx;have:=g.s;exact GZ.2 ⟨by show 1<=nm.length;omega,by show nm.length<=32;omega,by show 1<=x.h;omega,by show x.h<=1099511627776;omega,by show 0<=x.t;omega,by show x.t<=1099511627776;omega⟩
theorem a7A (hn:x.c.length=1):(R3 x).length<=65:=by
 have h1:=aZ 99 x.c;have h2:=aZ 114 x.r.l;have h3:=x.r.len;have h4:=mP 104 x.h;have h5:=mP 116 x.t;unfold R3;simp only[List.length_append];omega
theorem Da (hn:nm.length=1)(g:StG l s):(Q8 (dQ nm (l++[s]))).length<=4000:=by
 have hg:=g.n;have h1:=aZ 99 nm;have h2:=aZ 107 (x8 nm);have h3:=mP 112 1000000;have h4:=mP 102 0;have e:(x8 nm).length=5:=by unfold x8;rw[lla,hn];rfl
 have h5:=aZ 115 (((l++[s]).map λs=>R3 (bT nm s)).flatMap (r9 115));have h6:=UB 115 ((l++[s]).map λs=>R3 (bT nm s));have h7:AB ((l++[s]).map λs=>R3 (bT nm s))<=65*((l++[s]).map λs=>R3 (bT nm s)).length:=MU λy hy=>by
  obtain⟨z,_,rfl⟩:=List.mem_map.1 hy;exact a7A hn
 rw[llm,lla,List.length_singleton] at h6 h7;show (r9 99 nm++r9 107 (x8 nm)++y9 112 1000000++y9 102 0++r9 115 (((l++[s]).map λs=>R3 (bT nm s)).flatMap (r9 115))).length<=4000;simp only[List.length_append] at *;omega
theorem a0b {x:Int}(h:∀ y∈l,y.h<x):P5 l x=l.length:=by
 unfold P5;rw[List.findIdx_eq_length];intro y hy;have:=h y hy;exact dZ om
theorem a0a (h:∀ y∈l,y.h<s.h):P5 (l++[s]) s.h=l.length:=by
 unfold P5;rw[List.findIdx_append];have e:=a0b h;unfold P5 at e;rw[e,if_neg (Nat.lt_irrefl _),List.findIdx_cons,dT (Int.le_refl _)];simp
theorem Bd:(l++[s]).getD l.length Z4=s:=by
 rw[List.getD_eq_getElem?_getD,List.getElem?_append_right (Nat.le_refl _),Nat.sub_self];rfl
theorem find_last (h:∀ y∈l,y.h<s.h):BK (l++[s]) s.h=some s:=by
 have e:kZ (l++[s]) s.h=true:=by
  unfold kZ;rw[a0a h,Bd];exact dT ⟨by rw[lla];exact Nat.lt_succ_self _,rfl⟩
 unfold BK;rw[if_pos e,a0a h,Bd]
theorem TJ:dW (l++[s])=s:=by
 unfold dW;rw[List.getLastD_eq_getLast?,List.getLast?_append];rfl
theorem b0C (g:StG l s){x:Sta}(h1:s.h<x.h/\x.h<=1000)(h2:x.t=0):nH (dQ nm (l++[s])) x=dQ nm (l++[s]++[x]):=by
 have hg:=g.n;have hgs:=g.s;have ha:∀ y∈l++[s],y.h<x.h:=λy hy=>by
  have:=g.all y hy;omega
 have e1:=a0b ha;have e2:kZ (l++[s]) x.h=false:=by
  unfold kZ;rw[e1];exact dZ λh=>Nat.lt_irrefl _ h.1
 have e3:wY (l++[s]) x (l++[s]).length=false:=by
  unfold wY;have e5:(l++[s]).getD ((l++[s]).length-1) Z4=s:=by
   rw[lla,List.length_singleton,Nat.add_sub_cancel];exact Bd
  have e4:gJ s x=true:=by
   unfold gJ;exact dT ⟨h1.1,om⟩
  rw[e5,e4,dZ (Nat.lt_irrefl _)];simp
 unfold nH;rw[show (dQ nm (l++[s])).l=l++[s] from rfl,if_neg (by rw[e2];rintro⟨h,_⟩;cases h),if_neg (by rw[e1,e2,e3];rintro (h|h) <;> cases h)];have e4:EC (l++[s]) x=l++[s]++[x]:=by
  unfold EC;rw[e1,List.take_length,List.drop_length,show (l++[s]).length+1-32=0 by rw[lla,List.length_singleton];omega];rfl
 rw[e4];rfl
structure CliG (d:List Ent)(nm:Bs)(l:List Sta)(s:Sta):Prop where
 v:gO d kC=some (Q8 (dQ nm (l++[s])))
 g:StG l s
theorem WB (h:gO d k=some v):P7 d k=v:=by
 unfold P7;rw[h];rfl
theorem CliG.b (c:CliG d nm l s)(hn:nm.length=1):U7 d [107]=true:=by
 unfold U7;rw[WB c.v,(Md (Cz hn c.g)).2];rfl
theorem CliG.r (c:CliG d nm l s)(hn:nm.length=1):U2 d [107]=dQ nm (l++[s]):=by
 unfold U2;rw[WB c.v,(Md (Cz hn c.g)).1]
theorem CliG.put (c:CliG d nm l s)(hd:DOk d)(hk:k≠kC):CliG (O8 d k v) nm l s:=⟨by rw[uX hd.s,if_neg (λe=>hk e.symm)];exact c.v,c.g⟩
theorem CliG.kn (c:CliG d nm l s)(hn:nm.length=1):A9 d [107]=s.h:=by
 unfold A9;rw[c.b hn,if_pos rfl,c.r hn];show (dW (l++[s])).h=s.h;rw[TJ]
theorem CliG.act (c:CliG d nm l s)(hn:nm.length=1):sM (U2 d [107]) 0=true:=by
 rw[c.r hn];unfold sM;show (!false&&decide (0<(dW (l++[s])).t+1000000))=true;rw[TJ,c.g.s.2.2];decide
theorem CliG.st (c:CliG d nm l s)(hn:nm.length=1):jO d [107] s.h 0=0/\nW d [107] s.h 0=s:=by
 have hf:BK (U2 d [107]).l s.h=some s:=by
  rw[c.r hn];exact find_last λy hy=>(c.g.b y hy).2.1
 have e:jO d [107] s.h 0=0:=by
  unfold jO;rw[if_neg (by rw[c.b hn];decide),if_neg (by rw[c.act hn];decide),if_neg (by rw[hf];simp)]
 refine⟨e,?_⟩;unfold nW;rw[if_pos e,hf];rfl
theorem YB (hd:DOk d)(hl:d.length<2000)(hk:k.length<=400)(hv:v.length<=4000):kQ d k v=(O8 d k v,oG)/\DOk (O8 d k v):=by
 have e:Q0 d k v=0:=Mo.2 ⟨hk,hv,.inr hl⟩;refine⟨?_,hd.put e⟩;unfold kQ jN bJ;rw[if_pos e];rfl
theorem a4k (hd:DOk d):(O8 d k v).length<=d.length+1:=by
 rw[RZ hd.s];split <;> omega
theorem Gm (hd:DOk d)(hl:d.length<2000)(hn:nm.length=1)(c:CliG d nm l s)(hll:l.length<=29)(hx:x.c=nm)(h1:s.h<x.h/\x.h<=1000)(h2:x.t=0) :
  u7 d (eT [107] x (O7 (x8 nm) x)) h 0=(O8 d kC (Q8 (dQ nm (l++[s]++[X8 x]))),oG)/\DOk (O8 d kC (Q8 (dQ nm (l++[s]++[X8 x]))))/\CliG (O8 d kC (Q8 (dQ nm (l++[s]++[X8 x])))) nm (l++[s]) (X8 x):=by
 have g2:StG (l++[s]) (X8 x):=c.g.snoc hll h1 h2;have hlen:=Da hn g2;have hgs:=c.g.s;obtain⟨p1,p2⟩:=YB (k:=kC) hd hl dc hlen;have hr:=c.r hn;refine⟨?_,p2,⟨by rw[uX hd.s,if_pos rfl],g2⟩⟩;rw[show u7 d (eT [107] x (O7 (x8 nm) x)) h 0=lL d (eT [107] x (O7 (x8 nm) x)) 0 from rfl,a1w (x:=eT [107] x (O7 (x8 nm) x)) (c.b hn) (c.act hn) (by
  show bE x=true;exact GZ.2 ⟨by rw[hx];omega,by rw[hx];omega,om,om,om,om⟩) (by
  show x.c=(U2 d [107]).c;rw[hr];exact hx) (by
  show O7 (U2 d [107]).k x=_;rw[hr];rfl)]
 show kQ d kC (Q8 (nH (U2 d [107]) (X8 x)))=_;rw[hr,b0C c.g h1 h2];exact p1
theorem b0h (hd:DOk d)(hl:d.length<2000)(hn:nm.length=1)(h0:U7 d [107]=false)(hx:x.c=nm)(h1:1<=x.h/\x.h<=1000)(h2:x.t=0) :
  u7 d { X0 with k:=3,i:=[107],y:=x8 nm,e:=1000000,h:=x } h 0=(O8 d kC (Q8 (dQ nm [X8 x])),oG)/\DOk (O8 d kC (Q8 (dQ nm [X8 x])))/\CliG (O8 d kC (Q8 (dQ nm [X8 x]))) nm [] (X8 x):=by
 have g:StG [] (X8 x):=⟨Nat.zero_le _,by unfold Rise;simp,λy hy=>by (cases hy),h1.1,h1.2,h2⟩;have hm:=Cz hn g;have hlen:=Da hn g;obtain⟨p1,p2⟩:=YB (k:=kC) hd hl dc hlen;have e:JV (x8 nm) 1000000 x=dQ nm [X8 x]:=by
  unfold JV dQ;rw[hx]
 refine⟨?_,p2,⟨by rw[uX hd.s,if_pos rfl];rfl,g⟩⟩;show rW d { X0 with k:=3,i:=[107],y:=x8 nm,e:=1000000,h:=x }=_;unfold rW;dsimp only;have e2:BD (x8 nm) 1000000 x=0:=by
  unfold BD;rw[e];exact if_pos hm
 rw[if_neg dc,if_neg (by rw[h0];decide),if_neg (by rw[e2];decide)];have e3:DN (x8 nm) 1000000 x=dQ nm [X8 x]:=by
  unfold DN;rw[e];exact if_pos hm
 rw[e3];exact p1
end
end
end Go.Proofs.Z

namespace Go.Proofs.Z
open Go Go.RowKit Tw Av Go.Proofs.Tryz
section
variable {nm:Bs}
section
variable {P:Program} {N:Nat} {Q:Exit->Act->World->Prop} {s:Av.Base} {e:Av.Env} {T:List Av.Piece} {gl:List (Nat × AV)} {l os:List Oper} {i:Nat} {rs:List Rec}
theorem DJ (T':List Av.Piece)(h:Obl P N Q s gl l os i T' e rs)(hT:T'=T):Obl P N Q s gl l os i T e rs:=hT ▸ h
end
structure SpI where
 g:Nat
 gd:Nat
 gm:Nat
 gs:Nat
 gc:Nat
 v:V5
 r:Value
structure SpX where
 x:DvX
 s:SlX
 c:ChX
 am:Bool
 rp:List Rep
variable {z:SpX}
abbrev AF (nm:Bs)(gd:Nat)(pc:AV)(am:Bool)(rp:List Rep)(r:Value):AV:=.agg 5 [str nm,ptr gd,pc,d9 am,.sl 3 (rp.map K3) (some r)]
abbrev D6 (nm:Bs)(q:SpI)(z:SpX):List Av.Piece:=.var q.g 78 (AF nm q.gd (ptr q.gc) z.am z.rp q.r)::.tail 115 3 q.r::Cq q.gd q.gm q.gs q.gc q.v z.x z.s z.c
abbrev UR (gd gs gc:Nat)(v:V5)(s:SlX)(c:ChX):List Av.Piece:=[.var gc 111 (z8 gs v.2.1 v.2.2.1 v.2.2.2.1 v.2.2.2.2 c),.tail 32 1 v.2.1,.tail 93 35 v.2.2.1,.tail 53 15 v.2.2.2.1,.tail 9 1 v.2.2.2.2,.var gs 219 (JA gd s)]
def mR (x:DvX)(nm:Bs)(bs:List BlkX)(rp:List Rep):SpX:=⟨x,J3 bs,F5 nm (x8 nm) w9 bs [] false,false,rp⟩
theorem Bi {g:Nat}{pc:Value}{am:Bool}{rp:List Rep}{r:Value}{I:DvI}{x:DvX}{bs:List BlkX}(hn:1<=nm.length/\nm.length<=32)(h:Ro x bs) :
  Av.Spec prog GL 31 [ptr g] (.var g 78 (AF nm I.gd (.lit pc) am rp r)::.tail 115 3 r::I6 I x) λu m=>∃ gs gc v,u=d9 true/\m=D6 nm ⟨g,I.gd,I.gm,gs,gc,v,r⟩ (mR x nm bs rp):=by
 have hk:1<=nm.length/\nm.length<=32/\(x8 nm).length<=64:=⟨hn.1,hn.2,by unfold x8;rw[lla];show 4+nm.length<=64;omega⟩;refine zc func31 ntmps31 λ_ hs=>?_;repeat' first|refine O ?_|intro
 apply NT [] [2,3,4];exact rfl;exact rfl;kernel_rfl;kernel_rfl;kernel_rfl;exact trivial;intro _ _;refine T9 (a8y (nm:=nm) (ky:=x8 nm) (gen:=w9) (d:=w9) rfl hk h (Nat.le_trans Wi dc) (by rw[Wh];exact bD) Wh) (λu m1 hu=>?_);obtain⟨⟨⟨⟨gd',gm',w1⟩,gs⟩,gc,w2,w3,w4,w5⟩,hj1,hj2,rfl,rfl⟩:=hu;dsimp only at hj1 hj2;subst hj1 hj2;refine j5 (W9 (I6 ⟨I.gd,I.gm,w1⟩ x) (UR I.gd gs gc (w1,w2,w3,w4,w5) (J3 bs) (F5 nm (x8 nm) w9 bs [] false)) rfl rfl (List.perm_append_comm (l₁:=UR I.gd gs gc (w1,w2,w3,w4,w5) (J3 bs) (F5 nm (x8 nm) w9 bs [] false)) (l₂:=I6 ⟨I.gd,I.gm,w1⟩ x)) rfl ?_);repeat' first|refine O ?_|intro
 refine bG (D6 nm ⟨g,I.gd,I.gm,gs,gc,(w1,w2,w3,w4,w5),r⟩ (mR x nm bs rp)) (_::_::(I6 ⟨I.gd,I.gm,w1⟩ x++UR I.gd gs gc (w1,w2,w3,w4,w5) (J3 bs) (F5 nm (x8 nm) w9 bs [] false))) ?_ (List.Perm.cons _ (List.Perm.cons _ (List.perm_append_comm (l₁:=UR I.gd gs gc (w1,w2,w3,w4,w5) (J3 bs) (F5 nm (x8 nm) w9 bs [] false)) (l₂:=I6 ⟨I.gd,I.gm,w1⟩ x)))) slr;exact j4 _ ⟨gs,gc,(w1,w2,w3,w4,w5),rfl,rfl⟩ slr
def O4 (z:SpX)(t:Int):SpX × Bool:=if z.c.dd=true then (z,false) else ({ z with x:=(R5 z.x z.s z.c t).1,s:=(R5 z.x z.s z.c t).2.1,c:=wO z.x z.s z.c t,rp:=z.rp++fG z.x z.s z.c t },decide ((R5 z.x z.s z.c t).2.2=0))
theorem KN {q:SpI}{t:Int}(h:z.c.dd=false->ChOk z.x z.s z.c)(hr:z.rp.length<=100000) :
  Av.Spec prog GL 32 [ptr q.g,int t] (D6 nm q z) λu m=>∃ v r,u=d9 (O4 z t).2/\m=D6 nm { q with v:=v,r:=r } (O4 z t).1:=by
 obtain⟨g,gd,gm,gs,gc,⟨v1,v2,v3,v4,v5⟩,r⟩:=q;obtain⟨x,s,c,am,rp⟩:=z;dsimp only at h hr ⊢;have hm:(rp.map K3).length=rp.length:=llm _;unfold O4;dsimp only;cases hd:c.dd
 ·have hQ:=a8V (I:=⟨⟨⟨gd,gm,v1⟩,gs⟩,gc,v2,v3,v4,v5⟩) (t:=t) (h hd) hd;rw[if_neg dc];have hR:(fG x s c t).length<=100000:=by
   have h1:=(yR (h:=(dP c t).h) (t:=(dP c t).t) (l:=(dP c t).x) (q:=(j3 c,[],[]))).1;have h2:(dP c t).x.length<=16:=(h hd).ws;have h3:(M4 (j3 c) (dP c t)).2.1.length=(dP c t).x.length:=h1.trans (Nat.zero_add _);unfold fG;split
   ·omega
   exact Nat.zero_le _
  generalize R5 x s c t=Q at *;generalize fG x s c t=R at *;generalize wO x s c t=C at *;have hm2:(R.map K3).length=R.length:=llm _;refine zc func32 ntmps32 λ_ hs=>?_;repeat' first|refine O ?_|intro
  refine J5 [_,_] _ hQ (λu m1 hu=>?_);obtain⟨rfl,w1,w2,w3,w4,w5,rfl⟩:=hu;repeat' first|refine O ?_|intro
  refine aP (λv'=>?_);repeat' first|refine O ?_|intro
  rw[<- List.map_append];exact j4 _ ⟨(w1,w2,w3,w4,w5),v',rfl,rfl⟩ slr
 rw[if_pos rfl];refine zc func32 ntmps32 λ_ hs=>?_;repeat' first|refine O ?_|intro
 refine J5 [_,_] _ (a8U (I:=⟨⟨⟨gd,gm,v1⟩,gs⟩,gc,v2,v3,v4,v5⟩) (t:=t) hd) (λu m1 hu=>?_);obtain⟨rfl,rfl⟩:=hu;repeat' first|refine O ?_|intro
 refine aP (λv'=>?_);repeat' first|refine O ?_|intro
 rw[<- List.map_append,List.append_nil];exact j4 _ ⟨(v1,v2,v3,v4,v5),v',rfl,rfl⟩ slr
def K7 (z:SpX)(s:Bs):SpX:={ z with c:=pY z.c s }
attribute [local irreducible] j6 R6
theorem KM {q:SpI}{x:TxX}(hx:TxW x)(hw:z.c.ws.length<=1000000) :
  Av.Spec prog GL 78 [ptr q.g,D8 x] (D6 nm q z) λu m=>∃ v,u=d9 (decide (R6 z.c (j6 x)=0))/\m=D6 nm { q with v:=v } (K7 z (j6 x)):=by
 obtain⟨g,gd,gm,gs,gc,⟨v1,v2,v3,v4,v5⟩,r⟩:=q;dsimp only;refine zc func78 ntmps78 λ_ hs=>?_;repeat' first|refine O ?_|intro
 apply aH [3,4,5,6,7,8,9,10,11];exact rfl;exact rfl;exact rfl;kernel_rfl;intro _ _;refine T9 (Tt (I:=⟨⟨⟨gd,gm,v1⟩,gs⟩,gc,v2,v3,v4,v5⟩) (x:=z.x) (s:=z.s) (c:=z.c) (t:=j6 x) hw) (λu m1 hu=>?_);obtain⟨rfl,v,rfl⟩:=hu;refine j5 (W9 (Cq gd gm gs gc (v1,v2,v3,v4,v) z.x z.s (pY z.c (j6 x))) [] rfl rfl lpr rfl ?_);repeat' first|refine O ?_|intro
 exact j4 _ ⟨(v1,v2,v3,v4,v),rfl,rfl⟩ (List.sublist_cons_self _ _)
def S9 (z:SpX)(s:Bs):SpX × Bool:=if R6 z.c s=0 then O4 (K7 z s) 0 else (K7 z s,false)
theorem GJ {q:SpI}{x:TxX}(hx:TxW x)(hw:z.c.ws.length<=1000000)(h:(K7 z (j6 x)).c.dd=false->ChOk z.x z.s (K7 z (j6 x)).c)(hr:z.rp.length<=100000) :
  Av.Spec prog GL 57 [ptr q.g,D8 x] (D6 nm q z) λu m=>∃ v r,u=d9 (S9 z (j6 x)).2/\m=D6 nm { q with v:=v,r:=r } (S9 z (j6 x)).1:=by
 refine zc func57 ntmps57 λ_ hs=>?_;unfold S9;repeat' first|refine O ?_|intro
 refine J5 [_] _ (KM (nm:=nm) (q:=q) (z:=z) hx hw) (λu m1 hu=>?_);obtain⟨v,rfl,rfl⟩:=hu;by_cases hb:R6 z.c (j6 x)=0
 ·rw[if_pos hb,dT hb];repeat' first|refine O ?_|intro
  refine J5 [_] _ (KN (nm:=nm) (q:={ q with v:=v }) (z:=K7 z (j6 x)) (t:=0) h hr) (λu m1 hu=>?_);obtain⟨v',r',rfl,rfl⟩:=hu;repeat' first|refine O ?_|intro
  exact j4 _ ⟨v',r',rfl,rfl⟩ (List.sublist_cons_self _ _)
 rw[if_neg hb,dZ hb];repeat' first|refine O ?_|intro
 exact j4 _ ⟨v,q.r,rfl,rfl⟩ (List.sublist_cons_self _ _)
end
end Go.Proofs.Z
