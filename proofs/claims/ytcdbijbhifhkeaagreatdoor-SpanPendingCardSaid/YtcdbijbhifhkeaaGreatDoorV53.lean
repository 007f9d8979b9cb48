/- . -/
import Derived.Test.YtcdbijbhifhkeaaGreatDoorV43
namespace Go.Proofs.Z
open Go Go.RowKit Tw Av Go.Proofs.Tryz
theorem SpL.spg {N:Nat}{nm:Bs}{z:SpX}{bs:List BlkX}(h:SpL nm z bs [])(hb:1<=bs.length/\bs.length<=N):SpG N nm z bs [] false:=
 ⟨TD h.ro hb.2 MG,h.s,h.c,hb.1,by have:=h.rp;omega,by have:=h.n;omega⟩
structure PrG (N:Nat)(a b:SpX):Prop where
 a:∃ bs ws dd,SpG N [97] a bs ws dd
 b:∃ bs ws dd,SpG N [98] b bs ws dd
theorem a4Y {N:Nat}{a b:SpX}{p:PlX}(h:PrG N a b)(hN:N<=180)(hp:p.s=0\/p.s=1):∃ r a' b',PrG (N+1) a' b'/\∀ (q q':SpI) (gx:Nat) (id:Option Value),
  Av.Spec prog GL 11 [ptr gx,K9 p id] (C8 gx q.g q'.g [97] [98] q q' a b) λu m=>∃ t t':SpI,u=d9 r/\m=C8 gx t.g t'.g [97] [98] t t' a' b':=by
 obtain⟨bA,wA,dA,hA⟩:=h.a;obtain⟨bB,wB,dB,hB⟩:=h.b;rcases hp with hp|hp
 ·obtain⟨r,a',b1,w1,d1,_,hg,hS⟩:=JN (p:=p) hA hB dc dc hN hN;refine⟨r,a',b,⟨⟨b1,w1,d1,hg⟩,⟨bB,wB,dB,hB.up⟩⟩,λq q' gx id=>(hS q q' gx q.g q'.g id (.inl ⟨hp,rfl,rfl⟩)).mono ?_⟩;rintro u m ⟨t,e,rfl,rfl⟩;exact⟨t,q',rfl,by rw[e]⟩
 obtain⟨r,b',b1,w1,d1,_,hg,hS⟩:=JN (p:=p) hB hA dc dc hN hN;refine⟨r,a,b',⟨⟨bA,wA,dA,hA.up⟩,⟨b1,w1,d1,hg⟩⟩,λq q' gx id=>?_⟩;refine QL (hS q' q gx q.g q'.g id (.inr ⟨hp,rfl,rfl⟩)) (List.Perm.cons _ List.perm_append_comm) ?_;rintro u m ⟨t,e,rfl,rfl⟩;exact⟨C8 gx q.g t.g [97] [98] q t a b',by rw[e];exact List.Perm.cons _ List.perm_append_comm,q,t,rfl,rfl⟩
theorem a4E:∃ a0 b0 a1 b1 a2 b2 a3 b3 a4 b4 a5 b5,NewOk 1000 a0 b0 a1 b1 a2 b2 a3 b3 a4 b4 a5 b5/\PrG 10 a5 b5:=by
 obtain⟨a0,b0,a1,b1,a2,b2,a3,b3,a4,b4,a5,b5,hN,bA,bB,lA,lB,sA,sB,A,B,hl,hs,hlA,hlB,nA,nB⟩:=JU (n:=1000) dc;exact⟨a0,b0,a1,b1,a2,b2,a3,b3,a4,b4,a5,b5,hN,⟨_,_,_,A.L.spg om⟩,⟨_,_,_,B.L.spg om⟩⟩
theorem yO {f:FuncId}{args:List AV}{U:AV}{gx ga gb:Nat}{na nb:Bs}{qa qb:SpI}{a b:SpX}(h:Av.Spec prog GL f args (C8 gx ga gb nb na qb qa b a) λu m=>u=U/\m=C8 gx ga gb nb na qb qa b a) :
  Av.Spec prog GL f args (C8 gx ga gb na nb qa qb a b) λu m=>u=U/\m=C8 gx ga gb na nb qa qb a b:=QL h (List.Perm.cons _ List.perm_append_comm) (λu n hn=>⟨_,by rw[hn.2];exact List.Perm.cons _ List.perm_append_comm,hn.1,rfl⟩)
theorem Nh {N:Nat}{a b:SpX}(h:PrG N a b)(hN:N<=60):a.rp.length<=100000/\a.c.ev.length<=1000000/\((a.c.hs.length<a.c.ms.length/\a.c.ms.length<=1000000)/\DOk (j3 a.c))/\a.c.hs.length<=1000000/\CG a.c:=by
 obtain⟨B,W,dd,hg⟩:=h.a;have hc:=hg.cg dc;have hr:=hg.r;exact⟨om,hc.v,hc.k,hc.q.1.1,hc⟩
theorem Ng {N:Nat}{a b:SpX}(h:PrG N a b)(hN:N<=60):b.rp.length<=100000/\b.c.ev.length<=1000000/\((b.c.hs.length<b.c.ms.length/\b.c.ms.length<=1000000)/\DOk (j3 b.c))/\b.c.hs.length<=1000000/\CG b.c:=by
 obtain⟨B,W,dd,hg⟩:=h.b;have hc:=hg.cg dc;have hr:=hg.r;exact⟨om,hc.v,hc.k,hc.q.1.1,hc⟩

def wU (s:Bs):Bs:=if 300<s.length then s.take 300 else s
def Nj (s:Bs):Bs:=if Y0 (I9 (wU s))=0/\(J9 (I9 (wU s))).k=4 then [] else wU s
def vX (p:PlX):PlX:={ p with s:=p.s%2,n:=p.n%1024,tx:=Nj p.tx }
theorem b0H (s:Bs):(wU s).length<=300:=by
 unfold wU;split
 ·exact List.length_take_le _ _
 omega
attribute [local irreducible] Y0 J9 I9 wU
set_option maxHeartbeats 8000000 in
instance c0E {p:PlX}{id:Option Value}:Ans prog GL 17 [K9 p id] True (K9 (vX p) id):=⟨λ_=>by
 have h3:=b0H p.tx;refine zc func17 ntmps17 λ_ hs=>?_;repeat' first|refine O ?_|intro
 refine Ep 10 ?_;rw[show ((2 ^ 10:Nat):Int)=1024 from rfl];repeat' first|refine O ?_|intro
 rename_i g1 g2;refine PS (α:=Unit) (λ_=>[(1,ptr g1),(2,ptr g2)]) (λ_=>[.var g2 28 (.agg 7 [int 0,int 0,int 0,int 0,int 0,.lit (.slice none 0 0),str []]),.var g1 28 (.agg 7 [int p.k,int (p.s%2),int (p.n%1024),int p.torn,int p.cut,.sl 1 (p.keep.map d9) id,str (wU p.tx)])]) ?_ (λ_=>?_)
 ·by_cases h:300<p.tx.length
  ·have e:wU p.tx=p.tx.take 300:=by unfold wU;exact if_pos h
   rw[dT om,e];repeat' first|refine O ?_|intro
   refine dG 0 300 ?_;rw[List.drop_zero];repeat' first|refine O ?_|intro
   exact P9 () za slr
  have e:wU p.tx=p.tx:=by unfold wU;exact if_neg h
  rw[dZ om,e];repeat' first|refine O ?_|intro
  exact P9 () za slr
 unfold vX Nj;generalize wU p.tx=t at *;repeat' first|refine O ?_|intro
 by_cases h1:Y0 (I9 t)=0
 ·rw[dT h1];repeat' first|refine O ?_|intro
  repeat ((first|refine H6 ?_|refine D5 ?_);(repeat' (first|refine Za ?_|refine p9 (λ_=>?_)|intro _|simp only[List.set]|fail)))
  by_cases h2:(J9 (I9 t)).k=4
  ·rw[dT h2,if_pos ⟨h1,h2⟩];exact o8
  rw[dZ h2,if_neg (λh=>h2 h.2)];exact o8
 rw[dZ h1,if_neg (λh=>h1 h.1)];repeat' first|refine O ?_|intro
 repeat ((first|refine H6 ?_|refine D5 ?_);(repeat' (first|refine Za ?_|refine p9 (λ_=>?_)|intro _|simp only[List.set]|fail)))
 exact x9 rfl⟩
end Go.Proofs.Z
