/- . -/
import Derived.Test.YtcdbijbhifhkeaaGreatDoorV30
set_option maxHeartbeats 64000000
namespace Go.Proofs.Z
open Go Go.RowKit Tw Av Go.Proofs.Tryz
section
variable {s:Bs}
theorem Lp (s:Bs):(uL s).length<=s.length/\(uK s).length<=s.length/\(iG s).length<=s.length:=by
 have h1:=(aU 115 8 s false).1;have h2:=(aU 111 32 (uL s) (AQ s)).1;have h3:=(aU 113 32 (uK s) (AP s)).1;unfold iG;unfold uK at *;unfold uL at *;exact⟨h1,om,om⟩
theorem Lx :l9 115 8 s false=uL s:=rfl
theorem Lv :O1 115 4 s false=AQ s:=rfl
theorem Lu :l9 111 32 (uL s) (AQ s)=uK s:=rfl
theorem Lt :F8 111 32 (uL s) (AQ s)=AP s:=rfl
theorem Ls :l9 113 32 (uK s) (AP s)=iG s:=rfl
theorem Lr :F8 113 32 (uK s) (AP s)=lT s:=rfl
theorem RJ (h:xR s≠0\/kY (xS s)=false):lS s=zW/\oH s=10:=by
 have hk:FK s=false:=by
  unfold FK;rcases h with h|h
  ·rw[dZ h,Bool.false_and]
  rw[h,Bool.and_false]
 unfold lS oH;rw[hk];exact⟨rfl,rfl⟩
theorem Li (h1:xR s=0)(h2:kY (xS s)=true):lS s=xS s/\oH s=0:=by
 have hk:FK s=true:=by
  unfold FK;rw[dT h1,h2];rfl
 unfold lS oH;rw[hk];exact⟨rfl,rfl⟩
instance c1l :Ans prog GL 308 [str s] (s.length<=1000000000) (.tup [kT (lS s),int (oH s)]):=⟨λhl=>by
 obtain⟨l1,l2,l3⟩:=Lp s;have e1:(uL s).length=(l9 115 8 s false).length:=rfl;have e2:(uK s).length=(l9 111 32 (l9 115 8 s false) (O1 115 4 s false)).length:=rfl;have e3:(iG s).length=(l9 113 32 (l9 111 32 (l9 115 8 s false) (O1 115 4 s false)) (F8 111 32 (l9 115 8 s false) (O1 115 4 s false))).length:=rfl;refine zc func308 ntmps308 λ_ hs=>?_;repeat' first|refine Yz ?_|intro
 refine J6 (args:=[str s]) [] _ (by rw[hs];exact yM) (λu m1 hh=>?_) lpr;obtain⟨gr,rfl,rfl⟩:=hh;repeat' first|refine Yz ?_|intro
 rw[Lx,Lv,Lu,Lt,Ls,Lr];by_cases hE:xR s=0
 rotate_left
 ·obtain⟨v1,v2⟩:=RJ (.inl hE);rw[v1,v2];rw[show xR s=X6 (l9 112 32 (iG s) (lT s)) (F8 112 32 (iG s) (lT s)) from rfl] at hE;exact bH
 cases hc:kY (xS s)
 ·obtain⟨v1,v2⟩:=RJ (.inr hc);rw[v1,v2];rw[show xR s=X6 (l9 112 32 (iG s) (lT s)) (F8 112 32 (iG s) (lT s)) from rfl] at hE;unfold xS at hc;repeat' first|refine Yz ?_|intro
  rw[hc];exact bH
 obtain⟨v1,v2⟩:=Li hE hc;rw[v1,v2];rw[show xR s=X6 (l9 112 32 (iG s) (lT s)) (F8 112 32 (iG s) (lT s)) from rfl] at hE;unfold xS at hc;repeat' first|refine Yz ?_|intro
 rw[hc];exact bH⟩
instance c0B :Ans prog GL 52 [str s] (s.length<=1000000000) (.tup [kT (lS s),int (oH s)]):=⟨λhl=>by
 obtain⟨l1,l2,l3⟩:=Lp s;have e1:(uL s).length=(l9 115 8 s false).length:=rfl;have e2:(uK s).length=(l9 111 32 (l9 115 8 s false) (O1 115 4 s false)).length:=rfl;have e3:(iG s).length=(l9 113 32 (l9 111 32 (l9 115 8 s false) (O1 115 4 s false)) (F8 111 32 (l9 115 8 s false) (O1 115 4 s false))).length:=rfl;have t1:=(aU 111 32 (uL s) (AQ s)).2;have t2:=(aU 113 32 (uK s) (AP s)).2;have t3:=(aU 112 32 (iG s) (lT s)).2;have t4:(I7 111 32 (uL s) (AQ s)).length<=1000000000/\(I7 113 32 (uK s) (AP s)).length<=1000000000/\(I7 112 32 (iG s) (lT s)).length<=1000000000:=by omega
 refine zc func52 ntmps52 λ_ hs=>?_;repeat' first|refine Yz ?_|intro
 rw[Lx,Lv,Lu,Lt,Ls,Lr];by_cases hE:xR s=0
 rotate_left
 ·obtain⟨v1,v2⟩:=RJ (.inl hE);rw[v1,v2];rw[show xR s=X6 (l9 112 32 (iG s) (lT s)) (F8 112 32 (iG s) (lT s)) from rfl] at hE;exact bH
 cases hc:kY (xS s)
 ·obtain⟨v1,v2⟩:=RJ (.inr hc);rw[v1,v2];rw[show xR s=X6 (l9 112 32 (iG s) (lT s)) (F8 112 32 (iG s) (lT s)) from rfl] at hE;unfold xS at hc;repeat' first|refine Yz ?_|intro
  rw[hc];exact bH
 obtain⟨v1,v2⟩:=Li hE hc;rw[v1,v2];rw[show xR s=X6 (l9 112 32 (iG s) (lT s)) (F8 112 32 (iG s) (lT s)) from rfl] at hE;unfold xS at hc;repeat' first|refine Yz ?_|intro
 rw[hc];exact bH⟩
end
end Go.Proofs.Z

namespace Av
open Go Go.RowKit Tw
theorem SpecE.imp {P:Program}{gl:List (Nat × AV)}{f:FuncId}{args:List AV}{out out':AV}(h:SpecE P gl f args out)(hi:Imp out out'):SpecE P gl f args out':=Spec.mk λok w c hS hv=>
 Calls.mono (h.run ok w c hS hv) λ_ _ ⟨v,m',ok',cv,e0,e,r,st⟩=>by
  obtain⟨rfl,rfl⟩:=e0;exact⟨out',[],ok',cv,⟨rfl,rfl⟩,e,hi _ _ _ r,st⟩
end Av
namespace Go.Proofs.Z
open Go Go.RowKit Tw Av
theorem DOk.le {d:List Ent}(h:DOk d):d.length<=1073741823:=Nat.le_trans h.l dc
theorem DOk.val {d:List Ent}(h:DOk d)(k:Bs):(P7 d k).length<=4000:=by
 unfold P7 gO kR;cases hf:d.find? λx=>decide (x.key=k) with
 | none=>exact Nat.zero_le _
 | some x=>exact(h.f x (List.mem_of_find?_eq_some hf)).2
instance (priority:=high) d0o {d:List Ent}{k:Bs}{xs:List AV}{id:Option Value}[hx:Ents xs d]:Ans Tryz.prog GL 169 [.agg 1 [.sl 2 xs id],str k] (DOk d) (.tup [str (P7 d k),d9 (gO d k).isSome]):=⟨λh=>by
 have:=(a8I (l:=d) (k:=k) (xs:=xs) (id:=id)).spec h.le;rw[a1t h.s,xY h.s] at this;exact this⟩
instance (priority:=high) d0m {d:List Ent}{k:Bs}{xs:List AV}{id:Option Value}[hx:Ents xs d]:Ans Tryz.prog GL 49 [.sl 2 xs id,str k] (DOk d) (.tup [str (P7 d k),d9 (gO d k).isSome]):=⟨λh=>by
 have:=(a8t (l:=d) (k:=k) (xs:=xs) (id:=id)).spec h.le;rw[<- Option.isSome_map (f:=(·.val))] at this;exact this⟩
instance (priority:=high) d0n {d:List Ent}{k v:Bs}{xs:List AV}{id:Option Value}[hx:Ents xs d]:Ans Tryz.prog GL 135 [.agg 1 [.sl 2 xs id],str k,str v] (DOk d) (.tup [dA (bJ d k v).1,int (bJ d k v).2]):=⟨λh=>by
 refine SpecE.imp ((a8u (l:=d) (k:=k) (v:=v) (xs:=xs) (id:=id)).spec h.le) ?_;unfold vV bJ;by_cases he:Q0 d k v=0
 ·rw[if_pos he,if_pos he,he];exact Imp.of_eq rfl
 rw[if_neg he,if_neg he];exact(inferInstance:ImpR (.tup [.agg 1 [.lit (.slice none 0 0)],int (Q0 d k v)]) (.tup [.agg 1 [.sl 2 [] none],int (Q0 d k v)])).imp⟩
instance (priority:=high) d0p {d:List Ent}{k:Bs}{xs:List AV}[hx:Ents xs d]:Ans Tryz.prog GL 340 [.agg 1 [.sl 2 xs none],str k] (DOk d) (.tup [dA (iM d k),d9 (gO d k).isSome]):=⟨λh=>by
 have:=(a8P (l:=d) (k:=k) (xs:=xs)).spec h.le;rw[xY h.s] at this;unfold iM;rw[xY h.s];exact this⟩
end Go.Proofs.Z

namespace Go.Proofs.Z
open Go Go.RowKit Tw Av Go.Proofs.Tryz
section
variable {a:Bs}{xs:List AV}{d:List Ent}
instance c3s {c:Bs}:Ans prog GL 149 [str a,str c] True (str (F6 a c)):=⟨λ_=>by
 refine zc func149 ntmps149 λ_ hs=>?_;exact M7⟩
instance c3n {c:Bs}:Ans prog GL 148 [str c] True (str (R9 c)):=⟨λ_=>by
 refine zc func148 ntmps148 λ_ hs=>?_;exact M7⟩
instance c0t {c:Bs}:Ans prog GL 43 [str a,str c] True (str (F6 a c)):=⟨λ_=>by
 refine zc func43 ntmps43 λ_ hs=>?_;exact M7⟩
instance c0r {c:Bs}:Ans prog GL 45 [str c] True (str (R9 c)):=⟨λ_=>by
 refine zc func45 ntmps45 λ_ hs=>?_;exact M7⟩
instance c3t {k:Bs}{id:Option Value}[hx:Ents xs d]:Ans prog GL 201 [.agg 1 [.sl 2 xs id],str k] (DOk d) (G6 (F9 d k)):=⟨λhd=>by
 have hv:(P7 d k).length<=1000000000:=Nat.le_trans (hd.val k) dc;refine zc func201 ntmps201 λ_ hs=>?_;repeat' first|refine Vz ?_|intro
 unfold F9;by_cases h:(P7 d k).length=32
 ·simp only[if_pos h];exact o8
 simp only[if_neg h];exact o8⟩
instance c0u {k:Bs}{id:Option Value}[hx:Ents xs d]:Ans prog GL 42 [.sl 2 xs id,str k] (DOk d) (G6 (F9 d k)):=⟨λhd=>by
 have hv:(P7 d k).length<=1000000000:=Nat.le_trans (hd.val k) dc;refine zc func42 ntmps42 λ_ hs=>?_;repeat' first|refine Vz ?_|intro
 unfold F9;by_cases h:(P7 d k).length=32
 ·simp only[if_pos h];exact o8
 simp only[if_neg h];exact o8⟩
instance c3w {c:Bs}{id:Option Value}[hx:Ents xs d]:Ans prog GL 145 [.agg 1 [.sl 2 xs id],str a,str c] (DOk d) (G6 (F9 d (F6 a c))):=⟨λhd=>by
 refine zc func145 ntmps145 λ_ hs=>?_;exact M7⟩
instance c0v {c:Bs}{id:Option Value}[hx:Ents xs d]:Ans prog GL 16 [.sl 2 xs id,str a,str c] (DOk d) (G6 (F9 d (F6 a c))):=⟨λhd=>by
 refine zc func16 ntmps16 λ_ hs=>?_;exact M7⟩
instance c0s {c:Bs}{id:Option Value}[hx:Ents xs d]:Ans prog GL 18 [.sl 2 xs id,str c] (DOk d) (G6 (F9 d (R9 c))):=⟨λhd=>by
 refine zc func18 ntmps18 λ_ hs=>?_;exact M7⟩
instance c3r {c:Bs}{n:Wd}{l:List Bs}{id:Option Value}[hx:Strs xs l]:Ans prog GL 143 [str c,G6 n,.sl 1 xs id] True (d9 (l.all aJ&&(iO c&&decide (n.n≠0)))):=⟨λ_=>by
 have h:=hx.out;subst h;have hm:(l.map str).length=l.length:=llm _;refine zc func143 ntmps143 λ_ hs=>?_;refine IP 2 (λhb=>?_);have hb:=BF hb;repeat' first|refine Vz ?_|intro
 rename_i g4;refine H7 (α:=Nat) (λi=>[(0,str c),(4,ptr g4),(9,.sl 1 (l.map str) id),(10,int (l.map str).length),(11,int i)]) (λi=>[.var g4 39 (G6 n)]) (λi=>i<=l.length/\∀ j,(hj:j<l.length)->j<i->aJ l[j]=true) (λi=>l.length-i) 0 za slr ⟨Nat.zero_le _,λ_ _ h=>absurd h om⟩ ?_;rintro i ⟨hi,hall⟩;repeat' first|refine Vz ?_|intro
 refine G7 (λhlt=>?_) (λhlt=>?_)
 ·have hil:i<l.length:=om
  repeat' first|refine Vz ?_|intro
  refine G7 (λh=>?_) (λh=>?_)
  ·have hb:aJ l[i]=false:=dZ h;repeat' first|refine Vz ?_|intro
   refine x9 ?_;have:l.all aJ=false:=List.all_eq_false.2 ⟨_,List.getElem_mem hil,by rw[hb];decide⟩;rw[this];rfl
  have hb:aJ l[i]=true:=dT (Classical.not_not.1 h);repeat' first|refine Vz ?_|intro
  refine y7 (i+1) za slr ⟨hil,λj hj h=>?_⟩ om;by_cases hj2:j<i
  ·exact hall j hj hj2
  obtain rfl:j=i:=by omega
  exact hb
 obtain rfl:i=l.length:=by omega
 have ht:l.all aJ=true:=List.all_eq_true.2 λx hx=>by
  obtain⟨j,hj,rfl⟩:=List.getElem_of_mem hx;exact hall j hj hj
 rw[ht,Bool.true_and];repeat' first|refine Vz ?_|intro
 cases h2:iO c
 ·exact o8
 exact o8⟩
end
end Go.Proofs.Z

namespace Go.Proofs.Z
open Go Go.RowKit Tw Av
theorem a1r {n:Nat}(h:lK n=true):n<115792089237316195423570985008687907853269984665640564039457584007913129639936:=of_decide_eq_true h
attribute [local irreducible] aJ iO lK
end Go.Proofs.Z

namespace Go.Proofs.Z
open Go Go.RowKit Tw Av Go.Proofs.Tryz
section
def Does (f:FuncId)(cs:List Value)(m:List Av.Piece)(R:List Ent->List Ent × Int):Prop:=∀ d,DOk d->Av.Spec prog GL f (dA d::cs.map .lit) m λu m'=>u=.tup [dA (R d).1,int (R d).2]/\m'=m
theorem ZH {k:Bs}{n:Wd}:Av.Spec prog GL 147 [str k,G6 n] [] λu m=>∃ g1 g2,u=F3 202 [.pointer (some ⟨g1,0,none⟩),.pointer (some ⟨g2,0,none⟩)]/\m=[.var g2 39 (G6 n),.var g1 9 (str k)]:=by
 refine zc func147 ntmps147 λ_ hs=>?_;repeat' first|refine Vz ?_|intro
 rename_i g1 g2;refine Z0 (vs:=[.pointer (some ⟨g1,0,none⟩),.pointer (some ⟨g2,0,none⟩)]) ?_;repeat' first|refine Vz ?_|intro
 exact j4 _ ⟨g1,g2,rfl,rfl⟩ slr
theorem ZV {k:Bs}{n:Wd}:Av.Spec prog GL 316 [str k,G6 n] [] λu m=>∃ g1 g2,u=F3 351 [.pointer (some ⟨g1,0,none⟩),.pointer (some ⟨g2,0,none⟩)]/\m=[.var g2 39 (G6 n),.var g1 9 (str k)]:=by
 refine zc func316 ntmps316 λ_ hs=>?_;repeat' first|refine Vz ?_|intro
 rename_i g1 g2;refine Z0 (vs:=[.pointer (some ⟨g1,0,none⟩),.pointer (some ⟨g2,0,none⟩)]) ?_;repeat' first|refine Vz ?_|intro
 exact j4 _ ⟨g1,g2,rfl,rfl⟩ slr
theorem EL (n:Int):Imp (L6 [.agg 1 [.lit (.slice none 0 0)],int n]) (.tup [dA [],int n]):=(inferInstance:ImpR (.tup [.agg 1 [.lit (.slice none 0 0)],int n]) (.tup [.agg 1 [.sl 2 [] none],int n])).imp
attribute [local irreducible] lK
theorem ZJ {k:Bs}{n:Wd}{g1 g2:Nat}:Does 202 [.pointer (some ⟨g1,0,none⟩),.pointer (some ⟨g2,0,none⟩)] [.var g2 39 (G6 n),.var g1 9 (str k)] (iY k n):=λd hd=>by
 show Av.Spec _ _ _ [dA d,ptr g1,ptr g2] _ _;refine zc func202 ntmps202 λ_ hs=>?_;repeat' first|refine O ?_|intro
 unfold iY;cases h:lK ((F9 d k).n+n.n)
 ·rw[if_neg dc];repeat' first|refine O ?_|intro
  refine Y1 _ _ (EL _) ⟨rfl,rfl⟩ ?_;exact A8
 rw[if_pos rfl];repeat' first|refine O ?_|intro
 refine Y1 _ _ (Imp.of_eq ?_) ⟨rfl,rfl⟩ ?_
 ·rw[mO (a1r h)];rfl
 exact A8
theorem ZX {k:Bs}{n:Wd}{g1 g2:Nat}:Does 351 [.pointer (some ⟨g1,0,none⟩),.pointer (some ⟨g2,0,none⟩)] [.var g2 39 (G6 n),.var g1 9 (str k)] (fZ k n):=λd hd=>by
 show Av.Spec _ _ _ [dA d,ptr g1,ptr g2] _ _;have hw:(H9 ((F9 d k).n-n.n)).n=(F9 d k).n-n.n:=mO (Nat.lt_of_le_of_lt (Nat.sub_le _ _) (F9 d k).lt);refine zc func351 ntmps351 λ_ hs=>?_;repeat' first|refine O ?_|intro
 unfold fZ;by_cases h:(F9 d k).n<n.n
 ·rw[if_pos h,dZ (Nat.not_le.2 h)];repeat' first|refine O ?_|intro
  refine Y1 _ _ (EL _) ⟨rfl,rfl⟩ ?_;exact A8
 rw[if_neg h,dT (Nat.not_lt.1 h)];repeat' first|refine O ?_|intro
 rw[hw];by_cases h2:(F9 d k).n=n.n
 ·rw[if_pos h2,dT (show (F9 d k).n-n.n=0 by omega)];repeat' first|refine O ?_|intro
  refine Y1 _ _ (Imp.of_eq rfl) ⟨rfl,rfl⟩ ?_;exact A8
 rw[if_neg h2,dZ (show ¬ (F9 d k).n-n.n=0 by omega)];repeat' first|refine O ?_|intro
 refine Y1 _ _ (Imp.of_eq ?_) ⟨rfl,rfl⟩ ?_
 ·rw[hw];rfl
 exact A8
end

def dAt (R1 R2:List Ent->List Ent × Int)(d:List Ent):Nat->List Ent
 | 0=>d
 | 1=>(R1 d).1
 | _=>(R2 (R1 d).1).1
theorem Cc {f1 f2:FuncId}[FnB prog f1][FnB prog f2]{cs1 cs2:List Value}{m1 m2:List Av.Piece}{R1 R2:List Ent->List Ent × Int}{d:List Ent}(h1:Does f1 cs1 m1 R1)(h2:Does f2 cs2 m2 R2)(hc1:∀ v∈cs1,v.oneCell'=true)(hc2:∀ v∈cs2,v.oneCell'=true)(hd:DOk d)(U9:DOk (R1 d).1) :
  Av.Spec prog GL 146 [dA d,.sl 1 [F3 f1 cs1,F3 f2 cs2] none] (m1++m2) λu m=>u=.tup [dA (aF R1 R2 d).1,int (aF R1 R2 d).2]/\m=m1++m2:=by
 refine zc func146 ntmps146 λ_ hs=>?_;repeat' first|refine Vz ?_|intro
 rename_i g2 g4;refine H7 (α:=Nat) (λi=>[(2,ptr g2),(4,ptr g4),(5,int 0),(6,int 0),(9,.sl 1 [F3 f1 cs1,F3 f2 cs2] none),(10,int 2),(11,int i)]) (λi=>[.var g4 32 (.agg 1 [.lit (.slice none 0 0)]),.var g2 32 (dA (dAt R1 R2 d i))]++(m1++m2))
  (λi=>i<=2/\(1<=i->(R1 d).2=0)/\(2<=i->(R2 (R1 d).1).2=0)) (λi=>2-i) 0 za slr ⟨dc,λh=>absurd h dc,λh=>absurd h dc⟩ ?_
 rintro i ⟨hi,f1',f2'⟩;rcases i with _|_|_|i
 ·repeat' first|refine O ?_|intro
  refine gX (args:=[dA d]) (cs:=cs1) m1 ([Av.Piece.var g4 32 (.agg 1 [.lit (.slice none 0 0)]),Av.Piece.var g2 32 (dA (d))]++m2) (by rw[hs];exact h1 d hd) (λu m' hh=>?_) (List.perm_append_comm_assoc _ _ _) (hcs:=hc1);obtain⟨rfl,rfl⟩:=hh;refine lC (λok w h=>h.perm (m':=[Av.Piece.var g4 32 (.agg 1 [.lit (.slice none 0 0)]),Av.Piece.var g2 32 (dA (d))]++(m'++m2)) (List.perm_append_comm_assoc _ _ _)) ?_;by_cases he:(R1 d).2=0
  ·repeat' first|refine O ?_|intro
   refine xE 6 (v:=int (R1 d).2) (v':=int 0) (Imp.of_eq (by rw[he])) ?_;refine y7 1 za slr ⟨dc,λ_=>he,λh=>absurd h dc⟩ dc
  repeat' first|refine O ?_|intro
  refine j4 (m'++m2) ⟨?_,rfl⟩ ((List.sublist_cons_self _ _).trans (List.Sublist.refl _ |>.cons _));unfold aF;rw[if_neg he];rfl
 ·have he1:=f1' dc;repeat' first|refine O ?_|intro
  refine gX (args:=[dA (R1 d).1]) (cs:=cs2) m2 ([Av.Piece.var g4 32 (.agg 1 [.lit (.slice none 0 0)]),Av.Piece.var g2 32 (dA ((R1 d).1))]++m1) (by rw[hs];exact h2 _ U9) (λu m' hh=>?_) ?_ (hcs:=hc2);rotate_left
  ·exact(List.perm_append_comm (l₁:=[Av.Piece.var g4 32 (.agg 1 [.lit (.slice none 0 0)]),Av.Piece.var g2 32 (dA ((R1 d).1))]++m1) (l₂:=m2)).trans lpr |> λh=>(by rw[<- laa];exact h)
  obtain⟨rfl,rfl⟩:=hh;refine lC (λok w h=>h.perm (m':=[Av.Piece.var g4 32 (.agg 1 [.lit (.slice none 0 0)]),Av.Piece.var g2 32 (dA ((R1 d).1))]++(m1++m')) (by rw[<- laa];exact List.perm_append_comm)) ?_;have ht:aF R1 R2 d=R2 (R1 d).1:=by
   unfold aF;rw[if_pos he1]
  rw[ht];by_cases he:(R2 (R1 d).1).2=0
  ·repeat' first|refine O ?_|intro
   refine xE 6 (v:=int (R2 (R1 d).1).2) (v':=int 0) (Imp.of_eq (by rw[he])) ?_;refine y7 2 za slr ⟨dc,λ_=>he1,λ_=>he⟩ dc
  repeat' first|refine O ?_|intro
  refine j4 (m1++m') ⟨rfl,rfl⟩ ?_;exact(List.Sublist.refl _ |>.cons _).cons _
 ·have he1:=f1' dc;have he2:=f2' dc;have ht:aF R1 R2 d=R2 (R1 d).1:=by
   unfold aF;rw[if_pos he1]
  rw[ht,he2];repeat' first|refine O ?_|intro
  refine j4 (m1++m2) ⟨rfl,rfl⟩ ?_;exact(List.Sublist.refl _ |>.cons _).cons _
 omega

section
variable {a:Bs}{xs:List AV}{d:List Ent}
attribute [local irreducible] aJ iO lK
theorem TC {c:Bs}{n:Wd}:([a].all aJ&&(iO c&&decide (n.n≠0)))=false↔aJ a=false\/iO c=false\/n.n=0:=by
 simp only[List.all_cons,List.all_nil,Bool.and_true];by_cases h:n.n=0 <;> cases aJ a <;> cases iO c <;> simp[h]
theorem Pt {b c:Bs}{n:Wd}:([a,b].all aJ&&(iO c&&decide (n.n≠0)))=false↔aJ a=false\/aJ b=false\/iO c=false\/n.n=0:=by
 simp only[List.all_cons,List.all_nil,Bool.and_true];by_cases h:n.n=0 <;> cases aJ a <;> cases aJ b <;> cases iO c <;> simp[h]
theorem JQ {g1 g2:Nat}:∀ v∈[Value.pointer (some ⟨g1,0,none⟩),.pointer (some ⟨g2,0,none⟩)],v.oneCell'=true:=by simp[Value.oneCell']
instance c3q {c:Bs}{n:Wd}[hx:Ents xs d]:Ans prog GL 98 [.agg 1 [.sl 2 xs none],str a,str c,G6 n] (DOk d) (.tup [dA (aL d a c n).1,int (aL d a c n).2]):=⟨λhd=>by
 have h:=hx.out;subst h;refine zc func98 ntmps98 λ_ hs=>?_;repeat' first|refine O ?_|intro
 unfold aL;cases h1:[a].all aJ&&(iO c&&decide (n.n≠0))
 ·rw[if_pos (TC.1 h1)];repeat' first|refine O ?_|intro
  refine P8 ?_;exact EL _
 rw[if_neg (λe=>by rw[TC.2 e] at h1;cases h1)];repeat' first|refine O ?_|intro
 cases h2:lK ((F9 d (F6 a c)).n+n.n)
 ·rw[if_pos rfl];repeat' first|refine O ?_|intro
  refine P8 ?_;exact EL _
 rw[if_neg dc];repeat' (first|refine iP ?_|refine M8 ?_|refine Q4 ?_|refine L8 ?_|intro _)
 refine BX [0,1,2,3,5,6,8,4,7,9,10,11,12,13,14,15] kr rfl hs kr ?_;repeat' first|refine Vz ?_|intro
 apply aH [];exact rfl;exact rfl;kernel_rfl;kernel_rfl;intro s' hs';refine J6 (args:=[str (R9 c),G6 n]) [] _ (by rw[hs'];exact ZH) (λu m1 hh=>?_) lpr;obtain⟨k1,n1,rfl,rfl⟩:=hh;refine j5 (W9 [] [.var n1 39 (G6 n),.var k1 9 (str (R9 c))] rfl rfl lpr rfl ?_);repeat' first|refine Vz ?_|intro
 apply aH [];exact rfl;exact rfl;kernel_rfl;kernel_rfl;intro s' hs';refine J6 (args:=[str (F6 a c),G6 n]) [] _ (by rw[hs'];exact ZH) (λu m1 hh=>?_) lpr;obtain⟨k2,n2,rfl,rfl⟩:=hh;refine j5 (W9 [] [.var n2 39 (G6 n),.var k2 9 (str (F6 a c))] rfl rfl lpr rfl ?_);repeat' first|refine Vz ?_|intro
 apply zd [4,5,6,7];exact zg;intro s' hs';refine J6 (args:=[dA d,.sl 1 [F3 202 [.pointer (some ⟨k1,0,none⟩),.pointer (some ⟨n1,0,none⟩)],F3 202 [.pointer (some ⟨k2,0,none⟩),.pointer (some ⟨n2,0,none⟩)]] none]) [.var n1 39 (G6 n),.var k1 9 (str (R9 c)),.var n2 39 (G6 n),.var k2 9 (str (F6 a c))] [] (by rw[hs'];exact Cc (m1:=[.var n1 39 (G6 n),.var k1 9 (str (R9 c))]) (m2:=[.var n2 39 (G6 n),.var k2 9 (str (F6 a c))]) ZJ ZJ JQ JQ hd (OA hd)) (λu m1 hh=>?_) lpr;obtain⟨rfl,rfl⟩:=hh;exact j5 (A7 rfl rfl);exact M7⟩
instance c3v {c:Bs}{n:Wd}[hx:Ents xs d]:Ans prog GL 328 [.agg 1 [.sl 2 xs none],str a,str c,G6 n] (DOk d) (.tup [dA (nR d a c n).1,int (nR d a c n).2]):=⟨λhd=>by
 have h:=hx.out;subst h;refine zc func328 ntmps328 λ_ hs=>?_;repeat' first|refine O ?_|intro
 unfold nR;cases h1:[a].all aJ&&(iO c&&decide (n.n≠0))
 ·rw[if_pos (TC.1 h1)];repeat' first|refine O ?_|intro
  refine P8 ?_;exact EL _
 rw[if_neg (λe=>by rw[TC.2 e] at h1;cases h1)];repeat' (first|refine iP ?_|refine M8 ?_|refine Q4 ?_|refine L8 ?_|intro _)
 refine BX [0,1,2,3,5,6,8,4,7,9,10,11,12,13,14,15] kr rfl hs kr ?_;repeat' first|refine Vz ?_|intro
 apply aH [];exact rfl;exact rfl;kernel_rfl;kernel_rfl;intro s' hs';refine J6 (args:=[str (R9 c),G6 n]) [] _ (by rw[hs'];exact ZV) (λu m1 hh=>?_) lpr;obtain⟨k1,n1,rfl,rfl⟩:=hh;refine j5 (W9 [] [.var n1 39 (G6 n),.var k1 9 (str (R9 c))] rfl rfl lpr rfl ?_);repeat' first|refine Vz ?_|intro
 apply aH [];exact rfl;exact rfl;kernel_rfl;kernel_rfl;intro s' hs';refine J6 (args:=[str (F6 a c),G6 n]) [] _ (by rw[hs'];exact ZV) (λu m1 hh=>?_) lpr;obtain⟨k2,n2,rfl,rfl⟩:=hh;refine j5 (W9 [] [.var n2 39 (G6 n),.var k2 9 (str (F6 a c))] rfl rfl lpr rfl ?_);repeat' first|refine Vz ?_|intro
 apply zd [3,4,5,6];exact zg;intro s' hs';refine J6 (args:=[dA d,.sl 1 [F3 351 [.pointer (some ⟨k1,0,none⟩),.pointer (some ⟨n1,0,none⟩)],F3 351 [.pointer (some ⟨k2,0,none⟩),.pointer (some ⟨n2,0,none⟩)]] none]) [.var n1 39 (G6 n),.var k1 9 (str (R9 c)),.var n2 39 (G6 n),.var k2 9 (str (F6 a c))] [] (by rw[hs'];exact Cc (m1:=[.var n1 39 (G6 n),.var k1 9 (str (R9 c))]) (m2:=[.var n2 39 (G6 n),.var k2 9 (str (F6 a c))]) ZX ZX JQ JQ hd (FW hd)) (λu m1 hh=>?_) lpr;obtain⟨rfl,rfl⟩:=hh;exact j5 (A7 rfl rfl);exact M7⟩
instance c3p {b c:Bs}{n:Wd}[hx:Ents xs d]:Ans prog GL 280 [.agg 1 [.sl 2 xs none],str a,str b,str c,G6 n] (DOk d) (.tup [dA (aC d a b c n).1,int (aC d a b c n).2]):=⟨λhd=>by
 have h:=hx.out;subst h;refine zc func280 ntmps280 λ_ hs=>?_;repeat' first|refine O ?_|intro
 unfold aC;cases h1:[a,b].all aJ&&(iO c&&decide (n.n≠0))
 ·rw[if_pos (Pt.1 h1)];repeat' first|refine O ?_|intro
  refine P8 ?_;exact EL _
 rw[if_neg (λe=>by rw[Pt.2 e] at h1;cases h1)];repeat' (first|refine iP ?_|refine M8 ?_|refine Q4 ?_|refine L8 ?_|intro _)
 refine BX [0,1,2,4,6,7,9,3,5,8,10,11,12,13,14,15,16,17,18] kr rfl hs kr ?_;repeat' first|refine Vz ?_|intro
 apply NT [32] [];exact rfl;exact rfl;kernel_rfl;kernel_rfl;kernel_rfl;exact⟨⟨_,inferInstance⟩,trivial⟩;intro s' hs';refine J6 (args:=[str (F6 a c),G6 n]) [] _ (by rw[hs'];exact ZV) (λu m1 hh=>?_) lpr;obtain⟨k1,n1,rfl,rfl⟩:=hh;refine j5 (W9 [] [.var n1 39 (G6 n),.var k1 9 (str (F6 a c))] rfl rfl lpr rfl ?_);repeat' first|refine Vz ?_|intro
 apply NT [32] [];exact rfl;exact rfl;kernel_rfl;kernel_rfl;kernel_rfl;exact⟨⟨_,inferInstance⟩,trivial⟩;intro s' hs';refine J6 (args:=[str (F6 b c),G6 n]) [] _ (by rw[hs'];exact ZH) (λu m1 hh=>?_) lpr;obtain⟨k2,n2,rfl,rfl⟩:=hh;refine j5 (W9 [] [.var n2 39 (G6 n),.var k2 9 (str (F6 b c))] rfl rfl lpr rfl ?_);repeat' first|refine Vz ?_|intro
 apply zd [3,4,5,6];exact zg;intro s' hs';refine J6 (args:=[dA d,.sl 1 [F3 351 [.pointer (some ⟨k1,0,none⟩),.pointer (some ⟨n1,0,none⟩)],F3 202 [.pointer (some ⟨k2,0,none⟩),.pointer (some ⟨n2,0,none⟩)]] none]) [.var n1 39 (G6 n),.var k1 9 (str (F6 a c)),.var n2 39 (G6 n),.var k2 9 (str (F6 b c))] [] (by rw[hs'];exact Cc (m1:=[.var n1 39 (G6 n),.var k1 9 (str (F6 a c))]) (m2:=[.var n2 39 (G6 n),.var k2 9 (str (F6 b c))]) ZX ZJ JQ JQ hd (FW hd)) (λu m1 hh=>?_) lpr;obtain⟨rfl,rfl⟩:=hh;exact j5 (A7 rfl rfl)
 iterate 3 refine rG ?_
 apply YW [32];kernel_rfl;kernel_rfl;kernel_rfl;exact⟨⟨_,inferInstance⟩,trivial⟩;intro g3;repeat' first|refine Vz ?_|intro
 generalize hR:aF (fZ (F6 a c) n) (iY (F6 b c) n) d=R;by_cases hab:a=b
 ·rw[dT hab];repeat' first|refine Vz ?_|intro
  by_cases he:R.2=16
  ·rw[dZ (nni he)];repeat' first|refine Vz ?_|intro
   refine x9 ?_;simp[hab,he];rfl
  rw[dT he];repeat' first|refine Vz ?_|intro
  refine x9 ?_;simp[hab,he];rfl
 rw[dZ hab];repeat' first|refine Vz ?_|intro
 refine x9 ?_;simp[hab];rfl⟩
end

section
variable {h t:Int}{d f k s:Bs}{a:Wd}
instance b9w {q:Int}{g:Bs}:Ans prog GL 359 [.agg 12 [int q,str s,str k,.agg 7 [str d,G6 a,str f,str g],int h,int t]] (s.length<=1000000000/\d.length<=1000000000) (d9 (wH ⟨q,s,k,d,a,f,g,h,t⟩)):=⟨λhp=>by
 refine zc func359 ntmps359 λ_ hs=>?_;exact o8⟩
theorem b1L (h:xP s d=true):RG s d=d.drop (s.length+1):=by
 unfold RG;rw[if_pos h]
instance b9y {q:Int}{g:Bs}:Ans prog GL 334 [.agg 12 [int q,str s,str k,.agg 7 [str d,G6 a,str f,str g],int h,int t]] (s.length<=1000000000/\d.length<=1000000000/\k.length<=1000000000) (str (xB ⟨q,s,k,d,a,f,g,h,t⟩)):=⟨λhp=>by
 obtain⟨h1,h2,h3⟩:=hp;show Av.Spec _ _ _ _ _ λv m'=>v=str (if xP s d=true then d.drop (s.length+1) else k++[47]++d)/\m'=[];refine zc func334 ntmps334 λ_ hs=>?_;repeat' first|refine O ?_|intro
 cases hr:xP s d
 ·rw[if_neg (show ¬ false=true by decide)];exact o8
 rw[if_pos rfl,<- b1L hr];exact o8⟩
abbrev iH (d:Bs)(a:Wd)(f g:Bs):AV:=.agg 7 [.agg 7 [str d,G6 a,str f,str g]]
instance c0U {e:List Ent}{n:Wd}{g a b c:Bs}{xs:List AV}[hx:Ents xs e]:Ans prog GL 330 [.agg 7 [.agg 7 [str d,G6 n,str f,str g]],.agg 1 [.sl 2 xs none],str a,str b,str c] (DOk e) (.tup [dA (aC e a b c n).1,int (aC e a b c n).2]):=⟨λhd=>by
 have h:=hx.out;subst h;refine zc func330 ntmps330 λ_ hs=>?_;exact o8⟩
instance c0V {e:List Ent}{n:Wd}{g a c:Bs}{xs:List AV}[hx:Ents xs e]:Ans prog GL 337 [.agg 7 [.agg 7 [str d,G6 n,str f,str g]],.agg 1 [.sl 2 xs none],str a,str c] (DOk e) (.tup [dA (aL e a c n).1,int (aL e a c n).2]):=⟨λhd=>by
 have h:=hx.out;subst h;refine zc func337 ntmps337 λ_ hs=>?_;exact o8⟩
def Goes (F:FuncId)(cs:List Value)(m:List Av.Piece)(M:AV)(r:List Ent × Int):Prop:=Av.Spec prog GL F (M::cs.map .lit) m λu m'=>u=.tup [dA r.1,int r.2]/\m'=m
theorem WK {f1 f2:FuncId}[FnB prog f1][FnB prog f2]{cs1 cs2:List Value}{m:List Av.Piece}{r1 r2:List Ent × Int}{q:Int}{g:Bs}(h1:Goes f1 cs1 m (iH d a f g) r1)(h2:Goes f2 cs2 m (iH d a f g) r2)(hc1:∀ v∈cs1,v.oneCell'=true)(hc2:∀ v∈cs2,v.oneCell'=true)(hp:s.length<=1000000000/\d.length<=1000000000){R:List Ent × Int}
  (hR:R=if aN ⟨q,s,k,d,a,f,g,h,t⟩=false then ([],1) else if wH ⟨q,s,k,d,a,f,g,h,t⟩=true then r1 else r2) :
  Av.Spec prog GL 326 [.agg 12 [int q,str s,str k,.agg 7 [str d,G6 a,str f,str g],int h,int t],F3 f1 cs1,F3 f2 cs2] m λu m'=>u=.tup [dA R.1,int R.2]/\m'=m:=by
 subst hR;refine zc func326 ntmps326 λ_ hs=>?_;repeat' first|refine O ?_|intro
 rename_i g3 g2 g1;unfold sF;cases hc:aN ⟨q,s,k,d,a,f,g,h,t⟩
 ·rw[if_neg (show ¬ false=true by decide),if_pos rfl,dT (show (1:Int)≠0 by decide)];repeat' first|refine O ?_|intro
  refine Y1 _ m (EL _) ⟨rfl,rfl⟩ ?_;exact A8
 rw[if_pos rfl,if_neg (show ¬ true=false by decide),dZ (show ¬ (0:Int)≠0 by decide)];repeat' first|refine O ?_|intro
 cases hh:wH ⟨q,s,k,d,a,f,g,h,t⟩
 ·rw[if_neg (show ¬ false=true by decide)];repeat' first|refine O ?_|intro
  refine gX (args:=[iH d a f g]) (cs:=cs2) m [Av.Piece.var g1 388 (iH d a f g),.var g2 32 (.agg 1 [.lit (.slice none 0 0)]),.var g3 51 (.agg 12 [int q,str s,str k,.agg 7 [str d,G6 a,str f,str g],int h,int t])] (by rw[hs];exact h2) (λu m' hh=>?_) (List.perm_append_comm (l₁:=[Av.Piece.var g1 388 (iH d a f g),.var g2 32 (.agg 1 [.lit (.slice none 0 0)]),.var g3 51 (.agg 12 [int q,str s,str k,.agg 7 [str d,G6 a,str f,str g],int h,int t])]) (l₂:=m)) (hcs:=hc2);obtain⟨rfl,rfl⟩:=hh;refine lC (λok w hS=>hS.perm (m':=[Av.Piece.var g1 388 (iH d a f g),.var g2 32 (.agg 1 [.lit (.slice none 0 0)]),.var g3 51 (.agg 12 [int q,str s,str k,.agg 7 [str d,G6 a,str f,str g],int h,int t])]++m') List.perm_append_comm) ?_;repeat' first|refine O ?_|intro
  refine j4 m' ⟨rfl,rfl⟩ ?_;exact A8
 rw[if_pos rfl];repeat' first|refine O ?_|intro
 refine gX (args:=[iH d a f g]) (cs:=cs1) m [Av.Piece.var g1 388 (iH d a f g),.var g2 32 (.agg 1 [.lit (.slice none 0 0)]),.var g3 51 (.agg 12 [int q,str s,str k,.agg 7 [str d,G6 a,str f,str g],int h,int t])] (by rw[hs];exact h1) (λu m' hh=>?_) (List.perm_append_comm (l₁:=[Av.Piece.var g1 388 (iH d a f g),.var g2 32 (.agg 1 [.lit (.slice none 0 0)]),.var g3 51 (.agg 12 [int q,str s,str k,.agg 7 [str d,G6 a,str f,str g],int h,int t])]) (l₂:=m)) (hcs:=hc1);obtain⟨rfl,rfl⟩:=hh;refine lC (λok w hS=>hS.perm (m':=[Av.Piece.var g1 388 (iH d a f g),.var g2 32 (.agg 1 [.lit (.slice none 0 0)]),.var g3 51 (.agg 12 [int q,str s,str k,.agg 7 [str d,G6 a,str f,str g],int h,int t])]++m') List.perm_append_comm) ?_;repeat' first|refine O ?_|intro
 refine j4 m' ⟨rfl,rfl⟩ ?_;exact A8
end

section
variable {h t:Int}{d f k s:Bs}{a:Wd}{xs:List AV}{e:List Ent}
section
variable {e:List Ent} {q:Int} {s k d:Bs} {a:Wd} {f g:Bs} {h t:Int} {g1 g2 g3:Nat} {z:Bs}
abbrev gE (g:Nat)(e:List Ent):Av.Piece:=.var g 32 (dA e)
abbrev gP (g:Nat)(q:Int)(s k d:Bs)(a:Wd)(f g':Bs)(h t:Int):Av.Piece:=.var g 51 (.agg 12 [int q,str s,str k,.agg 7 [str d,G6 a,str f,str g'],int h,int t])
theorem a2W (hd:DOk e):Goes 327 [.pointer (some ⟨g1,0,none⟩)] [gP g2 q s k d a f g h t,gE g1 e] (iH d a f g) (nR e f d a):=by
 show Av.Spec _ _ _ [iH d a f g,ptr g1] _ _;refine zc func327 ntmps327 λ_ hs=>?_;repeat' first|refine O ?_|intro
 refine j4 _ ⟨rfl,rfl⟩ ?_;exact A8
theorem a2V (hd:DOk e)(hs1:s.length<=1000000000):Goes 329 [.pointer (some ⟨g1,0,none⟩),.pointer (some ⟨g2,0,none⟩)] [gP g2 q s k d a f g h t,gE g1 e] (iH d a f g) (aC e f (gK s) d a):=by
 show Av.Spec _ _ _ [iH d a f g,ptr g1,ptr g2] _ _;refine zc func329 ntmps329 λ_ hs=>?_;repeat' first|refine O ?_|intro
 refine j4 _ ⟨rfl,rfl⟩ ?_;exact A8
theorem b1C (hd:DOk e):Goes 363 [.pointer (some ⟨g1,0,none⟩)] [gP g2 q s k d a f g h t,gE g1 e] (iH d a f g) (aL e f d a):=by
 show Av.Spec _ _ _ [iH d a f g,ptr g1] _ _;refine zc func363 ntmps363 λ_ hs=>?_;repeat' first|refine O ?_|intro
 refine j4 _ ⟨rfl,rfl⟩ ?_;exact A8
theorem b1B (hd:DOk e)(hs1:s.length<=1000000000):Goes 364 [.pointer (some ⟨g1,0,none⟩),.pointer (some ⟨g2,0,none⟩)] [gP g2 q s k d a f g h t,gE g1 e] (iH d a f g) (aC e (gK s) f d a):=by
 show Av.Spec _ _ _ [iH d a f g,ptr g1,ptr g2] _ _;refine zc func364 ntmps364 λ_ hs=>?_;repeat' first|refine O ?_|intro
 refine j4 _ ⟨rfl,rfl⟩ ?_;exact A8
theorem a3S (hd:DOk e)(hs1:k.length<=1000000000):Goes 335 [.pointer (some ⟨g1,0,none⟩),.pointer (some ⟨g2,0,none⟩),.pointer (some ⟨g3,0,none⟩)] [.var g3 9 (str z),gP g2 q s k d a f g h t,gE g1 e] (iH d a f g) (aC e (gK k) g z a):=by
 show Av.Spec _ _ _ [iH d a f g,ptr g1,ptr g2,ptr g3] _ _;refine zc func335 ntmps335 λ_ hs=>?_;repeat' first|refine O ?_|intro
 refine j4 _ ⟨rfl,rfl⟩ ?_;exact A8
theorem a3R (hd:DOk e):Goes 336 [.pointer (some ⟨g1,0,none⟩),.pointer (some ⟨g3,0,none⟩)] [.var g3 9 (str z),gP g2 q s k d a f g h t,gE g1 e] (iH d a f g) (aL e g z a):=by
 show Av.Spec _ _ _ [iH d a f g,ptr g1,ptr g3] _ _;refine zc func336 ntmps336 λ_ hs=>?_;repeat' first|refine O ?_|intro
 refine j4 _ ⟨rfl,rfl⟩ ?_;exact A8
end
theorem a5i {c:Bool}{α:Type}{a b:α}:(if true=false\/c=false then a else b)=if c=false then a else b:=by cases c <;> rfl
theorem b1M {q:Int}{g:Bs}(h1:d.length<=400000000)(h2:k.length<=400000000):(xB ⟨q,s,k,d,a,f,g,h,t⟩).length<=1000000000:=by
 unfold xB;split
 ·rw[List.length_drop];show d.length-_<=_;omega
 rw[lla,lla];show k.length+1+d.length<=_;omega
instance b9r {q:Int}{g:Bs}[hx:Ents xs e]:Ans prog GL 293 [.agg 1 [.sl 2 xs none],.agg 12 [int q,str s,str k,.agg 7 [str d,G6 a,str f,str g],int h,int t]] (DOk e/\s.length<=1000000000/\d.length<=1000000000) (.tup [dA (Z6 e ⟨q,s,k,d,a,f,g,h,t⟩).1,int (Z6 e ⟨q,s,k,d,a,f,g,h,t⟩).2]):=⟨λhp=>by
 obtain⟨hd,hs1,U9⟩:=hp;have h':=hx.out;subst h';refine zc func293 ntmps293 λ_ hs=>?_;repeat' first|refine O ?_|intro
 rename_i g1 g2 g3;refine Z0 (vs:=[.pointer (some ⟨g1,0,none⟩)]) ?_;refine Z0 (vs:=[.pointer (some ⟨g1,0,none⟩),.pointer (some ⟨g2,0,none⟩)]) ?_;refine J6 (args:=[.agg 12 [int q,str s,str k,.agg 7 [str d,G6 a,str f,str g],int h,int t],F3 327 [.pointer (some ⟨g1,0,none⟩)],F3 329 [.pointer (some ⟨g1,0,none⟩),.pointer (some ⟨g2,0,none⟩)]]) [gP g2 q s k d a f g h t,gE g1 e] [.var g3 32 (.agg 1 [.lit (.slice none 0 0)])] (by rw[hs];exact WK (a2W hd) (a2V hd hs1) (by simp[Value.oneCell']) (by simp[Value.oneCell']) ⟨hs1,U9⟩ (R:=Z6 e ⟨q,s,k,d,a,f,g,h,t⟩) rfl) (λu m1 hh=>?_) (List.perm_append_comm (l₁:=[Av.Piece.var g3 32 (.agg 1 [.lit (.slice none 0 0)])]) (l₂:=[gP g2 q s k d a f g h t,gE g1 e]));obtain⟨rfl,rfl⟩:=hh;exact o8⟩
instance b9s {q:Int}{g:Bs}[hx:Ents xs e]:Ans prog GL 339 [.agg 1 [.sl 2 xs none],.agg 12 [int q,str s,str k,.agg 7 [str d,G6 a,str f,str g],int h,int t]] (DOk e/\s.length<=1000000000/\d.length<=1000000000) (.tup [dA (nT e ⟨q,s,k,d,a,f,g,h,t⟩).1,int (nT e ⟨q,s,k,d,a,f,g,h,t⟩).2]):=⟨λhp=>by
 obtain⟨hd,hs1,U9⟩:=hp;have h':=hx.out;subst h';refine zc func339 ntmps339 λ_ hs=>?_;repeat' first|refine O ?_|intro
 rename_i g1 g2 g3;refine Z0 (vs:=[.pointer (some ⟨g1,0,none⟩)]) ?_;refine Z0 (vs:=[.pointer (some ⟨g1,0,none⟩),.pointer (some ⟨g2,0,none⟩)]) ?_;refine J6 (args:=[.agg 12 [int q,str s,str k,.agg 7 [str d,G6 a,str f,str g],int h,int t],F3 363 [.pointer (some ⟨g1,0,none⟩)],F3 364 [.pointer (some ⟨g1,0,none⟩),.pointer (some ⟨g2,0,none⟩)]]) [gP g2 q s k d a f g h t,gE g1 e] [.var g3 32 (.agg 1 [.lit (.slice none 0 0)])] (by rw[hs];exact WK (b1C hd) (b1B hd hs1) (by simp[Value.oneCell']) (by simp[Value.oneCell']) ⟨hs1,U9⟩ (R:=nT e ⟨q,s,k,d,a,f,g,h,t⟩) rfl) (λu m1 hh=>?_) (List.perm_append_comm (l₁:=[Av.Piece.var g3 32 (.agg 1 [.lit (.slice none 0 0)])]) (l₂:=[gP g2 q s k d a f g h t,gE g1 e]));obtain⟨rfl,rfl⟩:=hh;exact o8⟩
instance b9t {q:Int}{g:Bs}[hx:Ents xs e]:Ans prog GL 300 [.agg 1 [.sl 2 xs none],.agg 12 [int q,str s,str k,.agg 7 [str d,G6 a,str f,str g],int h,int t]] (DOk e/\s.length<=400000000/\d.length<=400000000/\k.length<=400000000) (.tup [dA (Y7 e ⟨q,s,k,d,a,f,g,h,t⟩).1,int (Y7 e ⟨q,s,k,d,a,f,g,h,t⟩).2]):=⟨λhp=>by
 obtain⟨hd,hs1,U9,hk1⟩:=hp;have h':=hx.out;subst h';have hal:(xB ⟨q,s,k,d,a,f,g,h,t⟩).length<=1000000000:=b1M U9 hk1;refine zc func300 ntmps300 λ_ hs=>?_;repeat' first|refine O ?_|intro
 generalize hz:xB ⟨q,s,k,d,a,f,g,h,t⟩=z at hal ⊢;repeat' first|refine O ?_|intro
 rename_i g1 g2 g3 g4;have hR:Y7 e ⟨q,s,k,d,a,f,g,h,t⟩=if gL z=false\/aN ⟨q,s,k,d,a,f,g,h,t⟩=false then ([],1) else if wH ⟨q,s,k,d,a,f,g,h,t⟩=true then aC e (gK k) g z a else aL e g z a:=by
  unfold Y7;rw[hz]
 rw[hR];cases hb:gL z
 ·rw[if_pos (.inl rfl)];repeat' first|refine O ?_|intro
  refine P8 ?_;exact EL _
 rw[a5i];repeat' first|refine O ?_|intro
 refine Z0 (vs:=[.pointer (some ⟨g1,0,none⟩),.pointer (some ⟨g2,0,none⟩),.pointer (some ⟨g4,0,none⟩)]) ?_;refine Z0 (vs:=[.pointer (some ⟨g1,0,none⟩),.pointer (some ⟨g4,0,none⟩)]) ?_;refine J6 (args:=[.agg 12 [int q,str s,str k,.agg 7 [str d,G6 a,str f,str g],int h,int t],F3 335 [.pointer (some ⟨g1,0,none⟩),.pointer (some ⟨g2,0,none⟩),.pointer (some ⟨g4,0,none⟩)],F3 336 [.pointer (some ⟨g1,0,none⟩),.pointer (some ⟨g4,0,none⟩)]]) [.var g4 9 (str z),gP g2 q s k d a f g h t,gE g1 e] [.var g3 32 (.agg 1 [.lit (.slice none 0 0)])] (by rw[hs];exact WK (a3S hd om) (a3R hd) (by simp[Value.oneCell']) (by simp[Value.oneCell']) ⟨om,om⟩ rfl) (λu m1 hh=>?_) (List.Perm.cons _ (List.perm_append_comm (l₁:=[Av.Piece.var g3 32 (.agg 1 [.lit (.slice none 0 0)])]) (l₂:=[gP g2 q s k d a f g h t,gE g1 e])));obtain⟨rfl,rfl⟩:=hh;exact o8⟩
end
end Go.Proofs.Z
