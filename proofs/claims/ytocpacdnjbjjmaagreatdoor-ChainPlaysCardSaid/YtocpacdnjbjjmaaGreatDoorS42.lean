/- . -/
import Derived.Test.YtocpacdnjbjjmaaGreatDoorS41
set_option maxHeartbeats 64000000
namespace Go.Proofs.YtocpacdnjbjjmaaGreatDoor
open Go Go.RowKit Tw Av Go.Proofs.Tryz
abbrev vO (gs c:Nat)(x:DvX)(vw:Value):AV:=.agg 6 [.lit (.slice (some ⟨gs,0,none⟩) x.n.toNat c),.sl 2 (x.ws.map jP) (some vw),j3 x.on,j3 x.ar,int x.lf,int x.st]
structure R6I where
 gd:Nat
 gs:Nat
 c:Nat
 vw:Value
abbrev I7 (I:R6I)(x:DvX):List Av.Piece:=[.var I.gd 114 (vO I.gs I.c x I.vw),.buf I.gs 9 1 ((M4 x).map str) I.c,.tail 125 2 I.vw]
theorem a3g {gs n c:Nat}:ImpC (.agg 6 [.lit (.slice (some ⟨gs,0,none⟩) n c),.lit (.slice none 0 0),j3 true,j3 false,int 0,int 0]) (.agg 6 [.lit (.slice (some ⟨gs,0,none⟩) n c),.sl 2 [] (some (.slice none 0 0)),j3 true,j3 false,int 0,int 0]):=(inferInstance:ImpT _ _).imp
theorem Hl {gs n c:Nat}{on ar:Bool}{lf st:Int}:ImpC (.agg 6 [.lit (.slice (some ⟨gs,0,none⟩) n c),.lit (.slice none 0 0),j3 on,j3 ar,int lf,int st]) (.agg 6 [.lit (.slice (some ⟨gs,0,none⟩) n c),.sl 2 [] (some (.slice none 0 0)),j3 on,j3 ar,int lf,int st]):=(inferInstance:ImpT _ _).imp
theorem a4h {I:R6I}{x:DvX}{k:Int}:Av.Spec prog GL 25 [ptr I.gd,int k] (I7 I x) fun u m=>u=.tup []/\m=I7 I (nC x k):=by
 refine qE func25 rfl ntmps25 rfl (fun _ hs=>?_);have e:M4 (nC x k)=M4 x:=xA rfl rfl;by_cases h:k<0
 ·have e2:max k 0=0:=om
  repeat' first|refine Zz ?_|intro _
  refine fU _ ⟨rfl,?_⟩ slr;dsimp only[I7];rw[e];unfold nC;rw[e2]
 ·have e2:max k 0=k:=om
  repeat' first|refine Zz ?_|intro _
  refine fU _ ⟨rfl,?_⟩ slr;dsimp only[I7];rw[e];unfold nC;rw[e2]
theorem Jk {I:R6I}{x:DvX}(hlf:0<=x.lf/\x.lf<=1000000):Av.Spec prog GL 163 [ptr I.gd] (I7 I x) fun u m=>u=int (if bL x=false then 14 else 0)/\m=I7 I (if bL x=false then dF x else I9 x):=by
 obtain⟨n,es,ck,ws,on,ar,lf,st⟩:=x;dsimp only at hlf;have e1:M4 (dF ⟨n,es,ck,ws,on,ar,lf,st⟩)=M4 ⟨n,es,ck,ws,on,ar,lf,st⟩:=xA rfl rfl;have e2:M4 (I9 ⟨n,es,ck,ws,on,ar,lf,st⟩)=M4 ⟨n,es,ck,ws,on,ar,lf,st⟩:=xA rfl rfl;refine qE func163 rfl ntmps163 rfl (fun _ hs=>?_);unfold bL;dsimp only;cases ar
 ·repeat' first|refine Zz ?_|intro _
  refine yY ?_;repeat' first|refine Zz ?_|intro _
  refine o5 _ ⟨rfl,?_⟩ slr;rw[if_neg sm];dsimp only[I7];rw[e2];rfl
 ·by_cases hl:lf=0
  ·subst hl;repeat' first|refine Zz ?_|intro _
   refine o5 _ ⟨rfl,?_⟩ slr;rw[if_pos dc];dsimp only[I7];rw[e1];rfl
  ·rw[dZ hl];repeat' first|refine Zz ?_|intro _
   refine yY ?_;repeat' first|refine Zz ?_|intro _
   refine o5 _ ⟨rfl,?_⟩ slr;rw[if_neg dc];dsimp only[I7];rw[e2];rfl
attribute [local irreducible] M4
theorem UQ {I:R6I}{x:DvX}{a:Int}(hon:x.on=true)(ha:aQ x a=true)(hl:x.ws.length<=1000000)(_:x.n<=4096):Av.Spec prog GL 79 [ptr I.gd,int a] (I7 I x) fun u m=>u=.tup [str (Z8 x a),int 0]/\m=I7 I x:=by
 have hm:(x.ws.map jP).length=x.ws.length:=llm _;have ha':0<=a/\a<x.n:=of_decide_eq_true ha;obtain⟨i,hi⟩:∃ i:Nat,a=i:=⟨a.toNat,om⟩;subst hi;have hin:i<x.n.toNat:=by omega
 have hg:((M4 x).map str)[i]?=some (str (D9 x (i:Int))):=by rw[List.getElem?_map,zQ hin];rfl
 refine qE func79 rfl ntmps79 rfl (fun _ hs=>?_);repeat' first|refine Zz ?_|intro _
 rw[hon];repeat' first|refine Zz ?_|intro _
 refine CQ i ?_;refine Qh (j:=i) (off:=0) (xs:=(M4 x).map str) (y:=str (D9 x (i:Int))) (u:=str (D9 x (i:Int))) hg ?_;repeat' first|refine Zz ?_|intro _
 refine z8 (α:=Nat) (fun k=>[(0,ptr I.gd),(1,int (i:Int)),(6,str ((bH (x.ws.take k) (i:Int)).getD (D9 x (i:Int)))),(7,int k)]) (fun _=>I7 I x) (fun k=>k<=x.ws.length) (fun k=>x.ws.length-k) 0 ⟨rfl,rfl,rfl,rfl,trivial⟩ slr (Nat.zero_le _) ?_;intro k hk;by_cases hk':k<x.ws.length
 ·have hw:=XH (a:=(i:Int)) hk';by_cases he:x.ws[k].1=(i:Int)
  ·rw[if_pos he] at hw;repeat' first|refine Zz ?_|intro _
   refine o6 (k+1) ⟨rfl,rfl,?_,rfl,trivial⟩ slr hk' om;rw[hw];rfl
  ·rw[if_neg he] at hw;repeat' first|refine Zz ?_|intro _
   refine o6 (k+1) ⟨rfl,rfl,?_,rfl,trivial⟩ slr hk' om;rw[hw];rfl
 ·obtain rfl:k=x.ws.length:=by omega
  rw[List.take_length];repeat' first|refine Zz ?_|intro _
  exact o5 _ ⟨rfl,rfl⟩ slr
theorem a5s {x:DvX}{a:Int}(h:¬ (0<=a/\a<x.n)):aQ x a=false:=dZ h
theorem Jj {I:R6I}{x:DvX}{a:Int}{s:Bs}(hlf:0<=x.lf/\x.lf<=1000000)(hl:x.ws.length<=1000000)(hn:0<=x.n/\x.n<=4096):Av.Spec prog GL 110 [ptr I.gd,int a,str s] (I7 I x) fun u m=>u=int (K4 x a s).2/\∃ v,m=I7 { I with vw:=v } (K4 x a s).1:=by
 have hnn:(x.n.toNat:Int)=x.n:=om
 refine qE func110 rfl ntmps110 rfl (fun _ hs=>?_);repeat' first|refine Zz ?_|intro _
 unfold K4;cases hon:x.on
 ·rw[if_pos rfl];repeat' first|refine Zz ?_|intro _
  exact o5 (I7 I x) ⟨rfl,I.vw,rfl⟩ slr
 rw[if_neg dc];by_cases hh:0<=a/\a<x.n
 rotate_left
 ·rw[if_pos (.inl (a5s hh))];by_cases h0:a<0
  ·repeat' first|refine Zz ?_|intro _
   exact o5 (I7 I x) ⟨rfl,I.vw,rfl⟩ slr
  ·repeat' first|refine Zz ?_|intro _
   exact o5 (I7 I x) ⟨rfl,I.vw,rfl⟩ slr
 have hd:aQ x a=true:=dT hh;by_cases h64:s.length=64
 rotate_left
 ·rw[if_pos (.inr h64)];repeat' first|refine Zz ?_|intro _
  exact o5 (I7 I x) ⟨rfl,I.vw,rfl⟩ slr
 rw[if_neg (by rw[hd];rintro (h|h);cases h;exact h h64)];repeat' first|refine Zz ?_|intro _
 refine X0 [] (I7 I x) [] (Jk hlf) (fun u m1 hh=>?_);obtain⟨rfl,rfl⟩:=hh;cases hm:bL x
 ·rw[if_pos rfl,if_pos rfl,if_pos rfl];have e:M4 (bK (dF x) (a,s))=M4 (dF x):=xA rfl rfl;have hl2:(dF x).ws.length<=1000000:=hl;have hm2:((dF x).ws.map jP).length=(dF x).ws.length:=llm _;repeat' first|refine Zz ?_|intro _
  refine I4 (fun v'=>?_);repeat' first|refine Zz ?_|intro _
  refine o5 (I7 { I with vw:=v' } (bK (dF x) (a,s))) ⟨rfl,v',rfl⟩ ?_;dsimp only[I7,vO];rw[e];unfold bK;dsimp only;rw[List.map_append];exact r9
 ·rw[if_neg dc,if_neg dc,if_neg dc];have e:M4 (bK (I9 x) (a,s))=M4 (I9 x):=xA rfl rfl;have hl2:(I9 x).ws.length<=1000000:=hl;have hm2:((I9 x).ws.map jP).length=(I9 x).ws.length:=llm _;repeat' first|refine Zz ?_|intro _
  refine I4 (fun v'=>?_);repeat' first|refine Zz ?_|intro _
  refine o5 (I7 { I with vw:=v' } (bK (I9 x) (a,s))) ⟨rfl,v',rfl⟩ ?_;dsimp only[I7,vO];rw[e];unfold bK;dsimp only;rw[List.map_append];exact r9
theorem Jd:∀ (l:List (Int × Bs)) (x:DvX),(l.foldl Y6 x).st=x.st
 | [],_=>rfl
 | w::l,x=>Jd l (Y6 x w)
theorem Gm (x:DvX)(k:Nat):(aO x k).n=x.n/\(aO x k).on=x.on/\(aO x k).ar=x.ar/\(aO x k).lf=x.lf/\(aO x k).ws=x.ws/\(aO x k).st=x.st:=by
 have h:=uL (ws:=x.ws.take k) (x:=x);exact⟨h.1,h.2.1,h.2.2.1,h.2.2.2,Jc _ _,Jd _ _⟩
theorem a2z {x:DvX}(h:DvOk x)(k:Nat):DvOk (aO x k):=UO h fun w hw=>h.wl w (List.mem_of_mem_take hw)
theorem Yx {x:DvX}:M4 (U9 x)=M4 (aO x x.ws.length):=xA (by unfold U9 aO;rw[List.take_length]) (by unfold U9 aO;rw[List.take_length])
theorem a5u (x:DvX):(U9 x).n=x.n/\(U9 x).on=x.on/\(U9 x).ar=x.ar/\(U9 x).lf=x.lf/\(U9 x).st=x.st/\(U9 x).ws=[]:=by
 have h:=Gm x x.ws.length;unfold aO at h;rw[List.take_length] at h;exact⟨h.1,h.2.1,h.2.2.1,h.2.2.2.1,h.2.2.2.2.2,rfl⟩
theorem Jm {I:R6I}{x:DvX}(hx:DvOk x)(hl:x.ws.length<=1000000)(hw:∀ w∈x.ws,0<=w.1/\w.1<x.n):Av.Spec prog GL 111 [ptr I.gd] (I7 I x) fun u m=>u=int (R5 x).2/\∃ v,m=I7 { I with vw:=v } (R5 x).1:=by
 have hm:(x.ws.map jP).length=x.ws.length:=llm _;refine qE func111 rfl ntmps111 rfl (fun _ hs=>?_);repeat' first|refine Zz ?_|intro _
 unfold R5;cases hon:x.on
 ·rw[if_pos rfl];repeat' first|refine Zz ?_|intro _
  exact o5 (I7 I x) ⟨rfl,I.vw,rfl⟩ slr
 rw[if_neg dc];repeat' first|refine Zz ?_|intro _
 refine X0 [] (I7 I x) [] (Jk hx.lf) (fun u m1 hh=>?_);obtain⟨rfl,rfl⟩:=hh;cases hmy:bL x
 ·rw[if_pos rfl,if_pos rfl,if_pos rfl];repeat' first|refine Zz ?_|intro _
  exact o5 (I7 I (dF x)) ⟨rfl,I.vw,rfl⟩ slr
 rw[if_neg dc,if_neg dc,if_neg dc];have hy:DvOk (I9 x):=GZ hx hmy;have hyw:∀ w∈(I9 x).ws,0<=w.1/\w.1<(I9 x).n:=hw;have hyl:(I9 x).ws.length<=1000000:=hl;generalize I9 x=y at *;have hm:(y.ws.map jP).length=y.ws.length:=llm _;repeat' first|refine Zz ?_|intro _
 refine z8 (α:=Nat) (fun k=>[(0,ptr I.gd),(4,int k)]) (fun k=>[.var I.gd 114 (vO I.gs I.c y I.vw),.buf I.gs 9 1 ((M4 (aO y k)).map str) I.c,.tail 125 2 I.vw]) (fun k=>k<=y.ws.length) (fun k=>y.ws.length-k) 0 ⟨rfl,rfl,trivial⟩ slr (Nat.zero_le _) ?_;intro k hk;have hf:=(Gm y k).1;by_cases hk':k<y.ws.length
 ·have hwk:=hyw _ (List.getElem_mem hk');obtain⟨j,hj⟩:∃ j:Nat,y.ws[k].1=j:=⟨y.ws[k].1.toNat,om⟩;have hs2:=ZP (x:=aO y k) (w:=y.ws[k]) (a2z hy k).mn hwk.1;rw[<- Gl hk',hj,Int.toNat_natCast] at hs2;have hjl:j<y.n.toNat:=by omega
  have hg:((M4 (aO y k)).map str)[j]?=some (str (D9 (aO y k) (j:Int))):=by rw[List.getElem?_map,zQ (by rw[hf];exact hjl)];rfl
  repeat' first|refine Zz ?_|intro _
  rw[hj];apply u7 [];exact rfl;exact rfl;kernel_rfl;intro _ _;refine CQ j ?_;exact j4 (o7 rfl rfl);apply bA [1];exact rfl;exact rfl;kernel_rfl
  ·intro _ _;refine OE (j:=j) (off:=0) (xs:=(M4 (aO y k)).map str) (y:=str (D9 (aO y k) (j:Int))) (y':=str y.ws[k].2) hg ?_;exact j4 (bG rfl)
  ·exact rfl
  ·exact rfl
  repeat' first|refine Zz ?_|intro _
  refine o6 (k+1) ⟨rfl,rfl,trivial⟩ ?_ hk' om;rw[hs2,List.map_set];exact List.Sublist.refl _
 ·obtain rfl:k=y.ws.length:=by omega
  repeat' first|refine Zz ?_|intro _
  have hz:=Yx (x:=y);refine zA (g:=I.gd) Hl ?_;refine nM (fun ok w h=>h.full 125 2 none 0) ?_;obtain⟨f1,f2,f3,f4,f5,f6⟩:=a5u y;refine jO [.var I.gd 114 (.agg 6 [.lit (.slice (some ⟨I.gs,0,none⟩) y.n.toNat I.c),.sl 2 [] (some (.slice none 0 0)),j3 y.on,j3 y.ar,int y.lf,int y.st]),.buf I.gs 9 1 ((M4 (aO y y.ws.length)).map str) I.c,.tail 125 2 (.slice none 0 0)] [_,_,_] ?_ (List.perm_append_comm (l₁:=[_,_]) (l₂:=[_])) ?_
  ·refine o5 _ ⟨rfl,.slice none 0 0,?_⟩ slr;dsimp only[I7,vO];rw[hz,f1,f2,f3,f4,f5,f6];rfl
  ·exact r9
theorem a5w {x:DvX}{k:List Bool}{torn cut:Int}(hn:x.n≠0):S9 x k torn cut={ dH x k torn cut x.ws.length with ws:=[],on:=true,ar:=false }:=by
 unfold S9 dH;rw[if_neg hn,List.take_length]
theorem Mj:∀ (l:List (Int × Bs)) (i:Nat) (x:DvX) (k:List Bool) (torn cut:Int),(iO k torn cut i x l).lf=x.lf/\(iO k torn cut i x l).st=x.st
 | [],_,_,_,_,_=>⟨rfl,rfl⟩
 | w::l,i,x,k,torn,cut=>by
  have h:=Mj l (i+1) (bD x k torn cut i w) k torn cut;have e:(bD x k torn cut i w).lf=x.lf/\(bD x k torn cut i w).st=x.st:=by
   unfold bD;split <;> exact⟨rfl,rfl⟩
  exact⟨h.1.trans e.1,h.2.trans e.2⟩
theorem a4g {I:R6I}{x:DvX}{k:List Bool}{torn cut:Int}{xs:List AV}{id:Option Value}(hx:DvOk x)(hw:∀ w∈x.ws,0<=w.1/\w.1<x.n)(hn:x.n≠0)(hl:x.ws.length<=1000000)(hk:xs=k.map j3):Av.Spec prog GL 27 [ptr I.gd,.sl 1 xs id,int torn,int cut] (I7 I x) fun u m=>u=.tup []/\∃ v,m=I7 { I with vw:=v } (S9 x k torn cut):=by
 subst hk;have hm:(x.ws.map jP).length=x.ws.length:=llm _;have hmk:(k.map j3).length=k.length:=llm _;obtain⟨C,hC⟩:∃ C:Nat,(min (max cut 0) 64).toNat=C:=⟨_,rfl⟩;have hC2:C<=64:=by omega
 have hC3:min (max cut 0) 64=(C:Int):=om
 refine qE func27 rfl ntmps27 rfl (fun _ hs=>?_);have hcase:cut<0/\C=0\/64<cut/\C=64\/(0<=cut/\cut<=64)/\cut=C:=by omega
 rcases hcase with⟨h1,h2⟩|⟨h1,h2⟩|⟨h1,h2⟩
 all_goals
  repeat' first|refine Zz ?_|intro _
  refine z8 (α:=Nat) (fun i=>[(0,ptr I.gd),(1,.sl 1 (k.map j3) id),(2,int torn),(3,int (C:Int)),(8,int i)]) (fun i=>[.var I.gd 114 (vO I.gs I.c x I.vw),.buf I.gs 9 1 ((M4 (dH x k torn cut i)).map str) I.c,.tail 125 2 I.vw]) (fun i=>i<=x.ws.length) (fun i=>x.ws.length-i) 0 ⟨rfl,rfl,rfl,by first|rfl|(subst h2;rfl)|(rw[h2];rfl),rfl,trivial⟩ slr (Nat.zero_le _) ?_;clear h1 h2;intro i hi;by_cases hi':i<x.ws.length
  ·have hs2:=Mi (k:=k) (torn:=torn) (cut:=cut) hi';have h64:x.ws[i].2.length=64:=hx.wl _ (List.getElem_mem hi');have hn2:(dH x k torn cut i).n=x.n:=(IG _ _ _).1;have hy:DvOk (dH x k torn cut i):=NN hx fun w hw=>hx.wl w (List.mem_of_mem_take hw);have hwi:=hw _ (List.getElem_mem hi');have hsl:=vZ hy x.ws[i].1;unfold bD at hs2;rw[hC] at hs2;generalize dH x k torn cut i=y at *;have hkp:∀ s,M4 (Y6 y (x.ws[i].1,s))=(M4 y).set x.ws[i].1.toNat s:=fun s=>ZP (w:=(x.ws[i].1,s)) hy.mn hwi.1;obtain⟨j,hj⟩:∃ j:Nat,x.ws[i].1=j:=⟨x.ws[i].1.toNat,om⟩;rw[hj] at hsl;have hjl:j<x.n.toNat:=by omega
   have hg:((M4 y).map str)[j]?=some (str (D9 y (j:Int))):=by rw[List.getElem?_map,zQ (by rw[hn2];exact hjl)];rfl
   by_cases hik:i<k.length
   rotate_left
   ·rw[if_neg (by rw[Im hik];decide)] at hs2;repeat' first|refine Zz ?_|intro _
    refine o6 (i+1) ⟨rfl,rfl,rfl,rfl,rfl,trivial⟩ ?_ hi' om;rw[hs2];exact r9
   cases hb:k[i]
   ·rw[if_neg (by rw[NB hik,hb];decide)] at hs2;repeat' first|refine Zz ?_|intro _
    rw[hb];repeat' first|refine Zz ?_|intro _
    refine o6 (i+1) ⟨rfl,rfl,rfl,rfl,rfl,trivial⟩ ?_ hi' om;rw[hs2];exact r9
   rw[if_pos (by rw[NB hik,hb])] at hs2;repeat' first|refine Zz ?_|intro _
   rw[hb];repeat' first|refine Zz ?_|intro _
   by_cases ht:(i:Int)=torn
   ·rw[if_pos ht] at hs2;have hs3:=hkp (x.ws[i].2.take C++(D9 y x.ws[i].1).drop C);rw[<- hs2,hj,Int.toNat_natCast] at hs3;repeat' first|refine Zz ?_|intro _
    apply u7 [];exact rfl;exact rfl;kernel_rfl
    ·intro _ _;refine Q7 0 C ?_ (h4:=by omega);exact j4 (o7 rfl rfl)
    repeat' first|refine Zz ?_|intro _
    rw[hj];apply u7 [];exact rfl;exact rfl;kernel_rfl;intro _ _;refine CQ j ?_;exact j4 (o7 rfl rfl);apply u7 [2];exact rfl;exact rfl;kernel_rfl;intro _ _;refine Qh (j:=j) (off:=0) hg ?_;exact j4 (o7 rfl rfl);repeat' first|refine Zz ?_|intro _
    apply u7 [];exact rfl;exact rfl;kernel_rfl
    ·intro _ _;refine Q7 C 64 ?_ (h2:=by rw[hsl]) (h4:=by omega);exact j4 (o7 rfl rfl)
    repeat' first|refine Zz ?_|intro _
    rw[hj];apply u7 [];exact rfl;exact rfl;kernel_rfl;intro _ _;refine CQ j ?_;exact j4 (o7 rfl rfl);apply bA [2];exact rfl;exact rfl;kernel_rfl
    ·intro _ _;refine OE (j:=j) (off:=0) (xs:=(M4 y).map str) (y:=str (D9 y (j:Int))) (y':=str ((x.ws[i].2.take C).drop 0++((D9 y (j:Int)).take 64).drop C)) hg ?_;exact j4 (bG rfl)
    ·exact rfl
    ·exact rfl
    repeat' first|refine Zz ?_|intro _
    refine o6 (i+1) ⟨rfl,rfl,rfl,rfl,rfl,trivial⟩ ?_ hi' om;rw[hs3,List.map_set,List.drop_zero,List.take_of_length_le (show (D9 y (j:Int)).length<=64 by omega)];exact r9
   ·rw[if_neg ht] at hs2;have hs3:=hkp x.ws[i].2;rw[<- hs2,hj,Int.toNat_natCast] at hs3;repeat' first|refine Zz ?_|intro _
    rw[hj];apply u7 [];exact rfl;exact rfl;kernel_rfl;intro _ _;refine CQ j ?_;exact j4 (o7 rfl rfl);apply bA [2];exact rfl;exact rfl;kernel_rfl
    ·intro _ _;refine OE (j:=j) (off:=0) (xs:=(M4 y).map str) (y:=str (D9 y (j:Int))) (y':=str x.ws[i].2) hg ?_;exact j4 (bG rfl)
    ·exact rfl
    ·exact rfl
    repeat' first|refine Zz ?_|intro _
    refine o6 (i+1) ⟨rfl,rfl,rfl,rfl,rfl,trivial⟩ ?_ hi' om;rw[hs3,List.map_set];exact r9
  ·obtain rfl:i=x.ws.length:=by omega
   repeat' first|refine Zz ?_|intro _
   have hz:=a5w (x:=x) (k:=k) (torn:=torn) (cut:=cut) hn;have hzz:M4 (S9 x k torn cut)=M4 (dH x k torn cut x.ws.length):=by rw[hz];exact xA rfl rfl
   have h3:(dH x k torn cut x.ws.length).lf=x.lf/\(dH x k torn cut x.ws.length).st=x.st:=Mj _ _ _ _ _ _;have hn2:(dH x k torn cut x.ws.length).n=x.n:=(IG _ _ _).1;refine zA (g:=I.gd) Hl ?_;refine nM (fun ok w h=>h.full 125 2 none 0) ?_;refine jO [.var I.gd 114 (.agg 6 [.lit (.slice (some ⟨I.gs,0,none⟩) x.n.toNat I.c),.sl 2 [] (some (.slice none 0 0)),j3 true,j3 false,int x.lf,int x.st]),.buf I.gs 9 1 ((M4 (dH x k torn cut x.ws.length)).map str) I.c,.tail 125 2 (.slice none 0 0)] [_,_,_] ?_ (List.perm_append_comm (l₁:=[_,_]) (l₂:=[_])) ?_
   ·refine fU _ ⟨rfl,.slice none 0 0,?_⟩ slr;dsimp only[I7,vO];rw[hzz,hz];dsimp only;rw[hn2,h3.1,h3.2];rfl
   ·exact r9
theorem Jl {n:Int}(h1:1<=n)(h2:n<=4096):Av.Spec prog GL 10 [int n] [] fun u m=>∃ I,u=ptr I.gd/\m=I7 I (iM n):=by
 obtain⟨N,rfl⟩:∃ N:Nat,n=N:=⟨n.toNat,om⟩;refine qE func10 rfl ntmps10 rfl (fun _ hs=>?_);repeat' first|refine Zz ?_|intro _
 rename_i g;refine z8 (α:=Nat × Option (Nat × Nat)) (fun z=>[(0,int N),(3,ptr g),(4,int z.1)])
  (fun z=>match z.2 with
   | none=>[.var g 114 (.agg 6 [.lit (.slice none 0 0),.lit (.slice none 0 0),j3 true,j3 false,int 0,int 0])]
   | some q=>[.var g 114 (.agg 6 [.lit (.slice (some ⟨q.1,0,none⟩) z.1 q.2),.lit (.slice none 0 0),j3 true,j3 false,int 0,int 0]),.buf q.1 9 1 (List.replicate z.1 (str qH)) q.2])
  (fun z=>z.1<=N/\(z.2=none->z.1=0)/\∀ q,z.2=some q->0<z.1/\z.1<=q.2) (fun z=>N-z.1) (0,none) ⟨rfl,rfl,rfl,trivial⟩ slr ⟨Nat.zero_le _,fun _=>rfl,fun q h=>by cases h⟩ ?_
 rintro⟨i,o⟩ ⟨hi,ho,hq⟩;dsimp only at hi ho hq ⊢;rcases o with _|⟨gs,c⟩
 ·obtain rfl:=ho rfl;repeat' first|refine Zz ?_|intro _
  apply u7 [];exact rfl;exact rfl;kernel_rfl
  ·intro _ _;refine yV ?_;exact j4 (o7 rfl rfl)
  repeat' first|refine Zz ?_|intro _
  apply V8 [];exact rfl;exact rfl;exact rfl;kernel_rfl;intro _ _;refine Qz (fun g' c' hc=>?_);refine j4 (U4 [] [.buf g' 9 1 [str (List.replicate (Int.toNat 64) 0)] c'] rfl rfl lpr rfl ?_);repeat' first|refine Zz ?_|intro _
  refine o6 (1,some (g',c')) ⟨rfl,rfl,rfl,trivial⟩ ?_ ⟨by dsimp only;omega,(fun h=>by cases h),(fun q h=>by injection h with h;subst h;exact⟨Nat.one_pos,hc⟩)⟩ (by dsimp only;omega);exact r9
 ·obtain⟨hq1,hq2⟩:=hq _ rfl;dsimp only at hq2 ⊢;by_cases hi':i<N
  ·repeat' first|refine Zz ?_|intro _
   apply u7 [];exact rfl;exact rfl;kernel_rfl
   ·intro _ _;refine yV ?_;exact j4 (o7 rfl rfl)
   repeat' first|refine Zz ?_|intro _
   apply V8 [1];exact rfl;exact rfl;exact rfl;kernel_rfl;intro _ _;refine OU (xs:=List.replicate i (str qH)) (fun g' c' hc=>?_);refine j4 (U4 [.buf g' 9 1 (List.replicate i (str qH)++[str (List.replicate (Int.toNat 64) 0)]) c'] [] rfl rfl lpr rfl ?_);repeat' first|refine Zz ?_|intro _
   refine o6 (i+1,some (g',c')) ⟨rfl,rfl,rfl,trivial⟩ ?_ ⟨hi',(fun h=>by cases h),(fun q h=>by injection h with h;subst h;exact⟨Nat.succ_pos i,hc⟩)⟩ (by dsimp only;omega);dsimp only;rw[List.replicate_succ'];exact r9
  ·obtain rfl:i=N:=by omega
   repeat' first|refine Zz ?_|intro _
   refine zA (g:=g) a3g ?_;refine nM (fun ok w h=>h.full 125 2 none 0) ?_;refine jO [.var g 114 (.agg 6 [.lit (.slice (some ⟨gs,0,none⟩) i c),.sl 2 [] (some (.slice none 0 0)),j3 true,j3 false,int 0,int 0]),.buf gs 9 1 (List.replicate i (str qH)) c,.tail 125 2 (.slice none 0 0)] [_,_,_] ?_ (List.perm_append_comm (l₁:=[_,_]) (l₂:=[_])) slr;refine o5 _ ⟨⟨g,gs,c,.slice none 0 0⟩,rfl,?_⟩ slr;dsimp only[I7,vO];rw[Yw,List.map_replicate];rfl
end Go.Proofs.YtocpacdnjbjjmaaGreatDoor

namespace Go.Proofs.YtocpacdnjbjjmaaGreatDoor
open Go Go.RowKit Tw Av
theorem a1f {all:Bs}{i p:Nat}(h:64*i<all.length)(hp:(all.length+p)%64=0)(hp2:p<64):((all++List.replicate p (0:UInt8)).drop (64*i)).take 64=K9 (all.drop (64*i)):=by
 unfold K9;rw[List.drop_append_of_le_length om,List.take_append,List.length_drop,List.take_replicate];congr 2
 omega
theorem a5i (l r:Bs):I5 l++r=(l++r).drop (64*(l.length / 64)):=by
 unfold I5;rw[List.drop_append_of_le_length om,show l.length-l.length%64=64*(l.length / 64) by omega]
theorem a0U {x:DvX}{a:Int}{all:Bs}{i:Nat}(h:64*i<all.length):gG x a (all.drop (64*i))=if (K4 x a (K9 (all.drop (64*i)))).2=0 then gG (K4 x a (K9 (all.drop (64*i)))).1 (a+1) (all.drop (64*(i+1))) else K4 x a (K9 (all.drop (64*i))):=by
 rw[Dt (by intro e;have:=congrArg List.length e;rw[List.length_drop] at this;simp at this;omega),List.drop_drop,show 64*i+64=64*(i+1) by omega]
theorem a0T {x:DvX}{a:Int}{all:Bs}{i:Nat}(h:¬ 64*i<all.length):gG x a (all.drop (64*i))=(x,0):=by
 rw[List.drop_eq_nil_of_le om];exact FL _ _ _
theorem a6U {n j:Nat}(h:j<8):(U3 n).take (j+1)=(U3 n).take j++[UInt8.ofNat (n / 256 ^ (7-j))]:=by
 have hl:j<(U3 n).length:=by rw[yP];exact h
 have e:(U3 n)[j]=UInt8.ofNat (n / 256 ^ (7-j)):=by
  have e1:(U3 n)[j]?=some (UInt8.ofNat (n / 256 ^ (7-j))):=by
   show (I6 n 8).reverse[j]?=_;rw[List.getElem?_reverse (by rw[aR];exact h),aR,VO om,show 8-1-j=7-j by omega];congr 1
   apply UInt8.toNat_inj.1;rw[UInt8.toNat_ofNat',UInt8.toNat_ofNat'];unfold dg;rw[Nat.mod_mod]
  rw[List.getElem?_eq_getElem hl] at e1;exact Option.some.inj e1
 rw[List.take_succ_eq_append_getElem hl,e]
theorem Fz {c:Bs}{j:Nat}:∀ {k:Nat},j<=k->k<=c.length->bB c j<=bB c k
 | 0,h,_=>by rw[Nat.le_zero.1 h];exact Nat.le_refl _
 | k+1,h,hk=>by
  by_cases e:j=k+1
  ·rw[e];exact Nat.le_refl _
  ·have:=Fz (c:=c) (j:=j) (k:=k) om om;rw[MH hk];omega
theorem Ew {s:Bs}(h:s.length=8):pO s=bB s 8:=by
 unfold pO bB;rw[List.take_of_length_le om]
def pM (s:Bs):Int:=if pO s<=1099511627776 then (pO s:Int) else -1
theorem a1E {s:Bs}{k:Nat}(h:s.length=8)(hk:k<=8)(hn:1099511627776<bB s k):pM s=-1:=by
 unfold pM;rw[if_neg (by rw[Ew h];have:=Fz (c:=s) hk om;omega)]
end Go.Proofs.YtocpacdnjbjjmaaGreatDoor

namespace Go.Proofs.YtocpacdnjbjjmaaGreatDoor
open Go Go.RowKit Tw Av Go.Proofs.Tryz
instance b6n {s:Bs}:Ans prog GL 232 [str s] (s.length<=4611686018427387904) (dM (dN s)):=⟨fun hl=>by
 refine qE func232 rfl ntmps232 rfl (fun _ hs=>?_);repeat' first|refine Zz ?_|intro _
 refine z8 (α:=Nat) (fun i=>[(0,str s),(3,dM (mI (s.take i)).1),(4,dM (mI (s.take i)).2),(5,int i)]) (fun _=>[]) (fun i=>i<=s.length) (fun i=>s.length-i) 0 ⟨rfl,rfl,rfl,rfl,trivial⟩ slr (Nat.zero_le _) ?_;intro i hi;have hq:=QK (s.take i);by_cases hi':i<s.length
 ·have hc:=s[i].toNat_lt;have hn:=ZN hi';generalize mI (s.take i)=q at *;obtain⟨a,b⟩:=q;dsimp only at hq ⊢;repeat' first|refine Zz ?_|intro _
  refine OM (c:=s[i]) ?_ (hc:=by rw[Int.toNat_natCast];exact List.getElem?_eq_getElem hi');repeat' first|refine Zz ?_|intro _
  rw[wT om om];refine CU ?_;refine OO ?_;repeat' first|refine Zz ?_|intro _
  refine CU ?_;refine OO ?_;repeat' first|refine Zz ?_|intro _
  refine o6 (i+1) ⟨rfl,?_,?_,rfl,trivial⟩ slr hi' om
  ·rw[hn];unfold tV;dsimp only;rw[show ((((a+s[i].toNat)%65521:Nat):Int))=((a:Int)+s[i].toNat)%65521 by omega];rfl
  ·rw[hn];unfold tV;dsimp only;rw[show ((((b+(a+s[i].toNat)%65521)%65521:Nat):Int))=((b:Int)+((a:Int)+s[i].toNat)%65521)%65521 by omega];rfl
 ·obtain rfl:i=s.length:=by omega
  rw[List.take_length] at hq ⊢;repeat' first|refine Zz ?_|intro _
  refine CU ?_;refine WS ?_;refine CU ?_;repeat' first|refine Zz ?_|intro _
  refine d9 ?_;unfold dN;rw[Int.natCast_add,Int.natCast_mul];rfl⟩
attribute [local irreducible] dN
instance b6o {s:Bs}:Ans prog GL 162 [str s] (s.length<=1048576) (str (y7 s)):=⟨fun hp=>by
 have hr:=QJ (o8 82 s);have hl:(o8 82 s).length<=4611686018427387904:=Nat.le_trans LenLe.out dc;obtain⟨k,hk⟩:∃ k:Nat,dN (o8 82 s)=k:=⟨(dN (o8 82 s)).toNat,om⟩;refine qE func162 rfl ntmps162 rfl (fun _ hs=>?_);repeat' first|refine Zz ?_|intro _
 rw[hk];repeat' first|refine Zz ?_|intro _
 refine d9 ?_;unfold y7;rw[hk];rfl⟩
instance b6p {s:Bs}:Ans prog GL 108 [str s] True (.tup [str (if 1048576<s.length then [] else y7 s),int (if 1048576<s.length then 11 else 0)]):=⟨fun _=>by
 refine qE func108 rfl ntmps108 rfl (fun _ hs=>?_);repeat' first|refine Zz ?_|intro _
 refine o9 (fun h=>?_) (fun h=>?_)
 ·rw[if_pos (show 1048576<s.length by omega),if_pos (show 1048576<s.length by omega)];repeat' first|refine Zz ?_|intro _
  refine d9 ?_;rfl
 ·rw[if_neg (show ¬ 1048576<s.length by omega),if_neg (show ¬ 1048576<s.length by omega)];have hs:s.length<=1048576:=by omega
  repeat' first|refine Zz ?_|intro _
  refine d9 ?_;rfl⟩
def lF (s:Bs):Bool:=!aG s&&(!decide (s.length<(y7 (aF s)).length)&&decide (s.take (y7 (aF s)).length=y7 (aF s)))
theorem a0C {s r:Bs}(h:s.length<=1048576):lF (y7 s++r)=true/\aF (y7 s++r)=s:=by
 obtain⟨a1,a2,a3⟩:=xI (c:=82) (most:=1048576) (s:=s) (r:=D8 83 (dN (o8 82 s))++r) dc dc om om;have e:y7 s++r=o8 82 s++(D8 83 (dN (o8 82 s))++r):=by unfold y7;rw[laa]
 have hB:aG (y7 s++r)=false:=by unfold aG;rw[e,a3]
 have hT:aF (y7 s++r)=s:=by unfold aF;rw[e,a1]
 refine⟨?_,hT⟩;unfold lF;rw[hB,hT,dZ (by rw[lla];omega),dT (List.take_left' rfl)];rfl
theorem a0D:lF []=false:=by kernel_rfl
theorem Xo (s:Bs):(aF s).length<=1048576:=by
 have:=(uA 82 1048576 s false).2 dc;unfold aF;omega
attribute [local irreducible] y7 aF aG U1
instance b6m {s:Bs}:Ans prog GL 146 [str s] (s.length<=1000000000) (.tup [str (if lF s=true then aF s else []),int (if lF s=true then ((y7 (aF s)).length:Int) else 0),int (if lF s=true then 0 else 10)]):=⟨fun hl=>by
 have hT:=Xo s;have e1:j5 82 1048576 s false=U1 s:=by unfold U1;rfl
 have e2:A7 82 1048576 s false=aG s:=by unfold aG;rfl
 have e3:D5 82 1048576 s false=aF s:=by unfold aF;rfl
 refine qE func146 rfl ntmps146 rfl (fun _ hs=>?_);repeat' first|refine Zz ?_|intro _
 rw[e1,e2,e3];cases hb:aG s
 ·repeat' first|refine Zz ?_|intro _
  by_cases h1:s.length<(y7 (aF s)).length
  ·have hk:lF s=false:=by unfold lF;rw[hb,dT h1];rfl
   rw[hk];repeat' first|refine Zz ?_|intro _
   refine d9 ?_;rfl
  ·repeat' first|refine Zz ?_|intro _
   refine Q7 0 (y7 (aF s)).length ?_;rw[List.drop_zero];by_cases h2:s.take (y7 (aF s)).length=y7 (aF s)
   ·have hk:lF s=true:=by unfold lF;rw[hb,dZ h1,dT h2];rfl
    rw[hk];repeat' first|refine Zz ?_|intro _
    rw[dZ (nni h2)];repeat' first|refine Zz ?_|intro _
    refine d9 ?_;rfl
   ·have hk:lF s=false:=by unfold lF;rw[hb,dZ h1,dZ h2];rfl
    rw[hk];repeat' first|refine Zz ?_|intro _
    rw[dT h2];repeat' first|refine Zz ?_|intro _
    refine d9 ?_;rfl
 ·have hk:lF s=false:=by unfold lF;rw[hb];rfl
  rw[hk];repeat' first|refine Zz ?_|intro _
  refine d9 ?_;rfl⟩
theorem a2m {l:List Bs}{k:Nat}(h:k<l.length):J2 (l.take (k+1))=J2 (l.take k)++y7 l[k]:=by
 rw[<- List.take_append_getElem h];unfold J2;rw[List.flatMap_append];simp
theorem MF {l:List Bs}{k:Nat}:(J2 l).drop (J2 (l.take k)).length=J2 (l.drop k):=by
 have e:J2 l=J2 (l.take k)++J2 (l.drop k):=by
  unfold J2;rw[<- List.flatMap_append,List.take_append_drop]
 rw[e,List.drop_left' rfl]
theorem Fx {l:List Bs}{k:Nat}(h:k<l.length):J2 (l.drop k)=y7 l[k]++J2 (l.drop (k+1)):=by
 rw[List.drop_eq_getElem_cons h];rfl
theorem a4t {l:List Bs}:Ans prog GL 81 [str (J2 l)] ((J2 l).length<=1000000000/\∀ s∈l,s.length<=1048576) (.tup [.sl 1 (l.map str) none,int ((J2 l).length:Int)]):=⟨fun hp=>by
 obtain⟨hl,hm⟩:=hp;refine qE func81 rfl ntmps81 rfl (fun _ hs=>?_);repeat' first|refine Zz ?_|intro _
 refine aM 4 (Imp.nil (k:=1)) ?_;refine O5 (fun ok w h=>h.full 9 1 none 0) ?_;refine z8 (α:=Nat × Value) (fun z=>[(0,str (J2 l)),(4,.sl 1 ((l.take z.1).map str) (some z.2)),(5,int (J2 (l.take z.1)).length)]) (fun z=>[.tail 9 1 z.2])
  (fun z=>z.1<=l.length) (fun z=>l.length-z.1) (0,.slice none 0 0) ⟨rfl,rfl,rfl,trivial⟩ slr (Nat.zero_le _) ?_
 rintro⟨k,v⟩ hk;dsimp only at hk ⊢;have hkl:=Fw l;have hle:(J2 (l.take k)).length<=(J2 l).length:=by
  have:=congrArg List.length (MF (l:=l) (k:=k));rw[<- List.take_append_drop k l] ;unfold J2;rw[List.flatMap_append,lla];rw[List.take_append_drop];omega
 have hal:((l.take k).map str).length=k:=by rw[llm,List.length_take];omega
 repeat' first|refine Zz ?_|intro _
 refine Q7 (J2 (l.take k)).length (J2 l).length ?_;rw[List.take_length,MF];have hdl:(J2 (l.drop k)).length<=1000000000:=by rw[<- MF,List.length_drop];omega
 by_cases hkk:k<l.length
 ·obtain⟨h1,h2⟩:=a0C (s:=l[k]) (r:=J2 (l.drop (k+1))) (hm _ (List.getElem_mem hkk));rw[<- Fx hkk] at h1 h2;have hn:=a2m hkk;have hns:(l.take (k+1)).map str=(l.take k).map str++[str l[k]]:=by rw[<- List.take_append_getElem hkk,List.map_append];rfl
  have hnl:=congrArg List.length hn;rw[lla] at hnl;have hle2:(J2 (l.take (k+1))).length<=1000000000:=by
   have:=congrArg List.length (Fx hkk);rw[<- MF,List.length_drop,lla] at this;omega
  repeat' first|refine Zz ?_|intro _
  rw[h1,h2,if_pos rfl,if_pos rfl,if_pos rfl];repeat' first|refine Zz ?_|intro _
  refine I4 (fun v'=>?_);repeat' first|refine Zz ?_|intro _
  refine M6 5 (v:=int (((J2 (l.take k)).length:Int)+((y7 l[k]).length:Int))) (v':=int (J2 (l.take (k+1))).length) (Imp.of_eq (by rw[hnl];rfl)) ?_;refine M6 4 (v:=.sl 1 ((l.take k).map str++[str l[k]]) (some v')) (v':=.sl 1 ((l.take (k+1)).map str) (some v')) (Imp.of_eq (by rw[hns])) ?_;exact o6 (k+1,v') ⟨rfl,rfl,rfl,trivial⟩ slr hkk (by dsimp only;omega)
 ·obtain rfl:k=l.length:=by omega
  rw[List.drop_length];have hnil:J2 []=[]:=rfl;rw[hnil,List.take_length];repeat' first|refine Zz ?_|intro _
  rw[a0D,if_neg dc,if_neg dc,if_neg dc];repeat' first|refine Zz ?_|intro _
  refine E9 ?_;show Imp (.tup [.sl 1 (l.map str) (some v),int (J2 l).length]) (.tup [.sl 1 (l.map str) none,int (J2 l).length]);exact ImpR.imp⟩
end Go.Proofs.YtocpacdnjbjjmaaGreatDoor

namespace Go.Proofs.YtocpacdnjbjjmaaGreatDoor
open Go Go.RowKit Tw Av Go.Proofs.Tryz
instance b6l {n:Int}:Ans prog GL 164 [int n] (0<=n/\n<=9223372036854775807) (str (U3 n.toNat)):=⟨fun hp=>by
 obtain⟨N,rfl⟩:∃ N:Nat,n=N:=⟨n.toNat,om⟩;rw[Int.toNat_natCast];refine qE func164 rfl ntmps164 rfl (fun _ hs=>?_);repeat' first|refine Zz ?_|intro _
 refine z8 (α:=Nat) (fun j=>[(0,int N),(3,str ((U3 N).take j)),(4,int (7-(j:Int)))]) (fun _=>[]) (fun j=>j<=8) (fun j=>8-j) 0 ⟨rfl,rfl,rfl,trivial⟩ slr (Nat.zero_le _) ?_;intro j hj;by_cases hj':j<8
 ·have hst:=a6U (n:=N) hj';repeat' first|refine Zz ?_|intro _
  refine IP (k:=.i64) (n:=8*(7-j)) ?_ (hb:=by show (8:Int)*(7-(j:Int))=((8*(7-j):Nat):Int);omega) (hn:=Nat.ble_eq_true_of_le (show 8*(7-j)<=64 by omega));rw[KZ,<- Int.natCast_ediv];refine CR ?_;rw[JN];repeat' first|refine Zz ?_|intro _
  refine Px (l:=[UInt8.ofNat (N / 256 ^ (7-j))]) ?_ (hb:=(inferInstance:Byts ([UInt8.ofNat (N / 256 ^ (7-j))].map fun c=>AV.lit (j6 c)) _));repeat' first|refine Zz ?_|intro _
  refine o6 (j+1) ⟨rfl,?_,?_,trivial⟩ slr hj' om
  ·rw[hst];rfl
  ·show some (int (7-(j:Int)-1))=some (int (7-((j+1:Nat):Int)));rw[show 7-(j:Int)-1=7-((j+1:Nat):Int) by omega]
 ·obtain rfl:j=8:=by omega
  rw[List.take_of_length_le (Nat.le_of_eq (yP N))];repeat' first|refine Zz ?_|intro _
  refine d9 ?_;rfl⟩
instance c5W {n:Nat}:LenLe (U3 n) 8:=⟨by rw[yP];exact Nat.le_refl _⟩
instance b3y {n:Nat}{c:UInt8}:LenLe (List.replicate n c) n:=⟨by rw[List.length_replicate];exact Nat.le_refl _⟩
instance b6i {m:MkX}:Ans prog GL 112 [cZ m] (MkB m) (str (J9 m)):=⟨fun hm=>by
 have he:=hm.e;have hb:=hm.b;have hc:=hm.c;refine qE func112 rfl ntmps112 rfl (fun _ hs=>?_);repeat' first|refine Zz ?_|intro _
 apply u7 [];exact rfl;exact rfl;kernel_rfl
 ·intro _ _;refine yV ?_;exact j4 (o7 rfl rfl)
 repeat' first|refine Zz ?_|intro _
 refine d9 ?_;rfl⟩
instance b6j {s:Bs}:Ans prog GL 222 [str s] (s.length=8) (int (pM s)):=⟨fun h8=>by
 refine qE func222 rfl ntmps222 rfl (fun _ hs=>?_);repeat' first|refine Zz ?_|intro _
 refine z8 (α:=Nat) (fun k=>[(0,str s),(3,int (bB s k:Nat)),(4,int k)]) (fun _=>[]) (fun k=>k<=8/\bB s k<=1099511627776) (fun k=>8-k) 0 ⟨rfl,rfl,rfl,trivial⟩ slr ⟨Nat.zero_le _,Nat.zero_le _⟩ ?_;rintro k ⟨hk,hN⟩;by_cases hk':k<8
 ·have hkc:k<s.length:=om
  have hst:=MH hkc;have hby:=s[k].toNat_lt;repeat' first|refine Zz ?_|intro _
  refine OM (c:=s[k]) ?_ (hc:=by rw[Int.toNat_natCast];exact List.getElem?_eq_getElem hkc);by_cases hgt:1099511627776<bB s (k+1)
  ·rw[a1E h8 hk' hgt];repeat' first|refine Zz ?_|intro _
   refine d9 ?_;rfl
  ·repeat' first|refine Zz ?_|intro _
   refine o6 (k+1) ⟨rfl,?_,rfl,trivial⟩ slr ⟨hk',om⟩ om;rw[hst,Int.natCast_add,Int.natCast_mul];rfl
 ·obtain rfl:k=8:=by omega
  rw[<- Ew h8] at hN ⊢;repeat' first|refine Zz ?_|intro _
  refine d9 ?_;unfold pM;rw[if_pos hN];rfl⟩
attribute [local irreducible] J9
theorem SY (s:Bs):pM s<=1099511627776:=by
 unfold pM;split <;> omega
instance b6h {s:Bs}:Ans prog GL 145 [str s] True (.tup [cZ ((Q4 s).getD iH),j3 (Q4 s).isSome]):=⟨fun _=>by
 refine qE func145 rfl ntmps145 rfl (fun _ hs=>?_);repeat' first|refine Zz ?_|intro _
 by_cases h64:s.length=64
 rotate_left
 ·have hu:Q4 s=none:=by
   unfold Q4;rw[if_neg (fun h=>h64 h.1)]
  rw[hu];repeat' first|refine Zz ?_|intro _
  refine d9 ?_;rfl
 repeat' first|refine Zz ?_|intro _
 have c1:((s.take 8).drop 0).length=8:=by rw[List.length_drop,List.length_take];omega
 have c2:((s.take 16).drop 8).length=8:=by rw[List.length_drop,List.length_take];omega
 have c3:((s.take 24).drop 16).length=8:=by rw[List.length_drop,List.length_take];omega
 have b1:=SY ((s.take 8).drop 0);have b2:=SY ((s.take 16).drop 8);have b3:=SY ((s.take 24).drop 16);apply u7 [];exact rfl;exact rfl;kernel_rfl
 ·intro _ _;refine Q7 0 8 ?_;exact j4 (o7 rfl rfl)
 repeat' first|refine Zz ?_|intro _
 apply u7 [];exact rfl;exact rfl;kernel_rfl
 ·intro _ _;refine Q7 8 16 ?_;exact j4 (o7 rfl rfl)
 repeat' first|refine Zz ?_|intro _
 apply u7 [];exact rfl;exact rfl;kernel_rfl
 ·intro _ _;refine Q7 16 24 ?_;exact j4 (o7 rfl rfl)
 repeat' first|refine Zz ?_|intro _
 have s1:(s.take 8).drop 0=(s.drop (8*0)).take 8:=sm
 have s2:(s.take 16).drop 8=(s.drop (8*1)).take 8:=by rw[List.drop_take]
 have s3:(s.take 24).drop 16=(s.drop (8*2)).take 8:=by rw[List.drop_take]
 have k1:pM ((s.take 8).drop 0)=if cB s 0<=1099511627776 then (cB s 0:Int) else -1:=by rw[s1];rfl
 have k2:pM ((s.take 16).drop 8)=if cB s 1<=1099511627776 then (cB s 1:Int) else -1:=by rw[s2];rfl
 have k3:pM ((s.take 24).drop 16)=if cB s 2<=1099511627776 then (cB s 2:Int) else -1:=by rw[s3];rfl
 clear s1 s2 s3;generalize pM ((s.take 8).drop 0)=n1 at *;generalize pM ((s.take 16).drop 8)=n2 at *;generalize pM ((s.take 24).drop 16)=n3 at *;by_cases h1:cB s 0<=1099511627776
 rotate_left
 ·rw[if_neg h1] at k1;rw[JK (i:=0) dc om];repeat' first|refine Zz ?_|intro _
  refine d9 ?_;rfl
 rw[if_pos h1] at k1;by_cases h2:cB s 1<=1099511627776
 rotate_left
 ·rw[if_neg h2] at k2;rw[JK (i:=1) dc om];repeat' first|refine Zz ?_|intro _
  refine d9 ?_;rfl
 rw[if_pos h2] at k2;by_cases h3:cB s 2<=1099511627776
 rotate_left
 ·rw[if_neg h3] at k3;rw[JK (i:=2) dc om];repeat' first|refine Zz ?_|intro _
  refine d9 ?_;rfl
 rw[if_pos h3] at k3;obtain⟨M,hM⟩:∃ M,qR s=M:=⟨_,rfl⟩;have hM1:M.e=n1:=by rw[k1,<- hM];rfl
 have hM2:M.b=n2:=by rw[k2,<- hM];rfl
 have hM3:M.c=n3:=by rw[k3,<- hM];rfl
 have hB:MkB M:=⟨om,om,om⟩;have hok:LJ (qR s)=true:=by
  rw[hM];exact dT ⟨hB.e.2,hB.b.2,hB.c.2⟩
 have hu:Q4 s=if J9 M=s then some M else none:=by
  unfold Q4;rw[hM] at hok ⊢;by_cases h:J9 M=s
  ·rw[if_pos ⟨h64,hok,h⟩,if_pos h]
  ·rw[if_neg (fun e=>h e.2.2),if_neg h]
 rw[hu,<- hM1,<- hM2,<- hM3];clear hM1 hM2 hM3 k1 k2 k3 hu;have hb1:=hB.e;have hb2:=hB.b;have hb3:=hB.c;repeat' first|refine Zz ?_|intro _
 by_cases h:J9 M=s
 ·rw[if_pos h,dZ (nni h)];repeat' first|refine Zz ?_|intro _
  refine d9 ?_;rfl
 ·rw[if_neg h,dT h];repeat' first|refine Zz ?_|intro _
  refine d9 ?_;rfl⟩
attribute [local irreducible] Q4 iH
instance b6k {a b:Bs}:Ans prog GL 80 [str a,str b] True (cZ (rC a b)):=⟨fun _=>by
 refine qE func80 rfl ntmps80 rfl (fun _ hs=>?_);repeat' first|refine Zz ?_|intro _
 unfold rC;refine o9 (fun h=>?_) (fun h=>?_)
 ·rw[if_pos h];repeat' first|refine Zz ?_|intro _
  refine d9 ?_;rfl
 ·rw[if_neg h];repeat' first|refine Zz ?_|intro _
  refine d9 ?_;rfl⟩
end Go.Proofs.YtocpacdnjbjjmaaGreatDoor
