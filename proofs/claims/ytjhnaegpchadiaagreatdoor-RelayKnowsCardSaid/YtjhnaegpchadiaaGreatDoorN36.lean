/- . -/
import Derived.Test.YtjhnaegpchadiaaGreatDoorN35
set_option maxHeartbeats 64000000
namespace Go.Proofs.YtjhnaegpchadiaaGreatDoor
open Go Go.RowKit Tw Av Go.Proofs.Tryz
abbrev zP (gs c:Nat)(x:DvX)(vw:Value):AV:=.agg 6 [.lit (.slice (some ⟨gs,0,none⟩) x.n.toNat c),.sl 2 (x.ws.map oV) (some vw),j3 x.on,j3 x.ar,int x.lf,int x.st]
structure R6I where
 gd:Nat
 gs:Nat
 c:Nat
 vw:Value
abbrev K9 (I:R6I)(x:DvX):List Av.Piece:=[.var I.gd 152 (zP I.gs I.c x I.vw),.buf I.gs 9 1 ((U9 x).map str) I.c,.tail 278 2 I.vw]
theorem a0l {gs n c:Nat}:ImpC (.agg 6 [.lit (.slice (some ⟨gs,0,none⟩) n c),.lit (.slice none 0 0),j3 true,j3 false,int 0,int 0]) (.agg 6 [.lit (.slice (some ⟨gs,0,none⟩) n c),.sl 2 [] (some (.slice none 0 0)),j3 true,j3 false,int 0,int 0]):=(inferInstance:ImpT _ _).imp
theorem a0k {gs n c:Nat}{on ar:Bool}{lf st:Int}:ImpC (.agg 6 [.lit (.slice (some ⟨gs,0,none⟩) n c),.lit (.slice none 0 0),j3 on,j3 ar,int lf,int st]) (.agg 6 [.lit (.slice (some ⟨gs,0,none⟩) n c),.sl 2 [] (some (.slice none 0 0)),j3 on,j3 ar,int lf,int st]):=(inferInstance:ImpT _ _).imp
theorem Gj {I:R6I}{x:DvX}(hlf:0<=x.lf/\x.lf<=1000000):Av.Spec prog GL 242 [ptr I.gd] (K9 I x) fun u m=>u=int (if bR x=false then 14 else 0)/\m=K9 I (if bR x=false then dL x else J3 x):=by
 obtain⟨n,es,ck,ws,on,ar,lf,st⟩:=x;dsimp only at hlf;have e1:U9 (dL ⟨n,es,ck,ws,on,ar,lf,st⟩)=U9 ⟨n,es,ck,ws,on,ar,lf,st⟩:=DW rfl rfl;have e2:U9 (J3 ⟨n,es,ck,ws,on,ar,lf,st⟩)=U9 ⟨n,es,ck,ws,on,ar,lf,st⟩:=DW rfl rfl;refine qF func242 ntmps242 fun _ hs=>?_;unfold bR;dsimp only;cases ar
 ·repeat' first|refine Zz ?_|intro _
  refine yV ?_;repeat' first|refine Zz ?_|intro _
  refine l9 _ ⟨rfl,?_⟩ slr;rw[if_neg sm];dsimp only[K9];rw[e2];rfl
 ·by_cases hl:lf=0
  ·subst hl;repeat' first|refine Zz ?_|intro _
   refine l9 _ ⟨rfl,?_⟩ slr;rw[if_pos dc];dsimp only[K9];rw[e1];rfl
  ·rw[dZ hl];repeat' first|refine Zz ?_|intro _
   refine yV ?_;repeat' first|refine Zz ?_|intro _
   refine l9 _ ⟨rfl,?_⟩ slr;rw[if_neg dc];dsimp only[K9];rw[e2];rfl
attribute [local irreducible] U9
theorem SY {I:R6I}{x:DvX}{a:Int}(hon:x.on=true)(ha:fD x a=true)(hl:x.ws.length<=1000000)(_:x.n<=4096):Av.Spec prog GL 124 [ptr I.gd,int a] (K9 I x) fun u m=>u=.tup [str (aF x a),int 0]/\m=K9 I x:=by
 have hm:(x.ws.map oV).length=x.ws.length:=llm _;have ha':0<=a/\a<x.n:=of_decide_eq_true ha;obtain⟨i,hi⟩:∃ i:Nat,a=i:=⟨a.toNat,om⟩;subst hi;have hin:i<x.n.toNat:=by omega
 have hg:((U9 x).map str)[i]?=some (str (H7 x (i:Int))):=by rw[List.getElem?_map,DV hin];rfl
 refine qF func124 ntmps124 fun _ hs=>?_;repeat' first|refine Zz ?_|intro _
 rw[hon];repeat' first|refine Zz ?_|intro _
 refine MR i ?_;refine a5i (j:=i) (off:=0) (xs:=(U9 x).map str) (y:=str (H7 x (i:Int))) (u:=str (H7 x (i:Int))) hg ?_;repeat' first|refine Zz ?_|intro _
 refine y5 (α:=Nat) (fun k=>[(0,ptr I.gd),(1,int (i:Int)),(6,str ((bL (x.ws.take k) (i:Int)).getD (H7 x (i:Int)))),(7,int k)]) (fun _=>K9 I x) (fun k=>k<=x.ws.length) (fun k=>x.ws.length-k) 0 ⟨rfl,rfl,rfl,rfl,trivial⟩ slr (Nat.zero_le _) ?_;intro k hk;by_cases hk':k<x.ws.length
 ·have hw:=WC (a:=(i:Int)) hk';by_cases he:x.ws[k].1=(i:Int)
  ·rw[if_pos he] at hw;repeat' first|refine Zz ?_|intro _
   refine o6 (k+1) ⟨rfl,rfl,?_,rfl,trivial⟩ slr hk' om;rw[hw];rfl
  ·rw[if_neg he] at hw;repeat' first|refine Zz ?_|intro _
   refine o6 (k+1) ⟨rfl,rfl,?_,rfl,trivial⟩ slr hk' om;rw[hw];rfl
 ·obtain rfl:k=x.ws.length:=by omega
  rw[List.take_length];repeat' first|refine Zz ?_|intro _
  exact l9 _ ⟨rfl,rfl⟩ slr
theorem a2x {x:DvX}{a:Int}(h:¬ (0<=a/\a<x.n)):fD x a=false:=dZ h
theorem Gi {I:R6I}{x:DvX}{a:Int}{s:Bs}(hlf:0<=x.lf/\x.lf<=1000000)(hl:x.ws.length<=1000000)(hn:0<=x.n/\x.n<=4096):Av.Spec prog GL 150 [ptr I.gd,int a,str s] (K9 I x) fun u m=>u=int (L9 x a s).2/\∃ v,m=K9 { I with vw:=v } (L9 x a s).1:=by
 have hnn:(x.n.toNat:Int)=x.n:=om
 refine qF func150 ntmps150 fun _ hs=>?_;repeat' first|refine Zz ?_|intro _
 unfold L9;cases hon:x.on
 ·rw[if_pos rfl];repeat' first|refine Zz ?_|intro _
  exact l9 (K9 I x) ⟨rfl,I.vw,rfl⟩ slr
 rw[if_neg dc];by_cases hh:0<=a/\a<x.n
 rotate_left
 ·rw[if_pos (.inl (a2x hh))];by_cases h0:a<0
  ·repeat' first|refine Zz ?_|intro _
   exact l9 (K9 I x) ⟨rfl,I.vw,rfl⟩ slr
  ·repeat' first|refine Zz ?_|intro _
   exact l9 (K9 I x) ⟨rfl,I.vw,rfl⟩ slr
 have hd:fD x a=true:=dT hh;by_cases h64:s.length=64
 rotate_left
 ·rw[if_pos (.inr h64)];repeat' first|refine Zz ?_|intro _
  exact l9 (K9 I x) ⟨rfl,I.vw,rfl⟩ slr
 rw[if_neg (by rw[hd];rintro (h|h);cases h;exact h h64)];repeat' first|refine Zz ?_|intro _
 refine gJ [] (K9 I x) [] (Gj hlf) (fun u m1 hh=>?_);obtain⟨rfl,rfl⟩:=hh;cases hm:bR x
 ·rw[if_pos rfl,if_pos rfl,if_pos rfl];have e:U9 (dK (dL x) (a,s))=U9 (dL x):=DW rfl rfl;have hl2:(dL x).ws.length<=1000000:=hl;have hm2:((dL x).ws.map oV).length=(dL x).ws.length:=llm _;repeat' first|refine Zz ?_|intro _
  refine I1 (fun v'=>?_);repeat' first|refine Zz ?_|intro _
  refine l9 (K9 { I with vw:=v' } (dK (dL x) (a,s))) ⟨rfl,v',rfl⟩ ?_;dsimp only[K9,zP];rw[e];unfold dK;dsimp only;rw[List.map_append];exact x9
 ·rw[if_neg dc,if_neg dc,if_neg dc];have e:U9 (dK (J3 x) (a,s))=U9 (J3 x):=DW rfl rfl;have hl2:(J3 x).ws.length<=1000000:=hl;have hm2:((J3 x).ws.map oV).length=(J3 x).ws.length:=llm _;repeat' first|refine Zz ?_|intro _
  refine I1 (fun v'=>?_);repeat' first|refine Zz ?_|intro _
  refine l9 (K9 { I with vw:=v' } (dK (J3 x) (a,s))) ⟨rfl,v',rfl⟩ ?_;dsimp only[K9,zP];rw[e];unfold dK;dsimp only;rw[List.map_append];exact x9
theorem Gc:∀ (l:List (Int × Bs)) (x:DvX),(l.foldl aG x).st=x.st
 | [],_=>rfl
 | w::l,x=>Gc l (aG x w)
theorem Dt (x:DvX)(k:Nat):(aX x k).n=x.n/\(aX x k).on=x.on/\(aX x k).ar=x.ar/\(aX x k).lf=x.lf/\(aX x k).ws=x.ws/\(aX x k).st=x.st:=by
 have h:=uU (ws:=x.ws.take k) (x:=x);exact⟨h.1,h.2.1,h.2.2.1,h.2.2.2,Gb _ _,Gc _ _⟩
theorem Yy {x:DvX}(h:DvOk x)(k:Nat):DvOk (aX x k):=SX h fun w hw=>h.wl w (List.mem_of_mem_take hw)
theorem Rv {x:DvX}:U9 (X6 x)=U9 (aX x x.ws.length):=DW (by unfold X6 aX;rw[List.take_length]) (by unfold X6 aX;rw[List.take_length])
theorem a2z (x:DvX):(X6 x).n=x.n/\(X6 x).on=x.on/\(X6 x).ar=x.ar/\(X6 x).lf=x.lf/\(X6 x).st=x.st/\(X6 x).ws=[]:=by
 have h:=Dt x x.ws.length;unfold aX at h;rw[List.take_length] at h;exact⟨h.1,h.2.1,h.2.2.1,h.2.2.2.1,h.2.2.2.2.2,rfl⟩
theorem Gm {I:R6I}{x:DvX}(hx:DvOk x)(hl:x.ws.length<=1000000)(hw:∀ w∈x.ws,0<=w.1/\w.1<x.n):Av.Spec prog GL 151 [ptr I.gd] (K9 I x) fun u m=>u=int (W9 x).2/\∃ v,m=K9 { I with vw:=v } (W9 x).1:=by
 have hm:(x.ws.map oV).length=x.ws.length:=llm _;refine qF func151 ntmps151 fun _ hs=>?_;repeat' first|refine Zz ?_|intro _
 unfold W9;cases hon:x.on
 ·rw[if_pos rfl];repeat' first|refine Zz ?_|intro _
  exact l9 (K9 I x) ⟨rfl,I.vw,rfl⟩ slr
 rw[if_neg dc];repeat' first|refine Zz ?_|intro _
 refine gJ [] (K9 I x) [] (Gj hx.lf) (fun u m1 hh=>?_);obtain⟨rfl,rfl⟩:=hh;cases hmy:bR x
 ·rw[if_pos rfl,if_pos rfl,if_pos rfl];repeat' first|refine Zz ?_|intro _
  exact l9 (K9 I (dL x)) ⟨rfl,I.vw,rfl⟩ slr
 rw[if_neg dc,if_neg dc,if_neg dc];have hy:DvOk (J3 x):=FN hx hmy;have hyw:∀ w∈(J3 x).ws,0<=w.1/\w.1<(J3 x).n:=hw;have hyl:(J3 x).ws.length<=1000000:=hl;generalize J3 x=y at *;have hm:(y.ws.map oV).length=y.ws.length:=llm _;repeat' first|refine Zz ?_|intro _
 refine y5 (α:=Nat) (fun k=>[(0,ptr I.gd),(4,int k)]) (fun k=>[.var I.gd 152 (zP I.gs I.c y I.vw),.buf I.gs 9 1 ((U9 (aX y k)).map str) I.c,.tail 278 2 I.vw]) (fun k=>k<=y.ws.length) (fun k=>y.ws.length-k) 0 ⟨rfl,rfl,trivial⟩ slr (Nat.zero_le _) ?_;intro k hk;have hf:=(Dt y k).1;by_cases hk':k<y.ws.length
 ·have hwk:=hyw _ (List.getElem_mem hk');obtain⟨j,hj⟩:∃ j:Nat,y.ws[k].1=j:=⟨y.ws[k].1.toNat,om⟩;have hs2:=Ru (x:=aX y k) (w:=y.ws[k]) (Yy hy k).mn hwk.1;rw[<- Dr hk',hj,Int.toNat_natCast] at hs2;have hjl:j<y.n.toNat:=by omega
  have hg:((U9 (aX y k)).map str)[j]?=some (str (H7 (aX y k) (j:Int))):=by rw[List.getElem?_map,DV (by rw[hf];exact hjl)];rfl
  repeat' first|refine Zz ?_|intro _
  rw[hj];apply x8 [];exact rfl;exact rfl;kernel_rfl;intro _ _;refine MR j ?_;exact j4 (o9 rfl rfl);apply bP [1];exact rfl;exact rfl;kernel_rfl
  ·intro _ _;refine Ml (j:=j) (off:=0) (xs:=(U9 (aX y k)).map str) (y:=str (H7 (aX y k) (j:Int))) (y':=str y.ws[k].2) hg ?_;exact j4 (bW rfl)
  ·exact rfl
  ·exact rfl
  repeat' first|refine Zz ?_|intro _
  refine o6 (k+1) ⟨rfl,rfl,trivial⟩ ?_ hk' om;rw[hs2,List.map_set];exact List.Sublist.refl _
 ·obtain rfl:k=y.ws.length:=by omega
  repeat' first|refine Zz ?_|intro _
  have hz:=Rv (x:=y);refine GM (g:=I.gd) a0k ?_;refine sJ (fun ok w h=>h.full 278 2 none 0) ?_;obtain⟨f1,f2,f3,f4,f5,f6⟩:=a2z y;refine nU [.var I.gd 152 (.agg 6 [.lit (.slice (some ⟨I.gs,0,none⟩) y.n.toNat I.c),.sl 2 [] (some (.slice none 0 0)),j3 y.on,j3 y.ar,int y.lf,int y.st]),.buf I.gs 9 1 ((U9 (aX y y.ws.length)).map str) I.c,.tail 278 2 (.slice none 0 0)] [_,_,_] ?_ (List.perm_append_comm (l₁:=[_,_]) (l₂:=[_])) ?_
  ·refine l9 _ ⟨rfl,.slice none 0 0,?_⟩ slr;dsimp only[K9,zP];rw[hz,f1,f2,f3,f4,f5,f6];rfl
  ·exact x9
theorem Gl {n:Int}(h1:1<=n)(h2:n<=4096):Av.Spec prog GL 22 [int n] [] fun u m=>∃ I,u=ptr I.gd/\m=K9 I (Q3 n):=by
 obtain⟨N,rfl⟩:∃ N:Nat,n=N:=⟨n.toNat,om⟩;refine qF func22 ntmps22 fun _ hs=>?_;repeat' first|refine Zz ?_|intro _
 rename_i g;refine y5 (α:=Nat × Option (Nat × Nat)) (fun z=>[(0,int N),(3,ptr g),(4,int z.1)])
  (fun z=>match z.2 with
   | none=>[.var g 152 (.agg 6 [.lit (.slice none 0 0),.lit (.slice none 0 0),j3 true,j3 false,int 0,int 0])]
   | some q=>[.var g 152 (.agg 6 [.lit (.slice (some ⟨q.1,0,none⟩) z.1 q.2),.lit (.slice none 0 0),j3 true,j3 false,int 0,int 0]),.buf q.1 9 1 (List.replicate z.1 (str qR)) q.2])
  (fun z=>z.1<=N/\(z.2=none->z.1=0)/\∀ q,z.2=some q->0<z.1/\z.1<=q.2) (fun z=>N-z.1) (0,none) ⟨rfl,rfl,rfl,trivial⟩ slr ⟨Nat.zero_le _,fun _=>rfl,fun q h=>by cases h⟩ ?_
 rintro⟨i,o⟩ ⟨hi,ho,hq⟩;dsimp only at hi ho hq ⊢;rcases o with _|⟨gs,c⟩
 ·obtain rfl:=ho rfl;repeat' first|refine Zz ?_|intro _
  apply x8 [];exact rfl;exact rfl;kernel_rfl
  ·intro _ _;refine GH ?_;exact j4 (o9 rfl rfl)
  repeat' first|refine Zz ?_|intro _
  apply Y8 [];exact rfl;exact rfl;exact rfl;kernel_rfl;intro _ _;refine VL (fun g' c' hc=>?_);refine j4 (R6 [] [.buf g' 9 1 [str (List.replicate (Int.toNat 64) 0)] c'] rfl rfl lpr rfl ?_);repeat' first|refine Zz ?_|intro _
  refine o6 (1,some (g',c')) ⟨rfl,rfl,rfl,trivial⟩ ?_ ⟨by dsimp only;omega,(fun h=>by cases h),(fun q h=>by injection h with h;subst h;exact⟨Nat.one_pos,hc⟩)⟩ (by dsimp only;omega);exact x9
 ·obtain⟨hq1,hq2⟩:=hq _ rfl;dsimp only at hq2 ⊢;by_cases hi':i<N
  ·repeat' first|refine Zz ?_|intro _
   apply x8 [];exact rfl;exact rfl;kernel_rfl
   ·intro _ _;refine GH ?_;exact j4 (o9 rfl rfl)
   repeat' first|refine Zz ?_|intro _
   apply Y8 [1];exact rfl;exact rfl;exact rfl;kernel_rfl;intro _ _;refine BV (xs:=List.replicate i (str qR)) (fun g' c' hc=>?_);refine j4 (R6 [.buf g' 9 1 (List.replicate i (str qR)++[str (List.replicate (Int.toNat 64) 0)]) c'] [] rfl rfl lpr rfl ?_);repeat' first|refine Zz ?_|intro _
   refine o6 (i+1,some (g',c')) ⟨rfl,rfl,rfl,trivial⟩ ?_ ⟨hi',(fun h=>by cases h),(fun q h=>by injection h with h;subst h;exact⟨Nat.succ_pos i,hc⟩)⟩ (by dsimp only;omega);dsimp only;rw[List.replicate_succ'];exact x9
  ·obtain rfl:i=N:=by omega
   repeat' first|refine Zz ?_|intro _
   refine GM (g:=g) a0l ?_;refine sJ (fun ok w h=>h.full 278 2 none 0) ?_;refine nU [.var g 152 (.agg 6 [.lit (.slice (some ⟨gs,0,none⟩) i c),.sl 2 [] (some (.slice none 0 0)),j3 true,j3 false,int 0,int 0]),.buf gs 9 1 (List.replicate i (str qR)) c,.tail 278 2 (.slice none 0 0)] [_,_,_] ?_ (List.perm_append_comm (l₁:=[_,_]) (l₂:=[_])) slr;refine l9 _ ⟨⟨g,gs,c,.slice none 0 0⟩,rfl,?_⟩ slr;dsimp only[K9,zP];rw[Rt,List.map_replicate];rfl
end Go.Proofs.YtjhnaegpchadiaaGreatDoor

namespace Go.Proofs.YtjhnaegpchadiaaGreatDoor
open Go Go.RowKit Tw Av
theorem Ic {x y:DvX}(h:y.es=x.es):H7 y=H7 x:=by
 funext a
 unfold H7;rw[h]
theorem Hy (l:Bs):(J2 l).length<64:=by
 unfold J2;rw[List.length_drop];omega
theorem a3m {l r:Bs}{j:Nat}(hj:64*(l.length / 64+j)<l.length):(M6 ((J2 l++r).drop (64*j))).take (l.length-64*(l.length / 64+j))=(l.drop (64*(l.length / 64+j))).take 64:=by
 obtain rfl:j=0:=by omega
 have he:l.length-64*(l.length / 64+0)=(J2 l).length:=by
  unfold J2;rw[List.length_drop];omega
 have hd:l.drop (64*(l.length / 64+0))=J2 l:=by
  unfold J2;congr 1
  omega
 have hl:=Hy l;rw[he,hd,Nat.mul_zero,List.drop_zero,Bt (by rw[lla];omega) om,List.take_left,List.take_of_length_le om]
theorem a3n {l r:Bs}{j:Nat}:(M6 ((J2 l++r).drop (64*j))).take ((l++r).length-64*(l.length / 64+j))=((l++r).drop (64*(l.length / 64+j))).take 64:=by
 have hd:(l++r).drop (64*(l.length / 64+j))=(J2 l++r).drop (64*j):=by
  have h1:(l++r).drop (64*(l.length / 64))=J2 l++r:=by
   rw[List.drop_append_of_le_length om];unfold J2;congr 2
   omega
  rw[show 64*(l.length / 64+j)=64*(l.length / 64)+64*j by omega,<- List.drop_drop,h1]
 rw[hd];have hl:((J2 l++r).drop (64*j)).length=(l++r).length-64*(l.length / 64+j):=by
  rw[<- hd,List.length_drop]
 rw[<- hl,Vt]
section
variable {x:DvX} {s:SlX} {r:Bs}
structure LogOk (x:DvX)(s:SlX):Prop where
 dv:DvOk x
 on:x.on=true
 ws:x.ws=[]
 fit:DFits (H7 x) s.l s.m
 b:s.m.b=s.l.length
 rm:s.m.b<=J4 x.n
 n:3<=x.n
 br:s.br=false
 e:s.m.e<190
 c:0<=s.m.c/\s.m.c<=1000
def Old (y:DvX)(s s':SlX):Prop:=DvOk y/\∀ k torn cut,DFits (H7 (wP y k torn cut)) s.l s.m\/DFits (H7 (wP y k torn cut)) s'.l s'.m
def xO (s:SlX)(r:Bs):SlX:=⟨F7 s r,s.l++y8 r,false⟩
theorem Cb {y:DvX}(h:LogOk x s)(hy:DvOk y)(he:y.es=x.es)(hw:∀ w∈y.ws,w∈qL (J2 s.l++y8 r).length (2+s.m.b / 64) (J2 s.l++y8 r)):Old y s (xO s r):=by
 refine⟨hy,fun k torn cut=>.inl ?_⟩;refine Il (fun f=>DFits f s.l s.m) hy ?_ ?_
 ·intro w hm f c hf hP;obtain⟨j,rfl,hj⟩:=Jw (hw w hm);have ha:(2+s.m.b / 64+(j:Int))=2+((s.l.length / 64+j:Nat):Int):=by
   rw[h.b];omega
  dsimp only;rw[ha];exact⟨WN hf (KE _),Qp hf hP.lg (KE _) a3m,Pt om hP.mr⟩
 ·rw[Ic he];exact h.fit
theorem Cf (h:LogOk x s)(hr:(y8 r).length<=J4 x.n-s.m.b):MkB (F7 s r):=by
 have h1:=h.fit.mr.e;have h2:=h.b;have h3:=h.c;have h4:=h.e;have h5:=h.dv.n;have h6:J4 x.n=(x.n-2)*64:=rfl;exact⟨by unfold F7;dsimp only;omega,by unfold F7;dsimp only;omega,by unfold F7;dsimp only;omega⟩
theorem Ca {z y:DvX}(h:LogOk x s)(hr:(y8 r).length<=J4 x.n-s.m.b)(hz:DFits (H7 z) (s.l++y8 r) s.m)(hy:DvOk y)(he:H7 y=H7 z)(hw:∀ w∈y.ws,w=((F7 s r).e%2,K4 (F7 s r))):Old y s (xO s r):=by
 refine⟨hy,fun k torn cut=>?_⟩;have hB:=Cf h hr;have hE:(F7 s r).e=s.m.e+1:=rfl;have hpre:∀ {f:Int->Bs},LgI f (s.l++y8 r)->LgI f s.l:=by
  intro f hf j hj;have h1:=hf j (by rw[lla];omega);have h2:=congrArg (List.take (s.l.length-64*j)) h1;rw[List.take_take,lla,Nat.min_eq_left om,List.take_take,List.drop_append_of_le_length om] at h2;rw[h2];by_cases hh:s.l.length-64*j<=64
  ·rw[Nat.min_eq_left hh,List.take_append_of_le_length (by rw[List.length_drop];omega),List.take_of_length_le (by rw[List.length_drop];omega),List.take_of_length_le (by rw[List.length_drop];omega)]
  ·rw[Nat.min_eq_right om,List.take_append_of_le_length (by rw[List.length_drop];omega)]
 have key:(∀ a,(H7 (wP y k torn cut) a).length=64)/\LgI (H7 (wP y k torn cut)) (s.l++y8 r)/\(MkI (H7 (wP y k torn cut)) s.m\/MkI (H7 (wP y k torn cut)) (F7 s r)):=by
  refine Il (fun f=>(∀ a,(f a).length=64)/\LgI f (s.l++y8 r)/\(MkI f s.m\/MkI f (F7 s r))) hy ?_ ?_
  ·intro w hm f c hf hP;obtain rfl:=hw w hm;dsimp only;refine⟨WN hf (EO _),WM om hP.2.1,?_⟩;rcases hP.2.2 with hm|hm
   ·exact Qo hf hm hB hE (by have:=h.e;omega)
   ·right
    have e1:tn c (K4 (F7 s r)) (f ((F7 s r).e%2))=f ((F7 s r).e%2):=by
     rw[hm.at_];unfold tn;exact List.take_append_drop _ _
    have e2:aJ f ((F7 s r).e%2) (f ((F7 s r).e%2))=f:=by
     funext b
     unfold aJ;split
     ·rename_i hb;rw[hb]
     ·rfl
    rw[e1,e2];exact hm
  ·rw[he];exact⟨hz.len,hz.lg,.inl hz.mr⟩
 rcases key.2.2 with hm|hm
 ·exact .inl ⟨key.1,hpre key.2.1,hm⟩
 ·exact .inr ⟨key.1,key.2.1,hm⟩
end

theorem a1O {x:DvX}{s:SlX}{r:Bs}(h:LogOk x s){y:DvX}(hn:MpN y.es)(he:y.es=x.es)(hw:y.ws=qL (J2 s.l++y8 r).length (2+s.m.b / 64) (J2 s.l++y8 r))(hy:DvOk y):DFits (H7 (X6 y)) (s.l++y8 r) s.m:=by
 have hb:=h.b;have hsf:∀ a,H7 (X6 y) a=if 2+s.m.b / 64<=a/\64*(a-(2+s.m.b / 64))<(J2 s.l++y8 r).length then M6 ((J2 s.l++y8 r).drop (64*(a-(2+s.m.b / 64)).toNat)) else H7 x a:=by
  intro a;rw[Ij hn a];unfold aF;rw[hw,Jy a (Nat.le_refl _),Ic he];split <;> rfl
 have hlow:∀ a,a<2->H7 (X6 y) a=H7 x a:=by
  intro a ha;rw[hsf,if_neg om]
 have hmr:=h.fit.mr;refine⟨BD (Ik hy),?_,hmr.e,hmr.b,?_,?_⟩
 ·intro j hj;rw[hsf];have hel:(J2 s.l).length=s.l.length%64:=by
   unfold J2;rw[List.length_drop];omega
  have hal:(J2 s.l++y8 r).length=s.l.length%64+(y8 r).length:=by rw[lla,hel]
  rw[lla] at hj ⊢;by_cases h1:s.l.length / 64<=j
  ·obtain⟨i,rfl⟩:∃ i,j=s.l.length / 64+i:=⟨j-s.l.length / 64,om⟩;rw[if_pos om];have e1:(2+((s.l.length / 64+i:Nat):Int)-(2+s.m.b / 64)).toNat=i:=by omega
   rw[e1];have:=a3n (l:=s.l) (r:=y8 r) (j:=i);rw[lla] at this;exact this
  ·rw[if_neg om];have h2:=h.fit.lg j om;rw[List.take_of_length_le (by rw[h.fit.len];omega)] at h2 ⊢;rw[h2,List.drop_append_of_le_length om,List.take_append_of_le_length (by rw[List.length_drop];omega)]
 ·rw[hlow _ om];exact hmr.at_
 ·rw[hlow _ om];exact hmr.oth
inductive CmS (x:DvX)(s:SlX)(r:Bs):DvX × SlX × Int->Prop where
 | no (e:Int) (he:e=11/\1048576<r.length\/e=15/\J4 x.n-s.m.b<(y8 r).length):CmS x s r (x,s,e)
 | lost (y:DvX) (hy:y.n=x.n) (ha:x.ar=true) (h:Old y s (xO s r)):CmS x s r (y,{ s with br:=true },14)
 | yes (y:DvX) (hy:y.n=x.n) (ha:y.ar=x.ar) (hr:r.length<=1048576) (h:LogOk y (xO s r)\/(190<=(F7 s r).e\/1000<(F7 s r).c)) (hf:DFits (H7 y) (s.l++y8 r) (F7 s r)/\DvOk y/\y.on=true/\y.ws=[]/\s.m.b+(y8 r).length<=J4 x.n):CmS x s r (y,xO s r,0)
theorem a3e {x:DvX}{s:SlX}{r:Bs}(h:LogOk x s):CmS x s r (jH x s r):=by
 unfold jH;rw[if_neg (by rw[h.br];decide)];by_cases h1:1048576<r.length
 ·rw[if_pos h1];exact .no 11 (.inl ⟨rfl,h1⟩)
 rw[if_neg h1];by_cases h2:J4 x.n-s.m.b<(y8 r).length
 ·rw[if_pos h2];exact .no 15 (.inr ⟨rfl,h2⟩)
 rw[if_neg h2];have hr:((y8 r).length:Int)<=J4 x.n-s.m.b:=by omega
 have hb:=h.b;have hn:=h.n;have hrd:J4 x.n=(x.n-2)*64:=rfl;have hel:=Hy s.l;have hal:(J2 s.l++y8 r).length=(J2 s.l).length+(y8 r).length:=lla;have hle:(J2 s.l).length=s.l.length%64:=by
  unfold J2;rw[List.length_drop];omega
 have hE0:=h.fit.mr.e;have hB:=Cf h hr;have hE:(F7 s r).e=s.m.e+1:=rfl;have k1:DvOk (aH x s r).1:=Bi h.dv;have k2:DvOk (bC x s r).1:=LU k1;have k3:DvOk (bB x s r).1:=yD k2;have k4:DvOk (dN x s r).1:=LU k3;rcases Bf (f:=(J2 s.l++y8 r).length) (x:=x) (a:=2+s.m.b / 64) (s:=J2 s.l++y8 r) (Nat.le_refl _) h.on om om with⟨y,hp,hon,hes,hyn,har,hws⟩|⟨y,p,hp,har,hon,hes,hyn,hws,hmem⟩
 rotate_left
 ·have e1:aH x s r=(y,14):=hp;rw[e1] at k1;rw[e1,if_pos (show ((14:Int))≠0 by decide)];rw[h.ws,List.nil_append] at hws;exact .lost y hyn har (Cb h k1 hes (fun w hw=>hmem w (hws ▸ hw)))
 have e1:aH x s r=(y,0):=hp;rw[h.ws,List.nil_append] at hws;rw[e1] at k1;rw[e1,if_neg (show ¬ (((0:Int))≠0) by decide)];have e2:bC x s r=W9 y:=by unfold bC;rw[e1]
 have hfl:W9 y=if bR y=false then (dL y,14) else (X6 (J3 y),0):=by
  unfold W9;rw[if_neg (by rw[hon];decide)]
 cases hm:bR y with
 | false=>
  rw[hm,if_pos rfl] at hfl;rw[e2,hfl,if_pos (show ((14:Int))≠0 by decide)];exact .lost _ hyn (by rw[<- har];exact LQ hm) (Cb h (TL k1) hes (fun w hw=>hws ▸ hw))
 | true=>
  rw[hm,if_neg dc] at hfl;have k1':=FN k1 hm;have hz:DFits (H7 (X6 (J3 y))) (s.l++y8 r) s.m:=a1O h k1'.mn hes hws k1';rw[e2,hfl] at k2;rw[e2,hfl,if_neg (show ¬ (((0:Int))≠0) by decide)];generalize hZ:X6 (J3 y)=z at *;have hzn:z.n=x.n:=by rw[<- hZ];exact(uU (ws:=(J3 y).ws) (x:=J3 y)).1.trans hyn
  have hzo:z.on=true:=by rw[<- hZ];exact(uU (ws:=(J3 y).ws) (x:=J3 y)).2.1.trans hon
  have hza:z.ar=x.ar:=by rw[<- hZ];exact(uU (ws:=(J3 y).ws) (x:=J3 y)).2.2.1.trans har
  have hzw:z.ws=[]:=by rw[<- hZ];rfl
  have e3:bB x s r=L9 z ((F7 s r).e%2) (K4 (F7 s r)):=by unfold bB;rw[e2,hfl]
  have hwr:=Ib (x:=z) (a:=(F7 s r).e%2) (s:=K4 (F7 s r)) hzo ⟨om,om⟩ (EO _);cases hm2:bR z with
  | false=>
   rw[hm2,if_pos rfl] at hwr;rw[e3,hwr] at k3;rw[e3,hwr,if_pos (show ((14:Int))≠0 by decide)];refine .lost _ hzn (by rw[<- hza];exact LQ hm2) (Ca h hr hz k3 rfl ?_);intro w hw;have hw':w∈z.ws++[((F7 s r).e%2,K4 (F7 s r))]:=hw;rw[hzw] at hw';simpa using hw'
  | true=>
   rw[hm2,if_neg dc] at hwr;rw[e3,hwr] at k3;rw[e3,hwr,if_neg (show ¬ (((0:Int))≠0) by decide)];generalize hU:dK (J3 z) ((F7 s r).e%2,K4 (F7 s r))=u at *;have hun:u.n=x.n:=by rw[<- hU];exact hzn
   have huo:u.on=true:=by rw[<- hU];exact hzo
   have hua:u.ar=x.ar:=by rw[<- hU];exact hza
   have huw:u.ws=[((F7 s r).e%2,K4 (F7 s r))]:=by rw[<- hU];show z.ws++_=_;rw[hzw];rfl
   have hus:H7 u=H7 z:=by rw[<- hU];rfl
   have e4:dN x s r=W9 u:=by unfold dN;rw[e3,hwr]
   have hfl2:W9 u=if bR u=false then (dL u,14) else (X6 (J3 u),0):=by
    unfold W9;rw[if_neg (by rw[huo];decide)]
   cases hm3:bR u with
   | false=>
    rw[hm3,if_pos rfl] at hfl2;rw[e4,hfl2] at k4;rw[e4,hfl2,if_pos (show ((14:Int))≠0 by decide)];refine .lost _ hun (by rw[<- hua];exact LQ hm3) (Ca h hr hz k4 hus ?_);intro w hw;have hw':w∈u.ws:=hw;rw[huw] at hw';simpa using hw'
   | true=>
    rw[hm3,if_neg dc] at hfl2;have k3':=FN k3 hm3;rw[e4,hfl2] at k4;rw[e4,hfl2,if_neg (show ¬ (((0:Int))≠0) by decide)];have hsf:H7 (X6 (J3 u))=aJ (H7 z) ((F7 s r).e%2) (K4 (F7 s r)):=by
     funext b
     rw[Ij k3'.mn b];unfold aF;have hw:(J3 u).ws=[((F7 s r).e%2,K4 (F7 s r))]:=huw;have hss:H7 (J3 u)=H7 z:=hus;rw[hw,hss,ND];unfold aJ;by_cases hbe:b=(F7 s r).e%2
     ·rw[if_pos hbe,hbe];simp[bL]
     ·rw[if_neg hbe];have:¬ (F7 s r).e%2=b:=fun e=>hbe e.symm;simp[bL,this]
    have hmk:MkI (aJ (H7 z) ((F7 s r).e%2) (K4 (F7 s r))) (F7 s r):=by
     have:=h.e;refine⟨om,hB,by unfold aJ;rw[if_pos rfl],s.m.e.toNat,?_,om,.inl om⟩;unfold aJ;rw[if_neg om,show ((F7 s r).e+1)%2=s.m.e%2 by omega,hz.mr.at_];exact(EN s.m).2.2.2
    have hfit:DFits (H7 (X6 (J3 u))) (s.l++y8 r) (F7 s r):=⟨BD k4,by rw[hsf];exact WM om hz.lg,by rw[hsf];exact hmk⟩;have hyn4:(X6 (J3 u)).n=x.n:=(uU (ws:=(J3 u).ws) (x:=J3 u)).1.trans hun;have hon4:(X6 (J3 u)).on=true:=(uU (ws:=(J3 u).ws) (x:=J3 u)).2.1.trans huo;have har4:(X6 (J3 u)).ar=x.ar:=(uU (ws:=(J3 u).ws) (x:=J3 u)).2.2.1.trans hua;refine .yes _ hyn4 har4 om ?_ ⟨hfit,k4,hon4,rfl,om⟩;by_cases hbig:190<=(F7 s r).e\/1000<(F7 s r).c
    ·exact .inr hbig
    ·have hbn:(F7 s r).b=s.m.b+(y8 r).length:=rfl;refine .inl ⟨k4,hon4,rfl,hfit,?_,?_,?_,rfl,?_,?_⟩
     ·show s.m.b+((y8 r).length:Int)=((s.l++y8 r).length:Int);rw[lla];omega
     ·show s.m.b+((y8 r).length:Int)<=J4 (X6 (J3 u)).n;rw[hyn4];omega
     ·rw[hyn4];exact hn
     ·show (F7 s r).e<190;omega
     ·show 0<=(F7 s r).c/\(F7 s r).c<=1000;have:=hB.c;omega

theorem Vs {all:Bs}{i p:Nat}(h:64*i<all.length)(hp:(all.length+p)%64=0)(hp2:p<64):((all++List.replicate p (0:UInt8)).drop (64*i)).take 64=M6 (all.drop (64*i)):=by
 unfold M6;rw[List.drop_append_of_le_length om,List.take_append,List.length_drop,List.take_replicate];congr 2
 omega
theorem a2n (l r:Bs):J2 l++r=(l++r).drop (64*(l.length / 64)):=by
 unfold J2;rw[List.drop_append_of_le_length om,show l.length-l.length%64=64*(l.length / 64) by omega]
theorem Vh {x:DvX}{a:Int}{all:Bs}{i:Nat}(h:64*i<all.length):gX x a (all.drop (64*i))=if (L9 x a (M6 (all.drop (64*i)))).2=0 then gX (L9 x a (M6 (all.drop (64*i)))).1 (a+1) (all.drop (64*(i+1))) else L9 x a (M6 (all.drop (64*i))):=by
 rw[Bh (by intro e;have:=congrArg List.length e;rw[List.length_drop] at this;simp at this;omega),List.drop_drop,show 64*i+64=64*(i+1) by omega]
theorem Vg {x:DvX}{a:Int}{all:Bs}{i:Nat}(h:¬ 64*i<all.length):gX x a (all.drop (64*i))=(x,0):=by
 rw[List.drop_eq_nil_of_le om];exact EM _ _ _
theorem a3W {n j:Nat}(h:j<8):(X3 n).take (j+1)=(X3 n).take j++[UInt8.ofNat (n / 256 ^ (7-j))]:=by
 have hl:j<(X3 n).length:=by rw[yP];exact h
 have e:(X3 n)[j]=UInt8.ofNat (n / 256 ^ (7-j)):=by
  have e1:(X3 n)[j]?=some (UInt8.ofNat (n / 256 ^ (7-j))):=by
   show (I9 n 8).reverse[j]?=_;rw[List.getElem?_reverse (by rw[aZ];exact h),aZ,TU om,show 8-1-j=7-j by omega];congr 1
   apply UInt8.toNat_inj.1;rw[UInt8.toNat_ofNat',UInt8.toNat_ofNat'];unfold dg;rw[Nat.mod_mod]
  rw[List.getElem?_eq_getElem hl] at e1;exact Option.some.inj e1
 rw[List.take_succ_eq_append_getElem hl,e]
theorem Db {c:Bs}{j:Nat}:∀ {k:Nat},j<=k->k<=c.length->bI c j<=bI c k
 | 0,h,_=>by rw[Nat.le_zero.1 h];exact Nat.le_refl _
 | k+1,h,hk=>by
  by_cases e:j=k+1
  ·rw[e];exact Nat.le_refl _
  ·have:=Db (c:=c) (j:=j) (k:=k) om om;rw[KT hk];omega
theorem Cn {s:Bs}(h:s.length=8):pX s=bI s 8:=by
 unfold pX bI;rw[List.take_of_length_le om]
def pW (s:Bs):Int:=if pX s<=1099511627776 then (pX s:Int) else -1
theorem Xb {s:Bs}{k:Nat}(h:s.length=8)(hk:k<=8)(hn:1099511627776<bI s k):pW s=-1:=by
 unfold pW;rw[if_neg (by rw[Cn h];have:=Db (c:=s) hk om;omega)]
end Go.Proofs.YtjhnaegpchadiaaGreatDoor

namespace Go.Proofs.YtjhnaegpchadiaaGreatDoor
open Go Go.RowKit Tw Av Go.Proofs.Tryz
instance b3l {s:Bs}:Ans prog GL 323 [str s] (s.length<=4611686018427387904) (dR (dV s)):=⟨fun hl=>by
 refine qF func323 ntmps323 fun _ hs=>?_;repeat' first|refine Zz ?_|intro _
 refine y5 (α:=Nat) (fun i=>[(0,str s),(3,dR (mV (s.take i)).1),(4,dR (mV (s.take i)).2),(5,int i)]) (fun _=>[]) (fun i=>i<=s.length) (fun i=>s.length-i) 0 ⟨rfl,rfl,rfl,rfl,trivial⟩ slr (Nat.zero_le _) ?_;intro i hi;have hq:=OG (s.take i);by_cases hi':i<s.length
 ·have hc:=s[i].toNat_lt;have hn:=XM hi';generalize mV (s.take i)=q at *;obtain⟨a,b⟩:=q;dsimp only at hq ⊢;repeat' first|refine Zz ?_|intro _
  refine MQ (c:=s[i]) ?_ (hc:=by rw[Int.toNat_natCast];exact List.getElem?_eq_getElem hi');repeat' first|refine Zz ?_|intro _
  rw[xC om om];refine BU ?_;refine MS ?_;repeat' first|refine Zz ?_|intro _
  refine BU ?_;refine MS ?_;repeat' first|refine Zz ?_|intro _
  refine o6 (i+1) ⟨rfl,?_,?_,rfl,trivial⟩ slr hi' om
  ·rw[hn];unfold uG;dsimp only;rw[show ((((a+s[i].toNat)%65521:Nat):Int))=((a:Int)+s[i].toNat)%65521 by omega];rfl
  ·rw[hn];unfold uG;dsimp only;rw[show ((((b+(a+s[i].toNat)%65521)%65521:Nat):Int))=((b:Int)+((a:Int)+s[i].toNat)%65521)%65521 by omega];rfl
 ·obtain rfl:i=s.length:=by omega
  rw[List.take_length] at hq ⊢;repeat' first|refine Zz ?_|intro _
  refine BU ?_;refine VE ?_;refine BU ?_;repeat' first|refine Zz ?_|intro _
  refine d9 ?_;unfold dV;rw[Int.natCast_add,Int.natCast_mul];rfl⟩
attribute [local irreducible] dV
instance b3m {s:Bs}:Ans prog GL 241 [str s] (s.length<=1048576) (str (y8 s)):=⟨fun hp=>by
 have hr:=OE (j6 82 s);have hl:(j6 82 s).length<=4611686018427387904:=Nat.le_trans LenLe.out dc;obtain⟨k,hk⟩:∃ k:Nat,dV (j6 82 s)=k:=⟨(dV (j6 82 s)).toNat,om⟩;refine qF func241 ntmps241 fun _ hs=>?_;repeat' first|refine Zz ?_|intro _
 rw[hk];repeat' first|refine Zz ?_|intro _
 refine d9 ?_;unfold y8;rw[hk];rfl⟩
instance b3n {s:Bs}:Ans prog GL 148 [str s] True (.tup [str (if 1048576<s.length then [] else y8 s),int (if 1048576<s.length then 11 else 0)]):=⟨fun _=>by
 refine qF func148 ntmps148 fun _ hs=>?_;repeat' first|refine Zz ?_|intro _
 refine o8 (fun h=>?_) (fun h=>?_)
 ·rw[if_pos (show 1048576<s.length by omega),if_pos (show 1048576<s.length by omega)];repeat' first|refine Zz ?_|intro _
  exact d9 rfl
 ·rw[if_neg (show ¬ 1048576<s.length by omega),if_neg (show ¬ 1048576<s.length by omega)];have hs:s.length<=1048576:=by omega
  repeat' first|refine Zz ?_|intro _
  exact d9 rfl⟩
def lS (s:Bs):Bool:=!aL s&&(!decide (s.length<(y8 (aK s)).length)&&decide (s.take (y8 (aK s)).length=y8 (aK s)))
theorem Ui {s r:Bs}(h:s.length<=1048576):lS (y8 s++r)=true/\aK (y8 s++r)=s:=by
 obtain⟨a1,a2,a3⟩:=rH (c:=82) (most:=1048576) (s:=s) (r:=p9 83 (dV (j6 82 s))++r) dc dc om om;have e:y8 s++r=j6 82 s++(p9 83 (dV (j6 82 s))++r):=by unfold y8;rw[laa]
 have hB:aL (y8 s++r)=false:=by unfold aL;rw[e,a3]
 have hT:aK (y8 s++r)=s:=by unfold aK;rw[e,a1]
 refine⟨?_,hT⟩;unfold lS;rw[hB,hT,dZ (by rw[lla];omega),dT (List.take_left' rfl)];rfl
theorem Uj:lS []=false:=by kernel_rfl
theorem Qm (s:Bs):(aK s).length<=1048576:=by
 have:=(uI 82 1048576 s false).2 dc;unfold aK;omega
attribute [local irreducible] y8 aK aL V7
instance b3k {s:Bs}:Ans prog GL 225 [str s] (s.length<=1000000000) (.tup [str (if lS s=true then aK s else []),int (if lS s=true then ((y8 (aK s)).length:Int) else 0),int (if lS s=true then 0 else 10)]):=⟨fun hl=>by
 have hT:=Qm s;have e1:j5 82 1048576 s false=V7 s:=by unfold V7;rfl
 have e2:z8 82 1048576 s false=aL s:=by unfold aL;rfl
 have e3:D8 82 1048576 s false=aK s:=by unfold aK;rfl
 refine qF func225 ntmps225 fun _ hs=>?_;repeat' first|refine Zz ?_|intro _
 rw[e1,e2,e3];cases hb:aL s
 ·repeat' first|refine Zz ?_|intro _
  by_cases h1:s.length<(y8 (aK s)).length
  ·have hk:lS s=false:=by unfold lS;rw[hb,dT h1];rfl
   rw[hk];repeat' first|refine Zz ?_|intro _
   exact d9 rfl
  ·repeat' first|refine Zz ?_|intro _
   refine U7 0 (y8 (aK s)).length ?_;rw[List.drop_zero];by_cases h2:s.take (y8 (aK s)).length=y8 (aK s)
   ·have hk:lS s=true:=by unfold lS;rw[hb,dZ h1,dT h2];rfl
    rw[hk];repeat' first|refine Zz ?_|intro _
    rw[dZ (nni h2)];repeat' first|refine Zz ?_|intro _
    exact d9 rfl
   ·have hk:lS s=false:=by unfold lS;rw[hb,dZ h1,dZ h2];rfl
    rw[hk];repeat' first|refine Zz ?_|intro _
    rw[dT h2];repeat' first|refine Zz ?_|intro _
    exact d9 rfl
 ·have hk:lS s=false:=by unfold lS;rw[hb];rfl
  rw[hk];repeat' first|refine Zz ?_|intro _
  exact d9 rfl⟩
theorem Yh {l:List Bs}{k:Nat}(h:k<l.length):J7 (l.take (k+1))=J7 (l.take k)++y8 l[k]:=by
 rw[<- List.take_append_getElem h];unfold J7;rw[List.flatMap_append];simp
theorem KS {l:List Bs}{k:Nat}:(J7 l).drop (J7 (l.take k)).length=J7 (l.drop k):=by
 have e:J7 l=J7 (l.take k)++J7 (l.drop k):=by
  unfold J7;rw[<- List.flatMap_append,List.take_append_drop]
 rw[e,List.drop_left' rfl]
theorem Da {l:List Bs}{k:Nat}(h:k<l.length):J7 (l.drop k)=y8 l[k]++J7 (l.drop (k+1)):=by
 rw[List.drop_eq_getElem_cons h];rfl
theorem a1u {l:List Bs}:Ans prog GL 126 [str (J7 l)] ((J7 l).length<=1000000000/\∀ s∈l,s.length<=1048576) (.tup [.sl 1 (l.map str) none,int ((J7 l).length:Int)]):=⟨fun hp=>by
 obtain⟨hl,hm⟩:=hp;refine qF func126 ntmps126 fun _ hs=>?_;repeat' first|refine Zz ?_|intro _
 refine aT 4 (Imp.nil (k:=1)) ?_;refine Q6 (fun ok w h=>h.full 9 1 none 0) ?_;refine y5 (α:=Nat × Value) (fun z=>[(0,str (J7 l)),(4,.sl 1 ((l.take z.1).map str) (some z.2)),(5,int (J7 (l.take z.1)).length)]) (fun z=>[.tail 9 1 z.2])
  (fun z=>z.1<=l.length) (fun z=>l.length-z.1) (0,.slice none 0 0) ⟨rfl,rfl,rfl,trivial⟩ slr (Nat.zero_le _) ?_
 rintro⟨k,v⟩ hk;dsimp only at hk ⊢;have hkl:=Cz l;have hle:(J7 (l.take k)).length<=(J7 l).length:=by
  have:=congrArg List.length (KS (l:=l) (k:=k));rw[<- List.take_append_drop k l] ;unfold J7;rw[List.flatMap_append,lla];rw[List.take_append_drop];omega
 have hal:((l.take k).map str).length=k:=by rw[llm,List.length_take];omega
 repeat' first|refine Zz ?_|intro _
 refine U7 (J7 (l.take k)).length (J7 l).length ?_;rw[List.take_length,KS];have hdl:(J7 (l.drop k)).length<=1000000000:=by rw[<- KS,List.length_drop];omega
 by_cases hkk:k<l.length
 ·obtain⟨h1,h2⟩:=Ui (s:=l[k]) (r:=J7 (l.drop (k+1))) (hm _ (List.getElem_mem hkk));rw[<- Da hkk] at h1 h2;have hn:=Yh hkk;have hns:(l.take (k+1)).map str=(l.take k).map str++[str l[k]]:=by rw[<- List.take_append_getElem hkk,List.map_append];rfl
  have hnl:=congrArg List.length hn;rw[lla] at hnl;have hle2:(J7 (l.take (k+1))).length<=1000000000:=by
   have:=congrArg List.length (Da hkk);rw[<- KS,List.length_drop,lla] at this;omega
  repeat' first|refine Zz ?_|intro _
  rw[h1,h2,if_pos rfl,if_pos rfl,if_pos rfl];repeat' first|refine Zz ?_|intro _
  refine I1 (fun v'=>?_);repeat' first|refine Zz ?_|intro _
  refine aR 5 (v:=int (((J7 (l.take k)).length:Int)+((y8 l[k]).length:Int))) (v':=int (J7 (l.take (k+1))).length) (Imp.of_eq (by rw[hnl];rfl)) ?_;refine aR 4 (v:=.sl 1 ((l.take k).map str++[str l[k]]) (some v')) (v':=.sl 1 ((l.take (k+1)).map str) (some v')) (Imp.of_eq (by rw[hns])) ?_;exact o6 (k+1,v') ⟨rfl,rfl,rfl,trivial⟩ slr hkk (by dsimp only;omega)
 ·obtain rfl:k=l.length:=by omega
  rw[List.drop_length];have hnil:J7 []=[]:=rfl;rw[hnil,List.take_length];repeat' first|refine Zz ?_|intro _
  rw[Uj,if_neg dc,if_neg dc,if_neg dc];repeat' first|refine Zz ?_|intro _
  refine E5 ?_;show Imp (.tup [.sl 1 (l.map str) (some v),int (J7 l).length]) (.tup [.sl 1 (l.map str) none,int (J7 l).length]);exact ImpR.imp⟩
end Go.Proofs.YtjhnaegpchadiaaGreatDoor
