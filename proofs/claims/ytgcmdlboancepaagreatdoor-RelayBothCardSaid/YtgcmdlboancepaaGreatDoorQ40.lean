/- . -/
import Derived.Test.YtgcmdlboancepaaGreatDoorQ39
set_option maxHeartbeats 64000000
namespace Go.Proofs.Z
open Go Go.RowKit Tw Av Go.Proofs.Tryz
section
variable {x:DvX}{a:Int}
abbrev FB (gs c:Nat)(x:DvX)(vw:Value):AV:=.agg 6 [.lit (.slice (some ⟨gs,0,none⟩) x.n.toNat c),.sl 2 (x.ws.map tC) (some vw),d9 x.on,d9 x.ar,int x.lf,int x.st]
structure R6I where
 gd:Nat
 gs:Nat
 c:Nat
 vw:Value
variable {I:R6I}
abbrev O0 (I:R6I)(x:DvX):List Av.Piece:=[.var I.gd 156 (FB I.gs I.c x I.vw),.buf I.gs 9 1 ((Y8 x).map str) I.c,.tail 294 2 I.vw]
theorem a4L {gs n c:Nat}:ImpC (.agg 6 [.lit (.slice (some ⟨gs,0,none⟩) n c),.lit (.slice none 0 0),d9 true,d9 false,int 0,int 0]) (.agg 6 [.lit (.slice (some ⟨gs,0,none⟩) n c),.sl 2 [] (some (.slice none 0 0)),d9 true,d9 false,int 0,int 0]):=(inferInstance:ImpT _ _).imp
theorem a4K {gs n c:Nat}{on ar:Bool}{lf st:Int}:ImpC (.agg 6 [.lit (.slice (some ⟨gs,0,none⟩) n c),.lit (.slice none 0 0),d9 on,d9 ar,int lf,int st]) (.agg 6 [.lit (.slice (some ⟨gs,0,none⟩) n c),.sl 2 [] (some (.slice none 0 0)),d9 on,d9 ar,int lf,int st]):=(inferInstance:ImpT _ _).imp
theorem Pp (hlf:0<=x.lf/\x.lf<=1000000):Av.Spec prog GL 279 [ptr I.gd] (O0 I x) λu m=>u=int (if fB x=false then 14 else 0)/\m=O0 I (if fB x=false then gH x else L6 x):=by
 obtain⟨n,es,ck,ws,on,ar,lf,st⟩:=x;dsimp only at hlf;have e1:Y8 (gH ⟨n,es,ck,ws,on,ar,lf,st⟩)=Y8 ⟨n,es,ck,ws,on,ar,lf,st⟩:=JF rfl rfl;have e2:Y8 (L6 ⟨n,es,ck,ws,on,ar,lf,st⟩)=Y8 ⟨n,es,ck,ws,on,ar,lf,st⟩:=JF rfl rfl;refine ze func279 ntmps279 λ_ hs=>?_;unfold fB;dsimp only;cases ar
 ·repeat' first|refine Z ?_|intro
  refine EB ?_;repeat' first|refine Z ?_|intro
  refine l9 _ ⟨rfl,?_⟩ slr;rw[if_neg sm];dsimp only[O0];rw[e2];rfl
 by_cases hl:lf=0
 ·subst hl;repeat' first|refine Z ?_|intro
  refine l9 _ ⟨rfl,?_⟩ slr;rw[if_pos dc];dsimp only[O0];rw[e1];rfl
 rw[dZ hl];repeat' first|refine Z ?_|intro
 refine EB ?_;repeat' first|refine Z ?_|intro
 refine l9 _ ⟨rfl,?_⟩ slr;rw[if_neg dc];dsimp only[O0];rw[e2];rfl
attribute [local irreducible] Y8
theorem XX (hon:x.on=true)(ha:iY x a=true)(hl:x.ws.length<=1000000)(_:x.n<=4096):Av.Spec prog GL 153 [ptr I.gd,int a] (O0 I x) λu m=>u=.tup [str (bO x a),int 0]/\m=O0 I x:=by
 have hm:(x.ws.map tC).length=x.ws.length:=llm _;have ha':0<=a/\a<x.n:=of_decide_eq_true ha;obtain⟨i,hi⟩:∃ i:Nat,a=i:=⟨a.toNat,om⟩;subst hi;have hin:i<x.n.toNat:=by omega
 have hg:((Y8 x).map str)[i]?=some (str (J4 x (i:Int))):=by rw[List.getElem?_map,JE hin];rfl
 refine ze func153 ntmps153 λ_ hs=>?_;repeat' first|refine Z ?_|intro
 rw[hon];repeat' first|refine Z ?_|intro
 refine BB i ?_;refine Ba (j:=i) (off:=0) (xs:=(Y8 x).map str) (y:=str (J4 x (i:Int))) (u:=str (J4 x (i:Int))) hg ?_;repeat' first|refine Z ?_|intro
 refine y9 (α:=Nat) (λk=>[(0,ptr I.gd),(1,int (i:Int)),(6,str ((eT (x.ws.take k) (i:Int)).getD (J4 x (i:Int)))),(7,int k)]) (λ_=>O0 I x) (λk=>k<=x.ws.length) (λk=>x.ws.length-k) 0 zc slr (Nat.zero_le _) ?_;intro k hk;by_cases hk':k<x.ws.length
 ·have hw:=Cf (a:=(i:Int)) hk';by_cases he:x.ws[k].1=(i:Int)
  ·rw[if_pos he] at hw;repeat' first|refine Z ?_|intro
   refine o9 (k+1) ⟨rfl,rfl,?_,rfl,trivial⟩ slr hk' om;rw[hw];rfl
  rw[if_neg he] at hw;repeat' first|refine Z ?_|intro
  refine o9 (k+1) ⟨rfl,rfl,?_,rfl,trivial⟩ slr hk' om;rw[hw];rfl
 obtain rfl:k=x.ws.length:=by omega
 rw[List.take_length];repeat' first|refine Z ?_|intro
 exact l9 _ ⟨rfl,rfl⟩ slr
theorem a7a (h:¬ (0<=a/\a<x.n)):iY x a=false:=dZ h
theorem Po {s:Bs}(hlf:0<=x.lf/\x.lf<=1000000)(hl:x.ws.length<=1000000)(hn:0<=x.n/\x.n<=4096):Av.Spec prog GL 187 [ptr I.gd,int a,str s] (O0 I x) λu m=>u=int (O7 x a s).2/\∃ v,m=O0 { I with vw:=v } (O7 x a s).1:=by
 have hnn:(x.n.toNat:Int)=x.n:=om
 refine ze func187 ntmps187 λ_ hs=>?_;repeat' first|refine Z ?_|intro
 unfold O7;cases hon:x.on
 ·rw[if_pos rfl];repeat' first|refine Z ?_|intro
  exact l9 (O0 I x) ⟨rfl,I.vw,rfl⟩ slr
 rw[if_neg dc];by_cases hh:0<=a/\a<x.n
 rotate_left
 ·rw[if_pos (.inl (a7a hh))];by_cases h0:a<0
  ·repeat' first|refine Z ?_|intro
   exact l9 (O0 I x) ⟨rfl,I.vw,rfl⟩ slr
  repeat' first|refine Z ?_|intro
  exact l9 (O0 I x) ⟨rfl,I.vw,rfl⟩ slr
 have hd:iY x a=true:=dT hh;by_cases h64:s.length=64
 rotate_left
 ·rw[if_pos (.inr h64)];repeat' first|refine Z ?_|intro
  exact l9 (O0 I x) ⟨rfl,I.vw,rfl⟩ slr
 rw[if_neg (by rw[hd];rintro (h|h);cases h;exact h h64)];repeat' first|refine Z ?_|intro
 refine iN [] (O0 I x) [] (Pp hlf) (λu m1 hh=>?_);obtain⟨rfl,rfl⟩:=hh;cases hm:fB x
 ·rw[if_pos rfl,if_pos rfl,if_pos rfl];have e:Y8 (gG (gH x) (a,s))=Y8 (gH x):=JF rfl rfl;have hl2:(gH x).ws.length<=1000000:=hl;have hm2:((gH x).ws.map tC).length=(gH x).ws.length:=llm _;repeat' first|refine Z ?_|intro
  refine H7 (λv'=>?_);repeat' first|refine Z ?_|intro
  refine l9 (O0 { I with vw:=v' } (gG (gH x) (a,s))) ⟨rfl,v',rfl⟩ ?_;dsimp only[O0,FB];rw[e];unfold gG;dsimp only;rw[List.map_append];exact u7
 rw[if_neg dc,if_neg dc,if_neg dc];have e:Y8 (gG (L6 x) (a,s))=Y8 (L6 x):=JF rfl rfl;have hl2:(L6 x).ws.length<=1000000:=hl;have hm2:((L6 x).ws.map tC).length=(L6 x).ws.length:=llm _;repeat' first|refine Z ?_|intro
 refine H7 (λv'=>?_);repeat' first|refine Z ?_|intro
 refine l9 (O0 { I with vw:=v' } (gG (L6 x) (a,s))) ⟨rfl,v',rfl⟩ ?_;dsimp only[O0,FB];rw[e];unfold gG;dsimp only;rw[List.map_append];exact u7
theorem Ph:∀ (l:List (Int × Bs)) (x:DvX),(l.foldl bP x).st=x.st
 | [],_=>rfl
 | w::l,x=>Ph l (bP x w)
theorem Me (x:DvX)(k:Nat):(dL x k).n=x.n/\(dL x k).on=x.on/\(dL x k).ar=x.ar/\(dL x k).lf=x.lf/\(dL x k).ws=x.ws/\(dL x k).st=x.st:=by
 have h:=yA (ws:=x.ws.take k) (x:=x);exact⟨h.1,h.2.1,h.2.2.1,h.2.2.2,Pg _ _,Ph _ _⟩
theorem a3X (h:DvOk x)(k:Nat):DvOk (dL x k):=XV h λw hw=>h.wl w (List.mem_of_mem_take hw)
theorem a0K :Y8 (aL x)=Y8 (dL x x.ws.length):=JF (by unfold aL dL;rw[List.take_length]) (by unfold aL dL;rw[List.take_length])
theorem a7c (x:DvX):(aL x).n=x.n/\(aL x).on=x.on/\(aL x).ar=x.ar/\(aL x).lf=x.lf/\(aL x).st=x.st/\(aL x).ws=[]:=by
 have h:=Me x x.ws.length;unfold dL at h;rw[List.take_length] at h;exact⟨h.1,h.2.1,h.2.2.1,h.2.2.2.1,h.2.2.2.2.2,rfl⟩
theorem Ps (hx:DvOk x)(hl:x.ws.length<=1000000)(hw:∀ w∈x.ws,0<=w.1/\w.1<x.n):Av.Spec prog GL 188 [ptr I.gd] (O0 I x) λu m=>u=int (aB x).2/\∃ v,m=O0 { I with vw:=v } (aB x).1:=by
 have hm:(x.ws.map tC).length=x.ws.length:=llm _;refine ze func188 ntmps188 λ_ hs=>?_;repeat' first|refine Z ?_|intro
 unfold aB;cases hon:x.on
 ·rw[if_pos rfl];repeat' first|refine Z ?_|intro
  exact l9 (O0 I x) ⟨rfl,I.vw,rfl⟩ slr
 rw[if_neg dc];repeat' first|refine Z ?_|intro
 refine iN [] (O0 I x) [] (Pp hx.lf) (λu m1 hh=>?_);obtain⟨rfl,rfl⟩:=hh;cases hmy:fB x
 ·rw[if_pos rfl,if_pos rfl,if_pos rfl];repeat' first|refine Z ?_|intro
  exact l9 (O0 I (gH x)) ⟨rfl,I.vw,rfl⟩ slr
 rw[if_neg dc,if_neg dc,if_neg dc];have hy:DvOk (L6 x):=LA hx hmy;have hyw:∀ w∈(L6 x).ws,0<=w.1/\w.1<(L6 x).n:=hw;have hyl:(L6 x).ws.length<=1000000:=hl;generalize L6 x=y at *;have hm:(y.ws.map tC).length=y.ws.length:=llm _;repeat' first|refine Z ?_|intro
 refine y9 (α:=Nat) (λk=>[(0,ptr I.gd),(4,int k)]) (λk=>[.var I.gd 156 (FB I.gs I.c y I.vw),.buf I.gs 9 1 ((Y8 (dL y k)).map str) I.c,.tail 294 2 I.vw]) (λk=>k<=y.ws.length) (λk=>y.ws.length-k) 0 zc slr (Nat.zero_le _) ?_;intro k hk;have hf:=(Me y k).1;by_cases hk':k<y.ws.length
 ·have hwk:=hyw _ (List.getElem_mem hk');obtain⟨j,hj⟩:∃ j:Nat,y.ws[k].1=j:=⟨y.ws[k].1.toNat,om⟩;have hs2:=a0J (x:=dL y k) (w:=y.ws[k]) (a3X hy k).mn hwk.1;rw[<- Md hk',hj,Int.toNat_natCast] at hs2;have hjl:j<y.n.toNat:=by omega
  have hg:((Y8 (dL y k)).map str)[j]?=some (str (J4 (dL y k) (j:Int))):=by rw[List.getElem?_map,JE (by rw[hf];exact hjl)];rfl
  repeat' first|refine Z ?_|intro
  rw[hj];apply zf [];exact zi;intro _ _;refine BB j ?_;exact j3 (p9 rfl rfl);apply dH [1];exact rfl;exact rfl;kernel_rfl
  ·intro _ _;refine RJ (j:=j) (off:=0) (xs:=(Y8 (dL y k)).map str) (y:=str (J4 (dL y k) (j:Int))) (y':=str y.ws[k].2) hg ?_;exact j3 (dX rfl)
  ·exact rfl
  ·exact rfl
  repeat' first|refine Z ?_|intro
  refine o9 (k+1) zc ?_ hk' om;rw[hs2,List.map_set];exact List.Sublist.refl _
 obtain rfl:k=y.ws.length:=by omega
 repeat' first|refine Z ?_|intro
 have hz:=a0K (x:=y);refine xA (g:=I.gd) a4K ?_;refine wB (λok w h=>h.full 294 2 none 0) ?_;obtain⟨f1,f2,f3,f4,f5,f6⟩:=a7c y;refine dW [.var I.gd 156 (.agg 6 [.lit (.slice (some ⟨I.gs,0,none⟩) y.n.toNat I.c),.sl 2 [] (some (.slice none 0 0)),d9 y.on,d9 y.ar,int y.lf,int y.st]),.buf I.gs 9 1 ((Y8 (dL y y.ws.length)).map str) I.c,.tail 294 2 (.slice none 0 0)] [_,_,_] ?_ (List.perm_append_comm (l₁:=[_,_]) (l₂:=[_])) ?_
 ·refine l9 _ ⟨rfl,.slice none 0 0,?_⟩ slr;dsimp only[O0,FB];rw[hz,f1,f2,f3,f4,f5,f6];rfl
 exact u7
theorem Pq {n:Int}(h1:1<=n)(h2:n<=4096):Av.Spec prog GL 26 [int n] [] λu m=>∃ I,u=ptr I.gd/\m=O0 I (U0 n):=by
 obtain⟨N,rfl⟩:∃ N:Nat,n=N:=⟨n.toNat,om⟩;refine ze func26 ntmps26 λ_ hs=>?_;repeat' first|refine Z ?_|intro
 rename_i g;refine y9 (α:=Nat × Option (Nat × Nat)) (λz=>[(0,int N),(3,ptr g),(4,int z.1)])
  (λz=>match z.2 with
   | none=>[.var g 156 (.agg 6 [.lit (.slice none 0 0),.lit (.slice none 0 0),d9 true,d9 false,int 0,int 0])]
   | some q=>[.var g 156 (.agg 6 [.lit (.slice (some ⟨q.1,0,none⟩) z.1 q.2),.lit (.slice none 0 0),d9 true,d9 false,int 0,int 0]),.buf q.1 9 1 (List.replicate z.1 (str uO)) q.2])
  (λz=>z.1<=N/\(z.2=none->z.1=0)/\∀ q,z.2=some q->0<z.1/\z.1<=q.2) (λz=>N-z.1) (0,none) zc slr ⟨Nat.zero_le _,λ_=>rfl,λq h=>by cases h⟩ ?_
 rintro⟨i,o⟩ ⟨hi,ho,hq⟩;dsimp only at hi ho hq ⊢;rcases o with _|⟨gs,c⟩
 ·obtain rfl:=ho rfl;repeat' first|refine Z ?_|intro
  apply zf [];exact zi
  ·intro _ _;refine MB ?_;exact j3 (p9 rfl rfl)
  repeat' first|refine Z ?_|intro
  apply U2 [];exact rfl;exact rfl;exact rfl;kernel_rfl;intro _ _;refine ME (λg' c' hc=>?_);refine j3 (N7 [] [.buf g' 9 1 [str (List.replicate (Int.toNat 64) 0)] c'] rfl rfl lpr rfl ?_);repeat' first|refine Z ?_|intro
  refine o9 (1,some (g',c')) zc ?_ ⟨by dsimp only;omega,(λh=>by cases h),(λq h=>by injection h with h;subst h;exact⟨Nat.one_pos,hc⟩)⟩ (by dsimp only;omega);exact u7
 obtain⟨hq1,hq2⟩:=hq _ rfl;dsimp only at hq2 ⊢;by_cases hi':i<N
 ·repeat' first|refine Z ?_|intro
  apply zf [];exact zi
  ·intro _ _;refine MB ?_;exact j3 (p9 rfl rfl)
  repeat' first|refine Z ?_|intro
  apply U2 [1];exact rfl;exact rfl;exact rfl;kernel_rfl;intro _ _;refine BF (xs:=List.replicate i (str uO)) (λg' c' hc=>?_);refine j3 (N7 [.buf g' 9 1 (List.replicate i (str uO)++[str (List.replicate (Int.toNat 64) 0)]) c'] [] rfl rfl lpr rfl ?_);repeat' first|refine Z ?_|intro
  refine o9 (i+1,some (g',c')) zc ?_ ⟨hi',(λh=>by cases h),(λq h=>by injection h with h;subst h;exact⟨Nat.succ_pos i,hc⟩)⟩ (by dsimp only;omega);dsimp only;rw[List.replicate_succ'];exact u7
 obtain rfl:i=N:=by omega
 repeat' first|refine Z ?_|intro
 refine xA (g:=g) a4L ?_;refine wB (λok w h=>h.full 294 2 none 0) ?_;refine dW [.var g 156 (.agg 6 [.lit (.slice (some ⟨gs,0,none⟩) i c),.sl 2 [] (some (.slice none 0 0)),d9 true,d9 false,int 0,int 0]),.buf gs 9 1 (List.replicate i (str uO)) c,.tail 294 2 (.slice none 0 0)] [_,_,_] ?_ (List.perm_append_comm (l₁:=[_,_]) (l₂:=[_])) slr;refine l9 _ ⟨⟨g,gs,c,.slice none 0 0⟩,rfl,?_⟩ slr;dsimp only[O0,FB];rw[a0I,List.map_replicate];rfl
end
end Go.Proofs.Z

namespace Go.Proofs.Z
open Go Go.RowKit Tw Av
theorem Rb {x y:DvX}(h:y.es=x.es):J4 y=J4 x:=by
 funext a
 unfold J4;rw[h]
theorem Qx (l:Bs):(K8 l).length<64:=by
 unfold K8;rw[List.length_drop];omega
theorem a7N {l r:Bs}{j:Nat}(hj:64*(l.length / 64+j)<l.length):(P8 ((K8 l++r).drop (64*j))).take (l.length-64*(l.length / 64+j))=(l.drop (64*(l.length / 64+j))).take 64:=by
 obtain rfl:j=0:=by omega
 have he:l.length-64*(l.length / 64+0)=(K8 l).length:=by
  unfold K8;rw[List.length_drop];omega
 have hd:l.drop (64*(l.length / 64+0))=K8 l:=by
  unfold K8;congr 1
  omega
 have hl:=Qx l;rw[he,hd,Nat.mul_zero,List.drop_zero,Ju (by rw[lla];omega) om,List.take_left,List.take_of_length_le om]
theorem a7O {l r:Bs}{j:Nat}:(P8 ((K8 l++r).drop (64*j))).take ((l++r).length-64*(l.length / 64+j))=((l++r).drop (64*(l.length / 64+j))).take 64:=by
 have hd:(l++r).drop (64*(l.length / 64+j))=(K8 l++r).drop (64*j):=by
  have h1:(l++r).drop (64*(l.length / 64))=K8 l++r:=by
   rw[List.drop_append_of_le_length om];unfold K8;congr 2
   omega
  rw[show 64*(l.length / 64+j)=64*(l.length / 64)+64*j by omega,<- List.drop_drop,h1]
 rw[hd];have hl:((K8 l++r).drop (64*j)).length=(l++r).length-64*(l.length / 64+j):=by
  rw[<- hd,List.length_drop]
 rw[<- hl,a2z]
section
variable {x:DvX} {s:SlX} {r:Bs}
structure LogOk (x:DvX)(s:SlX):Prop where
 dv:DvOk x
 on:x.on=true
 ws:x.ws=[]
 fit:DFits (J4 x) s.l s.m
 b:s.m.b=s.l.length
 rm:s.m.b<=M3 x.n
 n:3<=x.n
 br:s.br=false
 e:s.m.e<190
 c:0<=s.m.c/\s.m.c<=1000
def Old (y:DvX)(s s':SlX):Prop:=DvOk y/\∀ k torn cut,DFits (J4 (AP y k torn cut)) s.l s.m\/DFits (J4 (AP y k torn cut)) s'.l s'.m
def CB (s:SlX)(r:Bs):SlX:=⟨I5 s r,s.l++D9 r,false⟩
theorem Kc {y:DvX}(h:LogOk x s)(hy:DvOk y)(he:y.es=x.es)(hw:∀ w∈y.ws,w∈uK (K8 s.l++D9 r).length (2+s.m.b / 64) (K8 s.l++D9 r)):Old y s (CB s r):=by
 refine⟨hy,λk torn cut=>.inl ?_⟩;refine Rk (λf=>DFits f s.l s.m) hy ?_ ?_
 ·intro w hm f c hf hP;obtain⟨j,rfl,hj⟩:=Td (hw w hm);have ha:(2+s.m.b / 64+(j:Int))=2+((s.l.length / 64+j:Nat):Int):=by
   rw[h.b];omega
  dsimp only;rw[ha];exact⟨Ct hf (OT _),a0b hf hP.lg (OT _) a7N,Yx om hP.mr⟩
 rw[Rb he];exact h.fit
theorem Kh (h:LogOk x s)(hr:(D9 r).length<=M3 x.n-s.m.b):MkB (I5 s r):=by
 have h1:=h.fit.mr.e;have h2:=h.b;have h3:=h.c;have h4:=h.e;have h5:=h.dv.n;have h6:M3 x.n=(x.n-2)*64:=rfl;exact⟨by unfold I5;dsimp only;omega,by unfold I5;dsimp only;omega,by unfold I5;dsimp only;omega⟩
theorem Kb {z y:DvX}(h:LogOk x s)(hr:(D9 r).length<=M3 x.n-s.m.b)(hz:DFits (J4 z) (s.l++D9 r) s.m)(hy:DvOk y)(he:J4 y=J4 z)(hw:∀ w∈y.ws,w=((I5 s r).e%2,M8 (I5 s r))):Old y s (CB s r):=by
 refine⟨hy,λk torn cut=>?_⟩;have hB:=Kh h hr;have hE:(I5 s r).e=s.m.e+1:=rfl;have hpre:∀ {f:Int->Bs},LgI f (s.l++D9 r)->LgI f s.l:=by
  intro f hf j hj;have h1:=hf j (by rw[lla];omega);have h2:=congrArg (List.take (s.l.length-64*j)) h1;rw[List.take_take,lla,Nat.min_eq_left om,List.take_take,List.drop_append_of_le_length om] at h2;rw[h2];by_cases hh:s.l.length-64*j<=64
  ·rw[Nat.min_eq_left hh,List.take_append_of_le_length (by rw[List.length_drop];omega),List.take_of_length_le (by rw[List.length_drop];omega),List.take_of_length_le (by rw[List.length_drop];omega)]
  rw[Nat.min_eq_right om,List.take_append_of_le_length (by rw[List.length_drop];omega)]
 have key:(∀ a,(J4 (AP y k torn cut) a).length=64)/\LgI (J4 (AP y k torn cut)) (s.l++D9 r)/\(MkI (J4 (AP y k torn cut)) s.m\/MkI (J4 (AP y k torn cut)) (I5 s r)):=by
  refine Rk (λf=>(∀ a,(f a).length=64)/\LgI f (s.l++D9 r)/\(MkI f s.m\/MkI f (I5 s r))) hy ?_ ?_
  ·intro w hm f c hf hP;obtain rfl:=hw w hm;dsimp only;refine⟨Ct hf (KA _),Cs om hP.2.1,?_⟩;rcases hP.2.2 with hm|hm
   ·exact a0a hf hm hB hE (by have:=h.e;omega)
   right
   have e1:tn c (M8 (I5 s r)) (f ((I5 s r).e%2))=f ((I5 s r).e%2):=by
    rw[hm.at_];unfold tn;exact List.take_append_drop _ _
   have e2:bW f ((I5 s r).e%2) (f ((I5 s r).e%2))=f:=by
    funext b
    unfold bW;split
    ·rename_i hb;rw[hb]
    rfl
   rw[e1,e2];exact hm
  rw[he];exact⟨hz.len,hz.lg,.inl hz.mr⟩
 rcases key.2.2 with hm|hm
 ·exact .inl ⟨key.1,hpre key.2.1,hm⟩
 exact .inr ⟨key.1,key.2.1,hm⟩
end

theorem a6p {x:DvX}{s:SlX}{r:Bs}(h:LogOk x s){y:DvX}(hn:MpN y.es)(he:y.es=x.es)(hw:y.ws=uK (K8 s.l++D9 r).length (2+s.m.b / 64) (K8 s.l++D9 r))(hy:DvOk y):DFits (J4 (aL y)) (s.l++D9 r) s.m:=by
 have hb:=h.b;have hsf:∀ a,J4 (aL y) a=if 2+s.m.b / 64<=a/\64*(a-(2+s.m.b / 64))<(K8 s.l++D9 r).length then P8 ((K8 s.l++D9 r).drop (64*(a-(2+s.m.b / 64)).toNat)) else J4 x a:=by
  intro a;rw[Ri hn a];unfold bO;rw[hw,Te a (Nat.le_refl _),Rb he];split <;> rfl
 have hlow:∀ a,a<2->J4 (aL y) a=J4 x a:=by
  intro a ha;rw[hsf,if_neg om]
 have hmr:=h.fit.mr;refine⟨GK (Rj hy),?_,hmr.e,hmr.b,?_,?_⟩
 ·intro j hj;rw[hsf];have hel:(K8 s.l).length=s.l.length%64:=by
   unfold K8;rw[List.length_drop];omega
  have hal:(K8 s.l++D9 r).length=s.l.length%64+(D9 r).length:=by rw[lla,hel]
  rw[lla] at hj ⊢;by_cases h1:s.l.length / 64<=j
  ·obtain⟨i,rfl⟩:∃ i,j=s.l.length / 64+i:=⟨j-s.l.length / 64,om⟩;rw[if_pos om];have e1:(2+((s.l.length / 64+i:Nat):Int)-(2+s.m.b / 64)).toNat=i:=by omega
   rw[e1];have:=a7O (l:=s.l) (r:=D9 r) (j:=i);rw[lla] at this;exact this
  rw[if_neg om];have h2:=h.fit.lg j om;rw[List.take_of_length_le (by rw[h.fit.len];omega)] at h2 ⊢;rw[h2,List.drop_append_of_le_length om,List.take_append_of_le_length (by rw[List.length_drop];omega)]
 ·rw[hlow _ om];exact hmr.at_
 rw[hlow _ om];exact hmr.oth
inductive CmS (x:DvX)(s:SlX)(r:Bs):DvX × SlX × Int->Prop where
 | no (e:Int) (he:e=11/\1048576<r.length\/e=15/\M3 x.n-s.m.b<(D9 r).length):CmS x s r (x,s,e)
 | lost (y:DvX) (hy:y.n=x.n) (ha:x.ar=true) (h:Old y s (CB s r)):CmS x s r (y,{ s with br:=true },14)
 | yes (y:DvX) (hy:y.n=x.n) (ha:y.ar=x.ar) (hr:r.length<=1048576) (h:LogOk y (CB s r)\/(190<=(I5 s r).e\/1000<(I5 s r).c)) (hf:DFits (J4 y) (s.l++D9 r) (I5 s r)/\DvOk y/\y.on=true/\y.ws=[]/\s.m.b+(D9 r).length<=M3 x.n):CmS x s r (y,CB s r,0)
theorem a7H {x:DvX}{s:SlX}{r:Bs}(h:LogOk x s):CmS x s r (lN x s r):=by
 unfold lN;rw[if_neg (by rw[h.br];decide)];by_cases h1:1048576<r.length
 ·rw[if_pos h1];exact .no 11 (.inl ⟨rfl,h1⟩)
 rw[if_neg h1];by_cases h2:M3 x.n-s.m.b<(D9 r).length
 ·rw[if_pos h2];exact .no 15 (.inr ⟨rfl,h2⟩)
 rw[if_neg h2];have hr:((D9 r).length:Int)<=M3 x.n-s.m.b:=by omega
 have hb:=h.b;have hn:=h.n;have hrd:M3 x.n=(x.n-2)*64:=rfl;have hel:=Qx s.l;have hal:(K8 s.l++D9 r).length=(K8 s.l).length+(D9 r).length:=lla;have hle:(K8 s.l).length=s.l.length%64:=by
  unfold K8;rw[List.length_drop];omega
 have hE0:=h.fit.mr.e;have hB:=Kh h hr;have hE:(I5 s r).e=s.m.e+1:=rfl;have k1:DvOk (bQ x s r).1:=Jd h.dv;have k2:DvOk (dU x s r).1:=QQ k1;have k3:DvOk (dR x s r).1:=CU k2;have k4:DvOk (gJ x s r).1:=QQ k3;rcases Ja (f:=(K8 s.l++D9 r).length) (x:=x) (a:=2+s.m.b / 64) (s:=K8 s.l++D9 r) (Nat.le_refl _) h.on om om with⟨y,hp,hon,hes,hyn,har,hws⟩|⟨y,p,hp,har,hon,hes,hyn,hws,hmem⟩
 rotate_left
 ·have e1:bQ x s r=(y,14):=hp;rw[e1] at k1;rw[e1,if_pos (show ((14:Int))≠0 by decide)];rw[h.ws,List.nil_append] at hws;exact .lost y hyn har (Kc h k1 hes (λw hw=>hmem w (hws ▸ hw)))
 have e1:bQ x s r=(y,0):=hp;rw[h.ws,List.nil_append] at hws;rw[e1] at k1;rw[e1,if_neg (show ¬ (((0:Int))≠0) by decide)];have e2:dU x s r=aB y:=by unfold dU;rw[e1]
 have hfl:aB y=if fB y=false then (gH y,14) else (aL (L6 y),0):=by
  unfold aB;rw[if_neg (by rw[hon];decide)]
 cases hm:fB y with
 | false=>
  rw[hm,if_pos rfl] at hfl;rw[e2,hfl,if_pos (show ((14:Int))≠0 by decide)];exact .lost _ hyn (by rw[<- har];exact QP hm) (Kc h (YL k1) hes (λw hw=>hws ▸ hw))
 | true=>
  rw[hm,if_neg dc] at hfl;have k1':=LA k1 hm;have hz:DFits (J4 (aL (L6 y))) (s.l++D9 r) s.m:=a6p h k1'.mn hes hws k1';rw[e2,hfl] at k2;rw[e2,hfl,if_neg (show ¬ (((0:Int))≠0) by decide)];generalize hZ:aL (L6 y)=z at *;have hzn:z.n=x.n:=by rw[<- hZ];exact(yA (ws:=(L6 y).ws) (x:=L6 y)).1.trans hyn
  have hzo:z.on=true:=by rw[<- hZ];exact(yA (ws:=(L6 y).ws) (x:=L6 y)).2.1.trans hon
  have hza:z.ar=x.ar:=by rw[<- hZ];exact(yA (ws:=(L6 y).ws) (x:=L6 y)).2.2.1.trans har
  have hzw:z.ws=[]:=by rw[<- hZ];rfl
  have e3:dR x s r=O7 z ((I5 s r).e%2) (M8 (I5 s r)):=by unfold dR;rw[e2,hfl]
  have hwr:=Ra (x:=z) (a:=(I5 s r).e%2) (s:=M8 (I5 s r)) hzo ⟨om,om⟩ (KA _);cases hm2:fB z with
  | false=>
   rw[hm2,if_pos rfl] at hwr;rw[e3,hwr] at k3;rw[e3,hwr,if_pos (show ((14:Int))≠0 by decide)];refine .lost _ hzn (by rw[<- hza];exact QP hm2) (Kb h hr hz k3 rfl ?_);intro w hw;have hw':w∈z.ws++[((I5 s r).e%2,M8 (I5 s r))]:=hw;rw[hzw] at hw';simpa using hw'
  | true=>
   rw[hm2,if_neg dc] at hwr;rw[e3,hwr] at k3;rw[e3,hwr,if_neg (show ¬ (((0:Int))≠0) by decide)];generalize hU:gG (L6 z) ((I5 s r).e%2,M8 (I5 s r))=u at *;have hun:u.n=x.n:=by rw[<- hU];exact hzn
   have huo:u.on=true:=by rw[<- hU];exact hzo
   have hua:u.ar=x.ar:=by rw[<- hU];exact hza
   have huw:u.ws=[((I5 s r).e%2,M8 (I5 s r))]:=by rw[<- hU];show z.ws++_=_;rw[hzw];rfl
   have hus:J4 u=J4 z:=by rw[<- hU];rfl
   have e4:gJ x s r=aB u:=by unfold gJ;rw[e3,hwr]
   have hfl2:aB u=if fB u=false then (gH u,14) else (aL (L6 u),0):=by
    unfold aB;rw[if_neg (by rw[huo];decide)]
   cases hm3:fB u with
   | false=>
    rw[hm3,if_pos rfl] at hfl2;rw[e4,hfl2] at k4;rw[e4,hfl2,if_pos (show ((14:Int))≠0 by decide)];refine .lost _ hun (by rw[<- hua];exact QP hm3) (Kb h hr hz k4 hus ?_);intro w hw;have hw':w∈u.ws:=hw;rw[huw] at hw';simpa using hw'
   | true=>
    rw[hm3,if_neg dc] at hfl2;have k3':=LA k3 hm3;rw[e4,hfl2] at k4;rw[e4,hfl2,if_neg (show ¬ (((0:Int))≠0) by decide)];have hsf:J4 (aL (L6 u))=bW (J4 z) ((I5 s r).e%2) (M8 (I5 s r)):=by
     funext b
     rw[Ri k3'.mn b];unfold bO;have hw:(L6 u).ws=[((I5 s r).e%2,M8 (I5 s r))]:=huw;have hss:J4 (L6 u)=J4 z:=hus;rw[hw,hss,TA];unfold bW;by_cases hbe:b=(I5 s r).e%2
     ·rw[if_pos hbe,hbe];simp[eT]
     rw[if_neg hbe];have:¬ (I5 s r).e%2=b:=λe=>hbe e.symm;simp[eT,this]
    have hmk:MkI (bW (J4 z) ((I5 s r).e%2) (M8 (I5 s r))) (I5 s r):=by
     have:=h.e;refine⟨om,hB,by unfold bW;rw[if_pos rfl],s.m.e.toNat,?_,om,.inl om⟩;unfold bW;rw[if_neg om,show ((I5 s r).e+1)%2=s.m.e%2 by omega,hz.mr.at_];exact(JZ s.m).2.2.2
    have hfit:DFits (J4 (aL (L6 u))) (s.l++D9 r) (I5 s r):=⟨GK k4,by rw[hsf];exact Cs om hz.lg,by rw[hsf];exact hmk⟩;have hyn4:(aL (L6 u)).n=x.n:=(yA (ws:=(L6 u).ws) (x:=L6 u)).1.trans hun;have hon4:(aL (L6 u)).on=true:=(yA (ws:=(L6 u).ws) (x:=L6 u)).2.1.trans huo;have har4:(aL (L6 u)).ar=x.ar:=(yA (ws:=(L6 u).ws) (x:=L6 u)).2.2.1.trans hua;refine .yes _ hyn4 har4 om ?_ ⟨hfit,k4,hon4,rfl,om⟩;by_cases hbig:190<=(I5 s r).e\/1000<(I5 s r).c
    ·exact .inr hbig
    have hbn:(I5 s r).b=s.m.b+(D9 r).length:=rfl;refine .inl ⟨k4,hon4,rfl,hfit,?_,?_,?_,rfl,?_,?_⟩
    ·show s.m.b+((D9 r).length:Int)=((s.l++D9 r).length:Int);rw[lla];omega
    ·show s.m.b+((D9 r).length:Int)<=M3 (aL (L6 u)).n;rw[hyn4];omega
    ·rw[hyn4];exact hn
    ·show (I5 s r).e<190;omega
    show 0<=(I5 s r).c/\(I5 s r).c<=1000;have:=hB.c;omega

section
variable {i:Nat}{all:Bs}
theorem a2y {p:Nat}(h:64*i<all.length)(hp:(all.length+p)%64=0)(hp2:p<64):((all++List.replicate p (0:UInt8)).drop (64*i)).take 64=P8 (all.drop (64*i)):=by
 unfold P8;rw[List.drop_append_of_le_length om,List.take_append,List.length_drop,List.take_replicate];congr 2
 omega
theorem a6U (l r:Bs):K8 l++r=(l++r).drop (64*(l.length / 64)):=by
 unfold K8;rw[List.drop_append_of_le_length om,show l.length-l.length%64=64*(l.length / 64) by omega]
theorem a2o {x:DvX}{a:Int}(h:64*i<all.length):jU x a (all.drop (64*i))=if (O7 x a (P8 (all.drop (64*i)))).2=0 then jU (O7 x a (P8 (all.drop (64*i)))).1 (a+1) (all.drop (64*(i+1))) else O7 x a (P8 (all.drop (64*i))):=by
 rw[Jc (by intro e;have:=congrArg List.length e;rw[List.length_drop] at this;simp at this;omega),List.drop_drop,show 64*i+64=64*(i+1) by omega]
theorem a2n {x:DvX}{a:Int}(h:¬ 64*i<all.length):jU x a (all.drop (64*i))=(x,0):=by
 rw[List.drop_eq_nil_of_le om];exact JX _ _ _
theorem a8q {n j:Nat}(h:j<8):(aF n).take (j+1)=(aF n).take j++[UInt8.ofNat (n / 256 ^ (7-j))]:=by
 have hl:j<(aF n).length:=by rw[DU];exact h
 have e:(aF n)[j]=UInt8.ofNat (n / 256 ^ (7-j)):=by
  have e1:(aF n)[j]?=some (UInt8.ofNat (n / 256 ^ (7-j))):=by
   show (K7 n 8).reverse[j]?=_;rw[List.getElem?_reverse (by rw[dP];exact h),dP,YZ om,show 8-1-j=7-j by omega];congr 1
   apply UInt8.toNat_inj.1;rw[UInt8.toNat_ofNat',UInt8.toNat_ofNat'];unfold dg;rw[Nat.mod_mod]
  rw[List.getElem?_eq_getElem hl] at e1;exact Option.some.inj e1
 rw[List.take_succ_eq_append_getElem hl,e]
theorem Lm {c:Bs}{j:Nat}:∀ {k:Nat},j<=k->k<=c.length->eH c j<=eH c k
 | 0,h,_=>by rw[Nat.le_zero.1 h];exact Nat.le_refl _
 | k+1,h,hk=>by
  by_cases e:j=k+1
  ·rw[e];exact Nat.le_refl _
  have:=Lm (c:=c) (j:=j) (k:=k) om om;rw[PU hk];omega
theorem Ko {s:Bs}(h:s.length=8):uC s=eH s 8:=by
 unfold uC eH;rw[List.take_of_length_le om]
def uB (s:Bs):Int:=if uC s<=1099511627776 then (uC s:Int) else -1
theorem a2Y {s:Bs}{k:Nat}(h:s.length=8)(hk:k<=8)(hn:1099511627776<eH s k):uB s=-1:=by
 unfold uB;rw[if_neg (by rw[Ko h];have:=Lm (c:=s) hk om;omega)]
end
end Go.Proofs.Z

namespace Go.Proofs.Z
open Go Go.RowKit Tw Av Go.Proofs.Tryz
section
variable {s:Bs}{k:Nat}{l:List Bs}
instance b8o :Ans prog GL 353 [str s] (s.length<=4611686018427387904) (gW (iA s)):=⟨λhl=>by
 refine ze func353 ntmps353 λ_ hs=>?_;repeat' first|refine Z ?_|intro
 refine y9 (α:=Nat) (λi=>[(0,str s),(3,gW (qK (s.take i)).1),(4,gW (qK (s.take i)).2),(5,int i)]) (λ_=>[]) (λi=>i<=s.length) (λi=>s.length-i) 0 zc slr (Nat.zero_le _) ?_;intro i hi;have hq:=UD (s.take i);by_cases hi':i<s.length
 ·have hc:=s[i].toNat_lt;have hn:=Dz hi';generalize qK (s.take i)=q at *;obtain⟨a,b⟩:=q;dsimp only at hq ⊢;repeat' first|refine Z ?_|intro
  refine RP (c:=s[i]) ?_ (hc:=by rw[Int.toNat_natCast];exact List.getElem?_eq_getElem hi');repeat' first|refine Z ?_|intro
  rw[BJ om om];refine IE ?_;refine RQ ?_;repeat' first|refine Z ?_|intro
  refine IE ?_;refine RQ ?_;repeat' first|refine Z ?_|intro
  refine o9 (i+1) ⟨rfl,?_,?_,rfl,trivial⟩ slr hi' om
  ·rw[hn];unfold xG;dsimp only;rw[show ((((a+s[i].toNat)%65521:Nat):Int))=((a:Int)+s[i].toNat)%65521 by omega];rfl
  rw[hn];unfold xG;dsimp only;rw[show ((((b+(a+s[i].toNat)%65521)%65521:Nat):Int))=((b:Int)+((a:Int)+s[i].toNat)%65521)%65521 by omega];rfl
 obtain rfl:i=s.length:=by omega
 rw[List.take_length] at hq ⊢;repeat' first|refine Z ?_|intro
 refine IE ?_;refine RN ?_;refine IE ?_;repeat' first|refine Z ?_|intro
 refine j6 ?_;unfold iA;rw[Int.natCast_add,Int.natCast_mul];rfl⟩
attribute [local irreducible] iA
instance b8p :Ans prog GL 278 [str s] (s.length<=1048576) (str (D9 s)):=⟨λhp=>by
 have hr:=UC (r9 82 s);have hl:(r9 82 s).length<=4611686018427387904:=Nat.le_trans LenLe.out dc;obtain⟨k,hk⟩:∃ k:Nat,iA (r9 82 s)=k:=⟨(iA (r9 82 s)).toNat,om⟩;refine ze func278 ntmps278 λ_ hs=>?_;repeat' first|refine Z ?_|intro
 rw[hk];repeat' first|refine Z ?_|intro
 refine j6 ?_;unfold D9;rw[hk];rfl⟩
instance b8q :Ans prog GL 185 [str s] True (.tup [str (if 1048576<s.length then [] else D9 s),int (if 1048576<s.length then 11 else 0)]):=⟨λ_=>by
 refine ze func185 ntmps185 λ_ hs=>?_;repeat' first|refine Z ?_|intro
 refine w9 (λh=>?_) (λh=>?_)
 ·rw[if_pos (show 1048576<s.length by omega),if_pos (show 1048576<s.length by omega)];exact j4
 rw[if_neg (show ¬ 1048576<s.length by omega),if_neg (show ¬ 1048576<s.length by omega)];have hs:s.length<=1048576:=by omega
 exact j4⟩
def oM (s:Bs):Bool:=!bZ s&&(!decide (s.length<(D9 (bY s)).length)&&decide (s.take (D9 (bY s)).length=D9 (bY s)))
theorem a1T {r:Bs}(h:s.length<=1048576):oM (D9 s++r)=true/\bY (D9 s++r)=s:=by
 obtain⟨a1,a2,a3⟩:=vF (c:=82) (most:=1048576) (s:=s) (r:=D7 83 (iA (r9 82 s))++r) dc dc om om;have e:D9 s++r=r9 82 s++(D7 83 (iA (r9 82 s))++r):=by unfold D9;rw[laa]
 have hB:bZ (D9 s++r)=false:=by unfold bZ;rw[e,a3]
 have hT:bY (D9 s++r)=s:=by unfold bY;rw[e,a1]
 refine⟨?_,hT⟩;unfold oM;rw[hB,hT,dZ (by rw[lla];omega),dT (List.take_left' rfl)];rfl
theorem a1U:oM []=false:=by kernel_rfl
theorem Zt (s:Bs):(bY s).length<=1048576:=by
 have:=(xJ 82 1048576 s false).2 dc;unfold bY;omega
attribute [local irreducible] D9 bY bZ Z7
instance b8n :Ans prog GL 257 [str s] (s.length<=1000000000) (.tup [str (if oM s=true then bY s else []),int (if oM s=true then ((D9 (bY s)).length:Int) else 0),int (if oM s=true then 0 else 10)]):=⟨λhl=>by
 have hT:=Zt s;have e1:o8 82 1048576 s false=Z7 s:=by unfold Z7;rfl
 have e2:F4 82 1048576 s false=bZ s:=by unfold bZ;rfl
 have e3:G9 82 1048576 s false=bY s:=by unfold bY;rfl
 refine ze func257 ntmps257 λ_ hs=>?_;repeat' first|refine Z ?_|intro
 rw[e1,e2,e3];cases hb:bZ s
 ·repeat' first|refine Z ?_|intro
  by_cases h1:s.length<(D9 (bY s)).length
  ·have hk:oM s=false:=by unfold oM;rw[hb,dT h1];rfl
   rw[hk];exact j4
  repeat' first|refine Z ?_|intro
  refine Z4 0 (D9 (bY s)).length ?_;rw[List.drop_zero];by_cases h2:s.take (D9 (bY s)).length=D9 (bY s)
  ·have hk:oM s=true:=by unfold oM;rw[hb,dZ h1,dT h2];rfl
   rw[hk];repeat' first|refine Z ?_|intro
   rw[dZ (nni h2)];exact j4
  have hk:oM s=false:=by unfold oM;rw[hb,dZ h1,dZ h2];rfl
  rw[hk];repeat' first|refine Z ?_|intro
  rw[dT h2];exact j4
 have hk:oM s=false:=by unfold oM;rw[hb];rfl
 rw[hk];exact j4⟩
theorem a3I (h:k<l.length):M4 (l.take (k+1))=M4 (l.take k)++D9 l[k]:=by
 rw[<- List.take_append_getElem h];unfold M4;rw[List.flatMap_append];simp
theorem PS :(M4 l).drop (M4 (l.take k)).length=M4 (l.drop k):=by
 have e:M4 l=M4 (l.take k)++M4 (l.drop k):=by
  unfold M4;rw[<- List.flatMap_append,List.take_append_drop]
 rw[e,List.drop_left' rfl]
theorem Lj (h:k<l.length):M4 (l.drop k)=D9 l[k]++M4 (l.drop (k+1)):=by
 rw[List.drop_eq_getElem_cons h];rfl
theorem a5P :Ans prog GL 155 [str (M4 l)] ((M4 l).length<=1000000000/\∀ s∈l,s.length<=1048576) (.tup [.sl 1 (l.map str) none,int ((M4 l).length:Int)]):=⟨λhp=>by
 obtain⟨hl,hm⟩:=hp;refine ze func155 ntmps155 λ_ hs=>?_;repeat' first|refine Z ?_|intro
 refine Y4 4 (Imp.nil (k:=1)) ?_;refine P6 (λok w h=>h.full 9 1 none 0) ?_;refine y9 (α:=Nat × Value) (λz=>[(0,str (M4 l)),(4,.sl 1 ((l.take z.1).map str) (some z.2)),(5,int (M4 (l.take z.1)).length)]) (λz=>[.tail 9 1 z.2])
  (λz=>z.1<=l.length) (λz=>l.length-z.1) (0,.slice none 0 0) zc slr (Nat.zero_le _) ?_
 rintro⟨k,v⟩ hk;dsimp only at hk ⊢;have hkl:=Li l;have hle:(M4 (l.take k)).length<=(M4 l).length:=by
  have:=congrArg List.length (PS (l:=l) (k:=k));rw[<- List.take_append_drop k l] ;unfold M4;rw[List.flatMap_append,lla];rw[List.take_append_drop];omega
 have hal:((l.take k).map str).length=k:=by rw[llm,List.length_take];omega
 repeat' first|refine Z ?_|intro
 refine Z4 (M4 (l.take k)).length (M4 l).length ?_;rw[List.take_length,PS];have hdl:(M4 (l.drop k)).length<=1000000000:=by rw[<- PS,List.length_drop];omega
 by_cases hkk:k<l.length
 ·obtain⟨h1,h2⟩:=a1T (s:=l[k]) (r:=M4 (l.drop (k+1))) (hm _ (List.getElem_mem hkk));rw[<- Lj hkk] at h1 h2;have hn:=a3I hkk;have hns:(l.take (k+1)).map str=(l.take k).map str++[str l[k]]:=by rw[<- List.take_append_getElem hkk,List.map_append];rfl
  have hnl:=congrArg List.length hn;rw[lla] at hnl;have hle2:(M4 (l.take (k+1))).length<=1000000000:=by
   have:=congrArg List.length (Lj hkk);rw[<- PS,List.length_drop,lla] at this;omega
  repeat' first|refine Z ?_|intro
  rw[h1,h2,if_pos rfl,if_pos rfl,if_pos rfl];repeat' first|refine Z ?_|intro
  refine H7 (λv'=>?_);repeat' first|refine Z ?_|intro
  refine X4 5 (v:=int (((M4 (l.take k)).length:Int)+((D9 l[k]).length:Int))) (v':=int (M4 (l.take (k+1))).length) (Imp.of_eq (by rw[hnl];rfl)) ?_;refine X4 4 (v:=.sl 1 ((l.take k).map str++[str l[k]]) (some v')) (v':=.sl 1 ((l.take (k+1)).map str) (some v')) (Imp.of_eq (by rw[hns])) ?_;exact o9 (k+1,v') zc slr hkk (by dsimp only;omega)
 obtain rfl:k=l.length:=by omega
 rw[List.drop_length];have hnil:M4 []=[]:=rfl;rw[hnil,List.take_length];repeat' first|refine Z ?_|intro
 rw[a1U,if_neg dc,if_neg dc,if_neg dc];repeat' first|refine Z ?_|intro
 refine F9 ?_;show Imp (.tup [.sl 1 (l.map str) (some v),int (M4 l).length]) (.tup [.sl 1 (l.map str) none,int (M4 l).length]);exact ImpR.imp⟩
end

instance b8m {n:Int}:Ans prog GL 280 [int n] (0<=n/\n<=9223372036854775807) (str (aF n.toNat)):=⟨λhp=>by
 obtain⟨N,rfl⟩:∃ N:Nat,n=N:=⟨n.toNat,om⟩;rw[Int.toNat_natCast];refine ze func280 ntmps280 λ_ hs=>?_;repeat' first|refine Z ?_|intro
 refine y9 (α:=Nat) (λj=>[(0,int N),(3,str ((aF N).take j)),(4,int (7-(j:Int)))]) (λ_=>[]) (λj=>j<=8) (λj=>8-j) 0 zc slr (Nat.zero_le _) ?_;intro j hj;by_cases hj':j<8
 ·have hst:=a8q (n:=N) hj';repeat' first|refine Z ?_|intro
  refine DX (k:=.i64) (n:=8*(7-j)) ?_ (hb:=by show (8:Int)*(7-(j:Int))=((8*(7-j):Nat):Int);omega) (hn:=Nat.ble_eq_true_of_le (show 8*(7-j)<=64 by omega));rw[OO,<- Int.natCast_ediv];refine yN ?_;rw[MX];repeat' first|refine Z ?_|intro
  refine Vy (l:=[UInt8.ofNat (N / 256 ^ (7-j))]) ?_ (hb:=(inferInstance:Byts ([UInt8.ofNat (N / 256 ^ (7-j))].map λc=>AV.lit (y5 c)) _));repeat' first|refine Z ?_|intro
  refine o9 (j+1) ⟨rfl,?_,?_,trivial⟩ slr hj' om
  ·rw[hst];rfl
  show some (int (7-(j:Int)-1))=some (int (7-((j+1:Nat):Int)));rw[show 7-(j:Int)-1=7-((j+1:Nat):Int) by omega]
 obtain rfl:j=8:=by omega
 rw[List.take_of_length_le (Nat.le_of_eq (DU N))];exact j4⟩
instance d0G {n:Nat}:LenLe (aF n) 8:=⟨by rw[DU];exact Nat.le_refl _⟩
instance b5j {n:Nat}{c:UInt8}:LenLe (List.replicate n c) n:=⟨by rw[List.length_replicate];exact Nat.le_refl _⟩
instance b8j {m:MkX}:Ans prog GL 189 [fU m] (MkB m) (str (M8 m)):=⟨λhm=>by
 have he:=hm.e;have hb:=hm.b;have hc:=hm.c;refine ze func189 ntmps189 λ_ hs=>?_;repeat' first|refine Z ?_|intro
 apply zf [];exact zi
 ·intro _ _;refine MB ?_;exact j3 (p9 rfl rfl)
 exact j4⟩
instance b8k {s:Bs}:Ans prog GL 341 [str s] (s.length=8) (int (uB s)):=⟨λh8=>by
 refine ze func341 ntmps341 λ_ hs=>?_;repeat' first|refine Z ?_|intro
 refine y9 (α:=Nat) (λk=>[(0,str s),(3,int (eH s k:Nat)),(4,int k)]) (λ_=>[]) (λk=>k<=8/\eH s k<=1099511627776) (λk=>8-k) 0 zc slr ⟨Nat.zero_le _,Nat.zero_le _⟩ ?_;rintro k ⟨hk,hN⟩;by_cases hk':k<8
 ·have hkc:k<s.length:=om
  have hst:=PU hkc;have hby:=s[k].toNat_lt;repeat' first|refine Z ?_|intro
  refine RP (c:=s[k]) ?_ (hc:=by rw[Int.toNat_natCast];exact List.getElem?_eq_getElem hkc);by_cases hgt:1099511627776<eH s (k+1)
  ·rw[a2Y h8 hk' hgt];exact j4
  repeat' first|refine Z ?_|intro
  refine o9 (k+1) ⟨rfl,?_,rfl,trivial⟩ slr ⟨hk',om⟩ om;rw[hst,Int.natCast_add,Int.natCast_mul];rfl
 obtain rfl:k=8:=by omega
 rw[<- Ko h8] at hN ⊢;repeat' first|refine Z ?_|intro
 refine j6 ?_;unfold uB;rw[if_pos hN];rfl⟩
attribute [local irreducible] M8
theorem WG (s:Bs):uB s<=1099511627776:=by
 unfold uB;split <;> omega
instance b8i {s:Bs}:Ans prog GL 256 [str s] True (.tup [fU ((X6 s).getD lI),d9 (X6 s).isSome]):=⟨λ_=>by
 refine ze func256 ntmps256 λ_ hs=>?_;repeat' first|refine Z ?_|intro
 by_cases h64:s.length=64
 rotate_left
 ·have hu:X6 s=none:=by
   unfold X6;rw[if_neg (λh=>h64 h.1)]
  rw[hu];exact j4
 repeat' first|refine Z ?_|intro
 have c1:((s.take 8).drop 0).length=8:=by rw[List.length_drop,List.length_take];omega
 have c2:((s.take 16).drop 8).length=8:=by rw[List.length_drop,List.length_take];omega
 have c3:((s.take 24).drop 16).length=8:=by rw[List.length_drop,List.length_take];omega
 have b1:=WG ((s.take 8).drop 0);have b2:=WG ((s.take 16).drop 8);have b3:=WG ((s.take 24).drop 16);apply zf [];exact zi
 ·intro _ _;refine Z4 0 8 ?_;exact j3 (p9 rfl rfl)
 repeat' first|refine Z ?_|intro
 apply zf [];exact zi
 ·intro _ _;refine Z4 8 16 ?_;exact j3 (p9 rfl rfl)
 repeat' first|refine Z ?_|intro
 apply zf [];exact zi
 ·intro _ _;refine Z4 16 24 ?_;exact j3 (p9 rfl rfl)
 repeat' first|refine Z ?_|intro
 have s1:(s.take 8).drop 0=(s.drop (8*0)).take 8:=sm
 have s2:(s.take 16).drop 8=(s.drop (8*1)).take 8:=by rw[List.drop_take]
 have s3:(s.take 24).drop 16=(s.drop (8*2)).take 8:=by rw[List.drop_take]
 have k1:uB ((s.take 8).drop 0)=if fK s 0<=1099511627776 then (fK s 0:Int) else -1:=by rw[s1];rfl
 have k2:uB ((s.take 16).drop 8)=if fK s 1<=1099511627776 then (fK s 1:Int) else -1:=by rw[s2];rfl
 have k3:uB ((s.take 24).drop 16)=if fK s 2<=1099511627776 then (fK s 2:Int) else -1:=by rw[s3];rfl
 clear s1 s2 s3;generalize uB ((s.take 8).drop 0)=n1 at *;generalize uB ((s.take 16).drop 8)=n2 at *;generalize uB ((s.take 24).drop 16)=n3 at *;by_cases h1:fK s 0<=1099511627776
 rotate_left
 ·rw[if_neg h1] at k1;rw[MW (i:=0) dc om];exact j4
 rw[if_pos h1] at k1;by_cases h2:fK s 1<=1099511627776
 rotate_left
 ·rw[if_neg h2] at k2;rw[MW (i:=1) dc om];exact j4
 rw[if_pos h2] at k2;by_cases h3:fK s 2<=1099511627776
 rotate_left
 ·rw[if_neg h3] at k3;rw[MW (i:=2) dc om];exact j4
 rw[if_pos h3] at k3;obtain⟨M,hM⟩:∃ M,vG s=M:=⟨_,rfl⟩;have hM1:M.e=n1:=by rw[k1,<- hM];rfl
 have hM2:M.b=n2:=by rw[k2,<- hM];rfl
 have hM3:M.c=n3:=by rw[k3,<- hM];rfl
 have hB:MkB M:=⟨om,om,om⟩;have hok:OZ (vG s)=true:=by
  rw[hM];exact dT ⟨hB.e.2,hB.b.2,hB.c.2⟩
 have hu:X6 s=if M8 M=s then some M else none:=by
  unfold X6;rw[hM] at hok ⊢;by_cases h:M8 M=s
  ·rw[if_pos ⟨h64,hok,h⟩,if_pos h]
  rw[if_neg (λe=>h e.2.2),if_neg h]
 rw[hu,<- hM1,<- hM2,<- hM3];clear hM1 hM2 hM3 k1 k2 k3 hu;have hb1:=hB.e;have hb2:=hB.b;have hb3:=hB.c;repeat' first|refine Z ?_|intro
 by_cases h:M8 M=s
 ·rw[if_pos h,dZ (nni h)];exact j4
 rw[if_neg h,dT h];exact j4⟩
attribute [local irreducible] X6 lI
instance b8l {a b:Bs}:Ans prog GL 154 [str a,str b] True (fU (vK a b)):=⟨λ_=>by
 refine ze func154 ntmps154 λ_ hs=>?_;repeat' first|refine Z ?_|intro
 unfold vK;refine w9 (λh=>?_) (λh=>?_)
 ·rw[if_pos h];exact j4
 rw[if_neg h];exact j4⟩
end Go.Proofs.Z
