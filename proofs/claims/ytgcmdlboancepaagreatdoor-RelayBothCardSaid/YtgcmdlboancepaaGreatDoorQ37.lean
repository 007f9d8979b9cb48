/- . -/
import Derived.Test.YtgcmdlboancepaaGreatDoorQ36
set_option maxHeartbeats 64000000
namespace Go.Proofs.Z
open Go Go.RowKit Tw Av
section
variable {s:Bs}{a:Int}{x:DvX}{w:Int × Bs}
structure SlX where
 m:MkX
 l:Bs
 br:Bool
def M3 (n:Int):Int:=(n-2)*64
def gD (x:DvX)(k:Nat):Bs:=(List.range k).flatMap λ(i:Nat)=>bO x (2+(i:Int))
def WJ (b:Int):Nat:=((b+63) / 64).toNat
def X9 (x:DvX)(b:Int):Bs:=(gD x (WJ b)).take b.toNat
def K8 (s:Bs):Bs:=s.drop (s.length-s.length%64)
def J3 (x:DvX):MkX:=vK (bO x 0) (bO x 1)
def nM (x:DvX):Int:=if x.n<=2 then 1 else if x.on=false then 14 else if M3 x.n<(J3 x).b then 10 else
 if BG (X9 x (J3 x).b)=[]/\((pR (X9 x (J3 x).b)).length:Int)=(J3 x).c then 0 else 10
def iF (x:DvX):SlX:=⟨J3 x,X9 x (J3 x).b,false⟩
def KC (x:DvX):List Bs:=pR (X9 x (J3 x).b)
def P8 (s:Bs):Bs:=s.take 64++List.replicate (64-s.length) 0
theorem OT (s:Bs):(P8 s).length=64:=by
 unfold P8;simp;omega
theorem Ju {k:Nat}(h:k<=s.length)(hk:k<=64):(P8 s).take k=s.take k:=by
 unfold P8;rw[List.take_append_of_le_length (by rw[List.length_take];omega),List.take_take,Nat.min_eq_left hk]
theorem a2z :(P8 s).take s.length=s.take 64:=by
 by_cases h:s.length<=64
 ·rw[Ju (Nat.le_refl _) h,List.take_length,List.take_of_length_le h]
 unfold P8;rw[show 64-s.length=0 by omega,List.replicate_zero,List.append_nil,List.take_of_length_le (by rw[List.length_take];omega)]
def uK:Nat->Int->Bs->List (Int × Bs)
 | 0,_,_=>[]
 | f+1,a,s=>if s=[] then [] else (a,P8 s)::uK f (a+1) (s.drop 64)
def nL:Nat->DvX->Int->Bs->DvX × Int
 | 0,x,_,_=>(x,0)
 | f+1,x,a,s=>if s=[] then (x,0) else if (O7 x a (P8 s)).2=0 then nL f (O7 x a (P8 s)).1 (a+1) (s.drop 64) else O7 x a (P8 s)
def jU (x:DvX)(a:Int)(s:Bs):DvX × Int:=nL s.length x a s
theorem JX (f:Nat)(x:DvX)(a:Int):nL f x a []=(x,0):=by cases f <;> simp[nL]
theorem VR:∀ {f g:Nat} {x:DvX} {a:Int} {s:Bs},s.length<=f->s.length<=g->nL f x a s=nL g x a s
 | 0,g,x,a,s,h,_=>by
  obtain rfl:=List.length_eq_zero_iff.1 (Nat.le_zero.1 h);rw[JX,JX]
 | f+1,0,x,a,s,_,h=>by
  obtain rfl:=List.length_eq_zero_iff.1 (Nat.le_zero.1 h);rw[JX,JX]
 | f+1,g+1,x,a,s,h,h'=>by
  unfold nL;by_cases hs:s=[]
  ·rw[if_pos hs,if_pos hs]
  rw[if_neg hs,if_neg hs,VR (f:=f) (g:=g) (by rw[List.length_drop];omega) (by rw[List.length_drop];omega)]
theorem Jc (hs:s≠[]):jU x a s=if (O7 x a (P8 s)).2=0 then jU (O7 x a (P8 s)).1 (a+1) (s.drop 64) else O7 x a (P8 s):=by
 have hl:0<s.length:=List.length_pos_iff.2 hs;unfold jU;rw[VR (f:=s.length) (g:=s.length-1+1) (Nat.le_refl _) om];rw[nL,if_neg hs,VR (f:=s.length-1) (g:=(s.drop 64).length) (by rw[List.length_drop];omega) (Nat.le_refl _)]
def I5 (s:SlX)(r:Bs):MkX:=⟨s.m.e+1,s.m.b+(D9 r).length,s.m.c+1⟩
def bQ (x:DvX)(s:SlX)(r:Bs):DvX × Int:=jU x (2+s.m.b / 64) (K8 s.l++D9 r)
def dU (x:DvX)(s:SlX)(r:Bs):DvX × Int:=aB (bQ x s r).1
def dR (x:DvX)(s:SlX)(r:Bs):DvX × Int:=O7 (dU x s r).1 ((I5 s r).e%2) (M8 (I5 s r))
def gJ (x:DvX)(s:SlX)(r:Bs):DvX × Int:=aB (dR x s r).1
def lN (x:DvX)(s:SlX)(r:Bs):DvX × SlX × Int:=
 if s.br=true then (x,s,13) else if 1048576<r.length then (x,s,11) else if M3 x.n-s.m.b<(D9 r).length then (x,s,15)
 else if (bQ x s r).2≠0 then ((bQ x s r).1,{ s with br:=true },(bQ x s r).2)
 else if (dU x s r).2≠0 then ((dU x s r).1,{ s with br:=true },(dU x s r).2)
 else if (dR x s r).2≠0 then ((dR x s r).1,{ s with br:=true },(dR x s r).2)
 else if (gJ x s r).2≠0 then ((gJ x s r).1,{ s with br:=true },(gJ x s r).2)
 else ((gJ x s r).1,⟨I5 s r,s.l++D9 r,false⟩,0)
structure DvOk (x:DvX):Prop where
 n:0<=x.n/\x.n<=4096
 mn:MpN x.es
 el:∀ e∈x.es,e.2.1.length=64
 wl:∀ w∈x.ws,w.2.length=64
 lf:0<=x.lf/\x.lf<=1000000
theorem Ca:uO.length=64:=by simp[uO]
theorem GK (h:DvOk x)(a:Int):(J4 x a).length=64:=by
 unfold J4 fT;cases hf:x.es.find? λe=>decide (e.1=a) with
 | none=>exact Ca
 | some e=>exact h.el e (List.mem_of_find?_eq_some hf)
theorem Xx (h:DvOk x)(hs:eT x.ws a=some s):s.length=64:=by
 unfold eT at hs;cases hf:x.ws.reverse.find? λw=>decide (w.1=a) with
 | none=>rw[hf] at hs;cases hs
 | some w=>
  rw[hf] at hs;injection hs with hs
  subst hs;exact h.wl w (List.mem_reverse.1 (List.mem_of_find?_eq_some hf))
theorem QO (h:DvOk x)(a:Int):(bO x a).length=64:=by
 unfold bO;cases hf:eT x.ws a with
 | none=>exact GK h a
 | some s=>exact Xx h hf
theorem CV (x:DvX)(k:Nat):gD x (k+1)=gD x k++bO x (2+(k:Int)):=by
 unfold gD;rw[List.range_succ,List.flatMap_append];simp
theorem CW {x:DvX}(h:DvOk x):∀ k,(gD x k).length=64*k
 | 0=>rfl
 | k+1=>by
  rw[CV,lla,CW h k,QO h];omega
theorem Kr {es:List MpE}{ck:Nat}{P:Bs->Prop}(h:∀ e∈es,P e.2.1)(hs:P s):∀ e∈eY es ck a s,P e.2.1:=by
 unfold eY;intro e he;split at he
 ·obtain⟨i,hi,rfl⟩:=List.mem_iff_getElem.1 he;rw[List.getElem_modify];split
  ·exact hs
  exact h _ (List.getElem_mem _)
 rcases List.mem_append.1 he with he|he
 ·exact h e he
 obtain rfl:=List.mem_singleton.1 he;exact hs
theorem Re (h:DvOk x)(hw:w.2.length=64):DvOk (bP x w):=by
 refine⟨h.n,Mf h.mn,?_,h.wl,h.lf⟩;intro e he;unfold bP KM at he;dsimp only at he;split at he
 ·exact Kr (P:=λs=>s.length=64) h.el hw e ((List.eraseIdx_sublist _ _).subset he)
 exact Kr (P:=λs=>s.length=64) h.el hw e he
theorem XV:∀ {ws:List (Int × Bs)} {x:DvX},DvOk x->(∀ w∈ws,w.2.length=64)->DvOk (ws.foldl bP x)
 | [],_,h,_=>h
 | w::ws,x,h,hw=>XV (ws:=ws) (Re h (hw w sm)) λv hv=>hw v (by simp[hv])
theorem Rj (h:DvOk x):DvOk (aL x):=by
 have:=XV h h.wl;exact⟨this.n,this.mn,this.el,by simp[aL],this.lf⟩
theorem LA (h:DvOk x)(hm:fB x=true):DvOk (L6 x):=by
 refine⟨h.n,h.mn,h.el,h.wl,?_⟩;unfold L6 fB at *;have:=h.lf;dsimp only;split
 ·rename_i ha;rw[ha] at hm;simp at hm;omega
 exact this
theorem YL (h:DvOk x):DvOk (gH x):=⟨h.n,h.mn,h.el,h.wl,h.lf⟩
theorem Rc (h:DvOk x)(hw:w.2.length=64):DvOk (gG x w):=by
 refine⟨h.n,h.mn,h.el,?_,h.lf⟩;intro v hv;rcases List.mem_append.1 hv with hv|hv
 ·exact h.wl v hv
 obtain rfl:=List.mem_singleton.1 hv;exact hw
theorem CU (h:DvOk x):DvOk (O7 x a s).1:=by
 unfold O7;split
 ·exact h
 split
 ·exact h
 rename_i hh;have hl:s.length=64:=Classical.byContradiction λe=>hh (.inr e);split
 ·exact Rc (YL h) hl
 rename_i hm;exact Rc (LA h (by simpa using hm)) hl
theorem QQ (h:DvOk x):DvOk (aB x).1:=by
 unfold aB;split
 ·exact h
 split
 ·exact YL h
 rename_i hm;exact Rj (LA h (by simpa using hm))
theorem Jb:∀ {f:Nat} {x:DvX} {a:Int} {s:Bs},DvOk x->DvOk (nL f x a s).1
 | 0,_,_,_,h=>h
 | f+1,x,a,s,h=>by
  unfold nL;split
  ·exact h
  split
  ·exact Jb (CU h)
  exact CU h
theorem Jd (h:DvOk x):DvOk (jU x a s).1:=Jb h
theorem a7E {k:List Bool}{torn cut:Int}{i:Nat}(h:DvOk x)(hw:w.2.length=64):DvOk (GN x k torn cut i w):=by
 unfold GN;split
 ·refine Re h ?_;dsimp only;split
  ·have:=GK h w.1;rw[lla,List.length_take,List.length_drop];omega
  exact hw
 exact h
theorem a6W :(O7 x a s).1.n=x.n:=by unfold O7;(repeat' split) <;> rfl
theorem yA:∀ {ws:List (Int × Bs)} {x:DvX},(ws.foldl bP x).n=x.n/\(ws.foldl bP x).on=x.on/\(ws.foldl bP x).ar=x.ar/\(ws.foldl bP x).lf=x.lf
 | [],_=>⟨rfl,rfl,rfl,rfl⟩
 | w::ws,x=>yA (ws:=ws) (x:=bP x w)
theorem a7b :(aB x).1.n=x.n:=by
 unfold aB;split
 ·rfl
 split
 ·rfl
 exact(yA (ws:=(L6 x).ws) (x:=L6 x)).1
end
end Go.Proofs.Z

namespace Go.Proofs.Z
open Go Go.RowKit Tw Av Go.Proofs.Tryz
section
variable {x:DvX}{gm:Nat}{a:Int}
instance : TyMp prog 139 3 9 := ⟨kr, by kernel_rfl, by kernel_rfl⟩
abbrev tC (w:Int × Bs):AV:=.agg 2 [int w.1,str w.2]
abbrev yF (gm:Nat)(x:DvX)(vw:Value):AV:=.agg 7 [int x.n,aA gm,.sl 2 (x.ws.map tC) (some vw),d9 x.on,d9 x.ar,int x.lf,int x.st]
structure DvI where
 gd:Nat
 gm:Nat
 vw:Value
variable {I:DvI}
abbrev I1 (I:DvI)(x:DvX):List Av.Piece:=[.var I.gd 142 (yF I.gm x I.vw),.obj I.gm (dJ x.es x.ck),.tail 294 2 I.vw]
instance c0J {g:Nat}{vw:Value}:AnsM prog GL 129 g [] 142 (yF gm x vw) True (int x.n) (yF gm x vw):=⟨λ_=>by
 refine ze func129 ntmps129 λ_ hs=>?_;repeat' first|refine O ?_|intro
 exact l9 _ ⟨rfl,rfl⟩ slr⟩
instance c0K {g:Nat}{vw:Value}:AnsM prog GL 233 g [int a] 142 (yF gm x vw) True (d9 (iY x a)) (yF gm x vw):=⟨λ_=>by
 refine ze func233 ntmps233 λ_ hs=>?_;unfold iY;by_cases h1:0<=a
 ·rw[show decide (0<=a/\a<x.n)=decide (a<x.n) by simp[h1]];repeat' first|refine Z ?_|intro
  exact l9 _ ⟨rfl,rfl⟩ slr
 rw[dZ (show ¬ (0<=a/\a<x.n) from λh=>h1 h.1)];repeat' first|refine Z ?_|intro
 exact l9 _ ⟨rfl,rfl⟩ slr⟩
attribute [local irreducible] iY
instance b6b {k:Nat}:ImpT (.lit (.slice none 0 0)) (.sl k [] (some (.slice none 0 0))):=⟨ImpC.nilT⟩
theorem a4Q {n:Int}:ImpC (.agg 7 [int n,aA gm,.lit (.slice none 0 0),d9 true,d9 false,int 0,int 0]) (yF gm (U0 n) (.slice none 0 0)):=(inferInstance:ImpT _ (.agg 7 [int n,aA gm,.sl 2 [] (some (.slice none 0 0)),d9 true,d9 false,int 0,int 0])).imp
theorem Qb {n:Int}(h1:1<=n)(h2:n<=4096):Av.Spec prog GL 23 [int n] [] λu m=>∃ I,u=ptr I.gd/\m=I1 I (U0 n):=by
 refine ze func23 ntmps23 λ_ hs=>?_;repeat' first|refine Z ?_|intro
 refine a9w (λgm=>?_);repeat' first|refine Z ?_|intro
 rename_i gd;refine xA (g:=gd) a4Q ?_;refine wB (λok w h=>h.full 294 2 none 0) ?_;refine wB (λok w h=>h.perm (m':=I1 ⟨gd,gm,.slice none 0 0⟩ (U0 n)) (List.perm_append_comm (l₁:=[_,_]) (l₂:=[_]))) ?_;exact l9 _ ⟨_,rfl,rfl⟩ slr
theorem a6e {w:Int × Bs}:Av.Spec prog GL 231 [ptr I.gd,tC w] (I1 I x) λu m=>u=.tup []/\m=I1 I (bP x w):=by
 refine ze func231 ntmps231 λ_ hs=>?_;repeat' first|refine Z ?_|intro
 apply dH [2];exact rfl;exact rfl;kernel_rfl
 ·intro _ _;refine a9t (pre:=[]) (post:=[]) ?_ rfl;exact j3 (dX rfl)
 ·exact rfl
 ·exact rfl
 repeat' first|refine Z ?_|intro
 apply zf [];exact zi
 ·intro _ _;refine MB ?_;exact j3 (p9 rfl rfl)
 repeat' first|refine Z ?_|intro
 have hk:bP x w={ x with es:=if w.2=List.replicate (Int.toNat 64) 0 then mP (eY x.es x.ck w.1 w.2) w.1 else eY x.es x.ck w.1 w.2,ck:=zR x.es x.ck w.1 }:=rfl;rw[hk];refine w9 (λh=>?_) (λh=>?_)
 ·rw[if_pos h];repeat' first|refine Z ?_|intro
  apply dH [2];exact rfl;exact rfl;kernel_rfl
  ·intro _ _;refine a9u (pre:=[]) (post:=[]) ?_ rfl;exact j3 (dX rfl)
  ·exact rfl
  ·exact rfl
  repeat' first|refine Z ?_|intro
  refine jS _ ⟨rfl,rfl⟩ ?_;exact u7
 rw[if_neg h];repeat' first|refine Z ?_|intro
 refine jS _ ⟨rfl,rfl⟩ ?_;exact u7
theorem a6d :Av.Spec prog GL 241 [ptr I.gd,int a] (I1 I x) λu m=>u=str (if iY x a=true then J4 x a else [])/\m=I1 I x:=by
 refine ze func241 ntmps241 λ_ hs=>?_;repeat' first|refine Z ?_|intro
 cases hh:iY x a
 ·repeat' first|refine Z ?_|intro
  exact l9 _ ⟨rfl,rfl⟩ slr
 repeat' first|refine Z ?_|intro
 refine a9y ?_;repeat' first|refine Z ?_|intro
 unfold J4;cases hf:fT x.es a with
 | none=>
  repeat' first|refine Z ?_|intro
  refine MB ?_;repeat' first|refine Z ?_|intro
  exact l9 _ ⟨rfl,rfl⟩ slr
 | some t=>
  repeat' first|refine Z ?_|intro
  exact l9 _ ⟨rfl,rfl⟩ slr
theorem Xy (l r:List (Int × Bs))(a:Int):eT (l++r) a=match eT r a with|some s=>some s|none=>eT l a:=by
 unfold eT;rw[List.reverse_append,List.find?_append];cases r.reverse.find? λw=>decide (w.1=a) <;> rfl
theorem Cf {ws:List (Int × Bs)}{k:Nat}(hk:k<ws.length):eT (ws.take (k+1)) a=if ws[k].1=a then some ws[k].2 else eT (ws.take k) a:=by
 rw[<- List.take_append_getElem hk,Xy];by_cases h:ws[k].1=a
 ·rw[if_pos h];simp[eT,h]
 rw[if_neg h];simp[eT,h]
theorem YB (hon:x.on=true)(ha:iY x a=true)(hl:x.ws.length<=1000000):Av.Spec prog GL 130 [ptr I.gd,int a] (I1 I x) λu m=>u=.tup [str (bO x a),int 0]/\m=I1 I x:=by
 have hm:(x.ws.map tC).length=x.ws.length:=llm _;refine ze func130 ntmps130 λ_ hs=>?_;repeat' first|refine Z ?_|intro
 rw[hon];repeat' first|refine Z ?_|intro
 rw[ha];repeat' first|refine Z ?_|intro
 rw[hm];refine y9 (α:=Nat) (λk=>[(0,ptr I.gd),(1,int a),(6,int ((k:Int)-1))]) (λ_=>I1 I x) (λk=>k<=x.ws.length/\eT x.ws a=eT (x.ws.take k) a) (λk=>k) x.ws.length zc slr ⟨Nat.le_refl _,by rw[List.take_length]⟩ ?_;rintro k ⟨hk,hI⟩;rcases k with _|k
 ·repeat' first|refine Z ?_|intro
  refine iN [] (I1 I x) [] a6d (λu m1 hh=>?_);obtain⟨rfl,rfl⟩:=hh;rw[if_pos ha];repeat' first|refine Z ?_|intro
  have e:bO x a=J4 x a:=by
   unfold bO;rw[hI];rfl
  rw[e];exact l9 _ ⟨rfl,rfl⟩ slr
 rw[show ((k+1:Nat):Int)-1=(k:Int) by omega];have hk':k<x.ws.length:=hk;rw[Cf hk'] at hI;repeat' first|refine Z ?_|intro
 by_cases he:x.ws[k].1=a
 ·rw[if_pos he] at hI;repeat' first|refine Z ?_|intro
  have e:bO x a=x.ws[k].2:=by
   unfold bO;rw[hI];rfl
  rw[e];exact l9 _ ⟨rfl,rfl⟩ slr
 rw[if_neg he] at hI;repeat' first|refine Z ?_|intro
 exact o9 k zc slr ⟨om,hI⟩ (Nat.lt_succ_self _)
end

section
variable {i:Nat}{m:MkX}{s:Bs}
abbrev fU (m:MkX):AV:=.agg 3 [int m.e,int m.b,int m.c]
def PH (m:MkX)(i:Nat):Nat:=if i=0 then m.e.toNat else if i=1 then m.b.toNat else m.c.toNat
def Je (m:MkX)(j:Nat):UInt8:=UInt8.ofNat (dg (PH m (j / 8)) (7-j%8))
def kC (F:Nat->UInt8):Bs:=(List.range 64).map F
def fP (m:MkX)(i k:Nat):Nat->UInt8:=λj=>if j<8*i\/(8*i+8-k<=j/\j<8*i+8) then Je m j else 0
theorem Aq (F:Nat->UInt8):(kC F).length=64:=by simp[kC]
theorem a8F {F G:Nat->UInt8}{j:Nat}{v:UInt8}(h1:G j=v)(h2:∀ i,i≠j->G i=F i):(kC F).set j v=kC G:=by
 apply List.ext_getElem
 ·simp[kC]
 intro i a b;rw[List.getElem_set];simp only[kC,List.getElem_map,List.getElem_range];by_cases h:j=i
 ·subst h;rw[if_pos rfl,h1]
 rw[if_neg h,h2 i (λe=>h e.symm)]
theorem a8G {F G:Nat->UInt8}(h:∀ i,i<64->F i=G i):kC F=kC G:=List.map_congr_left λi hi=>h i (List.mem_range.1 hi)
theorem a6G {k:Nat}(hk:k<8):(kC (fP m i k)).set (8*i+7-k) (UInt8.ofNat (PH m i / 256 ^ k))=kC (fP m i (k+1)):=by
 refine a8F ?_ ?_
 ·unfold fP;rw[if_pos (.inr ⟨om,om⟩)];unfold Je;rw[show (8*i+7-k) / 8=i by omega,show 7-(8*i+7-k)%8=k by omega];unfold dg;apply UInt8.toNat_inj.1;rw[UInt8.toNat_ofNat',UInt8.toNat_ofNat'];omega
 intro j hj;unfold fP;by_cases h:j<8*i\/(8*i+8-k<=j/\j<8*i+8)
 ·rw[if_pos h,if_pos om]
 rw[if_neg h,if_neg om]
theorem a6I :kC (fP m i 8)=kC (fP m (i+1) 0):=a8G λj _=>by
 unfold fP;by_cases h:j<8*i\/(8*i+8-8<=j/\j<8*i+8)
 ·rw[if_pos h,if_pos om]
 rw[if_neg h,if_neg om]
theorem a6H :xY (kC (fP m 3 0)) 56 0 8=M8 m:=rfl
instance b6D :Ans prog GL 125 [fU m] (MkB m) (str (M8 m)):=⟨λhm=>by
 have he:=hm.e;have hb:=hm.b;have hc:=hm.c;refine ze func125 ntmps125 λ_ hs=>?_;repeat' first|refine Z ?_|intro
 rename_i g1 g3;refine dY (g:=g3) (v':=.agg 64 ((kC (fP m 0 0)).map A7)) (λok w cs h=>h) ?_;refine y9 (α:=Nat) (λi=>[(3,ptr g3),(13,.agg 3 [int m.e,int m.b,int m.c]),(14,int i)]) (λi=>[.var g3 297 (.agg 64 ((kC (fP m i 0)).map A7))]) (λi=>i<=3) (λi=>3-i) 0 zc zd (Nat.zero_le _) ?_;intro i hi;by_cases hi':i<3
 rotate_left
 ·obtain rfl:i=3:=by omega
  repeat' first|refine Z ?_|intro
  apply zf [];exact zi
  ·intro _ _;refine RL 56 64 ?_;exact j3 (p9 rfl rfl)
  apply zf [];exact zi
  ·intro _ _;refine RL 0 8 ?_;exact j3 (p9 rfl rfl)
  apply jV [0];exact rfl;exact rfl;kernel_rfl
  ·intro _ _;refine a9N (l:=kC (fP m 3 0)) 8 rfl ?_ (h1:=by rw[Aq];decide) (h2:=by rw[Aq];decide);exact j3 (p9 rfl rfl)
  ·exact rfl
  ·exact rfl
  rw[a6H];exact j4
 have hnm:∃ n:Int,[int m.e,int m.b,int m.c][i]?=some (int n)/\(PH m i:Int)=n/\0<=n:=by
  rcases i with _|_|_|i
  ·exact⟨m.e,rfl,Int.toNat_of_nonneg he.1,he.1⟩
  ·exact⟨m.b,rfl,Int.toNat_of_nonneg hb.1,hb.1⟩
  ·exact⟨m.c,rfl,Int.toNat_of_nonneg hc.1,hc.1⟩
  omega
 obtain⟨n,hn1,hn2,hn3⟩:=hnm;repeat' first|refine Z ?_|intro
 refine MC (nn:=3) (ps:=[int m.e,int m.b,int m.c]) i ?_ rfl hi' hn1 (by simp[AV.size]) rfl;repeat' first|refine Z ?_|intro
 refine y9 (α:=Nat) (λk=>[(3,ptr g3),(13,.agg 3 [int m.e,int m.b,int m.c]),(14,int i),(4,int i),(5,int n),(18,int k)]) (λk=>[.var g3 297 (.agg 64 ((kC (fP m i k)).map A7))]) (λk=>k<=8) (λk=>8-k) 0 zc slr (Nat.zero_le _) ?_;intro k hk;by_cases hk':k<8
 rotate_left
 ·obtain rfl:k=8:=by omega
  rw[a6I];repeat' first|refine Z ?_|intro
  exact o9 (i+1) zc slr hi' om
 have hst:=a6G (m:=m) (i:=i) hk';have hml:((kC (fP m i k)).map A7).length=64:=by rw[llm,Aq]
 repeat' first|refine Z ?_|intro
 refine dF 28 (v:=int (max n 0)) (v':=int (PH m i:Nat)) (Imp.of_eq (by rw[hn2,Int.max_eq_left hn3])) ?_;refine DX (k:=.i64) (n:=8*k) ?_ (hb:=by show (8:Int)*k=((8*k:Nat):Int);omega) (hn:=Nat.ble_eq_true_of_le (show 8*k<=64 by omega));rw[OO,<- Int.natCast_ediv];refine yN ?_;rw[MX];refine O1 (8*i+7-k) ?_;refine kD (j:=8*i+7-k) (by rw[hml];omega) ?_;rw[<- List.map_set,hst];repeat' first|refine Z ?_|intro
 exact o9 (k+1) zc slr hk' om⟩
attribute [local irreducible] M8
def fK (s:Bs)(j:Nat):Nat:=uC ((s.drop (8*j)).take 8)
theorem OI (s:Bs):vG s=⟨fK s 0,fK s 1,fK s 2⟩:=rfl
abbrev FK (s:Bs)(i:Nat):List AV:=[int (if 0<i then fK s 0 else 0:Nat),int (if 1<i then fK s 1 else 0:Nat),int (if 2<i then fK s 2 else 0:Nat)]
theorem a3n (h:i<3):(FK s i).set i (int (fK s i))=FK s (i+1):=by
 rcases i with _|_|_|i
 ·rfl
 ·rfl
 ·rfl
 omega
theorem MW (h:i<3)(hn:¬ (fK s i:Int)<=1099511627776):X6 s=none:=by
 unfold X6;rw[if_neg];rintro⟨_,h2,_⟩;rw[OI] at h2;have:=of_decide_eq_true h2;rcases i with _|_|_|i
 ·exact hn this.1
 ·exact hn this.2.1
 ·exact hn this.2.2
 omega
instance b6B :Ans prog GL 242 [str s] True (.tup [fU ((X6 s).getD lI),d9 (X6 s).isSome]):=⟨λ_=>by
 refine ze func242 ntmps242 λ_ hs=>?_;repeat' first|refine Z ?_|intro
 by_cases h64:s.length=64
 rotate_left
 ·have hu:X6 s=none:=by
   unfold X6;rw[if_neg (λh=>h64 h.1)]
  rw[hu];exact j4
 repeat' first|refine Z ?_|intro
 rename_i g2 g4;refine y9 (α:=Nat) (λi=>[(0,str s),(2,ptr g2),(4,ptr g4),(5,d9 true),(15,int i)]) (λi=>[.var g4 298 (.agg 3 (FK s i)),.var g2 197 (fU lI)]) (λi=>i<=3/\∀ j,j<i->fK s j<=1099511627776) (λi=>3-i) 0 zc slr ⟨Nat.zero_le _,λj h=>absurd h om⟩ ?_;rintro i ⟨hi,hN⟩;by_cases hi':i<3
 rotate_left
 ·obtain rfl:i=3:=by omega
  have h0:=hN 0 om;have h1:=hN 1 om;have h2:=hN 2 om;obtain⟨M,hM⟩:∃ M,vG s=M:=⟨_,rfl⟩;have hB:MkB M:=by
   rw[<- hM];exact⟨by rw[OI];dsimp only;omega,by rw[OI];dsimp only;omega,by rw[OI];dsimp only;omega⟩
  have hok:OZ (vG s)=true:=by
   rw[hM];exact dT ⟨hB.e.2,hB.b.2,hB.c.2⟩
  have hu:X6 s=if M8 M=s then some M else none:=by
   unfold X6;rw[hM] at hok ⊢;by_cases h:M8 M=s
   ·rw[if_pos ⟨h64,hok,h⟩,if_pos h]
   rw[if_neg (λe=>h e.2.2),if_neg h]
  have hA:AV.agg 3 (FK s 3)=fU M:=by
   rw[<- hM];rfl
  rw[hA];repeat' first|refine Z ?_|intro
  rw[hu];refine w9 (λh=>?_) (λh=>?_)
  ·rw[if_neg h];exact j4
  rw[if_pos (Classical.not_not.1 h)];exact j4
 repeat' first|refine Z ?_|intro
 refine Z4 (8*i) (8*i+8) ?_;have hc:((s.take (8*i+8)).drop (8*i)).length=8:=by rw[List.length_drop,List.length_take];omega
 have hnm:fK s i=eH ((s.take (8*i+8)).drop (8*i)) 8:=by
  unfold fK uC eH;rw[List.drop_take,show 8*i+8-8*i=8 by omega,List.take_take,Nat.min_self]
 generalize (s.take (8*i+8)).drop (8*i)=c at *;have hmc:(c.map λc=>AV.lit (y5 c)).length=8:=by rw[llm,hc]
 repeat' first|refine Z ?_|intro
 refine y9 (α:=Nat) (λk=>[(0,str s),(2,ptr g2),(4,ptr g4),(5,d9 true),(15,int i),(6,int i),(7,.lit (.int .u64 (eH c k))),(25,.sl 1 (c.map λc=>.lit (y5 c)) none),(26,int ((c.map λc=>AV.lit (y5 c)).length)),(27,int k)])
  (λk=>[.var g4 298 (.agg 3 (FK s i)),.var g2 197 (fU lI)]) (λk=>k<=8) (λk=>8-k) 0 zc slr (Nat.zero_le _) ?_
 intro k hk;by_cases hk':k<8
 ·have hkc:k<c.length:=om
  have hst:=PU hkc;have hlt8:=PV c k;have hlt9:=PV c (k+1);have hpw:256 ^ (k+1)<=18446744073709551616:=Nat.pow_le_pow_right (n:=256) (j:=8) dc om;have hby:=c[k].toNat_lt;repeat' first|refine Yz ?_|intro
  refine X4 7 (v:=.lit (.int .u64 ((eH c k:Int)*256+c[k].toNat))) (v':=.lit (.int .u64 (eH c (k+1)))) (Imp.of_eq (by rw[hst,Int.natCast_add,Int.natCast_mul];rfl)) ?_;exact o9 (k+1) zc slr hk' om
 obtain rfl:k=8:=by omega
 rw[<- hnm];by_cases hn:fK s i<=1099511627776
 ·repeat' first|refine Z ?_|intro
  refine O1 i ?_;refine kD (ps:=FK s i) (j:=i) (show i<3 from hi') ?_;rw[a3n hi'];repeat' first|refine Z ?_|intro
  refine X4 5 (v:=d9 (decide ((fK s i:Int)<=1099511627776))) (v':=d9 true) (Imp.of_eq (by rw[dT om])) ?_;refine o9 (i+1) zc slr ⟨hi',λj hj=>?_⟩ om;by_cases e:j=i
  ·rw[e];exact hn
  exact hN j om
 rw[MW hi' om];exact j4⟩
attribute [local irreducible] X6 lI
instance b6E {a b:Bs}:Ans prog GL 131 [str a,str b] True (fU (vK a b)):=⟨λ_=>by
 refine ze func131 ntmps131 λ_ hs=>?_;repeat' first|refine Z ?_|intro
 unfold vK;refine w9 (λh=>?_) (λh=>?_)
 ·rw[if_pos h];exact j4
 rw[if_neg h];exact j4⟩
instance b6C {g gm:Nat}{x:DvX}{vw:Value}:AnsM prog GL 132 g [] 142 (yF gm x vw) (0<=x.n/\x.n<=4096) (int (M3 x.n)) (yF gm x vw):=⟨λhn=>by
 refine ze func132 ntmps132 λ_ hs=>?_;repeat' first|refine Z ?_|intro
 exact l9 _ ⟨rfl,rfl⟩ slr⟩
abbrev EN (gd:Nat)(s:SlX):AV:=.agg 6 [ptr gd,fU s.m,str (K8 s.l),d9 s.br]
instance b6F {g gd:Nat}{s:SlX}:AnsM prog GL 115 g [] 199 (EN gd s) True (d9 s.br) (EN gd s):=⟨λ_=>by
 refine ze func115 ntmps115 λ_ hs=>?_;repeat' first|refine Z ?_|intro
 cases s.br
 ·repeat' first|refine Z ?_|intro
  exact l9 _ ⟨rfl,rfl⟩ slr
 repeat' first|refine Z ?_|intro
 exact l9 _ ⟨rfl,rfl⟩ slr⟩
structure SlI extends DvI where
 gs:Nat
abbrev R4 (I:SlI)(x:DvX)(s:SlX):List Av.Piece:=.var I.gs 199 (EN I.gd s)::I1 I.toDvI x
theorem a5u {I:SlI}{x:DvX}{s:SlX}(hn:0<=x.n/\x.n<=4096)(hb:0<=s.m.b/\s.m.b<=1099511627776):Av.Spec prog GL 117 [ptr I.gs] (R4 I x s) λu m=>u=int (M3 x.n-s.m.b)/\m=R4 I x s:=by
 have hr:-128<=M3 x.n/\M3 x.n<=1000000:=by unfold M3;omega
 refine ze func117 ntmps117 λ_ hs=>?_;repeat' first|refine Z ?_|intro
 exact l9 _ ⟨rfl,rfl⟩ slr
end

section
variable {x:DvX}{I:DvI}
theorem Dm {f1 f2:FuncId}[FnB prog f1][FnB prog f2]{cs1 cs2:List Value}{A:List Av.Piece}{D L:DvX->DvX}(hlf:0<=x.lf/\x.lf<=1000000)(hc1:∀ v∈cs1,v.oneCell'=true)(hc2:∀ v∈cs2,v.oneCell'=true)
  (h1:Av.Spec prog GL f1 (cs1.map .lit) (I1 I (L6 x)++A) λu m=>u=.tup []/\∃ v,m=I1 { I with vw:=v } (D (L6 x))++A) (h2:Av.Spec prog GL f2 (cs2.map .lit) (I1 I (gH x)++A) λu m=>u=.tup []/\∃ v,m=I1 { I with vw:=v } (L (gH x))++A) :
  Av.Spec prog GL 229 [ptr I.gd,E5 f1 cs1,E5 f2 cs2] (I1 I x++A) λu m=>u=int (if fB x=false then 14 else 0)/\∃ v,m=I1 { I with vw:=v } (if fB x=false then L (gH x) else D (L6 x))++A:=by
 obtain⟨n,es,ck,ws,on,ar,lf,st⟩:=x;dsimp only at hlf;refine ze func229 ntmps229 λ_ hs=>?_;unfold fB;dsimp only;cases ar
 ·repeat' first|refine Z ?_|intro
  refine EB ?_;repeat' first|refine Z ?_|intro
  refine BD (args:=[]) h1 (λu m1 hh=>?_) (hcs:=hc1);obtain⟨rfl,v,rfl⟩:=hh;repeat' first|refine Z ?_|intro
  exact l9 _ ⟨rfl,v,rfl⟩ slr
 by_cases hl:lf=0
 ·subst hl;repeat' first|refine Z ?_|intro
  refine BD (args:=[]) h2 (λu m1 hh=>?_) (hcs:=hc2);obtain⟨rfl,v,rfl⟩:=hh;repeat' first|refine Z ?_|intro
  exact l9 _ ⟨rfl,v,rfl⟩ slr
 rw[dZ hl];repeat' first|refine Z ?_|intro
 refine EB ?_;repeat' first|refine Z ?_|intro
 refine BD (args:=[]) h1 (λu m1 hh=>?_) (hcs:=hc1);obtain⟨rfl,v,rfl⟩:=hh;repeat' first|refine Z ?_|intro
 exact l9 _ ⟨rfl,v,rfl⟩ slr
abbrev ZY (T3 T4 T5:TypeId)(g3 g4 g5:Nat)(gd:Nat)(a:Int)(s:Bs):List Av.Piece:=[.var g5 T5 (str s),.var g4 T4 (int a),.var g3 T3 (ptr gd)]
theorem Qa {T3 T4 T5:TypeId}{g3 g4 g5:Nat}{a:Int}{s:Bs}(hl:x.ws.length<=1000000):Av.Spec prog GL 234 [ptr g3,ptr g4,ptr g5] (I1 I x++ZY T3 T4 T5 g3 g4 g5 I.gd a s) λu m=>u=.tup []/\∃ v,m=I1 { I with vw:=v } (gG x (a,s))++ZY T3 T4 T5 g3 g4 g5 I.gd a s:=by
 have hm:(x.ws.map tC).length=x.ws.length:=llm _;refine ze func234 ntmps234 λ_ hs=>?_;repeat' first|refine Z ?_|intro
 apply U2 [2];exact rfl;exact rfl;kernel_rfl;kernel_rfl;intro _ _;refine H7 (λv'=>?_);refine j3 (N7 [.tail 294 2 v'] [] rfl rfl lpr rfl ?_);repeat' first|refine Z ?_|intro
 refine jS _ ⟨rfl,v',?_⟩ slr;unfold gG;dsimp only[I1,yF];rw[List.map_append];rfl
attribute [local irreducible] iY
theorem Pz {a:Int}{s:Bs}(hlf:0<=x.lf/\x.lf<=1000000)(hl:x.ws.length<=1000000):Av.Spec prog GL 124 [ptr I.gd,int a,str s] (I1 I x) λu m=>u=int (O7 x a s).2/\∃ v,m=I1 { I with vw:=v } (O7 x a s).1:=by
 refine ze func124 ntmps124 λ_ hs=>?_;repeat' first|refine Z ?_|intro
 rename_i g3 g4 g5;unfold O7;cases hon:x.on
 ·rw[if_pos rfl];repeat' first|refine Z ?_|intro
  refine l9 (I1 I x) ⟨rfl,I.vw,rfl⟩ ?_;exact u7
 rw[if_neg dc];repeat' first|refine Z ?_|intro
 cases hh:iY x a
 ·rw[if_pos (.inl rfl)];repeat' first|refine Z ?_|intro
  refine l9 (I1 I x) ⟨rfl,I.vw,rfl⟩ ?_;exact u7
 repeat' first|refine Z ?_|intro
 by_cases h64:s.length=64
 ·rw[if_neg (by rintro (h|h);cases h;exact h h64),h64];have hcs:∀ v∈[Value.pointer (some ⟨g3,0,none⟩),.pointer (some ⟨g4,0,none⟩),.pointer (some ⟨g5,0,none⟩)],v.oneCell'=true:=by simp[Value.oneCell']
  repeat' first|refine Z ?_|intro
  refine Y3 (vs:=[.pointer (some ⟨g3,0,none⟩),.pointer (some ⟨g4,0,none⟩),.pointer (some ⟨g5,0,none⟩)]) ?_;repeat' first|refine Z ?_|intro
  refine Vx (ZY _ _ _ g3 g4 g5 I.gd a s) (I1 I x) ?_;refine R7 (Dm (D:=λx=>gG x (a,s)) (L:=λx=>gG x (a,s)) hlf hcs hcs (Qa hl) (Qa hl)) (λu m1 hh=>?_);obtain⟨rfl,v,rfl⟩:=hh;cases hm:fB x
  ·rw[if_pos rfl,if_pos rfl,if_pos rfl];repeat' first|refine Z ?_|intro
   refine l9 (I1 { I with vw:=v } (gG (gH x) (a,s))) ⟨rfl,v,rfl⟩ ?_;exact u7
  rw[if_neg dc,if_neg dc,if_neg dc];repeat' first|refine Z ?_|intro
  refine l9 (I1 { I with vw:=v } (gG (L6 x) (a,s))) ⟨rfl,v,rfl⟩ ?_;exact u7
 rw[if_pos (.inr h64)];repeat' first|refine Z ?_|intro
 refine l9 (I1 I x) ⟨rfl,I.vw,rfl⟩ ?_;exact u7
theorem a4P {n:Int}{gm:Nat}{on ar:Bool}{lf st:Int}:ImpC (.agg 7 [int n,aA gm,.lit (.slice none 0 0),d9 on,d9 ar,int lf,int st]) (.agg 7 [int n,aA gm,.sl 2 [] (some (.slice none 0 0)),d9 on,d9 ar,int lf,int st]):=(inferInstance:ImpT _ _).imp
def dL (x:DvX)(k:Nat):DvX:=(x.ws.take k).foldl bP x
theorem Pg:∀ (ws:List (Int × Bs)) (x:DvX),(ws.foldl bP x).ws=x.ws
 | [],_=>rfl
 | w::ws,x=>Pg ws (bP x w)
theorem Md {k:Nat}(h:k<x.ws.length):dL x (k+1)=bP (dL x k) x.ws[k]:=by
 unfold dL;rw[<- List.take_append_getElem h,List.foldl_append];rfl
theorem a6g {T1:TypeId}{g1:Nat}(hl:x.ws.length<=1000000):Av.Spec prog GL 230 [ptr g1] (I1 I x++[.var g1 T1 (ptr I.gd)]) λu m=>u=.tup []/\∃ v,m=I1 { I with vw:=v } (aL x)++[.var g1 T1 (ptr I.gd)]:=by
 have hm:(x.ws.map tC).length=x.ws.length:=llm _;refine ze func230 ntmps230 λ_ hs=>?_;repeat' first|refine Z ?_|intro
 rw[hm];refine y9 (α:=Nat) (λk=>[(0,ptr g1),(6,.sl 2 (x.ws.map tC) (some I.vw)),(7,int x.ws.length),(8,int k)]) (λk=>I1 I (dL x k)++[.var g1 T1 (ptr I.gd)]) (λk=>k<=x.ws.length) (λk=>x.ws.length-k) 0 zc slr (Nat.zero_le _) ?_;intro k hk;by_cases hk':k<x.ws.length
 ·repeat' first|refine Z ?_|intro
  rename_i g2;refine iN [_] (I1 I (dL x k)) [_] (a6e (w:=x.ws[k])) (λu m1 hh=>?_);obtain⟨rfl,rfl⟩:=hh;rw[<- Md hk'];repeat' first|refine Z ?_|intro
  exact o9 (k+1) zc (List.sublist_cons_self _ _) hk' om
 obtain rfl:k=x.ws.length:=by omega
 repeat' first|refine Z ?_|intro
 refine xA (g:=I.gd) a4P ?_;refine wB (λok w h=>h.full 294 2 none 0) ?_;rw[show dL x x.ws.length=x.ws.foldl bP x by unfold dL;rw[List.take_length]];refine dW (I1 { I with vw:=.slice none 0 0 } (aL x)++[.var g1 T1 (ptr I.gd)]) [_,_,_,_] ?_ (List.perm_middle (l₁:=[_,_])) ?_
 ·exact jS _ ⟨rfl,_,rfl⟩ slr
 exact u7
instance : FnB prog 232 := ⟨kr⟩
theorem a6f {m:List Av.Piece}:Av.Spec prog GL 232 [] m λu m'=>u=.tup []/\m'=m:=by
 refine ze func232 ntmps232 λ_ hs=>?_;repeat' first|refine Z ?_|intro
 exact jS _ ⟨rfl,rfl⟩ slr
theorem a6h (hlf:0<=x.lf/\x.lf<=1000000)(hl:x.ws.length<=1000000):Av.Spec prog GL 119 [ptr I.gd] (I1 I x) λu m=>u=int (aB x).2/\∃ v,m=I1 { I with vw:=v } (aB x).1:=by
 refine ze func119 ntmps119 λ_ hs=>?_;repeat' first|refine Z ?_|intro
 rename_i g1;unfold aB;cases hon:x.on
 ·rw[if_pos rfl];repeat' first|refine Z ?_|intro
  refine l9 (I1 I x) ⟨rfl,I.vw,rfl⟩ ?_;exact u7
 rw[if_neg dc];have hcs:∀ v∈[Value.pointer (some ⟨g1,0,none⟩)],v.oneCell'=true:=by simp[Value.oneCell']
 repeat' first|refine Z ?_|intro
 refine Y3 (vs:=[.pointer (some ⟨g1,0,none⟩)]) ?_;repeat' first|refine Z ?_|intro
 refine Vx [_] (I1 I x) ?_;refine R7 (Dm (cs2:=[]) (D:=aL) (L:=λx=>x) hlf hcs sm (a6g hl) (a6f.mono λ_ _ h=>⟨h.1,I.vw,h.2⟩)) (λu m1 hh=>?_);obtain⟨rfl,v,rfl⟩:=hh;cases hm:fB x
 ·rw[if_pos rfl,if_pos rfl,if_pos rfl];repeat' first|refine Z ?_|intro
  refine l9 (I1 { I with vw:=v } (gH x)) ⟨rfl,v,rfl⟩ ?_;exact u7
 rw[if_neg dc,if_neg dc,if_neg dc];repeat' first|refine Z ?_|intro
 refine l9 (I1 { I with vw:=v } (aL (L6 x))) ⟨rfl,v,rfl⟩ ?_;exact u7
end
end Go.Proofs.Z
