/- . -/
import Derived.Test.YtocpacdnjbjjmaaGreatDoorS24
set_option maxHeartbeats 64000000
namespace Go.Proofs.YtocpacdnjbjjmaaGreatDoor
open Go Go.RowKit Tw Av Go.Proofs.Tryz
instance : TyMp prog 88 3 9 := ⟨kr, by kernel_rfl, by kernel_rfl⟩
abbrev jP (w:Int × Bs):AV:=.agg 2 [int w.1,str w.2]
abbrev uR (gm:Nat)(x:DvX)(vw:Value):AV:=.agg 7 [int x.n,uF gm,.sl 2 (x.ws.map jP) (some vw),j3 x.on,j3 x.ar,int x.lf,int x.st]
structure DvI where
 gd:Nat
 gm:Nat
 vw:Value
abbrev F4 (I:DvI)(x:DvX):List Av.Piece:=[.var I.gd 91 (uR I.gm x I.vw),.obj I.gm (cK x.es x.ck),.tail 125 2 I.vw]
instance b7T {g gm:Nat}{x:DvX}{vw:Value}:AnsM prog GL 61 g [] 91 (uR gm x vw) True (int x.n) (uR gm x vw):=⟨fun _=>by
 refine qE func61 rfl ntmps61 rfl (fun _ hs=>?_);repeat' first|refine Vz ?_|intro _
 exact o5 _ ⟨rfl,rfl⟩ slr⟩
instance b7U {g gm:Nat}{x:DvX}{vw:Value}{a:Int}:AnsM prog GL 119 g [int a] 91 (uR gm x vw) True (j3 (aQ x a)) (uR gm x vw):=⟨fun _=>by
 refine qE func119 rfl ntmps119 rfl (fun _ hs=>?_);unfold aQ;by_cases h1:0<=a
 ·rw[show decide (0<=a/\a<x.n)=decide (a<x.n) by simp[h1]];repeat' first|refine Zz ?_|intro _
  exact o5 _ ⟨rfl,rfl⟩ slr
 ·rw[dZ (show ¬ (0<=a/\a<x.n) from fun h=>h1 h.1)];repeat' first|refine Zz ?_|intro _
  exact o5 _ ⟨rfl,rfl⟩ slr⟩
attribute [local irreducible] aQ
instance b4r {k:Nat}:ImpT (.lit (.slice none 0 0)) (.sl k [] (some (.slice none 0 0))):=⟨ImpC.nilT⟩
theorem a3k {n:Int}{gm:Nat}:ImpC (.agg 7 [int n,uF gm,.lit (.slice none 0 0),j3 true,j3 false,int 0,int 0]) (uR gm (iM n) (.slice none 0 0)):=(inferInstance:ImpT _ (.agg 7 [int n,uF gm,.sl 2 [] (some (.slice none 0 0)),j3 true,j3 false,int 0,int 0])).imp
theorem UY {n:Int}(h1:1<=n)(h2:n<=4096):Av.Spec prog GL 7 [int n] [] fun u m=>∃ I,u=ptr I.gd/\m=F4 I (iM n):=by
 refine qE func7 rfl ntmps7 rfl (fun _ hs=>?_);repeat' first|refine Zz ?_|intro _
 refine a7Y (fun gm=>?_);repeat' first|refine Zz ?_|intro _
 rename_i gd;refine zA (g:=gd) a3k ?_;refine nM (fun ok w h=>h.full 125 2 none 0) ?_;refine nM (fun ok w h=>h.perm (m':=F4 ⟨gd,gm,.slice none 0 0⟩ (iM n)) (List.perm_append_comm (l₁:=[_,_]) (l₂:=[_]))) ?_;exact o5 _ ⟨_,rfl,rfl⟩ slr
theorem a4D {I:DvI}{x:DvX}{k:Int}:Av.Spec prog GL 24 [ptr I.gd,int k] (F4 I x) fun u m=>u=.tup []/\m=F4 I (nC x k):=by
 refine qE func24 rfl ntmps24 rfl (fun _ hs=>?_);repeat' first|refine Zz ?_|intro _
 exact fU _ ⟨rfl,rfl⟩ slr
theorem UZ {I:DvI}{x:DvX}{w:Int × Bs}:Av.Spec prog GL 54 [ptr I.gd,jP w] (F4 I x) fun u m=>u=.tup []/\m=F4 I (Y6 x w):=by
 refine qE func54 rfl ntmps54 rfl (fun _ hs=>?_);repeat' first|refine Zz ?_|intro _
 apply bA [2];exact rfl;exact rfl;kernel_rfl
 ·intro _ _;refine a7W (pre:=[]) (post:=[]) ?_ rfl;exact j4 (bG rfl)
 ·exact rfl
 ·exact rfl
 repeat' first|refine Zz ?_|intro _
 apply u7 [];exact rfl;exact rfl;kernel_rfl
 ·intro _ _;refine yV ?_;exact j4 (o7 rfl rfl)
 repeat' first|refine Zz ?_|intro _
 have hk:Y6 x w={ x with es:=if w.2=List.replicate (Int.toNat 64) 0 then jF (bJ x.es x.ck w.1 w.2) w.1 else bJ x.es x.ck w.1 w.2,ck:=vS x.es x.ck w.1 }:=rfl;rw[hk];refine o9 (fun h=>?_) (fun h=>?_)
 ·rw[if_pos h];repeat' first|refine Zz ?_|intro _
  apply bA [2];exact rfl;exact rfl;kernel_rfl
  ·intro _ _;refine a7X (pre:=[]) (post:=[]) ?_ rfl;exact j4 (bG rfl)
  ·exact rfl
  ·exact rfl
  repeat' first|refine Zz ?_|intro _
  refine fU _ ⟨rfl,rfl⟩ ?_;exact r9
 ·rw[if_neg h];repeat' first|refine Zz ?_|intro _
  refine fU _ ⟨rfl,rfl⟩ ?_;exact r9
theorem Js {I:DvI}{x:DvX}{a:Int}:Av.Spec prog GL 53 [ptr I.gd,int a] (F4 I x) fun u m=>u=str (if aQ x a=true then D9 x a else [])/\m=F4 I x:=by
 refine qE func53 rfl ntmps53 rfl (fun _ hs=>?_);repeat' first|refine Zz ?_|intro _
 cases hh:aQ x a
 ·repeat' first|refine Zz ?_|intro _
  exact o5 _ ⟨rfl,rfl⟩ slr
 repeat' first|refine Zz ?_|intro _
 refine a7Z ?_;repeat' first|refine Zz ?_|intro _
 unfold D9;cases hf:cO x.es a with
 | none=>
  repeat' first|refine Zz ?_|intro _
  refine yV ?_;repeat' first|refine Zz ?_|intro _
  exact o5 _ ⟨rfl,rfl⟩ slr
 | some t=>
  repeat' first|refine Zz ?_|intro _
  exact o5 _ ⟨rfl,rfl⟩ slr
theorem Sr (l r:List (Int × Bs))(a:Int):bH (l++r) a=match bH r a with|some s=>some s|none=>bH l a:=by
 unfold bH;rw[List.reverse_append,List.find?_append];cases r.reverse.find? fun w=>decide (w.1=a) <;> rfl
theorem XH {ws:List (Int × Bs)}{a:Int}{k:Nat}(hk:k<ws.length):bH (ws.take (k+1)) a=if ws[k].1=a then some ws[k].2 else bH (ws.take k) a:=by
 rw[<- List.take_append_getElem hk,Sr];by_cases h:ws[k].1=a
 ·rw[if_pos h];simp[bH,h]
 ·rw[if_neg h];simp[bH,h]
theorem UX {I:DvI}{x:DvX}{a:Int}(hon:x.on=true)(ha:aQ x a=true)(hl:x.ws.length<=1000000):Av.Spec prog GL 62 [ptr I.gd,int a] (F4 I x) fun u m=>u=.tup [str (Z8 x a),int 0]/\m=F4 I x:=by
 have hm:(x.ws.map jP).length=x.ws.length:=llm _;refine qE func62 rfl ntmps62 rfl (fun _ hs=>?_);repeat' first|refine Zz ?_|intro _
 rw[hon];repeat' first|refine Zz ?_|intro _
 rw[ha];repeat' first|refine Zz ?_|intro _
 rw[hm];refine z8 (α:=Nat) (fun k=>[(0,ptr I.gd),(1,int a),(6,int ((k:Int)-1))]) (fun _=>F4 I x) (fun k=>k<=x.ws.length/\bH x.ws a=bH (x.ws.take k) a) (fun k=>k) x.ws.length ⟨rfl,rfl,rfl,trivial⟩ slr ⟨Nat.le_refl _,by rw[List.take_length]⟩ ?_;rintro k ⟨hk,hI⟩;rcases k with _|k
 ·repeat' first|refine Zz ?_|intro _
  refine X0 [] (F4 I x) [] Js (fun u m1 hh=>?_);obtain⟨rfl,rfl⟩:=hh;rw[if_pos ha];repeat' first|refine Zz ?_|intro _
  have e:Z8 x a=D9 x a:=by
   unfold Z8;rw[hI];rfl
  rw[e];exact o5 _ ⟨rfl,rfl⟩ slr
 ·rw[show ((k+1:Nat):Int)-1=(k:Int) by omega];have hk':k<x.ws.length:=hk;rw[XH hk'] at hI;repeat' first|refine Zz ?_|intro _
  by_cases he:x.ws[k].1=a
  ·rw[if_pos he] at hI;repeat' first|refine Zz ?_|intro _
   have e:Z8 x a=x.ws[k].2:=by
    unfold Z8;rw[hI];rfl
   rw[e];exact o5 _ ⟨rfl,rfl⟩ slr
  ·rw[if_neg he] at hI;repeat' first|refine Zz ?_|intro _
   exact o6 k ⟨rfl,rfl,rfl,trivial⟩ slr ⟨om,hI⟩ (Nat.lt_succ_self _)
end Go.Proofs.YtocpacdnjbjjmaaGreatDoor

namespace Av
open Go Go.RowKit Tw
theorem Kt {P:Program}{e:TypeId}{k:IntKind}(he:P.underlying e=some (.int k))(w:World)(d:Nat):∀ (n o:Nat) (la lb:List Int),la.length=o+n->lb.length=o+n ->
  (Op.eqItems (d+1) e 1 (la.map (Value.int k)).toArray (lb.map (Value.int k)).toArray (List.range' o n)).run P w=.ok (decide (la.drop o=lb.drop o)) w
 | 0,o,la,lb,h1,h2=>by
  rw[List.drop_of_length_le (l:=la) om,List.drop_of_length_le (l:=lb) om];simp[Op.eqItems]
 | n+1,o,la,lb,h1,h2=>by
  have hp:P.plainKey e=true:=by simp[Program.plainKey,he]
  have hla:o<la.length:=om
  have hlb:o<lb.length:=om
  have ea:(la.map (Value.int k)).toArray[o*1]?=some (Value.int k la[o]):=by simp[hla]
  have eb:(lb.map (Value.int k)).toArray[o*1]?=some (Value.int k lb[o]):=by simp[hlb]
  have hq:(Op.equalIn (d+1) e (Value.int k la[o]) (Value.int k lb[o])).run P w=.ok (decide (la[o]=lb[o])) w:=by
   rw[run_equalIn_int _ d e _ _ _ _ he];rfl
  rw[List.range'_succ];simp only[Op.eqItems,Sem.run_bind,run_part_plain w hp ea,run_part_plain w hp eb,Result.andThen_ok,hq];rw[List.drop_eq_getElem_cons hla,List.drop_eq_getElem_cons hlb];by_cases h:la[o]=lb[o]
  ·simp only[h,decide_true,Bool.not_true,Bool.false_eq_true,if_false,Kt he w d n (o+1) la lb om om,List.cons.injEq,true_and]
  ·have hf:decide (la[o]::la.drop (o+1)=lb[o]::lb.drop (o+1))=false:=by
    rw[decide_eq_false_iff_not,List.cons.injEq];exact fun e=>h e.1
   rw[hf];simp[h]
theorem Iu {ok:Ok}{w:World}{k:IntKind}{a b c d:Int}{v:Value}(hr:RV0 ok w (.agg 4 [.lit (.int k a),.lit (.int k b),.lit (.int k c),.lit (.int k d)]) v):v=.agg ([a,b,c,d].map (Value.int k)).toArray:=by
 obtain⟨cs,rfl,h⟩:=CV (RV.of0 hr);rw[RC,RCs] at h;obtain⟨_,c1,d1,rfl,g1,h⟩:=h;rw[RCs] at h;obtain⟨c2,d2,rfl,g2,h⟩:=h;rw[RCs] at h;obtain⟨c3,d3,rfl,g3,h⟩:=h;rw[RCs] at h;obtain⟨c4,d4,rfl,g4,h⟩:=h;rw[RCs] at h;subst h;rw[RC] at g1 g2 g3 g4;rw[g1.1,g2.1,g3.1,g4.1];rfl
instance {P:Program}{T e:TypeId}{k:IntKind}[t:TyA P T 4 e 1][te:TyI P e k]{a b c d a' b' c' d':Int}:Eqv P T (.agg 4 [.lit (.int k a),.lit (.int k b),.lit (.int k c),.lit (.int k d)]) (.agg 4 [.lit (.int k a'),.lit (.int k b'),.lit (.int k c'),.lit (.int k d')]) 1 (decide ([a,b,c,d]=[a',b',c',d'])):=⟨fun {ok w va vb} d hd ha hb=>by
 rw[Iu ha,Iu hb];obtain⟨i,hi,hc⟩:=Gz t.sz;obtain⟨d,rfl⟩:∃ d',d=d'+1:=⟨d-1,om⟩;rw[run_equalIn_array w (d+1) _ _ t.out hi,hc,List.range_eq_range',Kt te.out w d 4 0 _ _ rfl rfl];rfl⟩
theorem zG (a:Wd):decide ([((lm a.n 0:Nat):Int),(lm a.n 1:Nat),(lm a.n 2:Nat),(lm a.n 3:Nat)]=[0,0,0,0])=decide (a.n=0):=by
 rw[decide_eq_decide]
 constructor
 ·intro h;simp only[List.cons.injEq] at h;exact a1x a.lt wZ.lt (by rw[vV];omega) (by rw[vV];omega) (by rw[vV];omega) (by rw[vV];omega)
 ·intro h;rw[h,vV,vV,vV,vV];rfl
def vT (n m i:Nat):List AV:=(List.range 4).map fun j=>u6 (lm (if j<i then n else m) j)
instance {n m i:Nat}:Siz (vT n m i) 1:=by unfold vT;infer_instance
theorem a1V (n m i:Nat):(vT n m i).length=4:=rfl
theorem a1W {n m i:Nat}(h:i<4):(vT n m i)[i]?=some (u6 (lm m i)):=by
 rcases i with _|_|_|_|i <;> first|rfl|omega
theorem a1U {n m i:Nat}(h:i<4):(vT n m i).set i (u6 (lm n i))=vT n m (i+1):=by
 rcases i with _|_|_|_|i <;> first|rfl|omega
def dB (X Y:Nat->Nat)(i:Nat):List AV:=(List.range 4).map fun j=>u6 (if j<i then X j else Y j)
instance {X Y:Nat->Nat}{i:Nat}:Siz (dB X Y i) 1:=by unfold dB;infer_instance
theorem TL (X Y:Nat->Nat)(i:Nat):(dB X Y i).length=4:=rfl
theorem Ff (X Y:Nat->Nat):dB X Y 0=[u6 (Y 0),u6 (Y 1),u6 (Y 2),u6 (Y 3)]:=rfl
theorem TM (X Y:Nat->Nat):dB X Y 4=[u6 (X 0),u6 (X 1),u6 (X 2),u6 (X 3)]:=rfl
theorem Fe {X Y:Nat->Nat}{i:Nat}(h:i<4):(dB X Y i)[i]?=some (u6 (Y i)):=by
 rcases i with _|_|_|_|i <;> first|rfl|omega
theorem a2a {X Y:Nat->Nat}{i:Nat}(h:i<4):(dB X Y i).set i (u6 (X i))=dB X Y (i+1):=by
 rcases i with _|_|_|_|i <;> first|rfl|omega
theorem a1Y {X Y:Nat->Nat}(h:∀ i,X i<18446744073709551616):∃ n:Nat,n<115792089237316195423570985008687907853269984665640564039457584007913129639936/\AV.agg 4 (dB X Y 4)=U5 n:=by
 obtain⟨h1,h2,h3,h4,h5⟩:=Ut (h 0) (h 1) (h 2) (h 3);refine⟨_,h1,?_⟩;rw[TM];unfold U5;rw[h2,h3,h4,h5]
theorem DV {n i:Nat}(h:i<4):[u6 (lm n 0),u6 (lm n 1),u6 (lm n 2),u6 (lm n 3)][i]?=some (u6 (lm n i)):=by
 rcases i with _|_|_|_|i <;> first|rfl|omega
def yI (a b:Nat):Nat->Nat
 | 0=>0
 | i+1=>(lm a i+lm b i+yI a b i) / 18446744073709551616
def uW (a b:Nat):Nat->Nat
 | 0=>0
 | i+1=>nG (lm a i) (lm b i) (uW a b i)
theorem a6a (a b:Wd):(∀ i,i<4->yI a.n b.n i<=1/\lm (a.n+b.n) i=(lm a.n i+lm b.n i+yI a.n b.n i)%18446744073709551616)/\yI a.n b.n 4<=1/\(yI a.n b.n 4=0↔T9 (a.n+b.n)=true):=by
 obtain⟨c0,c1,c2,c3,rfl,rfl,rfl,rfl,h0,h1,h2,h3,h4,g0,g1,g2,g3⟩:=a8Y a b;refine⟨fun i hi=>?_,h3,by rw[T9,decide_eq_true_iff];exact h4⟩;rcases i with _|_|_|_|i
 ·exact⟨Nat.zero_le _,g0⟩
 ·exact⟨h0,g1⟩
 ·exact⟨h1,g2⟩
 ·exact⟨h2,g3⟩
 ·omega
theorem a6K (a b:Wd):(∀ i,i<4->uW a.n b.n i<=1)/\uW a.n b.n 4<=1/\(uW a.n b.n 4=0↔b.n<=a.n)/\(b.n<=a.n->∀ i,i<4->lm (a.n-b.n) i=(lm a.n i+18446744073709551616-lm b.n i-uW a.n b.n i)%18446744073709551616):=by
 obtain⟨c0,c1,c2,c3,rfl,rfl,rfl,rfl,h0,h1,h2,h3,h4,h5⟩:=Yb a b;refine⟨fun i hi=>?_,h3,h4,fun hle i hi=>?_⟩
 ·rcases i with _|_|_|_|i
  ·exact Nat.zero_le _
  ·exact h0
  ·exact h1
  ·exact h2
  ·omega
 ·obtain⟨g0,g1,g2,g3⟩:=h5 hle;rcases i with _|_|_|_|i
  ·exact g0
  ·exact g1
  ·exact g2
  ·exact g3
  ·omega
end Av
namespace Go.Proofs.YtocpacdnjbjjmaaGreatDoor
open Go Go.RowKit Tw Av
instance b4t {a:Wd}:Ans Tryz.prog GL 376 [C9 a] True (j3 (decide (a.n=0))):=⟨fun _=>by
 refine qE Tryz.func376 rfl Tryz.ntmps376 rfl (fun _ hs=>?_);repeat' (first|refine W ?_|refine AX ?_|refine LP ?_|refine AU ?_|refine LM ?_|refine G5 (fun _=>?_)|intro _)
 refine d9 ?_;show j3 _=_;rw[zG]⟩
instance b4v {n:Nat}{c:Nat}:Ans Tryz.prog GL 409 [U5 n,u6 c] True (.tup [U5 (if c=0 then n else 0),j3 (decide (c=0))]):=⟨fun _=>by
 refine qE Tryz.func409 rfl Tryz.ntmps409 rfl (fun _ hs=>?_);repeat' first|refine Vz ?_|intro _
 refine o9 (fun h=>?_) (fun h=>?_)
 ·repeat' first|refine Vz ?_|intro _
  refine d9 ?_;have h0:¬ c=0:=by omega
  rw[if_neg h0,dZ h0];rfl
 ·repeat' first|refine Vz ?_|intro _
  refine d9 ?_;have h0:c=0:=by omega
  rw[if_pos h0,dT h0];rfl⟩
section
variable {N:Nat} {ops:Array Oper} {Q:Exit->Act->World->Prop} {rest:List Oper} {s:Av.Base} {e:Av.Env} {m:List Av.Piece} {d:Nat} {ty:TypeId} {pos:String} {af:Array Edge}
theorem a8L {x y c:Nat}{xs:List Operand}{ts:Array TypeId}(hc:c<=1)(h:AL Tryz.prog N ops Q s rest ((d,.tup [u6 ((x+y+c)%18446744073709551616),u6 ((x+y+c) / 18446744073709551616)])::e) m)(hx:L8 e xs=some [u6 x,u6 y,u6 c]:=by exact rfl)(hd:Nat.blt d N=true:=by exact rfl):AL Tryz.prog N ops Q s (⟨some d,.call ⟨.value (.func 408),xs.toArray,ts⟩,ty,pos,af,none⟩::rest) e m:=by
 apply yX (en := (Extern.MathBitsCarry.rows.getD 0 ("", fun _ => pure undef)).2) (v := .tup [u6 ((x + y + c) % 18446744073709551616), u6 ((x + y + c) / 18446744073709551616)]) Tryz.func408; kernel_rfl; exact rfl; kernel_rfl; kernel_rfl; exact hx; exact rfl; exact hd
 ·rintro ok w cs _ ⟨u1,us,rfl,h1,u2,us2,rfl,h2,u3,us3,rfl,h3,rfl⟩;rw[RV0.lit h1,RV0.lit h2,RV0.lit h3];rcases (by omega:c=0\/c=1) with rfl|rfl
  ·exact⟨_,rfl,⟨_,rfl,_,_,rfl,RV0.of_lit rfl,_,_,rfl,RV0.of_lit rfl,rfl⟩⟩
  ·exact⟨_,rfl,⟨_,rfl,_,_,rfl,RV0.of_lit rfl,_,_,rfl,RV0.of_lit rfl,rfl⟩⟩
 ·exact h
theorem a7r {x y c:Nat}{xs:List Operand}{ts:Array TypeId}(hc:c<=1)(h:AL Tryz.prog N ops Q s rest ((d,.tup [u6 ((x+18446744073709551616-y-c)%18446744073709551616),u6 (nG x y c)])::e) m)(hx:L8 e xs=some [u6 x,u6 y,u6 c]:=by exact rfl)(hd:Nat.blt d N=true:=by exact rfl):AL Tryz.prog N ops Q s (⟨some d,.call ⟨.value (.func 438),xs.toArray,ts⟩,ty,pos,af,none⟩::rest) e m:=by
 apply yX (en := (Extern.MathBitsCarry.rows.getD 1 ("", fun _ => pure undef)).2) (v := .tup [u6 ((x + 18446744073709551616 - y - c) % 18446744073709551616), u6 (nG x y c)]) Tryz.func438; kernel_rfl; exact rfl; kernel_rfl; kernel_rfl; exact hx; exact rfl; exact hd
 ·rintro ok w cs _ ⟨u1,us,rfl,h1,u2,us2,rfl,h2,u3,us3,rfl,h3,rfl⟩;rw[RV0.lit h1,RV0.lit h2,RV0.lit h3];rcases (by omega:c=0\/c=1) with rfl|rfl
  ·exact⟨_,rfl,⟨_,rfl,_,_,rfl,RV0.of_lit rfl,_,_,rfl,RV0.of_lit rfl,rfl⟩⟩
  ·exact⟨_,rfl,⟨_,rfl,_,_,rfl,RV0.of_lit rfl,_,_,rfl,RV0.of_lit rfl,rfl⟩⟩
 ·exact h
end
instance b4y {a b:Wd}:Ans Tryz.prog GL 355 [C9 a,C9 b] True (.tup [C9 (X4 (a.n+b.n)),j3 (T9 (a.n+b.n))]):=⟨fun _=>by
 obtain⟨hcr,h4,h40⟩:=a6a a b;refine qE Tryz.func355 rfl Tryz.ntmps355 rfl (fun _ hs=>?_);repeat' first|refine Vz ?_|intro _
 rename_i g2 g3 g4;refine gM (g:=g2) (v':=.agg 4 (vT (a.n+b.n) a.n 0)) (fun ok w cs h=>h) ?_;refine z8 (α:=Nat) (fun i=>[(2,ptr g2),(3,ptr g3),(4,ptr g4),(6,u6 (yI a.n b.n i)),(8,int i)])
   (fun i=>[.var g4 94 (U5 0),.var g3 94 (C9 b),.var g2 94 (.agg 4 (vT (a.n+b.n) a.n i))]) (fun i=>i<=4) (fun i=>4-i) 0 ⟨rfl,rfl,rfl,rfl,rfl,trivial⟩ slr (Nat.zero_le _) ?_
 intro i hi;repeat' first|refine Vz ?_|intro _
 refine o9 (fun hlt=>?_) (fun hlt=>?_)
 ·have hl:i<4:=om
  obtain⟨c1,c2⟩:=hcr i hl;have hln:=a1V (a.n+b.n) a.n i;repeat' first|refine Vz ?_|intro _
  apply u7 [];exact rfl;exact rfl;kernel_rfl;intro _ _;refine O8 i ?_;exact j4 (o7 rfl rfl);apply u7 [2];exact rfl;exact rfl;kernel_rfl;intro _ _;refine bR (a1W hl) ?_;exact j4 (o7 rfl rfl);repeat' first|refine Vz ?_|intro _
  apply u7 [];exact rfl;exact rfl;kernel_rfl;intro _ _;refine O8 i ?_;exact j4 (o7 rfl rfl);apply u7 [1];exact rfl;exact rfl;kernel_rfl;intro _ _;refine bR (DV hl) ?_;exact j4 (o7 rfl rfl);repeat' first|refine Vz ?_|intro _
  apply u7 [];exact rfl;exact rfl;kernel_rfl;intro _ _;refine a8L c1 ?_;exact j4 (o7 rfl rfl);repeat' first|refine Vz ?_|intro _
  apply u7 [];exact rfl;exact rfl;kernel_rfl;intro _ _;refine O8 i ?_;exact j4 (o7 rfl rfl);apply bA [2];exact rfl;exact rfl;kernel_rfl;intro _ _;refine lU (j:=i) (by rw[hln];exact hl) ?_;exact j4 (bG rfl);exact rfl;exact rfl;rw[<- c2,a1U hl];repeat' first|refine Vz ?_|intro _
  refine o6 (i+1) ⟨rfl,rfl,rfl,rfl,rfl,trivial⟩ ?_ hl om;exact r9
 ·obtain rfl:i=4:=by omega
  refine gM (g:=g2) (v':=U5 (a.n+b.n)) (fun ok w cs h=>h) ?_;repeat' first|refine Vz ?_|intro _
  refine d9 ?_;by_cases h0:yI a.n b.n 4=0
  ·have h1:=h40.1 h0;rw[if_pos h0,h1,dT h0];show AV.tup [U5 _,_]=.tup [U5 _,_];rw[oK (of_decide_eq_true h1)]
  ·have h1:T9 (a.n+b.n)=false:=by
    cases h:T9 (a.n+b.n)
    ·rfl
    ·exact absurd (h40.2 h) h0
   rw[if_neg h0,h1,dZ h0];show AV.tup [U5 _,_]=.tup [U5 _,_];rw[YG (of_decide_eq_false h1)];rfl⟩
instance b4u {a b:Wd}:Ans Tryz.prog GL 414 [C9 a,C9 b] True (.tup [C9 (X4 (a.n-b.n)),j3 (decide (b.n<=a.n))]):=⟨fun _=>by
 obtain⟨hbo,h4,h40,hlm⟩:=a6K a b;refine qE Tryz.func414 rfl Tryz.ntmps414 rfl (fun _ hs=>?_);repeat' first|refine Vz ?_|intro _
 rename_i g2 g3 g4;generalize hX:(fun i=>(lm a.n i+18446744073709551616-lm b.n i-uW a.n b.n i)%18446744073709551616)=X at *;refine gM (g:=g2) (v':=.agg 4 (dB X (lm a.n) 0)) (fun ok w cs h=>by rw[Ff];exact h) ?_;refine z8 (α:=Nat) (fun i=>[(2,ptr g2),(3,ptr g3),(4,ptr g4),(6,u6 (uW a.n b.n i)),(8,int i)])
   (fun i=>[.var g4 94 (U5 0),.var g3 94 (C9 b),.var g2 94 (.agg 4 (dB X (lm a.n) i))]) (fun i=>i<=4) (fun i=>4-i) 0 ⟨rfl,rfl,rfl,rfl,rfl,trivial⟩ slr (Nat.zero_le _) ?_
 intro i hi;repeat' first|refine Vz ?_|intro _
 refine o9 (fun hlt=>?_) (fun hlt=>?_)
 ·have hl:i<4:=om
  have c1:=hbo i hl;have hln:=TL X (lm a.n) i;repeat' first|refine Vz ?_|intro _
  apply u7 [];exact rfl;exact rfl;kernel_rfl;intro _ _;refine O8 i ?_;exact j4 (o7 rfl rfl);apply u7 [2];exact rfl;exact rfl;kernel_rfl;intro _ _;refine bR (Fe hl) ?_;exact j4 (o7 rfl rfl);repeat' first|refine Vz ?_|intro _
  apply u7 [];exact rfl;exact rfl;kernel_rfl;intro _ _;refine O8 i ?_;exact j4 (o7 rfl rfl);apply u7 [1];exact rfl;exact rfl;kernel_rfl;intro _ _;refine bR (DV hl) ?_;exact j4 (o7 rfl rfl);repeat' first|refine Vz ?_|intro _
  apply u7 [];exact rfl;exact rfl;kernel_rfl;intro _ _;refine a7r c1 ?_;exact j4 (o7 rfl rfl);repeat' first|refine Vz ?_|intro _
  apply u7 [];exact rfl;exact rfl;kernel_rfl;intro _ _;refine O8 i ?_;exact j4 (o7 rfl rfl);apply bA [2];exact rfl;exact rfl;kernel_rfl;intro _ _;refine lU (j:=i) (by rw[hln];exact hl) ?_;exact j4 (bG rfl);exact rfl;exact rfl;rw[show (lm a.n i+18446744073709551616-lm b.n i-uW a.n b.n i)%18446744073709551616=X i by rw[<- hX],a2a hl];repeat' first|refine Vz ?_|intro _
  refine o6 (i+1) ⟨rfl,rfl,rfl,rfl,rfl,trivial⟩ ?_ hl om;exact r9
 ·obtain rfl:i=4:=by omega
  by_cases h0:uW a.n b.n 4=0
  ·have h1:=h40.1 h0;have h2:=hlm h1;have e:AV.agg 4 (dB X (lm a.n) 4)=U5 (a.n-b.n):=by
    have hX':∀ i,i<4->X i=lm (a.n-b.n) i:=fun i hi=>by rw[h2 i hi,<- hX]
    rw[TM,hX' 0 om,hX' 1 om,hX' 2 om,hX' 3 om]
   rw[e];repeat' first|refine Vz ?_|intro _
   refine d9 ?_;rw[if_pos h0,dT h0,dT h1];show AV.tup [U5 _,_]=.tup [U5 _,_];rw[oK (Nat.lt_of_le_of_lt (Nat.sub_le _ _) a.lt)]
  ·have h1:¬ b.n<=a.n:=fun h=>h0 (h40.2 h);obtain⟨n,hn,e⟩:=a1Y (X:=X) (Y:=lm a.n) (by rw[<- hX];exact fun i=>Nat.mod_lt _ dc);rw[e];repeat' first|refine Vz ?_|intro _
   refine d9 ?_;rw[if_neg h0,dZ h0,dZ h1];show AV.tup [U5 _,_]=.tup [U5 _,_];rw[show a.n-b.n=0 by omega];rfl⟩
end Go.Proofs.YtocpacdnjbjjmaaGreatDoor

namespace Av
open Go Go.RowKit Tw
section
variable {P:Program} {N:Nat} {ops:Array Oper} {Q:Exit->Act->World->Prop} {rest:List Oper} {s:Av.Base} {e:Av.Env} {m:List Av.Piece} {d:Nat} {ty:TypeId} {pos:String} {af:Array Edge}
theorem KZ (k:Nat):2 ^ (8*k)=256 ^ k:=by rw[Nat.pow_mul]
theorem Qb {T yT:TypeId}{yk:IntKind}{x y:Operand}{a:Nat}{b:Int}(k:Nat)(h:AL P N ops Q s rest ((d,u6 (a / 256 ^ k))::e) m)(hx:ev e x=some (u6 a):=by exact rfl)(hy:ev e y=some (.lit (.int yk b)):=by exact rfl)(hb:b=((8*k:Nat):Int):=by omega)(hk:k<=8:=by omega)(hd:Nat.blt d N=true:=by exact rfl):AL P N ops Q s (⟨some d,.binOp .shr T x y yT,ty,pos,af,none⟩::rest) e m:=by
 refine IP (n:=8*k) ?_ hx hy (by rw[hb];rfl) (Nat.ble_eq_true_of_le (show 8*k<=64 by omega)) hd;rw[KZ,<- Int.natCast_ediv];exact h
theorem a7x {T yT:TypeId}{yk:IntKind}{x y:Operand}{a:Nat}{b:Int}(k:Nat)(h:AL P N ops Q s rest ((d,u6 (256 ^ k*a))::e) m)(hx:ev e x=some (u6 a):=by exact rfl)(hy:ev e y=some (.lit (.int yk b)):=by exact rfl)(hb:b=((8*k:Nat):Int):=by omega)(ha:a<256:=by omega)(hk:k<=7:=by omega)(hd:Nat.blt d N=true:=by exact rfl):AL P N ops Q s (⟨some d,.binOp .shl T x y yT,ty,pos,af,none⟩::rest) e m:=
 CP rfl hx hy (fun w=>by
  subst hb;have h2:min (8*k) IntKind.u64.bits=8*k:=by show min (8*k) 64=_;omega
  have h3:256 ^ k*a<18446744073709551616:=by
   have h5:256 ^ k<=72057594037927936:=Nat.pow_le_pow_right (n:=256) dc hk;have h6:256 ^ k*a<=72057594037927936*255:=Nat.mul_le_mul h5 om;omega
  have e1:((a:Int)*2 ^ (8*k))=((256 ^ k*a:Nat):Int):=by
   rw[show ((2:Int) ^ (8*k))=((2 ^ (8*k):Nat):Int) by simp,KZ,Nat.mul_comm];simp
  have h4:¬ (((8*k:Nat):Int)<0):=om
  simp only[Op.shift,Int.toNat_natCast,h2,e1,h4,if_false];show Result.ok (Value.int .u64 (IntKind.u64.wrap ((256 ^ k*a:Nat):Int))) w=_;rw[wrap_u64 _ h3]) (.inl rfl) hd h
theorem a1o {a c:Nat}(ha:a<18446744073709551616)(hc:c<18446744073709551616)(h:(a ||| c)<18446744073709551616)(P:Program)(w:World):(Op.intBits .or .u64 (a:Int) (c:Int)).run P w=.ok (.int .u64 ((a ||| c:Nat):Int)) w:=by
 have h2:(BitVec.ofInt 64 (a:Int) ||| BitVec.ofInt 64 (c:Int)).toNat=a ||| c:=by
  rw[BitVec.toNat_or,BitVec.ofInt_natCast,BitVec.ofInt_natCast,BitVec.toNat_ofNat,BitVec.toNat_ofNat,Nat.mod_eq_of_lt ha,Nat.mod_eq_of_lt hc]
 show Result.ok (Value.int .u64 (IntKind.u64.wrap ((BitVec.ofInt 64 (a:Int) ||| BitVec.ofInt 64 (c:Int)).toNat:Int))) w=_;rw[h2,wrap_u64 _ h]
theorem a7G {T yT:TypeId}{x y:Operand}{a c r:Nat}(h:AL P N ops Q s rest ((d,u6 (a+256 ^ r*c))::e) m)(hx:ev e x=some (u6 a):=by exact rfl)(hy:ev e y=some (u6 (256 ^ r*c)):=by exact rfl)(ha:a<256 ^ r)(hc:c<256)(hr:r<=7)(hd:Nat.blt d N=true:=by exact rfl):AL P N ops Q s (⟨some d,.binOp .or T x y yT,ty,pos,af,none⟩::rest) e m:=by
 have h0:256 ^ r<=72057594037927936:=Nat.pow_le_pow_right (n:=256) dc hr;have h1:256 ^ r*c+256 ^ r<=72057594037927936*256:=by
  rw[<- Nat.mul_succ];exact Nat.mul_le_mul h0 om
 have h2:=a1q (d:=c) ha;generalize 256 ^ r*c=X at *;generalize 256 ^ r=R at *;rw[<- h2] at h;exact CS rfl hx hy (fun w=>a1o om om om P w) (.inr (.inl rfl)) hd h
theorem a7m {a:Nat}(ha:a<18446744073709551616)(P:Program)(w:World):(Op.intBits .and .u64 (a:Int) ((255:Nat):Int)).run P w=.ok (.int .u64 ((a%256:Nat):Int)) w:=by
 have h2:(BitVec.ofInt 64 (a:Int) &&& BitVec.ofInt 64 ((255:Nat):Int)).toNat=a%256:=by
  rw[BitVec.toNat_and,BitVec.ofInt_natCast,BitVec.ofInt_natCast,BitVec.toNat_ofNat,BitVec.toNat_ofNat,Nat.mod_eq_of_lt ha,Nat.mod_eq_of_lt (show 255<2 ^ 64 by decide)];exact Nat.and_two_pow_sub_one_eq_mod a 8
 show Result.ok (Value.int .u64 (IntKind.u64.wrap ((BitVec.ofInt 64 (a:Int) &&& BitVec.ofInt 64 ((255:Nat):Int)).toNat:Int))) w=_;rw[h2,wrap_u64 _ om]
theorem a8K {T yT:TypeId}{x y:Operand}{a:Nat}(ha:a<18446744073709551616)(h:AL P N ops Q s rest ((d,u6 (a%256))::e) m)(hx:ev e x=some (u6 a):=by exact rfl)(hy:ev e y=some (.lit (.int .u64 255)):=by exact rfl)(hd:Nat.blt d N=true:=by exact rfl):AL P N ops Q s (⟨some d,.binOp .and T x y yT,ty,pos,af,none⟩::rest) e m:=
 CS rfl hx hy (fun w=>a7m ha P w) (.inl rfl) hd h
theorem JN (n:Nat):AV.lit (.int .u8 (IntKind.u8.wrap (n:Int)))=.lit (j6 (UInt8.ofNat n)):=by
 unfold j6;rw[IntKind.wrap_u8,UInt8.toNat_ofNat'];simp
theorem a6T {n j:Nat}(h:j<32):(X9 n)[j]?=some (UInt8.ofNat (dg n (31-j))):=by
 unfold X9;rw[List.getElem?_reverse (by rw[aR];exact h),aR,VO om]
theorem Ov {n j:Nat}(h:j<32):(X9 n).take (j+1)=(X9 n).take j++[UInt8.ofNat (dg n (31-j))]:=by
 rw[List.take_add_one,a6T h];rfl
end
end Av
namespace Go.Proofs.YtocpacdnjbjjmaaGreatDoor
open Go Go.RowKit Tw Av
instance b4x {a:Wd}:Ans Tryz.prog GL 412 [C9 a] True (str (X9 a.n)):=⟨fun _=>by
 have hbl:=yO a.n;refine qE Tryz.func412 rfl Tryz.ntmps412 rfl (fun _ hs=>?_);repeat' first|refine Vz ?_|intro _
 rename_i g1;refine aM 3 (Imp.nil (k:=1)) ?_;refine O5 (fun ok w h=>h.full 5 1 none 0) ?_;refine z8 (α:=Nat × Value) (fun q=>[(1,ptr g1),(3,.sl 1 (((X9 a.n).take (8*q.1)).map p9) (some q.2)),(4,int (3-q.1))]) (fun q=>[.tail 5 1 q.2,.var g1 94 (C9 a)]) (fun q=>q.1<=4) (fun q=>4-q.1) (0,.slice none 0 0) ⟨rfl,rfl,rfl,trivial⟩ slr (Nat.zero_le _) ?_;rintro⟨q,v⟩ hq;dsimp only at hq ⊢;repeat' first|refine Vz ?_|intro _
 refine o9 (fun hlt=>?_) (fun hlt=>?_)
 ·have hq4:q<4:=om
  repeat' first|refine Vz ?_|intro _
  refine z8 (α:=Nat × Value) (fun r=>[(1,ptr g1),(3,.sl 1 (((X9 a.n).take (8*q+r.1)).map p9) (some r.2)),(4,int (3-q)),(5,int (7-r.1))]) (fun r=>[.tail 5 1 r.2,.var g1 94 (C9 a)]) (fun r=>r.1<=8) (fun r=>8-r.1) (0,v) ⟨rfl,rfl,rfl,rfl,trivial⟩ slr (Nat.zero_le _) ?_;rintro⟨r,v⟩ hr;dsimp only at hr ⊢;have hml:(((X9 a.n).take (8*q+r)).map p9).length<=32:=by rw[llm,List.length_take];omega
  repeat' first|refine Vz ?_|intro _
  refine o9 (fun hlt=>?_) (fun hlt=>?_)
  ·have hr8:r<8:=om
   have e1:UInt8.ofNat (lm a.n (3-q) / 256 ^ (7-r))=UInt8.ofNat (dg a.n (31-(8*q+r))):=by
    rw[<- Fy,show (31-(8*q+r)) / 8=3-q by omega,show (31-(8*q+r))%8=7-r by omega];apply UInt8.toNat_inj.1;rw[UInt8.toNat_ofNat',UInt8.toNat_ofNat'];omega
   repeat' first|refine Vz ?_|intro _
   refine O8 (3-q) ?_;repeat' first|refine Vz ?_|intro _
   refine bR (j:=3-q) (DV om) ?_;repeat' first|refine Vz ?_|intro _
   refine Qb (7-r) ?_;refine CR ?_;rw[JN,e1];repeat' first|refine Vz ?_|intro _
   refine I4 (fun v'=>?_);repeat' first|refine Vz ?_|intro _
   have e2:((X9 a.n).take (8*q+(r+1))).map p9=((X9 a.n).take (8*q+r)).map p9++[p9 (UInt8.ofNat (dg a.n (31-(8*q+r))))]:=by
    rw[<- Nat.add_assoc,Ov om,List.map_append];rfl
   rw[<- e2,show (7:Int)-(r:Int)-1=7-((r+1:Nat):Int) by omega];refine o6 (r+1,v') ⟨rfl,rfl,rfl,rfl,trivial⟩ ?_ hr8 (by dsimp only;omega);exact r9
  ·obtain rfl:r=8:=by omega
   repeat' first|refine Vz ?_|intro _
   rw[show (3:Int)-(q:Int)-1=3-((q+1:Nat):Int) by omega];refine o6 (q+1,v) ⟨rfl,rfl,rfl,trivial⟩ ?_ hq4 (by dsimp only;omega);exact r9
 ·obtain rfl:q=4:=by omega
  rw[List.take_of_length_le om];repeat' first|refine Vz ?_|intro _
  refine d9 ?_;rfl⟩
def bB (c:Bs)(k:Nat):Nat:=K6 (c.take k).reverse
theorem MH {c:Bs}{k:Nat}(h:k<c.length):bB c (k+1)=bB c k*256+c[k].toNat:=by
 unfold bB;rw[List.take_succ_eq_append_getElem h,List.reverse_append,List.reverse_singleton,List.singleton_append,K6];omega
theorem MI (c:Bs)(k:Nat):bB c k<256 ^ k:=by
 have h:=BN (c.take k).reverse;refine Nat.lt_of_lt_of_le h (Nat.pow_le_pow_right dc ?_);rw[List.length_reverse,List.length_take];omega
theorem a2p {s:Bs}(hs:s.length=32){i:Nat}(hi:i<4):bB ((s.take (8*(3-i)+8)).drop (8*(3-i))) 8=lm (iQ s) i:=by
 have hc:((s.take (8*(3-i)+8)).drop (8*(3-i))).length=8:=by rw[List.length_drop,List.length_take];omega
 have e:s.reverse=(s.drop (8*(3-i)+8)).reverse++(((s.take (8*(3-i)+8)).drop (8*(3-i))).reverse++(s.take (8*(3-i))).reverse):=by
  rw[<- List.reverse_append,<- List.reverse_append];congr 1
  have h1:s.take (8*(3-i))=(s.take (8*(3-i)+8)).take (8*(3-i)):=by rw[List.take_take,Nat.min_eq_left om]
  rw[h1,List.take_append_drop,List.take_append_drop]
 have l1:(s.drop (8*(3-i)+8)).reverse.length=8*i:=by rw[List.length_reverse,List.length_drop];omega
 have h1:=BN (s.drop (8*(3-i)+8)).reverse;have h2:=BN ((s.take (8*(3-i)+8)).drop (8*(3-i))).reverse;have l2:((s.take (8*(3-i)+8)).drop (8*(3-i))).reverse.length=8:=by rw[List.length_reverse,hc]
 rw[l1] at h1;rw[l2] at h2;unfold lm iQ bB;rw[List.take_of_length_le om,e,BO,BO,l1,l2,B_pow,Nat.add_mul_div_left _ _ (Dx _),Nat.div_eq_of_lt h1,Nat.zero_add,show (256:Nat) ^ 8=18446744073709551616 from rfl,Nat.add_mul_mod_self_left];exact(Nat.mod_eq_of_lt h2).symm
theorem a1Z {X:Nat->Nat}{i:Nat}(h:i<4)(y z:Nat):(dB X (fun j=>if j=i then y else 0) i).set i (u6 z)=dB X (fun j=>if j=i then z else 0) i:=by
 rcases i with _|_|_|_|i <;> first|rfl|omega
theorem a1X {X:Nat->Nat}{i:Nat}(h:i<4):dB X (fun j=>if j=i then 0 else 0) i=dB X (fun _=>0) i:=by
 rcases i with _|_|_|_|i <;> first|rfl|omega
theorem a2b {X:Nat->Nat}{i:Nat}(h:i<4):dB X (fun j=>if j=i then X i else 0) i=dB X (fun _=>0) (i+1):=by
 rcases i with _|_|_|_|i <;> first|rfl|omega
instance a3W {s:Bs}:Ans Tryz.prog GL 180 [str s] (s.length<=1000000000) (.tup [C9 (if s.length=32 then X4 (iQ s) else wZ),int (if s.length=32 then 0 else 10)]):=⟨fun hl=>by
 refine qE Tryz.func180 rfl Tryz.ntmps180 rfl (fun _ hs=>?_);repeat' first|refine Vz ?_|intro _
 refine o9 (fun hne=>?_) (fun hne=>?_)
 ·have h32:¬ s.length=32:=om
  repeat' first|refine Vz ?_|intro _
  refine d9 ?_;rw[if_neg h32,if_neg h32];rfl
 have h32:s.length=32:=om
 repeat' first|refine Vz ?_|intro _
 rename_i g2 g4;refine gM (g:=g4) (v':=.agg 4 (dB (lm (iQ s)) (fun _=>0) 0)) (fun ok w cs h=>by rw[Ff];exact h) ?_;refine z8 (α:=Nat) (fun i=>[(0,str s),(2,ptr g2),(3,int 0),(4,ptr g4),(13,int i)])
   (fun i=>[.var g4 94 (.agg 4 (dB (lm (iQ s)) (fun _=>0) i)),.var g2 94 (U5 0)]) (fun i=>i<=4) (fun i=>4-i) 0 ⟨rfl,rfl,rfl,rfl,rfl,trivial⟩ slr (Nat.zero_le _) ?_
 intro i hi;repeat' first|refine Vz ?_|intro _
 refine o9 (fun hlt=>?_) (fun hlt=>?_)
 ·have hi4:i<4:=om
  have hln:=TL (lm (iQ s)) (fun _=>0) i;repeat' first|refine Vz ?_|intro _
  refine Q7 (8*(3-i)) (8*(3-i)+8) ?_;have hlm:=a2p h32 hi4;have hc:((s.take (8*(3-i)+8)).drop (8*(3-i))).length=8:=by rw[List.length_drop,List.length_take];omega
  generalize (s.take (8*(3-i)+8)).drop (8*(3-i))=c at *;have hmc:(c.map fun c=>AV.lit (j6 c)).length=8:=by rw[llm,hc]
  repeat' first|refine Vz ?_|intro _
  rw[<- a1X hi4];refine z8 (α:=Nat) (fun k=>[(0,str s),(2,ptr g2),(3,int 0),(4,ptr g4),(13,int i),(5,int i),(24,.sl 1 (c.map fun c=>.lit (j6 c)) none),(25,int ((c.map fun c=>AV.lit (j6 c)).length)),(26,int k)])
   (fun k=>[.var g4 94 (.agg 4 (dB (lm (iQ s)) (fun j=>if j=i then bB c k else 0) i)),.var g2 94 (U5 0)]) (fun k=>k<=8) (fun k=>8-k) 0 ⟨rfl,rfl,rfl,rfl,rfl,rfl,rfl,rfl,rfl,trivial⟩ slr (Nat.zero_le _) ?_
  intro k hk;have hlt8:=MI c k;repeat' first|refine Vz ?_|intro _
  refine o9 (fun hlt=>?_) (fun hlt=>?_)
  ·have hk8:k<c.length:=om
   have hst:=MH hk8;have hlt9:=MI c (k+1);have hpw:256 ^ (k+1)<=18446744073709551616:=Nat.pow_le_pow_right (n:=256) (j:=8) dc om;have hby:=c[k].toNat_lt;have hln:=TL (lm (iQ s)) (fun j=>if j=i then bB c k else 0) i;have hg:=Fe (X:=lm (iQ s)) (Y:=fun j=>if j=i then bB c k else 0) hi4;rw[if_pos rfl] at hg;repeat' first|refine Yz ?_|intro _
   refine O8 i ?_;repeat' first|refine Yz ?_|intro _
   refine bR hg ?_;repeat' first|refine Yz ?_|intro _
   refine O8 i ?_;refine lU (j:=i) (by rw[hln];exact hi4) ?_;rw[show AV.lit (.int .u64 ((bB c k:Int)*256+(c[k].toNat:Int)))=u6 (bB c (k+1)) by rw[hst];congr 2,a1Z hi4];repeat' first|refine Yz ?_|intro _
   refine o6 (k+1) ⟨rfl,rfl,rfl,rfl,rfl,rfl,rfl,rfl,rfl,trivial⟩ ?_ om om;exact r9
  ·obtain rfl:k=8:=by omega
   rw[hlm,a2b hi4];repeat' first|refine Vz ?_|intro _
   refine o6 (i+1) ⟨rfl,rfl,rfl,rfl,rfl,trivial⟩ ?_ hi4 om;exact r9
 ·obtain rfl:i=4:=by omega
  rw[show AV.agg 4 (dB (lm (iQ s)) (fun _=>0) 4)=U5 (iQ s) by rw[TM]];repeat' first|refine Vz ?_|intro _
  refine d9 ?_;rw[if_pos h32,if_pos h32];show AV.tup [U5 _,_]=.tup [U5 _,_];rw[oK (a6R h32)]⟩
end Go.Proofs.YtocpacdnjbjjmaaGreatDoor
