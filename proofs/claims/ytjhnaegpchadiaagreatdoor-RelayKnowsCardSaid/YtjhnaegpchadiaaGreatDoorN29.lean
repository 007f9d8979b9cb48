/- . -/
import Derived.Test.YtjhnaegpchadiaaGreatDoorN28
set_option maxHeartbeats 64000000
namespace Go.Proofs.YtjhnaegpchadiaaGreatDoor
open Go Go.RowKit Tw Av Go.Proofs.Tryz
instance b4w {l:List Bs}{xs:List AV}{id:Option Value}[hx:Strs xs l]:Ans prog GL 345 [.sl 1 xs id] (1<=l.length) (j3 (l.all I5)):=⟨fun hn=>by
 have h:=hx.out;subst h;have hm:(l.map str).length=l.length:=llm _;refine qF func345 ntmps345 fun _ hs=>?_;refine CK 0 (fun hb=>?_);have hb:=tL hb;repeat' first|refine Vz ?_|intro _
 refine y5 (α:=Nat) (fun i=>[(3,j3 true),(6,.sl 1 (l.map str) id),(7,int (l.map str).length),(8,int i)]) (fun i=>[]) (fun i=>i<=l.length/\∀ j,(hj:j<l.length)->j<i->I5 l[j]=true) (fun i=>l.length-i) 0 ⟨rfl,rfl,rfl,rfl,trivial⟩ slr ⟨Nat.zero_le _,fun _ _ h=>absurd h om⟩ ?_;rintro i ⟨hi,hall⟩;repeat' first|refine Vz ?_|intro _
 refine o8 (fun hlt=>?_) (fun hlt=>?_)
 ·have hil:i<l.length:=om
  repeat' first|refine Vz ?_|intro _
  cases hb:I5 l[i]
  ·repeat' first|refine Vz ?_|intro _
   refine d9 ?_;have:l.all I5=false:=List.all_eq_false.2 ⟨_,List.getElem_mem hil,by rw[hb];decide⟩;rw[this];rfl
  ·repeat' first|refine Vz ?_|intro _
   refine o6 (i+1) ⟨rfl,rfl,rfl,rfl,trivial⟩ slr ⟨hil,fun j hj h=>?_⟩ om;by_cases hj2:j<i
   ·exact hall j hj hj2
   ·obtain rfl:j=i:=by omega
    exact hb
 ·obtain rfl:i=l.length:=by omega
  have ht:l.all I5=true:=List.all_eq_true.2 fun x hx=>by
   obtain⟨j,hj,rfl⟩:=List.getElem_of_mem hx;exact hall j hj hj
  rw[ht];repeat' first|refine Vz ?_|intro _
  exact d9 rfl⟩
instance b4z {s:Int}{o q p:Bs}:Ans prog GL 388 [.agg 4 [int s,str o,str q,str p]] True (j3 (gD ⟨s,o,q,p⟩)):=⟨fun _=>by
 refine qF func388 ntmps388 fun _ hs=>?_;by_cases h1:s=1
 ·subst h1;repeat' first|refine Zz ?_|intro _
  rw[show ([o,q].all I5)=(I5 o&&I5 q) by simp];cases p1:I5 o&&I5 q
  ·repeat' first|refine Zz ?_|intro _
   refine d9 ?_;simp only[Bool.and_eq_false_iff] at p1;rcases p1 with p1|p1 <;> simp[J6,gD,p1]
  ·repeat' first|refine Zz ?_|intro _
   refine d9 ?_;simp only[Bool.and_eq_true] at p1;simp[J6,gD,p1.1,p1.2]
 by_cases h2:2<=s/\s<=4
 ·have e:gD ⟨s,o,q,p⟩=[o,q,p].all I5:=by
   unfold gD;simp only[if_neg h1];rw[dT (show 1<=s/\s<=4 by omega)];simp
  rw[e];by_cases h3:s=2
  ·subst h3;repeat' first|refine Zz ?_|intro _
   exact d9 rfl
  ·by_cases h4:s=3
   ·subst h4;repeat' first|refine Zz ?_|intro _
    exact d9 rfl
   ·obtain rfl:s=4:=by omega
    repeat' first|refine Zz ?_|intro _
    exact d9 rfl
 ·have e:gD ⟨s,o,q,p⟩=false:=by
   unfold gD;rw[dZ (show ¬ (1<=s/\s<=4) by omega)];rfl
  rw[e];have h3:s≠2:=by omega
  have h4:s≠3:=om
  have h5:s≠4:=om
  repeat' first|refine Zz ?_|intro _
  exact d9 rfl⟩
instance b3T {s:Int}{o q p:Bs}:Ans prog GL 376 [.agg 4 [int s,str o,str q,str p]] (o.length<=1000000000/\q.length<=1000000000/\p.length<=1000000000) (j3 (gD ⟨s,o,q,p⟩)):=⟨fun hp=>by
 obtain⟨l1,l2,l3⟩:=hp;refine qF func376 ntmps376 fun _ hs=>?_;by_cases h1:1<=s/\s<=4
 ·have e:gD ⟨s,o,q,p⟩=(I5 o&&(I5 q&&if s=1 then decide (p=[]) else I5 p)):=by
   unfold gD;rw[dT h1,Bool.true_and]
  rw[e];repeat' first|refine Zz ?_|intro _
  cases p1:I5 o
  ·repeat' first|refine Zz ?_|intro _
   exact d9 rfl
  repeat' first|refine Zz ?_|intro _
  cases p2:I5 q
  ·repeat' first|refine Zz ?_|intro _
   exact d9 rfl
  by_cases h2:s=1
  ·rw[if_pos h2];repeat' first|refine Zz ?_|intro _
   exact d9 rfl
  ·rw[if_neg h2];repeat' first|refine Zz ?_|intro _
   exact d9 rfl
 ·have e:gD ⟨s,o,q,p⟩=false:=by
   unfold gD;rw[dZ h1];rfl
  rw[e];by_cases h2:s<1
  all_goals
   repeat' first|refine Zz ?_|intro _
   exact d9 rfl⟩
end Go.Proofs.YtjhnaegpchadiaaGreatDoor

namespace Go.Proofs.YtjhnaegpchadiaaGreatDoor
open Go Go.RowKit Tw Av
end Go.Proofs.YtjhnaegpchadiaaGreatDoor

namespace Go.Proofs.YtjhnaegpchadiaaGreatDoor
open Go Go.RowKit Tw Av Go.Proofs.Tryz
theorem Af (s:Bs):(nI s).length<=s.length/\(nH s).length<=s.length/\(cZ s).length<=s.length:=by
 have h1:=(X5 115 8 s false).1;have h2:=(X5 111 32 (nI s) (uL s)).1;have h3:=(X5 113 32 (nH s) (uK s)).1;unfold cZ;unfold nH at *;unfold nI at *;exact⟨h1,om,om⟩
theorem Am {s:Bs}:j5 115 8 s false=nI s:=rfl
theorem Al {s:Bs}:K8 115 4 s false=uL s:=rfl
theorem Ak {s:Bs}:j5 111 32 (nI s) (uL s)=nH s:=rfl
theorem Aj {s:Bs}:z8 111 32 (nI s) (uL s)=uK s:=rfl
theorem Ai {s:Bs}:j5 113 32 (nH s) (uK s)=cZ s:=rfl
theorem Ah {s:Bs}:z8 113 32 (nH s) (uK s)=gV s:=rfl
theorem JQ {s:Bs}(h:rF s≠0\/gD (rG s)=false):kU s=vN/\pJ s=10:=by
 have hk:xJ s=false:=by
  unfold xJ;rcases h with h|h
  ·rw[dZ h,Bool.false_and]
  ·rw[h,Bool.and_false]
 unfold kU pJ;rw[hk];exact⟨rfl,rfl⟩
theorem Ac {s:Bs}(h1:rF s=0)(h2:gD (rG s)=true):kU s=rG s/\pJ s=0:=by
 have hk:xJ s=true:=by
  unfold xJ;rw[dT h1,h2];rfl
 unfold kU pJ;rw[hk];exact⟨rfl,rfl⟩
instance b4u {s:Bs}:Ans prog GL 344 [str s] (s.length<=1000000000) (.tup [FL (kU s),int (pJ s)]):=⟨fun hl=>by
 obtain⟨l1,l2,l3⟩:=Af s;have e1:(nI s).length=(j5 115 8 s false).length:=rfl;have e2:(nH s).length=(j5 111 32 (j5 115 8 s false) (K8 115 4 s false)).length:=rfl;have e3:(cZ s).length=(j5 113 32 (j5 111 32 (j5 115 8 s false) (K8 115 4 s false)) (z8 111 32 (j5 115 8 s false) (K8 115 4 s false))).length:=rfl;refine qF func344 ntmps344 fun _ hs=>?_;repeat' first|refine Yz ?_|intro _
 refine I8 (args:=[str s]) [] _ (by rw[hs];exact sP) (fun u m1 hh=>?_) lpr;obtain⟨gr,rfl,rfl⟩:=hh;repeat' first|refine Yz ?_|intro _
 rw[Am,Al,Ak,Aj,Ai,Ah];by_cases hE:rF s=0
 rotate_left
 ·obtain⟨v1,v2⟩:=JQ (.inl hE);rw[v1,v2];rw[show rF s=R3 (j5 112 32 (cZ s) (gV s)) (z8 112 32 (cZ s) (gV s)) from rfl] at hE;repeat' first|refine Yz ?_|intro _
  exact d9 rfl
 cases hc:gD (rG s)
 ·obtain⟨v1,v2⟩:=JQ (.inr hc);rw[v1,v2];rw[show rF s=R3 (j5 112 32 (cZ s) (gV s)) (z8 112 32 (cZ s) (gV s)) from rfl] at hE;unfold rG at hc;repeat' first|refine Yz ?_|intro _
  rw[hc];repeat' first|refine Yz ?_|intro _
  exact d9 rfl
 ·obtain⟨v1,v2⟩:=Ac hE hc;rw[v1,v2];rw[show rF s=R3 (j5 112 32 (cZ s) (gV s)) (z8 112 32 (cZ s) (gV s)) from rfl] at hE;unfold rG at hc;repeat' first|refine Yz ?_|intro _
  rw[hc];repeat' first|refine Yz ?_|intro _
  exact d9 rfl⟩
instance b3S {s:Bs}:Ans prog GL 319 [str s] (s.length<=1000000000) (.tup [FL (kU s),int (pJ s)]):=⟨fun hl=>by
 obtain⟨l1,l2,l3⟩:=Af s;have e1:(nI s).length=(j5 115 8 s false).length:=rfl;have e2:(nH s).length=(j5 111 32 (j5 115 8 s false) (K8 115 4 s false)).length:=rfl;have e3:(cZ s).length=(j5 113 32 (j5 111 32 (j5 115 8 s false) (K8 115 4 s false)) (z8 111 32 (j5 115 8 s false) (K8 115 4 s false))).length:=rfl;have t1:=(X5 111 32 (nI s) (uL s)).2;have t2:=(X5 113 32 (nH s) (uK s)).2;have t3:=(X5 112 32 (cZ s) (gV s)).2;have t4:(D8 111 32 (nI s) (uL s)).length<=1000000000/\(D8 113 32 (nH s) (uK s)).length<=1000000000/\(D8 112 32 (cZ s) (gV s)).length<=1000000000:=by omega
 refine qF func319 ntmps319 fun _ hs=>?_;repeat' first|refine Yz ?_|intro _
 rw[Am,Al,Ak,Aj,Ai,Ah];by_cases hE:rF s=0
 rotate_left
 ·obtain⟨v1,v2⟩:=JQ (.inl hE);rw[v1,v2];rw[show rF s=R3 (j5 112 32 (cZ s) (gV s)) (z8 112 32 (cZ s) (gV s)) from rfl] at hE;repeat' first|refine Yz ?_|intro _
  exact d9 rfl
 cases hc:gD (rG s)
 ·obtain⟨v1,v2⟩:=JQ (.inr hc);rw[v1,v2];rw[show rF s=R3 (j5 112 32 (cZ s) (gV s)) (z8 112 32 (cZ s) (gV s)) from rfl] at hE;unfold rG at hc;repeat' first|refine Yz ?_|intro _
  rw[hc];repeat' first|refine Yz ?_|intro _
  exact d9 rfl
 ·obtain⟨v1,v2⟩:=Ac hE hc;rw[v1,v2];rw[show rF s=R3 (j5 112 32 (cZ s) (gV s)) (z8 112 32 (cZ s) (gV s)) from rfl] at hE;unfold rG at hc;repeat' first|refine Yz ?_|intro _
  rw[hc];repeat' first|refine Yz ?_|intro _
  exact d9 rfl⟩
end Go.Proofs.YtjhnaegpchadiaaGreatDoor

namespace Av
open Go Go.RowKit Tw
theorem SpecE.imp {P:Program}{gl:List (Nat × AV)}{f:FuncId}{args:List AV}{out out':AV}(h:SpecE P gl f args out)(hi:Imp out out'):SpecE P gl f args out':=Spec.mk fun ok w c hS hv=>
 Calls.mono (h.run ok w c hS hv) fun _ _ ⟨v,m',ok',cv,e0,e,r,st⟩=>by
  obtain⟨rfl,rfl⟩:=e0;exact⟨out',[],ok',cv,⟨rfl,rfl⟩,e,hi _ _ _ r,st⟩
end Av
namespace Go.Proofs.YtjhnaegpchadiaaGreatDoor
open Go Go.RowKit Tw Av
theorem DOk.le {d:List Ent}(h:DOk d):d.length<=1073741823:=Nat.le_trans h.l dc
theorem DOk.val {d:List Ent}(h:DOk d)(k:Bs):(P9 d k).length<=4000:=by
 unfold P9 gO dH;cases hf:d.find? fun x=>decide (x.key=k) with
 | none=>exact Nat.zero_le _
 | some x=>exact(h.f x (List.mem_of_find?_eq_some hf)).2
instance (priority:=high) c2d {d:List Ent}{k:Bs}{xs:List AV}{id:Option Value}[hx:Ents xs d]:Ans Tryz.prog GL 41 [.agg 1 [.sl 2 xs id],str k] (DOk d) (.tup [str (P9 d k),j3 (gO d k).isSome]):=⟨fun h=>by
 have:=(a1E (l:=d) (k:=k) (xs:=xs) (id:=id)).spec h.le;rw[Ph h.s,Ee h.s] at this;exact this⟩
instance (priority:=high) c2a {d:List Ent}{k:Bs}{xs:List AV}{id:Option Value}[hx:Ents xs d]:Ans Tryz.prog GL 123 [.sl 2 xs id,str k] (DOk d) (.tup [str (P9 d k),j3 (gO d k).isSome]):=⟨fun h=>by
 have:=(a1p (l:=d) (k:=k) (xs:=xs) (id:=id)).spec h.le;rw[<- Option.isSome_map (f:=(·.val))] at this;exact this⟩
instance (priority:=high) c2c {d:List Ent}{k v:Bs}{xs:List AV}{id:Option Value}[hx:Ents xs d]:Ans Tryz.prog GL 107 [.agg 1 [.sl 2 xs id],str k,str v] (DOk d) (.tup [dA (R4 d k v).1,int (R4 d k v).2]):=⟨fun h=>by
 refine SpecE.imp ((a1A (l:=d) (k:=k) (v:=v) (xs:=xs) (id:=id)).spec h.le) ?_;unfold pM R4;by_cases he:J5 d k v=0
 ·rw[if_pos he,if_pos he,he];exact Imp.of_eq rfl
 ·rw[if_neg he,if_neg he];exact(inferInstance:ImpR (.tup [.agg 1 [.lit (.slice none 0 0)],int (J5 d k v)]) (.tup [.agg 1 [.sl 2 [] none],int (J5 d k v)])).imp⟩
instance (priority:=high) c1Z {d:List Ent}{k v:Bs}{xs:List AV}{id:Option Value}[hx:Ents xs d]:Ans Tryz.prog GL 54 [.sl 2 xs id,str k,str v] (DOk d) (.tup [.sl 2 ((R4 d k v).1.map D5) none,int (R4 d k v).2]):=⟨fun h=>by
 refine SpecE.imp ((a1m (l:=d) (k:=k) (v:=v) (xs:=xs) (id:=id)).spec h.le) ?_;unfold uO R4;rw[QC v h.s];by_cases he:J5 d k v=0
 ·have e1:=Bb ⟨k,v⟩ h.s;unfold nO Z9 at e1;rw[QC v h.s] at e1;simp only[if_pos he] at e1;rw[if_pos he,if_pos he,he,e1];exact Imp.of_eq rfl
 ·rw[if_neg he,if_neg he];exact(inferInstance:ImpR (.tup [.lit (.slice none 0 0),int (J5 d k v)]) (.tup [.sl 2 [] none,int (J5 d k v)])).imp⟩
def fU (d:List Ent)(k:Bs):List Ent:=d.filter fun x=>decide (x.key≠k)
theorem Gz {d:List Ent}{k:Bs}(h:∀ x∈d,x.key≠k):fU d k=d:=List.filter_eq_self.2 fun x hx=>dT (h x hx)
theorem a1Q {d:List Ent}{k:Bs}(h:Srt d):fU d k=lY d k:=by
 obtain⟨A,B,hA,hB,hl,h1⟩:=uA k h;rw[Im hl h1];have eA:fU A k=A:=Gz fun x hx e=>by have:=hA x hx;rw[e,yN] at this;cases this
 have eB:fU B k=B:=Gz fun x hx e=>by have:=hB x hx;rw[e,yN] at this;cases this
 unfold fU at *;rcases h1 with⟨_,rfl⟩|⟨v,_,rfl⟩
 ·rw[List.filter_append,eA,eB]
 ·rw[List.filter_append,List.filter_cons,eA,eB];simp
theorem a1P {d:List Ent}{k:Bs}:decide ((fU d k).length<d.length)=(gO d k).isSome:=by
 unfold fU gO dH;rw[Option.isSome_map];cases hf:d.find? fun x=>decide (x.key=k) with
 | none=>
  rw[List.find?_eq_none] at hf;have:d.filter (fun x=>decide (x.key≠k))=d:=List.filter_eq_self.2 fun x hx=>by simpa using hf x hx
  rw[this];simp
 | some x=>
  refine dT ?_;have hm:=List.mem_of_find?_eq_some hf;have hk:=List.find?_some hf;by_cases h:(d.filter fun x=>decide (x.key≠k)).length<d.length
  ·exact h
  ·exfalso
   have h2:=List.length_filter_eq_length_iff.1 (Nat.le_antisymm (List.length_filter_le _ _) (Nat.not_lt.1 h)) x hm;simp at h2 hk;exact h2 hk
instance (priority:=high) c2b {d:List Ent}{k:Bs}{xs:List AV}{id:Option Value}[hx:Ents xs d]:Ans Tryz.prog GL 312 [.sl 2 xs id,str k] (DOk d) (.tup [.sl 2 ((lY d k).map D5) none,j3 (gO d k).isSome]):=⟨fun hd=>by
 have h:=hx.out;subst h;have hl:=hd.le;have hm:(d.map D5).length=d.length:=llm _;rw[<- a1Q hd.s,<- a1P];refine qF Tryz.func312 Tryz.ntmps312 fun _ hs=>?_;repeat' first|refine Vz ?_|intro _
 refine aT 6 (Imp.nil (k:=2)) ?_;refine Q6 (fun ok w h=>h.full 157 2 none 0) ?_;refine y5 (α:=Nat × Value) (fun q=>[(0,.sl 2 (d.map D5) id),(1,str k),(6,.sl 2 ((fU (d.take q.1) k).map D5) (some q.2)),(7,int q.1)]) (fun q=>[.tail 157 2 q.2]) (fun q=>q.1<=d.length) (fun q=>d.length-q.1) (0,.slice none 0 0) ⟨rfl,rfl,rfl,rfl,trivial⟩ slr (Nat.zero_le _) ?_;rintro⟨i,v⟩ hi;dsimp only at hi ⊢;have hfl:(fU (d.take i) k).length<=i:=Nat.le_trans (List.length_filter_le _ _) (List.length_take_le _ _);have hfm:((fU (d.take i) k).map D5).length=(fU (d.take i) k).length:=llm _;repeat' first|refine Vz ?_|intro _
 refine o8 (fun hlt=>?_) (fun hlt=>?_)
 ·have hil:i<d.length:=om
  have htk:d.take (i+1)=d.take i++[d[i]]:=List.take_succ_eq_append_getElem hil;repeat' first|refine Vz ?_|intro _
  refine o8 (fun h=>?_) (fun h=>?_)
  ·have e1:(fU (d.take (i+1)) k).map D5=(fU (d.take i) k).map D5++[D5 d[i]]:=by
    unfold fU;rw[htk,List.filter_append,List.filter_cons,if_pos (dT h),List.filter_nil,List.map_append];rfl
   repeat' first|refine Vz ?_|intro _
   refine I1 (fun v'=>?_);repeat' first|refine Vz ?_|intro _
   rw[<- e1];refine o6 (i+1,v') ⟨rfl,rfl,rfl,rfl,trivial⟩ ?_ hil (by dsimp only;omega);exact x9
  ·have e1:fU (d.take (i+1)) k=fU (d.take i) k:=by
    unfold fU;rw[htk,List.filter_append,List.filter_cons,if_neg (by rw[dZ h];decide),List.filter_nil,List.append_nil]
   repeat' first|refine Vz ?_|intro _
   rw[<- e1];refine o6 (i+1,v) ⟨rfl,rfl,rfl,rfl,trivial⟩ ?_ hil (by dsimp only;omega);exact x9
 ·obtain rfl:i=d.length:=by omega
  simp only[List.take_length] at hfl hfm ⊢;repeat' first|refine Vz ?_|intro _
  refine E5 ?_;rw[hm,hfm,show decide (((fU d k).length:Int)<(d.length:Int))=decide ((fU d k).length<d.length) from decide_eq_decide.2 om];simp only[J6];exact ImpR.imp⟩
end Go.Proofs.YtjhnaegpchadiaaGreatDoor

namespace Go.Proofs.YtjhnaegpchadiaaGreatDoor
open Go Go.RowKit Tw Av Go.Proofs.Tryz
instance b2Z {a c:Bs}:Ans prog GL 122 [str a,str c] True (str (K7 a c)):=⟨fun _=>by
 refine qF func122 ntmps122 fun _ hs=>?_;repeat' first|refine Vz ?_|intro _
 exact d9 rfl⟩
instance b2V {c:Bs}:Ans prog GL 121 [str c] True (str (U8 c)):=⟨fun _=>by
 refine qF func121 ntmps121 fun _ hs=>?_;repeat' first|refine Vz ?_|intro _
 exact d9 rfl⟩
instance b3a {d:List Ent}{k:Bs}{xs:List AV}{id:Option Value}[hx:Ents xs d]:Ans prog GL 222 [.sl 2 xs id,str k] (DOk d) (O0 (G8 d k)):=⟨fun hd=>by
 have hv:(P9 d k).length<=1000000000:=Nat.le_trans (hd.val k) dc;refine qF func222 ntmps222 fun _ hs=>?_;repeat' first|refine Vz ?_|intro _
 unfold G8;by_cases h:(P9 d k).length=32
 ·simp only[if_pos h];repeat' first|refine Zz ?_|intro _
  exact d9 rfl
 ·simp only[if_neg h];repeat' first|refine Zz ?_|intro _
  exact d9 rfl⟩
instance b3c {d:List Ent}{a c:Bs}{xs:List AV}{id:Option Value}[hx:Ents xs d]:Ans prog GL 119 [.sl 2 xs id,str a,str c] (DOk d) (O0 (G8 d (K7 a c))):=⟨fun hd=>by
 refine qF func119 ntmps119 fun _ hs=>?_;repeat' first|refine Vz ?_|intro _
 exact d9 rfl⟩
instance b2W {d:List Ent}{c:Bs}{xs:List AV}{id:Option Value}[hx:Ents xs d]:Ans prog GL 118 [.sl 2 xs id,str c] (DOk d) (O0 (G8 d (U8 c))):=⟨fun hd=>by
 refine qF func118 ntmps118 fun _ hs=>?_;repeat' first|refine Vz ?_|intro _
 exact d9 rfl⟩
abbrev Y3 (d:List Ent):AV:=.sl 2 (d.map D5) none
instance b2X {d:List Ent}{k:Bs}{n:Wd}{xs:List AV}{id:Option Value}[hx:Ents xs d]:Ans prog GL 223 [.sl 2 xs id,str k,O0 n] (DOk d) (.tup [Y3 (V3 k n.n d).1,int (V3 k n.n d).2]):=⟨fun hd=>by
 refine qF func223 ntmps223 fun _ hs=>?_;repeat' first|refine Vz ?_|intro _
 rw[CV];unfold V3;by_cases h:n.n=0
 ·rw[if_pos h];repeat' first|refine Zz ?_|intro _
  exact d9 rfl
 ·rw[if_neg h];repeat' first|refine Zz ?_|intro _
  exact d9 rfl⟩
theorem Rx {d:List Ent}{k:Bs}{n:Nat}(h:DOk d):DOk (V3 k n d).1:=by
 unfold V3;split
 ·exact h.drp _
 ·exact wD h
theorem Uw {d:List Ent}{k v:Bs}(h:(R4 d k v).2≠0):(R4 d k v).1=[]:=by
 unfold R4 at h ⊢;split
 ·rename_i h1;rw[if_pos h1] at h;exact absurd rfl h
 ·rfl
theorem XQ {d:List Ent}{k:Bs}{n:Nat}(h:(V3 k n d).2≠0):(V3 k n d).1=[]:=by
 unfold V3 at h ⊢;split
 ·rename_i h1;rw[if_pos h1] at h;exact absurd rfl h
 ·rename_i h1;rw[if_neg h1] at h;exact Uw h
theorem eD (n:Int):Imp (J6 [.lit (.slice none 0 0),int n]) (.tup [Y3 [],int n]):=(inferInstance:ImpR (.tup [.lit (.slice none 0 0),int n]) (.tup [.sl 2 [] none,int n])).imp
instance b2U {d:List Ent}{a b:Bs}{n m:Wd}{xs:List AV}{id:Option Value}[hx:Ents xs d]:Ans prog GL 120 [.sl 2 xs id,str a,O0 n,str b,O0 m] (DOk d) (.tup [Y3 (bN (V3 a n.n) (V3 b m.n) d).1,int (bN (V3 a n.n) (V3 b m.n) d).2]):=⟨fun hd=>by
 refine qF func120 ntmps120 fun _ hs=>?_;repeat' first|refine Vz ?_|intro _
 unfold bN;have h2:=Rx (k:=a) (n:=n.n) hd;by_cases h:(V3 a n.n d).2=0
 ·rw[if_pos h];repeat' first|refine Zz ?_|intro _
  by_cases h3:(V3 b m.n (V3 a n.n d).1).2=0
  ·repeat' first|refine Zz ?_|intro _
   refine d9 ?_;rw[h3];rfl
  ·repeat' first|refine Zz ?_|intro _
   refine E5 ?_;rw[XQ h3];exact eD _
 ·rw[if_neg h];repeat' first|refine Zz ?_|intro _
  refine E5 ?_;rw[XQ h];exact eD _⟩

theorem NH {n:Nat}(h:aU n=true):n<115792089237316195423570985008687907853269984665640564039457584007913129639936:=of_decide_eq_true h
attribute [local irreducible] aV fZ aU
instance TA {d:List Ent}{a c:Bs}{n:Wd}{xs:List AV}{id:Option Value}[hx:Ents xs d]:Ans prog GL 53 [.sl 2 xs id,str a,str c,O0 n] (DOk d) (.tup [Y3 (eF d a c n).1,int (eF d a c n).2]):=⟨fun hd=>by
 rw[Xx hd];refine qF func53 ntmps53 fun _ hs=>?_;repeat' first|refine Zz ?_|intro _
 unfold RH;by_cases h1:aV a=false
 ·rw[if_pos (.inl h1),h1];repeat' first|refine Zz ?_|intro _
  refine E5 ?_;exact eD _
 have h1':aV a=true:=by simpa using h1
 by_cases h2:fZ c=false
 ·rw[if_pos (.inr (.inl h2)),h1',h2];repeat' first|refine Zz ?_|intro _
  refine E5 ?_;exact eD _
 have h2':fZ c=true:=by simpa using h2
 rw[h1',h2'];repeat' first|refine Zz ?_|intro _
 rw[CV];by_cases h3:n.n=0
 ·rw[if_pos (.inr (.inr h3))];repeat' first|refine Zz ?_|intro _
  refine E5 ?_;exact eD _
 rw[if_neg (by rintro (h|h|h);exact absurd h dc;exact absurd h dc;exact h3 h)];repeat' first|refine Zz ?_|intro _
 cases h4:aU ((G8 d (U8 c)).n+n.n)
 ·rw[if_pos (.inl rfl)];repeat' first|refine Zz ?_|intro _
  refine E5 ?_;exact eD _
 repeat' first|refine Zz ?_|intro _
 cases h5:aU ((G8 d (K7 a c)).n+n.n)
 ·rw[if_pos (.inr rfl)];repeat' first|refine Zz ?_|intro _
  refine E5 ?_;exact eD _
 rw[if_neg dc];repeat' first|refine Zz ?_|intro _
 refine d9 ?_;rw[uD (NH h4),uD (NH h5)];rfl⟩
instance b3b {d:List Ent}{a c:Bs}{n:Wd}{xs:List AV}{id:Option Value}[hx:Ents xs d]:Ans prog GL 448 [.sl 2 xs id,str a,str c,O0 n] (DOk d) (.tup [Y3 (vF d a c n).1,int (vF d a c n).2]):=⟨fun hd=>by
 rw[a3I hd];refine qF func448 ntmps448 fun _ hs=>?_;repeat' first|refine Zz ?_|intro _
 unfold UN;by_cases h1:aV a=false
 ·rw[if_pos (.inl h1),h1];repeat' first|refine Zz ?_|intro _
  refine E5 ?_;exact eD _
 have h1':aV a=true:=by simpa using h1
 by_cases h2:fZ c=false
 ·rw[if_pos (.inr (.inl h2)),h1',h2];repeat' first|refine Zz ?_|intro _
  refine E5 ?_;exact eD _
 have h2':fZ c=true:=by simpa using h2
 rw[h1',h2'];repeat' first|refine Zz ?_|intro _
 rw[CV];by_cases h3:n.n=0
 ·rw[if_pos (.inr (.inr h3))];repeat' first|refine Zz ?_|intro _
  refine E5 ?_;exact eD _
 rw[if_neg (by rintro (h|h|h);exact absurd h dc;exact absurd h dc;exact h3 h)];repeat' first|refine Zz ?_|intro _
 by_cases h4:(G8 d (U8 c)).n<n.n
 ·rw[if_pos (.inl h4),dZ (Nat.not_le.2 h4)];repeat' first|refine Zz ?_|intro _
  refine E5 ?_;exact eD _
 rw[dT (Nat.not_lt.1 h4)];repeat' first|refine Zz ?_|intro _
 by_cases h5:(G8 d (K7 a c)).n<n.n
 ·rw[if_pos (.inr h5),dZ (Nat.not_le.2 h5)];repeat' first|refine Zz ?_|intro _
  refine E5 ?_;exact eD _
 rw[if_neg (by rintro (h|h);exact h4 h;exact h5 h),dT (Nat.not_lt.1 h5)];repeat' first|refine Zz ?_|intro _
 refine d9 ?_;rw[uD (Nat.lt_of_le_of_lt (Nat.sub_le _ _) (G8 d (U8 c)).lt),uD (Nat.lt_of_le_of_lt (Nat.sub_le _ _) (G8 d (K7 a c)).lt)];rfl⟩
instance b2Y {d:List Ent}{a b c:Bs}{n:Wd}{xs:List AV}{id:Option Value}[hx:Ents xs d]:Ans prog GL 396 [.sl 2 xs id,str a,str b,str c,O0 n] (DOk d) (.tup [Y3 (jC d a b c n).1,int (jC d a b c n).2]):=⟨fun hd=>by
 have h:=hx.out;subst h;rw[Xj hd];refine qF func396 ntmps396 fun _ hs=>?_;repeat' first|refine Zz ?_|intro _
 unfold RA;by_cases h1:aV a=false
 ·rw[if_pos (.inl h1),h1];repeat' first|refine Zz ?_|intro _
  refine E5 ?_;exact eD _
 have h1':aV a=true:=by simpa using h1
 by_cases h1b:aV b=false
 ·rw[if_pos (.inr (.inl h1b)),h1',h1b];repeat' first|refine Zz ?_|intro _
  refine E5 ?_;exact eD _
 have h1b':aV b=true:=by simpa using h1b
 by_cases h2:fZ c=false
 ·rw[if_pos (.inr (.inr (.inl h2))),h1',h1b',h2];repeat' first|refine Zz ?_|intro _
  refine E5 ?_;exact eD _
 have h2':fZ c=true:=by simpa using h2
 rw[h1',h1b',h2'];repeat' first|refine Zz ?_|intro _
 rw[CV];by_cases h3:n.n=0
 ·rw[if_pos (.inr (.inr (.inr h3)))];repeat' first|refine Zz ?_|intro _
  refine E5 ?_;exact eD _
 rw[if_neg (by rintro (h|h|h|h);exact absurd h dc;exact absurd h dc;exact absurd h dc;exact h3 h)];repeat' first|refine Zz ?_|intro _
 by_cases h4:(G8 d (K7 a c)).n<n.n
 ·rw[if_pos h4,dZ (Nat.not_le.2 h4)];repeat' first|refine Zz ?_|intro _
  refine E5 ?_;exact eD _
 rw[if_neg h4,dT (Nat.not_lt.1 h4)];repeat' first|refine Zz ?_|intro _
 by_cases h5:a=b
 ·rw[if_pos h5,dT h5];repeat' first|refine Zz ?_|intro _
  refine E5 ?_;exact(inferInstance:ImpR (.tup [.sl 2 (d.map D5) id,int 0]) (.tup [.sl 2 (d.map D5) none,int 0])).imp
 rw[if_neg h5,dZ h5];repeat' first|refine Zz ?_|intro _
 cases h6:aU ((G8 d (K7 b c)).n+n.n)
 ·rw[if_pos rfl];repeat' first|refine Zz ?_|intro _
  refine E5 ?_;exact eD _
 rw[if_neg dc];repeat' first|refine Zz ?_|intro _
 refine d9 ?_;rw[uD (Nat.lt_of_le_of_lt (Nat.sub_le _ _) (G8 d (K7 a c)).lt),uD (NH h6)];rfl⟩
end Go.Proofs.YtjhnaegpchadiaaGreatDoor

namespace Go.Proofs.YtjhnaegpchadiaaGreatDoor
open Go Go.RowKit Tw Av
attribute [local irreducible] aU
end Go.Proofs.YtjhnaegpchadiaaGreatDoor

namespace Go.Proofs.YtjhnaegpchadiaaGreatDoor
open Go Go.RowKit Tw Av

attribute [local irreducible] aV fZ aU
end Go.Proofs.YtjhnaegpchadiaaGreatDoor

namespace Go.Proofs.YtjhnaegpchadiaaGreatDoor
open Go Go.RowKit Tw Av Go.Proofs.Tryz
instance b3N {q:Int}{s k d:Bs}{a:Wd}{f g:Bs}{h t:Int}:Ans prog GL 447 [.agg 12 [int q,str s,str k,.agg 7 [str d,O0 a,str f,str g],int h,int t]] (s.length<=1000000000/\d.length<=1000000000) (j3 (tV ⟨q,s,k,d,a,f,g,h,t⟩)):=⟨fun hp=>by
 refine qF func447 ntmps447 fun _ hs=>?_;repeat' first|refine Zz ?_|intro _
 exact d9 rfl⟩
theorem Mc {s d:Bs}(h:rE s d=true):zN s d=d.drop (s.length+1):=by
 unfold zN;rw[if_pos h]
instance b1G {q:Int}{s k d:Bs}{a:Wd}{f g:Bs}{h t:Int}:Ans prog GL 285 [.agg 12 [int q,str s,str k,.agg 7 [str d,O0 a,str f,str g],int h,int t]] (s.length<=1000000000/\d.length<=1000000000/\k.length<=1000000000) (str (vI ⟨q,s,k,d,a,f,g,h,t⟩)):=⟨fun hp=>by
 obtain⟨h1,h2,h3⟩:=hp;show Av.Spec _ _ _ _ _ fun v m'=>v=str (if rE s d=true then d.drop (s.length+1) else k++[47]++d)/\m'=[];refine qF func285 ntmps285 fun _ hs=>?_;repeat' first|refine Zz ?_|intro _
 cases hr:rE s d
 ·rw[if_neg (show ¬ false=true by decide)];repeat' first|refine Zz ?_|intro _
  exact d9 rfl
 ·rw[if_pos rfl,<- Mc hr];repeat' first|refine Zz ?_|intro _
  exact d9 rfl⟩
instance b3O {q:Int}{s k d:Bs}{a:Wd}{f g:Bs}{h t:Int}:Ans prog GL 450 [.agg 12 [int q,str s,str k,.agg 7 [str d,O0 a,str f,str g],int h,int t]] (s.length<=1000000000/\d.length<=1000000000/\k.length<=1000000000) (str (vI ⟨q,s,k,d,a,f,g,h,t⟩)):=⟨fun hp=>by
 obtain⟨h1,h2,h3⟩:=hp;have hl:(k++[47]).length=k.length+1:=by rw[lla];rfl
 show Av.Spec _ _ _ _ _ fun v m'=>v=str (if rE s d=true then d.drop (s.length+1) else k++[47]++d)/\m'=[];refine qF func450 ntmps450 fun _ hs=>?_;repeat' first|refine Zz ?_|intro _
 cases hr:rE s d
 ·rw[if_neg (show ¬ false=true by decide)];repeat' first|refine Zz ?_|intro _
  exact d9 rfl
 ·rw[if_pos rfl,<- Mc hr];repeat' first|refine Zz ?_|intro _
  exact d9 rfl⟩

section
variable {e:List Ent} {q:Int} {s k d:Bs} {a:Wd} {f g:Bs} {h t:Int} {g1 g2 g3:Nat} {z:Bs}
end
theorem Wn {c:Bool}{α:Type}{a b:α}:(if true=false\/c=false then a else b)=if c=false then a else b:=by cases c <;> rfl
theorem a4o {q:Int}{s k d:Bs}{a:Wd}{f g:Bs}{h t:Int}(h1:d.length<=400000000)(h2:k.length<=400000000):(vI ⟨q,s,k,d,a,f,g,h,t⟩).length<=1000000000:=by
 unfold vI;split
 ·rw[List.length_drop];show d.length-_<=_;omega
 ·rw[lla,lla];show k.length+1+d.length<=_;omega
instance b3L {e:List Ent}{q:Int}{s k d:Bs}{a:Wd}{f g:Bs}{h t:Int}{xs:List AV}{id:Option Value}[hx:Ents xs e]:Ans prog GL 414 [.sl 2 xs id,.agg 12 [int q,str s,str k,.agg 7 [str d,O0 a,str f,str g],int h,int t]] (DOk e/\s.length<=1000000000/\k.length<=1000000000/\d.length<=1000000000/\f.length<=1000000000/\g.length<=1000000000) (.tup [Y3 (mW e ⟨q,s,k,d,a,f,g,h,t⟩).1,int (mW e ⟨q,s,k,d,a,f,g,h,t⟩).2]):=⟨fun hp=>by
 obtain⟨hd,hs1,hk1,hd1,hf1,hg1⟩:=hp;show Av.Spec _ _ _ _ _ fun v m'=>v=.tup [Y3 (if dO ⟨q,s,k,d,a,f,g,h,t⟩=false then ([],1) else if tV ⟨q,s,k,d,a,f,g,h,t⟩=true then vF e f d a else jC e f (BB s) d a).1,int (if dO ⟨q,s,k,d,a,f,g,h,t⟩=false then ([],1) else if tV ⟨q,s,k,d,a,f,g,h,t⟩=true then vF e f d a else jC e f (BB s) d a).2]/\m'=[];refine qF func414 ntmps414 fun _ hs=>?_;repeat' first|refine Zz ?_|intro _
 unfold nS;cases hc:dO ⟨q,s,k,d,a,f,g,h,t⟩
 ·rw[if_neg (show ¬ false=true by decide),if_pos rfl,dT (show (1:Int)≠0 by decide)];repeat' first|refine Zz ?_|intro _
  refine E5 ?_;exact eD _
 rw[if_pos rfl,if_neg (show ¬ true=false by decide),dZ (show ¬ (0:Int)≠0 by decide)];repeat' first|refine Zz ?_|intro _
 cases hh:tV ⟨q,s,k,d,a,f,g,h,t⟩
 ·rw[if_neg (show ¬ false=true by decide)];repeat' first|refine Zz ?_|intro _
  exact d9 rfl
 ·rw[if_pos rfl];repeat' first|refine Zz ?_|intro _
  exact d9 rfl⟩
instance b3M {e:List Ent}{q:Int}{s k d:Bs}{a:Wd}{f g:Bs}{h t:Int}{xs:List AV}{id:Option Value}[hx:Ents xs e]:Ans prog GL 417 [.sl 2 xs id,.agg 12 [int q,str s,str k,.agg 7 [str d,O0 a,str f,str g],int h,int t]] (DOk e/\s.length<=400000000/\k.length<=400000000/\d.length<=400000000/\f.length<=400000000/\g.length<=400000000) (.tup [Y3 (cO e ⟨q,s,k,d,a,f,g,h,t⟩).1,int (cO e ⟨q,s,k,d,a,f,g,h,t⟩).2]):=⟨fun hp=>by
 obtain⟨hd,hs1,hk1,hd1,hf1,hg1⟩:=hp;have hal:(vI ⟨q,s,k,d,a,f,g,h,t⟩).length<=1000000000:=a4o hd1 hk1;refine qF func417 ntmps417 fun _ hs=>?_;repeat' first|refine Zz ?_|intro _
 generalize hz:vI ⟨q,s,k,d,a,f,g,h,t⟩=z at hal ⊢;have hR:cO e ⟨q,s,k,d,a,f,g,h,t⟩=if bA z=false\/dO ⟨q,s,k,d,a,f,g,h,t⟩=false then ([],1) else if tV ⟨q,s,k,d,a,f,g,h,t⟩=true then jC e (BB k) g z a else eF e g z a:=by
  unfold cO;rw[hz]
 rw[hR];repeat' first|refine Zz ?_|intro _
 unfold nS;cases hc:dO ⟨q,s,k,d,a,f,g,h,t⟩
 ·rw[if_neg (show ¬ false=true by decide),if_pos (.inr rfl),dT (show (1:Int)≠0 by decide)];repeat' first|refine Zz ?_|intro _
  refine E5 ?_;exact eD _
 rw[if_pos rfl,dZ (show ¬ (0:Int)≠0 by decide)];cases hb:bA z
 ·rw[if_pos (.inl rfl)];repeat' first|refine Zz ?_|intro _
  refine E5 ?_;exact eD _
 rw[Wn,if_neg (show ¬ true=false by decide)];repeat' first|refine Zz ?_|intro _
 cases hh:tV ⟨q,s,k,d,a,f,g,h,t⟩
 ·rw[if_neg (show ¬ false=true by decide)];repeat' first|refine Zz ?_|intro _
  exact d9 rfl
 ·rw[if_pos rfl];repeat' first|refine Zz ?_|intro _
  exact d9 rfl⟩

theorem Aq:iX []=10:=by rfl
theorem Ad:pJ []=10:=by rfl
theorem Zc:rU []=10:=by rfl
theorem NJ {d:List Ent}{k:Bs}(h:(gO d k).isSome=false):P9 d k=[]:=by
 unfold P9;cases hg:gO d k with
 | none=>rfl
 | some v=>rw[hg] at h;cases h
theorem PT {s:Bs}(h:iX s≠0):nJ s=mM:=by
 unfold iX at h;unfold nJ;split at h
 ·exact(h rfl).elim
 ·rename_i hn;rw[if_neg hn]
theorem Ab {s:Bs}(h:pJ s≠0):kU s=vN:=by
 unfold pJ at h;unfold kU;split at h
 ·exact(h rfl).elim
 ·rename_i hn;rw[if_neg hn]
theorem Ug {s:Bs}(h:iX s=0):V6 (nJ s)=true:=by
 unfold iX at h;unfold nJ;split at h
 ·rename_i hn;rw[if_pos hn];unfold xK at hn;rw[bet,bet] at hn;exact hn.2.2
 ·cases h
theorem Uf (s:Bs):V6 (nJ s)=true\/nJ s=mM:=by
 by_cases h:iX s=0
 ·exact .inl (Ug h)
 ·exact .inr (PT h)
theorem Yx {l:List Sta}(h:l≠[]):dF l∈l:=by
 rcases List.eq_nil_or_concat l with rfl|⟨l',a,rfl⟩
 ·exact(h rfl).elim
 ·unfold dF;simp
structure CliF (x:Cli):Prop where
 ok:CliOk x
 w:CliW x
 r:Rise x.l
 n:x.l.length<=32
theorem GY:CliF mM:=⟨⟨dc,dc,dc,dc⟩,⟨dc,dc,fun s h=>by cases h⟩,List.Pairwise.nil,dc⟩
theorem RI {x:Cli}(h:V6 x=true):CliF x:=by
 obtain⟨⟨h1,h2,h3,h4,h5⟩,h6⟩:=MN.1 h;have hc:=RJ h;have hb:∀ s∈x.l,1<=s.h/\s.h<=1099511627776/\0<=s.t/\s.t<=1099511627776:=fun s hs=>by
  obtain⟨_,_,c3,c4,c5,c6⟩:=MB.1 (hc s hs);exact⟨c3,c4,c5,c6⟩
 have hne:x.l≠[]:=fun e=>by rw[e] at h4;simp at h4
 have hl:=hb _ (Yx hne);have step:∀ i (hi:i+1<x.l.length),x.l[i].h<x.l[i+1].h/\x.l[i].t<=x.l[i+1].t:=fun i hi=>by
  have:=h6 (i+1) hi;unfold kX at this;rw[bet,Bool.or_eq_true] at this;rcases this.2 with h|h
  ·simp at h
  ·rw[show x.l.getD (i+1-1) Q7=x.l[i] by simp[List.getD,show i<x.l.length by omega],show x.l.getD (i+1) Q7=x.l[i+1] by simp[List.getD,hi]] at h;unfold Y2 at h;simpa using h
 have far:∀ d i (hi:i+1+d<x.l.length),x.l[i].h<x.l[i+1+d].h/\x.l[i].t<=x.l[i+1+d].t:=by
  intro d
  induction d with
  | zero=>exact fun i hi=>step i hi
  | succ d ih=>
   intro i hi;have a:=ih i om;have b:=step (i+1+d) om;exact⟨Int.lt_trans a.1 b.1,Int.le_trans a.2 b.2⟩
 refine⟨⟨om,om,om,om⟩,⟨om,om,fun s hs=>by
  have:=hb s hs;omega⟩,?_,h5⟩
 unfold Rise;rw[List.pairwise_iff_getElem];intro i j hi hj hij;have:=far (j-i-1) i om;simpa[show i+1+(j-i-1)=j by omega] using this
theorem FU (d:List Ent)(i:Bs):CliF (P8 d i):=by
 unfold P8;rcases Uf (P9 d (H6 [67] i)) with h|h
 ·exact RI h
 ·rw[h];exact GY
theorem Es {b:Bool}:Imp (J6 [.agg 5 [.lit (.string ⟨#[]⟩),.lit (.string ⟨#[]⟩),.lit (.int .i64 0),.lit (.bool false),.lit (.slice none 0 0)],j3 b]) (.tup [kZ mM,j3 b]):=(inferInstance:ImpR (.tup [.agg 5 [.lit (.string ⟨#[]⟩),.lit (.string ⟨#[]⟩),.lit (.int .i64 0),.lit (.bool false),.lit (.slice none 0 0)],j3 b]) (.tup [.agg 5 [str [],str [],int 0,j3 false,.sl 34 [] none],j3 b])).imp
instance b5j {d:List Ent}{i:Bs}{xs:List AV}{id:Option Value}[hx:Ents xs d]:Ans prog GL 30 [.agg 1 [.sl 2 xs id],str i] (DOk d) (.tup [kZ (P8 d i),j3 (M8 d i)]):=⟨fun hd=>by
 have hv:=hd.val (H6 [67] i);refine qF func30 ntmps30 fun _ hs=>?_;repeat' first|refine Zz ?_|intro _
 exact d9 rfl⟩
instance b3J {d:List Ent}{i:Bs}{xs:List AV}{id:Option Value}[hx:Ents xs d]:Ans prog GL 397 [.sl 2 xs id,str i] (DOk d) (.tup [kZ (P8 d i),j3 (M8 d i)]):=⟨fun hd=>by
 have hv:=hd.val (H6 [67] i);unfold P8 M8;refine qF func397 ntmps397 fun _ hs=>?_;repeat' first|refine Zz ?_|intro _
 cases hg:(gO d (H6 [67] i)).isSome
 ·have hn:=NJ hg;rw[hn,Aq,PT (by rw[Aq];decide)];repeat' first|refine Zz ?_|intro _
  refine E5 ?_;exact Es
 ·by_cases he:iX (P9 d (H6 [67] i))=0
  ·rw[dT he];repeat' first|refine Zz ?_|intro _
   rw[dZ (nni he)];repeat' first|refine Zz ?_|intro _
   exact d9 rfl
  ·rw[dZ he,PT he];repeat' first|refine Zz ?_|intro _
   rw[dT he];repeat' first|refine Zz ?_|intro _
   refine E5 ?_;exact Es⟩
instance b5h {d:List Ent}{k:Bs}{xs:List AV}{id:Option Value}[hx:Ents xs d]:Ans prog GL 267 [.agg 1 [.sl 2 xs id],str k] (DOk d) (.tup [FL (kU (P9 d k)),j3 (decide (pJ (P9 d k)=0))]):=⟨fun hd=>by
 have hv:=hd.val k;refine qF func267 ntmps267 fun _ hs=>?_;repeat' first|refine Zz ?_|intro _
 exact d9 rfl⟩
instance b5k {d:List Ent}{i:Bs}{xs:List AV}{id:Option Value}[hx:Ents xs d]:Ans prog GL 176 [.agg 1 [.sl 2 xs id],str i] (DOk d) (.tup [FL (H9 d [72] i),j3 (P7 d [72] i)]):=⟨fun hd=>by
 refine qF func176 ntmps176 fun _ hs=>?_;repeat' first|refine Zz ?_|intro _
 exact d9 rfl⟩
instance b3G {d:List Ent}{k i:Bs}{xs:List AV}{id:Option Value}[hx:Ents xs d]:Ans prog GL 230 [.sl 2 xs id,str k,str i] (DOk d/\k.length<=1000000000) (.tup [FL (H9 d k i),j3 (P7 d k i)]):=⟨fun hp=>by
 obtain⟨hd,hk⟩:=hp;have hv:=hd.val (H6 k i);unfold H9 P7;refine qF func230 ntmps230 fun _ hs=>?_;repeat' first|refine Zz ?_|intro _
 cases hg:(gO d (H6 k i)).isSome
 ·have hn:=NJ hg;rw[hn,Ad,Ab (by rw[Ad];decide)];repeat' first|refine Zz ?_|intro _
  exact d9 rfl
 ·by_cases he:pJ (P9 d (H6 k i))=0
  ·rw[dT he];repeat' first|refine Zz ?_|intro _
   rw[dZ (nni he)];repeat' first|refine Zz ?_|intro _
   exact d9 rfl
  ·rw[dZ he,Ab he];repeat' first|refine Zz ?_|intro _
   rw[dT he];repeat' first|refine Zz ?_|intro _
   exact d9 rfl⟩
instance b5g {d:List Ent}{i:Bs}{xs:List AV}{id:Option Value}[hx:Ents xs d]:Ans prog GL 180 [.agg 1 [.sl 2 xs id],str i] (DOk d) (int (dY d i)):=⟨fun hd=>by
 have hv:=hd.val (H6 [78] i);unfold dY;refine qF func180 ntmps180 fun _ hs=>?_;repeat' first|refine Zz ?_|intro _
 by_cases he:rU (P9 d (H6 [78] i))=0
 ·rw[if_pos he,dZ (nni he)];repeat' first|refine Zz ?_|intro _
  exact d9 rfl
 ·rw[if_neg he,dT he];repeat' first|refine Zz ?_|intro _
  exact d9 rfl⟩
instance b3D {d:List Ent}{i:Bs}{xs:List AV}{id:Option Value}[hx:Ents xs d]:Ans prog GL 410 [.sl 2 xs id,str i] (DOk d) (int (dY d i)):=⟨fun hd=>by
 have hv:=hd.val (H6 [78] i);unfold dY;refine qF func410 ntmps410 fun _ hs=>?_;repeat' first|refine Zz ?_|intro _
 cases hg:(gO d (H6 [78] i)).isSome
 ·have hn:=NJ hg;rw[hn,if_neg (by rw[Zc];decide)];repeat' first|refine Zz ?_|intro _
  exact d9 rfl
 ·by_cases he:rU (P9 d (H6 [78] i))=0
  ·rw[if_pos he];repeat' first|refine Zz ?_|intro _
   rw[dZ (nni he)];repeat' first|refine Zz ?_|intro _
   exact d9 rfl
  ·rw[if_neg he];repeat' first|refine Zz ?_|intro _
   rw[dT he];repeat' first|refine Zz ?_|intro _
   exact d9 rfl⟩

attribute [local irreducible] M8 P7
instance b5f {d:List Ent}{i:Bs}{hh t h:Int}{xs:List AV}{id:Option Value}[hx:Ents xs d]:Ans prog GL 292 [.agg 3 [.agg 1 [.sl 2 xs id],int hh,int t],str i,int h] (DOk d) (.tup [D7 (sV d i h t),int (mU d i h t)]):=⟨fun hd=>by
 obtain⟨⟨_,_,c1,c2⟩,_⟩:=FU d i;refine qF func292 ntmps292 fun _ hs=>?_;repeat' first|refine Zz ?_|intro _
 unfold sV mU;generalize hC:P8 d i=C at *;obtain⟨c,k,p,f,l⟩:=C;dsimp only at c1 c2;cases h1:M8 d i
 ·repeat' first|refine Zz ?_|intro _
  exact d9 rfl
 rw[if_neg (show ¬ true=false by decide)];repeat' first|refine Zz ?_|intro _
 cases h2:jM ⟨c,k,p,f,l⟩ t
 ·repeat' first|refine Zz ?_|intro _
  exact d9 rfl
 rw[if_neg (show ¬ true=false by decide)];repeat' first|refine Zz ?_|intro _
 cases h3:(rY l h).isSome
 ·repeat' first|refine Zz ?_|intro _
  exact d9 rfl
 ·rw[if_neg (show ¬ true=false by decide),if_pos rfl];repeat' first|refine Zz ?_|intro _
  exact d9 rfl⟩
instance b3x {d:List Ent}{i:Bs}{t h:Int}{xs:List AV}{id:Option Value}[hx:Ents xs d]:Ans prog GL 442 [.sl 2 xs id,str i,int h,int t] (DOk d) (.tup [D7 (sV d i h t),int (mU d i h t)]):=⟨fun hd=>by
 obtain⟨⟨_,_,c1,c2⟩,_,hr,_⟩:=FU d i;refine qF func442 ntmps442 fun _ hs=>?_;repeat' first|refine Zz ?_|intro _
 unfold sV mU;generalize hC:P8 d i=C at *;obtain⟨c,k,p,f,l⟩:=C;dsimp only at c1 c2 hr;cases h1:M8 d i
 ·repeat' first|refine Zz ?_|intro _
  exact d9 rfl
 rw[if_neg (show ¬ true=false by decide)];repeat' first|refine Zz ?_|intro _
 cases h2:jM ⟨c,k,p,f,l⟩ t
 ·repeat' first|refine Zz ?_|intro _
  exact d9 rfl
 rw[if_neg (show ¬ true=false by decide)];repeat' first|refine Zz ?_|intro _
 rw[TF h hr];cases h3:(rY l h).isSome
 ·repeat' first|refine Zz ?_|intro _
  exact d9 rfl
 ·rw[if_neg (show ¬ true=false by decide),if_pos rfl];repeat' first|refine Zz ?_|intro _
  exact d9 rfl⟩
theorem Vi {d:List Ent}{i:Bs}{h t:Int}{k v:Bs}{p:Prf}(h0:mU d i h t=0):dB d i h t k v p=if xV (sV d i h t).r ⟨k,v⟩ p=false then 18 else 0:=by
 unfold dB;rw[h0];cases xV (sV d i h t).r ⟨k,v⟩ p <;> rfl
theorem Vj {d:List Ent}{i:Bs}{h t:Int}{k v:Bs}{p:Prf}(h0:mU d i h t≠0):dB d i h t k v p=mU d i h t:=by
 unfold dB;rw[if_neg (fun e=>h0 e.1)]
instance b3C {d:List Ent}{i k v:Bs}{h t a m:Int}{p:List Hsh}{xs ps:List AV}{id id2:Option Value}[hx:Ents xs d][hp:Hshs ps p]:Ans prog GL 406 [.sl 2 xs id,str i,int h,int t,str k,str v,.agg 3 [int a,int m,.sl 32 ps id2]] (DOk d/\m<=9223372036854775807) (int (dB d i h t k v ⟨a,m,p⟩)):=⟨fun hq=>by
 obtain⟨hd,hm⟩:=hq;refine qF func406 ntmps406 fun _ hs=>?_;repeat' first|refine Zz ?_|intro _
 by_cases h0:mU d i h t=0
 ·rw[dZ (nni h0),Vi h0];repeat' first|refine Zz ?_|intro _
  cases h1:xV (sV d i h t).r ⟨k,v⟩ ⟨a,m,p⟩
  ·repeat' first|refine Zz ?_|intro _
   exact d9 rfl
  ·repeat' first|refine Zz ?_|intro _
   exact d9 rfl
 ·rw[dT h0,Vj h0];repeat' first|refine Zz ?_|intro _
  exact d9 rfl⟩
end Go.Proofs.YtjhnaegpchadiaaGreatDoor
