/- . -/
import Derived.Lib.Bytealg
import Derived.Test.YtjhnaegpchadiaaGreatDoorN18
namespace Go.Proofs.YtjhnaegpchadiaaGreatDoor
open Go Go.RowKit Tw Av
theorem yN:∀ a:Bs,blt a a=false
 | []=>rfl
 | a::x=>by simp[blt,Op.bytesLess] at *;exact yN x
theorem FW:∀ {a b c:Bs},blt a b=true->blt b c=true->blt a c=true
 | _,[],_,h,_=>by cases ‹List UInt8› <;> simp[blt,Op.bytesLess] at h
 | _,_::_,[],_,h=>by simp[blt,Op.bytesLess] at h
 | [],_::_,_::_,_,_=>by simp[blt,Op.bytesLess]
 | a::x,b::y,c::z,h,k=>by
  simp only[blt,Op.bytesLess,Bool.or_eq_true,Bool.and_eq_true,beq_iff_eq,decide_eq_true_eq] at h k ⊢;rcases h with h|⟨rfl,h⟩
  ·rcases k with k|⟨rfl,k⟩
   ·exact .inl (UInt8.lt_trans h k)
   ·exact .inl h
  ·rcases k with k|⟨rfl,k⟩
   ·exact .inl k
   ·exact .inr ⟨rfl,FW h k⟩
theorem Lc:∀ {a b:Bs},blt a b=false->blt b a=false->a=b
 | [],[],_,_=>rfl
 | [],_::_,h,_=>by simp[blt,Op.bytesLess] at h
 | _::_,[],_,h=>by simp[blt,Op.bytesLess] at h
 | a::x,b::y,h,k=>by
  simp only[blt,Op.bytesLess,Bool.or_eq_false_iff,decide_eq_false_iff_not,UInt8.not_lt,Bool.and_eq_false_iff] at h k;obtain rfl:a=b:=UInt8.le_antisymm k.1 h.1;have h2:=h.2;have k2:=k.2;simp at h2 k2;rw[Lc h2 k2]
theorem Ld {a b:Bs}(h:blt a b=true):blt b a=false:=by
 cases hb:blt b a with
 | false=>rfl
 | true=>rw[<- yN a];exact(FW h hb).symm
theorem FX {a b:Bs}(h:blt a b=true):a≠b:=fun e=>by rw[e,yN] at h;cases h
theorem Kg:∀ {a b:Bs},Lib.compareBytes a b<0↔blt a b=true
 | [],[]=>by simp[Lib.compareBytes,blt,Op.bytesLess]
 | [],_::_=>by simp[Lib.compareBytes,blt,Op.bytesLess]
 | _::_,[]=>by simp[Lib.compareBytes,blt,Op.bytesLess]
 | a::x,b::y=>by
  unfold Lib.compareBytes blt Op.bytesLess;by_cases h:a<b
  ·simp[h]
  ·by_cases k:b<a
   ·have hne:a≠b:=fun e=>by subst e;exact UInt8.lt_irrefl _ k
    simp[h,k,hne]
   ·obtain rfl:a=b:=UInt8.le_antisymm (UInt8.not_lt.1 k) (UInt8.not_lt.1 h);simp only[h,if_false,Kg,blt];simp
theorem Kh:∀ {a b:Bs},Lib.compareBytes a b=0↔a=b
 | [],[]=>by simp[Lib.compareBytes]
 | [],_::_=>by simp[Lib.compareBytes]
 | _::_,[]=>by simp[Lib.compareBytes]
 | a::x,b::y=>by
  unfold Lib.compareBytes;by_cases h:a<b
  ·have hne:a≠b:=fun e=>by subst e;exact UInt8.lt_irrefl _ h
   simp[h,hne]
  ·by_cases k:b<a
   ·have hne:a≠b:=fun e=>by subst e;exact UInt8.lt_irrefl _ k
    simp[h,k,hne]
   ·obtain rfl:a=b:=UInt8.le_antisymm (UInt8.not_lt.1 k) (UInt8.not_lt.1 h);simp only[h,if_false,Kh];simp
theorem YF (a b:Bs):pG a b=Lib.compareBytes a b:=Lib.cmp_eq _ _
theorem YD {a b:Bs}:pG a b<0↔blt a b=true:=by rw[YF];exact Kg
theorem YE {a b:Bs}:pG a b=0↔a=b:=by rw[YF];exact Kh
def Srt (l:List Ent):Prop:=l.Pairwise fun x y=>blt x.key y.key=true
theorem Srt.lo {l:List Ent}{k:Bs}(h:Srt l){i j:Nat}(hij:i<=j)(hj:j<l.length)(hk:blt l[j].key k=true):blt (l[i]'(by omega)).key k=true:=by
 rcases Nat.lt_or_ge i j with hlt|hge
 ·exact FW (List.pairwise_iff_getElem.1 h i j om hj hlt) hk
 ·obtain rfl:i=j:=by omega
  exact hk
theorem ME {l:List Ent}{k:Bs}(h:Srt l):∀ (f i j:Nat),j-i<=f->i<=j->(hj:j<=l.length)->(∀ q,(hq:q<l.length)->q<i->blt l[q].key k=true)->(∀ q,(hq:q<l.length)->j<=q->blt l[q].key k=false) ->
  (∀ q,(hq:q<l.length)->(blt l[q].key k=true↔q<sF l k f i j))/\sF l k f i j<=l.length
 | 0,i,j,hf,hij,hj,h1,h2=>by
  obtain rfl:i=j:=by omega
  refine⟨fun q hq=>⟨fun hb=>?_,fun hb=>h1 q hq hb⟩,hj⟩;rcases Nat.lt_or_ge q i with g|g
  ·exact g
  ·rw[h2 q hq g] at hb;cases hb
 | f+1,i,j,hf,hij,hj,h1,h2=>by
  unfold sF;by_cases hlt:i<j
  ·rw[if_pos hlt];have hm:(i+j) / 2<l.length:=by omega
   have hgd:l.getD ((i+j) / 2) ⟨[],[]⟩=l[(i+j) / 2]:=by simp[List.getD,hm]
   simp only[hgd];by_cases hc:pG l[(i+j) / 2].key k<0
   ·rw[if_pos hc];have hb:=YD.1 hc;exact ME h f _ _ om om hj (fun q hq hqi=>h.lo om hm hb) h2
   ·rw[if_neg hc];have hb:blt l[(i+j) / 2].key k=false:=by
     cases e:blt l[(i+j) / 2].key k with
     | false=>rfl
     | true=>exact absurd (YD.2 e) hc
    refine ME h f _ _ om om om h1 (fun q hq hqi=>?_);cases e:blt l[q].key k with
    | false=>rfl
    | true=>rw[h.lo hqi hq e] at hb;cases hb
  ·rw[if_neg hlt];obtain rfl:i=j:=by omega
   refine⟨fun q hq=>⟨fun hb=>?_,fun hb=>h1 q hq hb⟩,hj⟩;rcases Nat.lt_or_ge q i with g|g
   ·exact g
   ·rw[h2 q hq g] at hb;cases hb
theorem a3L {l:List Ent}{k:Bs}(h:Srt l):(∀ x∈l.take (I6 l k),blt x.key k=true)/\(∀ x∈l.drop (I6 l k),blt x.key k=false):=by
 obtain⟨g,_⟩:=ME (k:=k) h l.length 0 l.length om om (Nat.le_refl _) (by intros;omega) (by intros;omega);refine⟨fun x hx=>?_,fun x hx=>?_⟩
 ·obtain⟨q,hq,rfl⟩:=List.mem_iff_getElem.1 hx;have h1:q<I6 l k/\q<l.length:=by simpa[List.length_take,Nat.lt_min] using hq
  rw[List.getElem_take];exact(g q h1.2).2 h1.1
 ·obtain⟨q,hq,rfl⟩:=List.mem_iff_getElem.1 hx;have h1:q<l.length-I6 l k:=by simpa[List.length_drop] using hq
  rw[List.getElem_drop];have h2:I6 l k+q<l.length:=by omega
  cases e:blt l[I6 l k+q].key k with
  | false=>rfl
  | true=>
   have:I6 l k+q<I6 l k:=(g _ h2).1 e;omega
theorem Srt.append {a b:List Ent}:Srt (a++b)↔Srt a/\Srt b/\∀ x∈a,∀ y∈b,blt x.key y.key=true:=List.pairwise_append
theorem Srt.cons {x:Ent}{b:List Ent}:Srt (x::b)↔(∀ y∈b,blt x.key y.key=true)/\Srt b:=List.pairwise_cons
theorem uA {l:List Ent}(k:Bs)(h:Srt l):∃ A B:List Ent,(∀ x∈A,blt x.key k=true)/\(∀ x∈B,blt k x.key=true)/\I6 l k=A.length /\
  ((U6 l k=false/\l=A++B)\/∃ v,U6 l k=true/\l=A++⟨k,v⟩::B):=by
 obtain⟨h1,h2⟩:=a3L (k:=k) h;have hle:I6 l k<=l.length:=(ME (k:=k) h l.length 0 l.length om om (Nat.le_refl _) (by intros;omega) (by intros;omega)).2;have hl:(l.take (I6 l k)).length=I6 l k:=by simp;omega
 by_cases hn:I6 l k<l.length
 ·have hd:l.drop (I6 l k)=l[I6 l k]::l.drop (I6 l k+1):=List.drop_eq_getElem_cons hn;have hgd:l.getD (I6 l k) ⟨[],[]⟩=l[I6 l k]:=by simp[List.getD,hn]
  have hs:Srt (l[I6 l k]::l.drop (I6 l k+1)):=by
   rw[<- hd];exact List.Pairwise.sublist (List.drop_sublist _ _) h
  rw[Srt.cons] at hs;by_cases hk:l[I6 l k].key=k
  ·refine⟨l.take (I6 l k),l.drop (I6 l k+1),h1,fun x hx=>?_,hl.symm,.inr ⟨l[I6 l k].val,?_,?_⟩⟩
   ·have:=hs.1 x hx
    rwa [hk] at this
   ·simp only[U6,hn,decide_true,Bool.true_and,hgd,decide_eq_true_eq];exact YE.2 hk
   ·have:∀ y:Ent,y.key=k->(⟨k,y.val⟩:Ent)=y:=fun y hy=>by subst hy;rfl
    rw[this _ hk,<- hd,List.take_append_drop]
  ·refine⟨l.take (I6 l k),l.drop (I6 l k),h1,fun x hx=>?_,hl.symm,.inl ⟨?_,(List.take_append_drop _ _).symm⟩⟩
   ·rw[hd] at hx;have hb:=h2 l[I6 l k] (by rw[hd];exact List.mem_cons_self);have hk2:blt k l[I6 l k].key=true:=by
     cases e:blt k l[I6 l k].key with
     | true=>rfl
     | false=>exact absurd (Lc hb e) hk
    rcases List.mem_cons.1 hx with rfl|hx
    ·exact hk2
    ·exact FW hk2 (hs.1 x hx)
   ·have:¬ pG l[I6 l k].key k=0:=fun e=>hk (YE.1 e);simp only[U6,hn,decide_true,Bool.true_and,hgd,this,decide_false]
 ·refine⟨l,[],fun x hx=>h1 x (by rw[List.take_of_length_le om];exact hx),sm,om,.inl ⟨by simp[U6,hn],sm⟩⟩
theorem set_mid {α:Type}(A B:List α)(x y:α):(A++x::B).set A.length y=A++y::B:=by
 rw[List.set_append,if_neg om,Nat.sub_self,List.set_cons_zero]
theorem Ff {α:Type}(A B:List α)(x d:α):(A++x::B).getD A.length d=x:=by
 simp[List.getD]
theorem zQ {l A B:List Ent}{k:Bs}(v:Bs)(hl:I6 l k=A.length)(h:(U6 l k=false/\l=A++B)\/∃ v,U6 l k=true/\l=A++⟨k,v⟩::B):dW l k v=A++⟨k,v⟩::B:=by
 unfold dW;rw[hl];rcases h with⟨h1,h2⟩|⟨u,h1,h2⟩
 ·rw[if_neg (by simp[h1])];subst h2;simp
 ·rw[if_pos h1];subst h2;rw[Ff,set_mid]
theorem NW {k v:Bs}:∀ (A:List Ent) (acc:List Ent),(∀ x∈A,blt x.key k=true)->A.foldl (Y0 k v) (acc,false)=(acc++A,false)
 | [],acc,_=>by simp
 | x::A,acc,h=>by
  have hx:=h x sm;have e:Y0 k v (acc,false) x=(acc++[x],false):=by simp[Y0,hx,FX hx]
  rw[List.foldl_cons,e,NW A _ (fun y hy=>h y (by simp[hy]))];simp
theorem NY {k v:Bs}:∀ (B:List Ent) (acc:List Ent),(∀ x∈B,blt k x.key=true)->B.foldl (Y0 k v) (acc,true)=(acc++B,true)
 | [],acc,_=>by simp
 | x::B,acc,h=>by
  have hx:=h x sm;have e:Y0 k v (acc,true) x=(acc++[x],true):=by simp[Y0,(FX hx).symm]
  rw[List.foldl_cons,e,NY B _ (fun y hy=>h y (by simp[hy]))];simp
theorem We {l A B:List Ent}{k:Bs}(v:Bs)(hA:∀ x∈A,blt x.key k=true)(hB:∀ x∈B,blt k x.key=true)(h:l=A++B\/∃ v,l=A++⟨k,v⟩::B):rO l k v=A++⟨k,v⟩::B:=by
 unfold rO;rcases h with rfl|⟨u,rfl⟩
 ·rw[List.foldl_append,NW A [] hA,List.nil_append];cases B with
  | nil=>simp
  | cons y B=>
   have hy:=hB y sm;have e:Y0 k v (A,false) y=(A++[⟨k,v⟩]++[y],true):=by simp[Y0,Ld hy,(FX hy).symm]
   rw[List.foldl_cons,e,NY B _ (fun x hx=>hB x (by simp[hx]))];simp
 ·rw[List.foldl_append,NW A [] hA,List.nil_append,List.foldl_cons];have e:Y0 k v (A,false) ⟨k,u⟩=(A++[⟨k,v⟩],true):=by simp[Y0,yN]
  rw[e,NY B _ hB];simp
theorem LD {A B:List Ent}{k:Bs}(hA:∀ x∈A,blt x.key k=true)(hB:∀ x∈B,blt k x.key=true):dH (A++B) k=none/\∀ v,dH (A++⟨k,v⟩::B) k=some ⟨k,v⟩:=by
 have h1:dH A k=none:=by
  simp only[dH,List.find?_eq_none,decide_eq_true_eq];exact fun x hx=>FX (hA x hx)
 have h2:dH B k=none:=by
  simp only[dH,List.find?_eq_none,decide_eq_true_eq];exact fun x hx=>(FX (hB x hx)).symm
 unfold dH at *;exact⟨by rw[List.find?_append,h1,h2];rfl,fun v=>by rw[List.find?_append,h1];simp⟩
theorem Fb {l:List Ent}{k:Bs}(h:Srt l):(dH l k).isSome=U6 l k:=by
 obtain⟨A,B,hA,hB,_,h1⟩:=uA k h;have hg:=LD hA hB;rcases h1 with⟨h1,rfl⟩|⟨v,h1,rfl⟩
 ·rw[h1,hg.1];rfl
 ·rw[h1,hg.2];rfl
theorem Srt.put {l:List Ent}{k:Bs}(v:Bs)(h:Srt l):Srt (dW l k v):=by
 obtain⟨A,B,hA,hB,hl,h1⟩:=uA k h;rw[zQ v hl h1];have hab:Srt A/\Srt B:=by
  rcases h1 with⟨_,rfl⟩|⟨u,_,rfl⟩
  ·rw[Srt.append] at h;exact⟨h.1,h.2.1⟩
  ·rw[Srt.append,Srt.cons] at h;exact⟨h.1,h.2.1.2⟩
 rw[Srt.append,Srt.cons];refine⟨hab.1,⟨hB,hab.2⟩,fun x hx y hy=>?_⟩;rcases List.mem_cons.1 hy with rfl|hy
 ·exact hA x hx
 ·exact FW (hA x hx) (hB y hy)
theorem QC {l:List Ent}{k:Bs}(v:Bs)(h:Srt l):jY l k v=J5 l k v:=by
 unfold jY J5;rw[Fb h];cases U6 l k <;> simp
theorem Bb {l:List Ent}(x:Ent)(h:Srt l):nO l x=Z9 l x:=by
 unfold nO Z9;rw[QC x.val h];split
 ·obtain⟨A,B,hA,hB,hl,h1⟩:=uA x.key h;rw[zQ x.val hl h1,We x.val hA hB (h1.imp (·.2) fun⟨v,_,h⟩=>⟨v,h⟩)]
 ·rfl
theorem Ra {l:List Ent}(x:Ent)(h:Srt l):Srt (Z9 l x):=by
 unfold Z9;split
 ·exact h.put _
 ·exact h
theorem XE:Srt []:=List.Pairwise.nil
theorem Ga:∀ (l d:List Ent),Srt d->l.foldl nO d=l.foldl Z9 d/\Srt (l.foldl Z9 d)
 | [],d,h=>⟨rfl,h⟩
 | x::l,d,h=>by
  rw[List.foldl_cons,List.foldl_cons,Bb x h];exact Ga l _ (Ra x h)
theorem Tk (l:List Ent):PO l=aY l:=(Ga l [] XE).1
def Fits (l:List Ent):Prop:=∀ x∈l,x.key.length<=400/\x.val.length<=4000
theorem Uv {d:List Ent}(x:Ent)(h:Srt d)(hf:Fits d):Fits (Z9 d x):=by
 unfold Z9;split
 ·rename_i h0;have hx:x.key.length<=400/\x.val.length<=4000:=by
   unfold J5 at h0;by_cases h1:400<x.key.length\/4000<x.val.length
   ·rw[if_pos h1] at h0;simp at h0
   ·omega
  obtain⟨A,B,_,_,hl,h1⟩:=uA x.key h;rw[zQ x.val hl h1];intro y hy;have hy':y∈A\/y=x\/y∈B:=by simpa using hy
  have hsub:y∈A\/y∈B->y∈d:=by
   rcases h1 with⟨_,rfl⟩|⟨u,_,rfl⟩ <;> intro g <;> rcases g with g|g <;> simp[g]
  rcases hy' with g|rfl|g
  ·exact hf y (hsub (.inl g))
  ·exact hx
  ·exact hf y (hsub (.inr g))
 ·exact hf
theorem Uu {d:List Ent}{x:Ent}(h:Srt (d++[x]))(hx:x.key.length<=400/\x.val.length<=4000)(hl:d.length<2000):Z9 d x=d++[x]:=by
 have h':=h;rw[Srt.append] at h';obtain⟨h1,_,h3⟩:=h';obtain⟨A,B,hA,hB,hl',h4⟩:=uA x.key h1;have hlt:∀ y∈d,blt y.key x.key=true:=fun y hy=>h3 y hy x sm;have hB0:B=[]:=by
  cases B with
  | nil=>rfl
  | cons y B=>
   have hy:y∈d:=by rcases h4 with⟨_,h4⟩|⟨u,_,h4⟩ <;> rw[h4] <;> simp
   have:=Ld (hB y sm);rw[hlt y hy] at this;cases this
 subst hB0;have hA0:U6 d x.key=false/\d=A++[]:=by
  rcases h4 with h4|⟨u,_,h4⟩
  ·exact h4
  ·have:=hlt ⟨x.key,u⟩ (by rw[h4];simp);rw[yN] at this;cases this
 unfold Z9;rw[zQ x.val hl' h4];have he:J5 d x.key x.val=0:=by
  unfold J5;rw[if_neg om,hA0.1];simp;omega
 rw[if_pos he];have:=hA0.2;simp at this;rw[<- this]
theorem Fz:∀ (l d:List Ent),Srt (d++l)->Fits l->(d++l).length<=2000->l.foldl Z9 d=d++l
 | [],d,_,_,_=>by simp
 | x::l,d,h,hf,hl=>by
  have e:d++x::l=d++[x]++l:=sm
  rw[List.foldl_cons,Uu (x:=x) (by rw[e,Srt.append] at h;exact h.1) (hf x sm) (by simp at hl;omega),e];exact Fz l _ (by rw[<- e];exact h) (fun y hy=>hf y (by simp[hy])) (by rw[<- e];exact hl)
theorem a2S {l:List Ent}(h:Srt l)(hf:Fits l)(hl:l.length<=2000):aY l=l:=by
 have:=Fz l [] (by simpa using h) hf (by simpa using hl);simpa[aY] using this
theorem Fy:∀ (l d:List Ent),d.length<=2000->(l.foldl Z9 d).length<=2000
 | [],_,h=>h
 | _::l,_,h=>Fy l _ (Ba h)

structure DOk (d:List Ent):Prop where
 s:Srt d
 f:Fits d
 l:d.length<=2000
def gO (d:List Ent)(k:Bs):Option Bs:=(dH d k).map (·.val)
def P9 (d:List Ent)(k:Bs):Bs:=(gO d k).getD []
def lY (d:List Ent)(k:Bs):List Ent:=if U6 d k=true then d.take (I6 d k)++d.drop (I6 d k+1) else d
theorem Ee {d:List Ent}{k:Bs}(h:Srt d):U6 d k=(gO d k).isSome:=by rw[gO,Option.isSome_map,Fb h]
theorem Ph {d:List Ent}{k:Bs}(h:Srt d):(if U6 d k=true then (d.getD (I6 d k) ⟨[],[]⟩).val else [])=P9 d k:=by
 obtain⟨A,B,hA,hB,hl,h1⟩:=uA k h;have hg:=LD hA hB;rcases h1 with⟨h1,rfl⟩|⟨v,h1,rfl⟩
 ·rw[h1,if_neg sm,P9,gO,hg.1];rfl
 ·rw[h1,if_pos rfl,hl,Ff,P9,gO,hg.2];rfl
theorem SS {A B:List Ent}{k v q:Bs}(hq:q≠k):gO (A++⟨k,v⟩::B) q=gO (A++B) q:=by
 unfold gO dH;rw[List.find?_append,List.find?_append,List.find?_cons];have:decide ((⟨k,v⟩:Ent).key=q)=false:=dZ fun e=>hq e.symm;rw[this]
theorem a0O {d:List Ent}{k v q:Bs}(h:Srt d):gO (dW d k v) q=if q=k then some v else gO d q:=by
 obtain⟨A,B,hA,hB,hl,h1⟩:=uA k h;have hg:=LD hA hB;rw[zQ v hl h1];by_cases hq:q=k
 ·rw[if_pos hq,hq,gO,hg.2];rfl
 ·rw[if_neg hq,SS hq];rcases h1 with⟨_,rfl⟩|⟨u,_,rfl⟩
  ·rfl
  ·rw[SS hq]
theorem Im {A B d:List Ent}{k:Bs}(hl:I6 d k=A.length)(h1:(U6 d k=false/\d=A++B)\/∃ v,U6 d k=true/\d=A++⟨k,v⟩::B):lY d k=A++B:=by
 unfold lY;rcases h1 with⟨h1,h2⟩|⟨v,h1,h2⟩
 ·rw[h1,if_neg sm,h2]
 ·rw[if_pos h1,hl];subst h2;rw[List.take_append_of_le_length (Nat.le_refl _),List.take_length,List.drop_append,List.drop_of_length_le om,show A.length+1-A.length=1 by omega];rfl
theorem a0P {d:List Ent}{k q:Bs}(h:Srt d):gO (lY d k) q=if q=k then none else gO d q:=by
 obtain⟨A,B,hA,hB,hl,h1⟩:=uA k h;have hg:=LD hA hB;rw[Im hl h1];by_cases hq:q=k
 ·rw[if_pos hq,hq,gO,hg.1];rfl
 ·rw[if_neg hq];rcases h1 with⟨_,rfl⟩|⟨u,_,rfl⟩
  ·rfl
  ·rw[SS hq]
theorem IC {d:List Ent}{k v q:Bs}(h:Srt d):P9 (dW d k v) q=if q=k then v else P9 d q:=by
 unfold P9;rw[a0O h];split <;> rfl
theorem Pi {d:List Ent}{k q:Bs}(h:Srt d):P9 (lY d k) q=if q=k then [] else P9 d q:=by
 unfold P9;rw[a0P h];split <;> rfl
theorem TN (d:List Ent)(k:Bs):(lY d k).Sublist d:=by
 unfold lY;split
 ·conv=>rhs;rw[<- List.take_append_drop (I6 d k) d]
  refine List.Sublist.append slr ?_;rw[<- List.drop_drop];exact List.drop_sublist _ _
 ·exact List.Sublist.refl _
theorem DOk.drp {d:List Ent}(h:DOk d)(k:Bs):DOk (lY d k):=
 ⟨List.Pairwise.sublist (TN d k) h.s,fun x hx=>h.f x ((TN d k).mem hx),Nat.le_trans (TN d k).length_le h.l⟩
theorem DOk.put {d:List Ent}{k v:Bs}(h:DOk d)(he:J5 d k v=0):DOk (dW d k v):=by
 have e:dW d k v=Z9 d ⟨k,v⟩:=by rw[Z9,if_pos he]
 refine⟨h.s.put v,?_,?_⟩
 ·rw[e];exact Uv _ h.s h.f
 ·have:=Fy [⟨k,v⟩] d h.l;rw[e];exact this
theorem DOk.nil:DOk []:=⟨XE,fun x hx=>(by cases hx),Nat.zero_le _⟩
theorem DOk.id {d:List Ent}(h:DOk d):aY d=d:=a2S h.s h.f h.l
theorem Vb {d:List Ent}{k v:Bs}:J5 d k v=0↔k.length<=400/\v.length<=4000/\(U6 d k=true\/d.length<2000):=by
 unfold J5
 constructor
 ·intro h;split at h
  ·cases h
  ·rename_i h1;split at h
   ·rename_i h2;exact⟨om,om,.inl h2⟩
   ·split at h
    ·cases h
    ·exact⟨om,om,.inr om⟩
 ·rintro⟨h1,h2,h3⟩;rw[if_neg om];rcases h3 with h3|h3
  ·rw[if_pos h3]
  ·by_cases hb:U6 d k=true
   ·rw[if_pos hb]
   ·rw[if_neg hb,if_neg om]
theorem Uo {d:List Ent}{k v:Bs}(h:Srt d):(dW d k v).length=d.length+(if U6 d k=true then 0 else 1):=by
 obtain⟨A,B,hA,hB,hl,h1⟩:=uA k h;rw[zQ v hl h1];rcases h1 with⟨h1,rfl⟩|⟨u,h1,rfl⟩
 ·rw[h1];simp;omega
 ·rw[h1];simp
def R4 (d:List Ent)(k v:Bs):List Ent × Int:=if J5 d k v=0 then (dW d k v,0) else ([],J5 d k v)
theorem QB {d:List Ent}{k v:Bs}(h:DOk d)(_he:(R4 d k v).2=0):DOk (R4 d k v).1:=by
 unfold R4 at _he ⊢;split
 ·rename_i h1;exact h.put h1
 ·exact .nil
theorem Bc (d:List Ent)(k v:Bs):(R4 d k v).2=J5 d k v:=by
 unfold R4;split
 ·rename_i h;rw[h]
 ·rfl
end Go.Proofs.YtjhnaegpchadiaaGreatDoor
