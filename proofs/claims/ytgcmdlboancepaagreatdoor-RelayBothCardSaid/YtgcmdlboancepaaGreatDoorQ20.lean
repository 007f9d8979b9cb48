/- . -/
import Derived.Lib.Bytealg
import Derived.Test.YtgcmdlboancepaaGreatDoorQ19
namespace Go.Proofs.Z
open Go Go.RowKit Tw Av Go.Proofs.Tryz
def rE (d:List Ent)(x:Ent):List Ent:=if mK d x.key x.val=0 then vI d x.key x.val else d
def VF (l:List Ent):List Ent:=l.foldl rE []
def CF (a:List Ent × Bool):Nat:=a.1.length+(if a.2=true then 0 else 1)
theorem a0m (k v:Bs)(a:List Ent × Bool)(x:Ent):CF (aQ k v a x)<=CF a+1:=by
 obtain⟨d,b⟩:=a;unfold aQ CF;cases b <;> by_cases h1:blt x.key k=false <;> by_cases h2:x.key=k <;> simp[h1,h2] <;> (try split) <;> simp <;> omega
theorem Oy (k v:Bs):∀ (l:List Ent) (a:List Ent × Bool),CF (l.foldl (aQ k v) a)<=CF a+l.length
 | [],a=>by simp
 | x::l,a=>by
  rw[List.foldl_cons];have h1:=Oy k v l (aQ k v a x);have h2:=a0m k v a x;simp only[List.length_cons];omega
theorem a2G (l:List Ent)(k v:Bs):(vI l k v).length<=l.length+1:=by
 have h:=Oy k v l ([],false);have h2:CF ([],false)=1:=rfl;unfold vI;unfold CF at h h2;dsimp only;split
 ·rename_i h3;rw[if_pos h3] at h;simp at h h2;omega
 rename_i h3;rw[if_neg h3] at h;simp at h h2 ⊢;omega
theorem a2h (d:List Ent)(x:Ent):(rE d x).length<=d.length+1:=by
 unfold rE;split
 ·exact a2G _ _ _
 omega
set_option maxHeartbeats 2000000 in
instance b7t {l:List Ent}{xs:List AV}{id:Option Value}[hx:Ents xs l]:Ans prog GL 67 [.sl 2 xs id] (l.length<=1000000) (.sl 2 ((VF l).map D5) none):=⟨λhl=>by
 have h:=hx.out;subst h;refine ze func67 ntmps67 λ_ hs=>?_;repeat' first|refine Wz ?_|intro
 refine Y4 3 (Imp.nilN (k:=2)) ?_;refine y9 (α:=Nat × List Ent) (λq=>[(0,.sl 2 (l.map D5) id),(3,.sl 2 (q.2.map D5) none),(4,int q.1)]) (λ_=>[]) (λq=>q.1<=l.length/\q.2.length<=q.1/\(l.drop q.1).foldl rE q.2=VF l) (λq=>l.length-q.1) (0,[]) zc slr ⟨Nat.zero_le _,sm,rfl⟩ ?_;rintro⟨i,d⟩ ⟨g1,g2,g3⟩;dsimp only at g1 g2 g3 ⊢;repeat' first|refine Wz ?_|intro
 refine w9 (λhlt=>?_) (λhlt=>?_)
 ·have hlt':i<l.length:=by simpa using hlt
  rw[List.drop_eq_getElem_cons hlt',List.foldl_cons] at g3;have hpl:=a2h d l[i];repeat' first|refine Wz ?_|intro
  apply zf [];exact zi;intro _ _;refine Y2 i hlt' ?_;exact j3 (p9 rfl rfl);repeat' first|refine Wz ?_|intro
  apply zf [];exact zi;intro _ _;refine Y2 i hlt' ?_;exact j3 (p9 rfl rfl);repeat' first|refine Wz ?_|intro
  refine w9 (λh0=>?_) (λh0=>?_)
  ·have e1:xR d l[i].key l[i].val=.sl 2 ((rE d l[i]).map D5) none:=by simp[xR,rE,h0]
   rw[e1];repeat' first|refine Wz ?_|intro
   exact o9 (i+1,rE d l[i]) zc slr ⟨hlt',by simp only;omega,g3⟩ (by simp only;omega)
  have e1:rE d l[i]=d:=by simp[rE,h0]
  rw[e1] at g3;repeat' first|refine Wz ?_|intro
  exact o9 (i+1,d) zc slr ⟨hlt',by simp only;omega,g3⟩ (by simp only;omega)
 repeat' first|refine Wz ?_|intro
 refine j6 ?_;rw[List.drop_of_length_le (by simpa using hlt)] at g3;rw[<- g3];rfl⟩
end Go.Proofs.Z

namespace Go.Proofs.Z
open Go Go.RowKit Tw Av
section
variable {a b k:Bs}{A B l:List Ent}
theorem yK:∀ a:Bs,blt a a=false
 | []=>rfl
 | a::x=>by simp[blt,Op.bytesLess] at *;exact yK x
theorem LM:∀ {a b c:Bs},blt a b=true->blt b c=true->blt a c=true
 | _,[],_,h,_=>by cases ‹List UInt8› <;> simp[blt,Op.bytesLess] at h
 | _,_::_,[],_,h=>by simp[blt,Op.bytesLess] at h
 | [],_::_,_::_,_,_=>by simp[blt,Op.bytesLess]
 | a::x,b::y,c::z,h,k=>by
  simp only[blt,Op.bytesLess,Bool.or_eq_true,Bool.and_eq_true,beq_iff_eq,decide_eq_true_eq] at h k ⊢;rcases h with h|⟨rfl,h⟩
  ·rcases k with k|⟨rfl,k⟩
   ·exact .inl (UInt8.lt_trans h k)
   exact .inl h
  rcases k with k|⟨rfl,k⟩
  ·exact .inl k
  exact .inr ⟨rfl,LM h k⟩
theorem Ag:∀ {a b:Bs},blt a b=false->blt b a=false->a=b
 | [],[],_,_=>rfl
 | [],_::_,h,_=>by simp[blt,Op.bytesLess] at h
 | _::_,[],_,h=>by simp[blt,Op.bytesLess] at h
 | a::x,b::y,h,k=>by
  simp only[blt,Op.bytesLess,Bool.or_eq_false_iff,decide_eq_false_iff_not,UInt8.not_lt,Bool.and_eq_false_iff] at h k;obtain rfl:a=b:=UInt8.le_antisymm k.1 h.1;have h2:=h.2;have k2:=k.2;simp at h2 k2;rw[Ag h2 k2]
theorem Ai (h:blt a b=true):blt b a=false:=by
 cases hb:blt b a with
 | false=>rfl
 | true=>rw[<- yK a];exact(LM h hb).symm
theorem LP (h:blt a b=true):a≠b:=λe=>by rw[e,yK] at h;cases h
theorem Tp:∀ {a b:Bs},Lib.compareBytes a b<0↔blt a b=true
 | [],[]=>by simp[Lib.compareBytes,blt,Op.bytesLess]
 | [],_::_=>by simp[Lib.compareBytes,blt,Op.bytesLess]
 | _::_,[]=>by simp[Lib.compareBytes,blt,Op.bytesLess]
 | a::x,b::y=>by
  unfold Lib.compareBytes blt Op.bytesLess;by_cases h:a<b
  ·simp[h]
  by_cases k:b<a
  ·have hne:a≠b:=λe=>by subst e;exact UInt8.lt_irrefl _ k
   simp[h,k,hne]
  obtain rfl:a=b:=UInt8.le_antisymm (UInt8.not_lt.1 k) (UInt8.not_lt.1 h);simp only[h,if_false,Tp,blt];simp
theorem Tq:∀ {a b:Bs},Lib.compareBytes a b=0↔a=b
 | [],[]=>by simp[Lib.compareBytes]
 | [],_::_=>by simp[Lib.compareBytes]
 | _::_,[]=>by simp[Lib.compareBytes]
 | a::x,b::y=>by
  unfold Lib.compareBytes;by_cases h:a<b
  ·have hne:a≠b:=λe=>by subst e;exact UInt8.lt_irrefl _ h
   simp[h,hne]
  by_cases k:b<a
  ·have hne:a≠b:=λe=>by subst e;exact UInt8.lt_irrefl _ k
   simp[h,k,hne]
  obtain rfl:a=b:=UInt8.le_antisymm (UInt8.not_lt.1 k) (UInt8.not_lt.1 h);simp only[h,if_false,Tq];simp
theorem Et (a b:Bs):tO a b=Lib.compareBytes a b:=Lib.cmp_eq _ _
theorem Es :tO a b<0↔blt a b=true:=by rw[Et];exact Tp
theorem UG :tO a b=0↔a=b:=by rw[Et];exact Tq
def Srt (l:List Ent):Prop:=l.Pairwise λx y=>blt x.key y.key=true
theorem Srt.lo (h:Srt l){i j:Nat}(hij:i<=j)(hj:j<l.length)(hk:blt l[j].key k=true):blt (l[i]'(by omega)).key k=true:=by
 rcases Nat.lt_or_ge i j with hlt|hge
 ·exact LM (List.pairwise_iff_getElem.1 h i j om hj hlt) hk
 obtain rfl:i=j:=by omega
 exact hk
theorem QX {l:List Ent}{k:Bs}(h:Srt l):∀ (f i j:Nat),j-i<=f->i<=j->(hj:j<=l.length)->(∀ q,(hq:q<l.length)->q<i->blt l[q].key k=true)->(∀ q,(hq:q<l.length)->j<=q->blt l[q].key k=false) ->
  (∀ q,(hq:q<l.length)->(blt l[q].key k=true↔q<vV l k f i j))/\vV l k f i j<=l.length
 | 0,i,j,hf,hij,hj,h1,h2=>by
  obtain rfl:i=j:=by omega
  refine⟨λq hq=>⟨λhb=>?_,λhb=>h1 q hq hb⟩,hj⟩;rcases Nat.lt_or_ge q i with g|g
  ·exact g
  rw[h2 q hq g] at hb;cases hb
 | f+1,i,j,hf,hij,hj,h1,h2=>by
  unfold vV;by_cases hlt:i<j
  ·rw[if_pos hlt];have hm:(i+j) / 2<l.length:=by omega
   have hgd:l.getD ((i+j) / 2) ⟨[],[]⟩=l[(i+j) / 2]:=by simp[List.getD,hm]
   simp only[hgd];by_cases hc:tO l[(i+j) / 2].key k<0
   ·rw[if_pos hc];have hb:=Es.1 hc;exact QX h f _ _ om om hj (λq hq hqi=>h.lo om hm hb) h2
   rw[if_neg hc];have hb:blt l[(i+j) / 2].key k=false:=by
    cases e:blt l[(i+j) / 2].key k with
    | false=>rfl
    | true=>exact absurd (Es.2 e) hc
   refine QX h f _ _ om om om h1 (λq hq hqi=>?_);cases e:blt l[q].key k with
   | false=>rfl
   | true=>rw[h.lo hqi hq e] at hb;cases hb
  rw[if_neg hlt];obtain rfl:i=j:=by omega
  refine⟨λq hq=>⟨λhb=>?_,λhb=>h1 q hq hb⟩,hj⟩;rcases Nat.lt_or_ge q i with g|g
  ·exact g
  rw[h2 q hq g] at hb;cases hb
theorem Um (h:Srt l):(∀ x∈l.take (G6 l k),blt x.key k=true)/\(∀ x∈l.drop (G6 l k),blt x.key k=false):=by
 obtain⟨g,_⟩:=QX (k:=k) h l.length 0 l.length om om (Nat.le_refl _) (by intros;omega) (by intros;omega);refine⟨λx hx=>?_,λx hx=>?_⟩
 ·obtain⟨q,hq,rfl⟩:=List.mem_iff_getElem.1 hx;have h1:q<G6 l k/\q<l.length:=by simpa[List.length_take,Nat.lt_min] using hq
  rw[List.getElem_take];exact(g q h1.2).2 h1.1
 obtain⟨q,hq,rfl⟩:=List.mem_iff_getElem.1 hx;have h1:q<l.length-G6 l k:=by simpa[List.length_drop] using hq
 rw[List.getElem_drop];have h2:G6 l k+q<l.length:=by omega
 cases e:blt l[G6 l k+q].key k with
 | false=>rfl
 | true=>
  have:G6 l k+q<G6 l k:=(g _ h2).1 e;omega
theorem Srt.append {a b:List Ent}:Srt (a++b)↔Srt a/\Srt b/\∀ x∈a,∀ y∈b,blt x.key y.key=true:=List.pairwise_append
theorem Srt.cons {x:Ent}{b:List Ent}:Srt (x::b)↔(∀ y∈b,blt x.key y.key=true)/\Srt b:=List.pairwise_cons
theorem vU (k:Bs)(h:Srt l):∃ A B:List Ent,(∀ x∈A,blt x.key k=true)/\(∀ x∈B,blt k x.key=true)/\G6 l k=A.length /\
  ((K5 l k=false/\l=A++B)\/∃ v,K5 l k=true/\l=A++⟨k,v⟩::B):=by
 obtain⟨h1,h2⟩:=Um (k:=k) h;have hle:G6 l k<=l.length:=(QX (k:=k) h l.length 0 l.length om om (Nat.le_refl _) (by intros;omega) (by intros;omega)).2;have hl:(l.take (G6 l k)).length=G6 l k:=by simp;omega
 by_cases hn:G6 l k<l.length
 ·have hd:l.drop (G6 l k)=l[G6 l k]::l.drop (G6 l k+1):=List.drop_eq_getElem_cons hn;have hgd:l.getD (G6 l k) ⟨[],[]⟩=l[G6 l k]:=by simp[List.getD,hn]
  have hs:Srt (l[G6 l k]::l.drop (G6 l k+1)):=by
   rw[<- hd];exact List.Pairwise.sublist (List.drop_sublist _ _) h
  rw[Srt.cons] at hs;by_cases hk:l[G6 l k].key=k
  ·refine⟨l.take (G6 l k),l.drop (G6 l k+1),h1,λx hx=>?_,hl.symm,.inr ⟨l[G6 l k].val,?_,?_⟩⟩
   ·have:=hs.1 x hx
    rwa [hk] at this
   ·simp only[K5,hn,decide_true,Bool.true_and,hgd,decide_eq_true_eq];exact UG.2 hk
   have:∀ y:Ent,y.key=k->(⟨k,y.val⟩:Ent)=y:=λy hy=>by subst hy;rfl
   rw[this _ hk,<- hd,List.take_append_drop]
  refine⟨l.take (G6 l k),l.drop (G6 l k),h1,λx hx=>?_,hl.symm,.inl ⟨?_,(List.take_append_drop _ _).symm⟩⟩
  ·rw[hd] at hx;have hb:=h2 l[G6 l k] (by rw[hd];exact List.mem_cons_self);have hk2:blt k l[G6 l k].key=true:=by
    cases e:blt k l[G6 l k].key with
    | true=>rfl
    | false=>exact absurd (Ag hb e) hk
   rcases List.mem_cons.1 hx with rfl|hx
   ·exact hk2
   exact LM hk2 (hs.1 x hx)
  have:¬ tO l[G6 l k].key k=0:=λe=>hk (UG.1 e);simp only[K5,hn,decide_true,Bool.true_and,hgd,this,decide_false]
 refine⟨l,[],λx hx=>h1 x (by rw[List.take_of_length_le om];exact hx),sm,om,.inl ⟨by simp[K5,hn],sm⟩⟩
theorem set_mid {α:Type}(A B:List α)(x y:α):(A++x::B).set A.length y=A++y::B:=by
 rw[List.set_append,if_neg om,Nat.sub_self,List.set_cons_zero]
theorem Oi {α:Type}(A B:List α)(x d:α):(A++x::B).getD A.length d=x:=by
 simp[List.getD]
theorem JW (v:Bs)(hl:G6 l k=A.length)(h:(K5 l k=false/\l=A++B)\/∃ v,K5 l k=true/\l=A++⟨k,v⟩::B):jK l k v=A++⟨k,v⟩::B:=by
 unfold jK;rw[hl];rcases h with⟨h1,h2⟩|⟨u,h1,h2⟩
 ·rw[if_neg (by simp[h1])];subst h2;simp
 rw[if_pos h1];subst h2;rw[Oi,set_mid]
theorem TS {k v:Bs}:∀ (A:List Ent) (acc:List Ent),(∀ x∈A,blt x.key k=true)->A.foldl (aQ k v) (acc,false)=(acc++A,false)
 | [],acc,_=>by simp
 | x::A,acc,h=>by
  have hx:=h x sm;have e:aQ k v (acc,false) x=(acc++[x],false):=by simp[aQ,hx,LP hx]
  rw[List.foldl_cons,e,TS A _ (λy hy=>h y (by simp[hy]))];simp
theorem TT {k v:Bs}:∀ (B:List Ent) (acc:List Ent),(∀ x∈B,blt k x.key=true)->B.foldl (aQ k v) (acc,true)=(acc++B,true)
 | [],acc,_=>by simp
 | x::B,acc,h=>by
  have hx:=h x sm;have e:aQ k v (acc,true) x=(acc++[x],true):=by simp[aQ,(LP hx).symm]
  rw[List.foldl_cons,e,TT B _ (λy hy=>h y (by simp[hy]))];simp
theorem a2F (v:Bs)(hA:∀ x∈A,blt x.key k=true)(hB:∀ x∈B,blt k x.key=true)(h:l=A++B\/∃ v,l=A++⟨k,v⟩::B):vI l k v=A++⟨k,v⟩::B:=by
 unfold vI;rcases h with rfl|⟨u,rfl⟩
 ·rw[List.foldl_append,TS A [] hA,List.nil_append];cases B with
  | nil=>simp
  | cons y B=>
   have hy:=hB y sm;have e:aQ k v (A,false) y=(A++[⟨k,v⟩]++[y],true):=by simp[aQ,Ai hy,(LP hy).symm]
   rw[List.foldl_cons,e,TT B _ (λx hx=>hB x (by simp[hx]))];simp
 rw[List.foldl_append,TS A [] hA,List.nil_append,List.foldl_cons];have e:aQ k v (A,false) ⟨k,u⟩=(A++[⟨k,v⟩],true):=by simp[aQ,yK]
 rw[e,TT B _ hB];simp
theorem QE (hA:∀ x∈A,blt x.key k=true)(hB:∀ x∈B,blt k x.key=true):fZ (A++B) k=none/\∀ v,fZ (A++⟨k,v⟩::B) k=some ⟨k,v⟩:=by
 have h1:fZ A k=none:=by
  simp only[fZ,List.find?_eq_none,decide_eq_true_eq];exact λx hx=>LP (hA x hx)
 have h2:fZ B k=none:=by
  simp only[fZ,List.find?_eq_none,decide_eq_true_eq];exact λx hx=>(LP (hB x hx)).symm
 unfold fZ at *;exact⟨by rw[List.find?_append,h1,h2];rfl,λv=>by rw[List.find?_append,h1];simp⟩
theorem Og (h:Srt l):(fZ l k).isSome=K5 l k:=by
 obtain⟨A,B,hA,hB,_,h1⟩:=vU k h;have hg:=QE hA hB;rcases h1 with⟨h1,rfl⟩|⟨v,h1,rfl⟩
 ·rw[h1,hg.1];rfl
 rw[h1,hg.2];rfl
theorem Srt.put (v:Bs)(h:Srt l):Srt (jK l k v):=by
 obtain⟨A,B,hA,hB,hl,h1⟩:=vU k h;rw[JW v hl h1];have hab:Srt A/\Srt B:=by
  rcases h1 with⟨_,rfl⟩|⟨u,_,rfl⟩
  ·rw[Srt.append] at h;exact⟨h.1,h.2.1⟩
  rw[Srt.append,Srt.cons] at h;exact⟨h.1,h.2.1.2⟩
 rw[Srt.append,Srt.cons];refine⟨hab.1,⟨hB,hab.2⟩,λx hx y hy=>?_⟩;rcases List.mem_cons.1 hy with rfl|hy
 ·exact hA x hx
 exact LM (hA x hx) (hB y hy)
theorem VQ (v:Bs)(h:Srt l):mK l k v=M6 l k v:=by
 unfold mK M6;rw[Og h];cases K5 l k <;> simp
theorem Iu (x:Ent)(h:Srt l):rE l x=bJ l x:=by
 unfold rE bJ;rw[VQ x.val h];split
 ·obtain⟨A,B,hA,hB,hl,h1⟩:=vU x.key h;rw[JW x.val hl h1,a2F x.val hA hB (h1.imp (·.2) fun⟨v,_,h⟩=>⟨v,h⟩)]
 rfl
theorem a0q (x:Ent)(h:Srt l):Srt (bJ l x):=by
 unfold bJ;split
 ·exact h.put _
 exact h
theorem Dp:Srt []:=List.Pairwise.nil
theorem Pf:∀ (l d:List Ent),Srt d->l.foldl rE d=l.foldl bJ d/\Srt (l.foldl bJ d)
 | [],d,h=>⟨rfl,h⟩
 | x::l,d,h=>by
  rw[List.foldl_cons,List.foldl_cons,Iu x h];exact Pf l _ (a0q x h)
theorem a1C (l:List Ent):VF l=dO l:=(Pf l [] Dp).1
def Fits (l:List Ent):Prop:=∀ x∈l,x.key.length<=400/\x.val.length<=4000
theorem a2e {d:List Ent}(x:Ent)(h:Srt d)(hf:Fits d):Fits (bJ d x):=by
 unfold bJ;split
 ·rename_i h0;have hx:x.key.length<=400/\x.val.length<=4000:=by
   unfold M6 at h0;by_cases h1:400<x.key.length\/4000<x.val.length
   ·rw[if_pos h1] at h0;simp at h0
   omega
  obtain⟨A,B,_,_,hl,h1⟩:=vU x.key h;rw[JW x.val hl h1];intro y hy;have hy':y∈A\/y=x\/y∈B:=by simpa using hy
  have hsub:y∈A\/y∈B->y∈d:=by
   rcases h1 with⟨_,rfl⟩|⟨u,_,rfl⟩ <;> intro g <;> rcases g with g|g <;> simp[g]
  rcases hy' with g|rfl|g
  ·exact hf y (hsub (.inl g))
  ·exact hx
  exact hf y (hsub (.inr g))
 exact hf
theorem a2d {d:List Ent}{x:Ent}(h:Srt (d++[x]))(hx:x.key.length<=400/\x.val.length<=4000)(hl:d.length<2000):bJ d x=d++[x]:=by
 have h':=h;rw[Srt.append] at h';obtain⟨h1,_,h3⟩:=h';obtain⟨A,B,hA,hB,hl',h4⟩:=vU x.key h1;have hlt:∀ y∈d,blt y.key x.key=true:=λy hy=>h3 y hy x sm;have hB0:B=[]:=by
  cases B with
  | nil=>rfl
  | cons y B=>
   have hy:y∈d:=by rcases h4 with⟨_,h4⟩|⟨u,_,h4⟩ <;> rw[h4] <;> simp
   have:=Ai (hB y sm);rw[hlt y hy] at this;cases this
 subst hB0;have hA0:K5 d x.key=false/\d=A++[]:=by
  rcases h4 with h4|⟨u,_,h4⟩
  ·exact h4
  have:=hlt ⟨x.key,u⟩ (by rw[h4];simp);rw[yK] at this;cases this
 unfold bJ;rw[JW x.val hl' h4];have he:M6 d x.key x.val=0:=by
  unfold M6;rw[if_neg om,hA0.1];simp;omega
 rw[if_pos he];have:=hA0.2;simp at this;rw[<- this]
theorem Pb:∀ (l d:List Ent),Srt (d++l)->Fits l->(d++l).length<=2000->l.foldl bJ d=d++l
 | [],d,_,_,_=>by simp
 | x::l,d,h,hf,hl=>by
  have e:d++x::l=d++[x]++l:=sm
  rw[List.foldl_cons,a2d (x:=x) (by rw[e,Srt.append] at h;exact h.1) (hf x sm) (by simp at hl;omega),e];exact Pb l _ (by rw[<- e];exact h) (λy hy=>hf y (by simp[hy])) (by rw[<- e];exact hl)
theorem a7s (h:Srt l)(hf:Fits l)(hl:l.length<=2000):dO l=l:=by
 have:=Pb l [] (by simpa using h) hf (by simpa using hl);simpa[dO] using this
theorem Oz:∀ (l d:List Ent),d.length<=2000->(l.foldl bJ d).length<=2000
 | [],_,h=>h
 | _::l,_,h=>Oz l _ (Ir h)
end

section
variable {k q v:Bs}{d:List Ent}
structure DOk (d:List Ent):Prop where
 s:Srt d
 f:Fits d
 l:d.length<=2000
def gO (d:List Ent)(k:Bs):Option Bs:=(fZ d k).map (·.val)
def N8 (d:List Ent)(k:Bs):Bs:=(gO d k).getD []
def mZ (d:List Ent)(k:Bs):List Ent:=if K5 d k=true then d.take (G6 d k)++d.drop (G6 d k+1) else d
theorem KN (h:Srt d):K5 d k=(gO d k).isSome:=by rw[gO,Option.isSome_map,Og h]
theorem Yp (h:Srt d):(if K5 d k=true then (d.getD (G6 d k) ⟨[],[]⟩).val else [])=N8 d k:=by
 obtain⟨A,B,hA,hB,hl,h1⟩:=vU k h;have hg:=QE hA hB;rcases h1 with⟨h1,rfl⟩|⟨v,h1,rfl⟩
 ·rw[h1,if_neg sm,N8,gO,hg.1];rfl
 rw[h1,if_pos rfl,hl,Oi,N8,gO,hg.2];rfl
theorem XR {A B:List Ent}(hq:q≠k):gO (A++⟨k,v⟩::B) q=gO (A++B) q:=by
 unfold gO fZ;rw[List.find?_append,List.find?_append,List.find?_cons];have:decide ((⟨k,v⟩:Ent).key=q)=false:=dZ λe=>hq e.symm;rw[this]
theorem a5l (h:Srt d):gO (jK d k v) q=if q=k then some v else gO d q:=by
 obtain⟨A,B,hA,hB,hl,h1⟩:=vU k h;have hg:=QE hA hB;rw[JW v hl h1];by_cases hq:q=k
 ·rw[if_pos hq,hq,gO,hg.2];rfl
 rw[if_neg hq,XR hq];rcases h1 with⟨_,rfl⟩|⟨u,_,rfl⟩
 ·rfl
 rw[XR hq]
theorem Rl {A B:List Ent}(hl:G6 d k=A.length)(h1:(K5 d k=false/\d=A++B)\/∃ v,K5 d k=true/\d=A++⟨k,v⟩::B):mZ d k=A++B:=by
 unfold mZ;rcases h1 with⟨h1,h2⟩|⟨v,h1,h2⟩
 ·rw[h1,if_neg sm,h2]
 rw[if_pos h1,hl];subst h2;rw[List.take_append_of_le_length (Nat.le_refl _),List.take_length,List.drop_append,List.drop_of_length_le om,show A.length+1-A.length=1 by omega];rfl
theorem a5m (h:Srt d):gO (mZ d k) q=if q=k then none else gO d q:=by
 obtain⟨A,B,hA,hB,hl,h1⟩:=vU k h;have hg:=QE hA hB;rw[Rl hl h1];by_cases hq:q=k
 ·rw[if_pos hq,hq,gO,hg.1];rfl
 rw[if_neg hq];rcases h1 with⟨_,rfl⟩|⟨u,_,rfl⟩
 ·rfl
 rw[XR hq]
theorem Cj (h:Srt d):N8 (jK d k v) q=if q=k then v else N8 d q:=by
 unfold N8;rw[a5l h];split <;> rfl
theorem Yq (h:Srt d):N8 (mZ d k) q=if q=k then [] else N8 d q:=by
 unfold N8;rw[a5m h];split <;> rfl
theorem YN (d:List Ent)(k:Bs):(mZ d k).Sublist d:=by
 unfold mZ;split
 ·conv=>rhs;rw[<- List.take_append_drop (G6 d k) d]
  refine List.Sublist.append slr ?_;rw[<- List.drop_drop];exact List.drop_sublist _ _
 exact List.Sublist.refl _
theorem DOk.drp (h:DOk d)(k:Bs):DOk (mZ d k):=
 ⟨List.Pairwise.sublist (YN d k) h.s,λx hx=>h.f x ((YN d k).mem hx),Nat.le_trans (YN d k).length_le h.l⟩
theorem DOk.put (h:DOk d)(he:M6 d k v=0):DOk (jK d k v):=by
 have e:jK d k v=bJ d ⟨k,v⟩:=by rw[bJ,if_pos he]
 refine⟨h.s.put v,?_,?_⟩
 ·rw[e];exact a2e _ h.s h.f
 have:=Oz [⟨k,v⟩] d h.l;rw[e];exact this
theorem DOk.nil:DOk []:=⟨Dp,λx hx=>(by cases hx),Nat.zero_le _⟩
theorem DOk.id (h:DOk d):dO d=d:=a7s h.s h.f h.l
theorem a2j :M6 d k v=0↔k.length<=400/\v.length<=4000/\(K5 d k=true\/d.length<2000):=by
 unfold M6
 constructor
 ·intro h;split at h
  ·cases h
  rename_i h1;split at h
  ·rename_i h2;exact⟨om,om,.inl h2⟩
  split at h
  ·cases h
  exact⟨om,om,.inr om⟩
 rintro⟨h1,h2,h3⟩;rw[if_neg om];rcases h3 with h3|h3
 ·rw[if_pos h3]
 by_cases hb:K5 d k=true
 ·rw[if_pos hb]
 rw[if_neg hb,if_neg om]
def P7 (d:List Ent)(k v:Bs):List Ent × Int:=if M6 d k v=0 then (jK d k v,0) else ([],M6 d k v)
theorem VP (h:DOk d)(_he:(P7 d k v).2=0):DOk (P7 d k v).1:=by
 unfold P7 at _he ⊢;split
 ·rename_i h1;exact h.put h1
 exact .nil
theorem Iw (d:List Ent)(k v:Bs):(P7 d k v).2=M6 d k v:=by
 unfold P7;split
 ·rename_i h;rw[h]
 rfl
end
end Go.Proofs.Z
