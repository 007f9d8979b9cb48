/- . -/
import Derived.Lib.Bytealg
import Derived.Test.YtcdbijbhifhkeaaGreatDoorV23
namespace Go.Proofs.Z
open Go Go.RowKit Tw Av Go.Proofs.Tryz
section
variable {k:Bs}{l:List Ent}{xs:List AV}
abbrev dA (l:List Ent):AV:=.agg 1 [.sl 2 (l.map J4) none]
def Q0 (l:List Ent)(k v:Bs):Int:=if 400<k.length\/4000<v.length then 11 else if K8 l k=true then 0 else if 2000<=l.length then 15 else 0
def O8 (l:List Ent)(k v:Bs):List Ent:=if K8 l k=true then l.set (G5 l k) ⟨(l.getD (G5 l k) ⟨[],[]⟩).key,v⟩ else l.take (G5 l k)++⟨k,v⟩::l.drop (G5 l k)
def vV (l:List Ent)(k v:Bs):AV:=if Q0 l k v=0 then dA (O8 l k v) else .agg 1 [K5]
theorem Dq (l:List Ent)(k:Bs):∀ f i j,i<=j->yF l k f i j<=j
 | 0,i,j,h=>h
 | f+1,i,j,h=>by
  unfold yF;split
  ·dsimp only;split
   ·exact Dq l k f _ _ om
   exact Nat.le_trans (Dq l k f _ _ om) om
  exact h
theorem PE (l:List Ent)(k:Bs):G5 l k<=l.length:=Dq l k _ _ _ (Nat.zero_le _)
theorem Dp (h:K8 l k=true):G5 l k<l.length:=by
 unfold K8 at h;simp at h;exact h.1
instance a8u {v:Bs}{id:Option Value}[hx:Ents xs l]:Ans prog GL 135 [.agg 1 [.sl 2 xs id],str k,str v] (l.length<=1073741823) (.tup [vV l k v,int (Q0 l k v)]):=⟨λhl=>by
 have h:=hx.out;subst h;have hat:=PE l k;refine zc func135 ntmps135 λ_ hs=>?_;repeat' first|refine Wz ?_|intro
 refine fE (λh1=>?_) (λh1=>?_)
 ·repeat' first|refine Wz ?_|intro
  refine x9 ?_;have hh:400<k.length:=by omega
  have:Q0 l k v=11:=by simp[Q0,hh]
  simp[L6,vV,this]
 repeat' first|refine Wz ?_|intro
 refine G7 (λh2=>?_) (λh2=>?_)
 ·repeat' first|refine Wz ?_|intro
  refine x9 ?_;have hh:4000<v.length:=by omega
  have:Q0 l k v=11:=by simp[Q0,hh]
  simp[L6,vV,this]
 repeat' first|refine Wz ?_|intro
 have hne:¬ (400<k.length\/4000<v.length):=om
 refine J6 [] _ (by rw[hs];exact Cy (xs:=l.map J4) (id:=id) (by rw[llm];omega)) (λc m1 hh=>?_) lpr;rcases hh with⟨hnil,rfl,rfl⟩|⟨g,cap,rfl,rfl,hcap⟩
 ·obtain rfl:l=[]:=by simpa using hnil
  repeat' (first|refine iP ?_|refine M8 ?_|refine rG ?_|refine GR hs ?_|refine p9 (λ_=>?_)|intro _)
  refine a0K (λgv=>?_);refine J6 [.buf gv 88 2 [J4 ⟨k,v⟩] 1] _ (by rw[hs];exact a6Y) (λc m1 hh=>?_) lpr;rcases hh with⟨hnil,rfl,rfl⟩|⟨g,cap,rfl,rfl,hcap⟩
  ·simp at hnil
  refine yH 35 ?_;refine eH 35 Imp.sl ?_;repeat' first|refine Wz ?_|intro
  refine x9 ?_;have e0:K8 [] k=false:=rfl;have e1:Q0 [] k v=0:=by simp[Q0,hne,e0]
  have e2:[J4 ⟨k,v⟩]=(O8 [] k v).map J4:=by simp[O8,e0]
  simp only[L6,vV,e1,if_true,e2]
 repeat' (first|refine iP ?_|refine M8 ?_|refine rG ?_|refine GR hs ?_|refine p9 (λ_=>?_)|intro _)
 refine xF (λh3=>?_) (λh3=>?_)
 ·repeat' first|refine Wz ?_|intro
  have hlt:=Dp h3;have hgd:l.getD (G5 l k) ⟨[],[]⟩=l[G5 l k]:=by simp[List.getD,hlt]
  refine LP (G5 l k) ?_;repeat' first|refine Wz ?_|intro
  refine En (y:=J4 l[G5 l k]) (y':=J4 ⟨l[G5 l k].key,v⟩) ?_ ?_
  ·simp[hlt]
  refine yH 10 ?_;refine eH 10 Imp.sl ?_;repeat' first|refine Wz ?_|intro
  refine x9 ?_;have e1:Q0 l k v=0:=by simp[Q0,hne,h3]
  have e2:(l.map J4).set (G5 l k) (J4 ⟨l[G5 l k].key,v⟩)=(O8 l k v).map J4:=by rw[O8,if_pos h3,hgd,List.map_set]
  simp only[L6,vV,e1,if_true,e2]
 repeat' (first|refine iP ?_|refine M8 ?_|refine rG ?_|refine GR hs ?_|refine p9 (λ_=>?_)|intro _)
 refine G7 (λh4=>?_) (λh4=>?_)
 ·repeat' first|refine Wz ?_|intro
  refine x9 ?_;have e1:Q0 l k v=15:=by
   have:2000<=l.length:=by simp at h4;omega
   simp[Q0,hne,h3,this]
  simp[L6,vV,e1]
 repeat' (first|refine iP ?_|refine M8 ?_|refine rG ?_|refine GR hs ?_|refine p9 (λ_=>?_)|intro _)
 refine a0K (λgv=>?_);refine J6 [.buf g 88 2 (l.map J4) cap,.buf gv 88 2 [J4 ⟨k,v⟩] 1] _ (by rw[hs];exact a6X rfl hcap (by simpa using hat) (by rw[List.length_map];omega)) (λc m1 hh=>?_) (List.Perm.swap _ _ _);rcases hh with⟨hnil,rfl,rfl⟩|⟨g,cap,rfl,rfl,hcap⟩
 ·simp at hnil
 refine yH 35 ?_;refine eH 35 Imp.sl ?_;repeat' first|refine Wz ?_|intro
 refine x9 ?_;have e1:Q0 l k v=0:=by
  have:¬ 2000<=l.length:=by simp at h4;omega
  simp[Q0,hne,h3,this]
 have e2:(l.map J4).take (G5 l k)++J4 ⟨k,v⟩::(l.map J4).drop (G5 l k)=(O8 l k v).map J4:=by simp[O8,h3,List.map_take,List.map_drop]
 simp only[L6,vV,e1,if_true,e2]⟩
instance a8I {id:Option Value}[hx:Ents xs l]:Ans prog GL 169 [.agg 1 [.sl 2 xs id],str k] (l.length<=1073741823) (.tup [str (if K8 l k=true then (l.getD (G5 l k) ⟨[],[]⟩).val else []),d9 (K8 l k)]):=⟨λhl=>by
 have h:=hx.out;subst h;have hat:=PE l k;refine zc func169 ntmps169 λ_ hs=>?_;repeat' first|refine Wz ?_|intro
 refine xF (λh3=>?_) (λh3=>?_)
 ·repeat' first|refine Wz ?_|intro
  refine x9 ?_;have h4:K8 l k=false:=by simpa using h3
  simp[L6,h4]
 have h3:K8 l k=true:=by simpa using h3
 repeat' first|refine Wz ?_|intro
 have hlt:=Dp h3;have hgd:l.getD (G5 l k) ⟨[],[]⟩=l[G5 l k]:=by simp[List.getD,hlt]
 refine sJ (G5 l k) hlt ?_;repeat' first|refine Wz ?_|intro
 refine x9 ?_;simp only[L6,h3,if_true,hgd]⟩
instance a8P [hx:Ents xs l]:Ans prog GL 340 [.agg 1 [.sl 2 xs none],str k] (l.length<=1073741823) (.tup [dA (if K8 l k=true then l.take (G5 l k)++l.drop (G5 l k+1) else l),d9 (K8 l k)]):=⟨λhl=>by
 have h:=hx.out;subst h;have hat:=PE l k;refine zc func340 ntmps340 λ_ hs=>?_;repeat' first|refine Wz ?_|intro
 refine xF (λh3=>?_) (λh3=>?_)
 ·repeat' first|refine Wz ?_|intro
  refine x9 ?_;have h4:K8 l k=false:=by simpa using h3
  simp[L6,h4]
 have h3:K8 l k=true:=by simpa using h3
 repeat' first|refine Wz ?_|intro
 have hlt:=Dp h3;refine J6 [] _ (by rw[hs];exact Cy (xs:=l.map J4) (id:=none) (by rw[llm];omega)) (λc m1 hh=>?_) lpr;rcases hh with⟨hnil,rfl,rfl⟩|⟨g,cap,rfl,rfl,hcap⟩
 ·have:l=[]:=by simpa using hnil
  simp[this] at hlt
 repeat' first|refine Wz ?_|intro
 refine J6 [.buf g 88 2 (l.map J4) cap] _ (by rw[hs];exact a9S (xs:=l.map J4) (i:=G5 l k) (c:=cap) (by simpa using hlt) hcap (by rw[List.length_map];omega)) (λc m1 hh=>?_) lpr;have e2:(l.map J4).take (G5 l k)++(l.map J4).drop (G5 l k+1)=(l.take (G5 l k)++l.drop (G5 l k+1)).map J4:=by simp[List.map_take,List.map_drop]
 rw[e2] at hh;rcases hh with⟨hnil,rfl,rfl⟩|⟨g,cap,rfl,rfl,hcap⟩
 ·refine eH 23 (Imp.nilN (k:=2)) ?_;repeat' first|refine Wz ?_|intro
  refine x9 ?_;simp only[L6,h3,if_true,dA,hnil]
 refine yH 23 ?_;refine eH 23 Imp.sl ?_;repeat' first|refine Wz ?_|intro
 refine x9 ?_;simp only[L6,h3,if_true]⟩
instance c0Y {id:Option Value}[hx:Ents xs l]:Ans prog GL 214 [.agg 1 [.sl 2 xs id]] True (int l.length):=⟨λ_=>by
 have h:=hx.out;subst h;refine zc func214 ntmps214 λ_ hs=>?_;repeat' first|refine Wz ?_|intro
 refine x9 ?_;simp[L6]⟩
instance d0i {i:Int}{id:Option Value}[hx:Ents xs l]:Ans prog GL 217 [.agg 1 [.sl 2 xs id],int i] True (J4 (if i<0 then ⟨[],[]⟩ else l.getD i.toNat ⟨[],[]⟩)):=⟨λ_=>by
 have h:=hx.out;subst h;refine zc func217 ntmps217 λ_ hs=>?_;repeat' first|refine Wz ?_|intro
 refine fE (λh1=>?_) (λh1=>?_)
 ·repeat' first|refine Wz ?_|intro
  refine x9 ?_;rw[if_pos h1];rfl
 repeat' first|refine Wz ?_|intro
 refine G7 (λh2=>?_) (λh2=>?_)
 ·repeat' first|refine Wz ?_|intro
  refine x9 ?_;have:l.length<=i.toNat:=by simp at h2;omega
  rw[if_neg h1];simp[L6,List.getD,List.getElem?_eq_none this]
 repeat' first|refine Wz ?_|intro
 have hlt:i.toNat<l.length:=by simp at h2;omega
 refine sJ i.toNat hlt ?_;repeat' first|refine Wz ?_|intro
 refine x9 ?_;rw[if_neg h1];simp[L6,List.getD,hlt]⟩
instance d0j {id:Option Value}[hx:Ents xs l]:Ans prog GL 15 [.agg 1 [.sl 2 xs id]] (l.length<=1073741823) (.sl 2 (l.map J4) none):=⟨λhl=>by
 have h:=hx.out;subst h;refine zc func15 ntmps15 λ_ hs=>?_;repeat' first|refine Wz ?_|intro
 refine J6 [] _ (by rw[hs];exact Cy (xs:=l.map J4) (id:=id) (by rw[llm];omega)) (λc m1 hh=>?_) lpr;rcases hh with⟨hnil,rfl,rfl⟩|⟨g,cap,rfl,rfl,hcap⟩
 ·obtain rfl:l=[]:=by simpa using hnil
  refine eH 5 (Imp.nilN (k:=2)) ?_;exact jY
 refine yH 5 ?_;refine eH 5 Imp.sl ?_;exact jY⟩
end

def jR (d:List Ent)(x:Ent):List Ent:=if Q0 d x.key x.val=0 then O8 d x.key x.val else d
def rU (l:List Ent):List Ent:=l.foldl jR []
theorem Mj {d:List Ent}{x:Ent}(h:d.length<=2000):(jR d x).length<=2000:=by
 have hat:=PE d x.key;unfold jR Q0 O8;by_cases h1:400<x.key.length\/4000<x.val.length
 ·simpa[h1] using h
 by_cases h2:K8 d x.key=true
 ·simpa[h1,h2] using h
 by_cases h3:2000<=d.length
 ·simpa[h1,h2,h3] using h
 simp[h1,h2,h3];omega
instance c2s {l:List Ent}{xs:List AV}{id:Option Value}[hx:Ents xs l]:Ans prog GL 95 [.sl 2 xs id] (l.length<=1073741823) (dA (rU l)):=⟨λhl=>by
 have h:=hx.out;subst h;refine zc func95 ntmps95 λ_ hs=>?_;repeat' first|refine Wz ?_|intro
 rename_i g2 g3;refine jK (g:=g3) (v':=dA []) (ImpC.agg1 ImpC.nil) ?_;refine H7 (α:=Nat × List Ent) (λq=>[(2,ptr g2),(3,ptr g3),(8,.sl 2 (l.map J4) id),(9,int (l.map J4).length),(10,int q.1)]) (λq=>[.var g3 32 (dA q.2),.var g2 32 (.agg 1 [K5])])
  (λq=>q.1<=l.length/\q.2.length<=2000/\(l.drop q.1).foldl jR q.2=rU l) (λq=>l.length-q.1) (0,[]) za slr ⟨Nat.zero_le _,sm,rfl⟩ ?_
 rintro⟨i,d⟩ ⟨g1,g2',g4⟩;dsimp only at g1 g2' g4 ⊢;repeat' first|refine Wz ?_|intro
 refine G7 (λhlt=>?_) (λhlt=>?_)
 ·have hlt':i<l.length:=by simpa using hlt
  repeat' first|refine Wz ?_|intro
  refine sJ i hlt' ?_;repeat' first|refine Wz ?_|intro
  have hst:(l.drop i).foldl jR d=(l.drop (i+1)).foldl jR (jR d l[i]):=by rw[List.drop_eq_getElem_cons hlt'];rfl
  rw[hst] at g4;by_cases h0:Q0 d l[i].key l[i].val=0
  ·have e1:vV d l[i].key l[i].val=dA (jR d l[i]):=by simp[vV,jR,h0]
   rw[e1,h0];repeat' first|refine Wz ?_|intro
   refine y7 (i+1,jR d l[i]) za ?_ ⟨hlt',Mj g2',g4⟩ (by simp only;omega);exact A8
  have e1:vV d l[i].key l[i].val=.agg 1 [K5]:=by simp[vV,h0]
  have e2:jR d l[i]=d:=by simp[jR,h0]
  rw[e2] at g4;rw[e1];repeat' first|refine Wz ?_|intro
  refine G7 (λh=>absurd h h0) (λ_=>?_);repeat' first|refine Wz ?_|intro
  refine y7 (i+1,d) za ?_ ⟨hlt',g2',g4⟩ (by simp only;omega);exact A8
 repeat' first|refine Wz ?_|intro
 refine x9 ?_;rw[List.drop_of_length_le (by simpa using hlt)] at g4;simp only[List.foldl_nil] at g4;rw[g4];rfl⟩

instance c2d {n:Int}:Ans prog GL 265 [int n] (0<=n/\n<4611686018427387904) (int ((n+1) / 2)):=⟨λhn=>by
 refine zc func265 ntmps265 λ_ hs=>?_;exact jY⟩
abbrev WayStep:=Bool × Nat × Nat
abbrev xH (t:WayStep):AV:=.agg 3 [d9 t.1,int t.2.1,int t.2.2]
def zZ:Nat->Nat->Nat->List WayStep
 | 0,_,_=>[]
 | f+1,n,i=>if n<=1 then [] else
  (decide (i<(n+1) / 2),(n+1) / 2,n-(n+1) / 2)::(if i<(n+1) / 2 then zZ f ((n+1) / 2) i else zZ f (n-(n+1) / 2) (i-(n+1) / 2))
def turns (n i:Nat):List WayStep:=zZ n n i
theorem QF:∀ (f f' n i:Nat),n<=f->n<=f'->zZ f n i=zZ f' n i
 | 0,0,_,_,_,_=>rfl
 | 0,f'+1,n,i,h,_=>by
  have:n=0:=by omega
  subst this;rfl
 | f+1,0,n,i,_,h=>by
  have:n=0:=by omega
  subst this;rfl
 | f+1,f'+1,n,i,h,h'=>by
  unfold zZ;split
  ·rfl
  rw[QF f f' _ i om om,QF f f' _ (i-(n+1) / 2) om om]
theorem QD (n i:Nat)(h:1<n):turns n i=(decide (i<(n+1) / 2),(n+1) / 2,n-(n+1) / 2)::(if i<(n+1) / 2 then turns ((n+1) / 2) i else turns (n-(n+1) / 2) (i-(n+1) / 2)):=by
 obtain⟨f,rfl⟩:∃ f,n=f+1:=⟨n-1,om⟩;unfold turns;rw[zZ,if_neg om,QF f _ _ i om (Nat.le_refl _),QF f _ _ (i-(f+1+1) / 2) om (Nat.le_refl _)]
theorem QE (i:Nat):turns 1 i=[]:=rfl
def aY (n i:Int):List WayStep:=if i<0\/n<=i\/2000<n then [] else turns n.toNat i.toNat
instance b9n {n i:Int}:Ans prog GL 248 [int n,int i] True (.sl 3 ((aY n i).map xH) none):=⟨λ_=>by
 refine zc func248 ntmps248 λ_ hs=>?_;repeat' first|refine Wz ?_|intro
 refine fE (λh1=>?_) (λh1=>?_)
 ·repeat' first|refine Wz ?_|intro
  refine xE 4 (Imp.nilN (k:=3)) ?_;refine x9 ?_;simp[L6,aY,h1]
 repeat' first|refine Wz ?_|intro
 refine fE (λh2=>?_) (λh2=>?_)
 ·repeat' first|refine Wz ?_|intro
  refine xE 4 (Imp.nilN (k:=3)) ?_;refine x9 ?_;simp[L6,aY,h2]
 repeat' first|refine Wz ?_|intro
 refine G7 (λh3=>?_) (λh3=>?_)
 ·repeat' first|refine Wz ?_|intro
  refine xE 4 (Imp.nilN (k:=3)) ?_;refine x9 ?_;simp[L6,aY,h3]
 repeat' first|refine Wz ?_|intro
 obtain⟨N,rfl⟩:∃ N:Nat,n=N:=⟨n.toNat,om⟩;obtain⟨I,rfl⟩:∃ I:Nat,i=I:=⟨i.toNat,om⟩;have hway:aY N I=turns N I:=by simp[aY,h1,h2,h3]
 refine sP 5 (Imp.nil (k:=3)) ?_;refine eO (λok w h=>h.full 331 3 none 0) ?_;refine H7 (α:=Nat × Nat × Value × List WayStep) (λq=>[(0,int q.1),(1,int q.2.1),(5,.sl 3 (q.2.2.2.map xH) (some q.2.2.1))]) (λq=>[.tail 331 3 q.2.2.1])
  (λq=>q.2.1<q.1/\q.2.2.2.length+q.1<=2001/\q.2.2.2++turns q.1 q.2.1=turns N I) (λq=>q.1) (N,I,.slice none 0 0,[]) za slr ⟨by simp only;omega,by simp only[List.length_nil];omega,rfl⟩ ?_
 rintro⟨n',i',v,done⟩ ⟨g1,g2,g3⟩;dsimp only at g1 g2 g3 ⊢;repeat' first|refine Wz ?_|intro
 refine G7 (λhone=>?_) (λhone=>?_)
 ·obtain rfl:n'=1:=by omega
  repeat' first|refine Wz ?_|intro
  refine xE 4 Imp.sl ?_;refine x9 ?_;rw[QE,List.append_nil] at g3;rw[hway,<- g3];rfl
 repeat' first|refine Wz ?_|intro
 have hstep:=QD n' i' om;have hk0:((n':Int)+1) / 2=(((n'+1) / 2:Nat):Int):=by omega
 rw[hk0];generalize hk:(n'+1) / 2=k at *;have hd0:decide ((i':Int)<(k:Int))=decide (i'<k):=by simp
 have hs0:(n':Int)-(k:Int)=((n'-k:Nat):Int):=om
 rw[hd0,hs0];refine aP (λv'=>?_);have e1:done.map xH++[.agg 3 [d9 (decide (i'<k)),int k,int (n'-k:Nat)]]=(done++[(decide (i'<k),k,n'-k)]).map xH:=by simp
 rw[e1];have hlen:(done++[(decide (i'<k),k,n'-k)]).length=done.length+1:=by simp
 repeat' first|refine Wz ?_|intro
 refine xF (λhc=>?_) (λhc=>?_)
 ·have hge:¬ i'<k:=by intro h;simp[h] at hc
  repeat' first|refine Wz ?_|intro
  rw[show (i':Int)-(k:Int)=((i'-k:Nat):Int) by omega];refine y7 (n'-k,i'-k,v',done++[(decide (i'<k),k,n'-k)]) za ?_ ⟨by simp only;omega,by simp only[hlen];omega,?_⟩ (by simp only;omega)
  ·exact A8
  rw[<- g3,hstep,if_neg hge,laa];rfl
 have hlt:i'<k:=by
  rcases Nat.lt_or_ge i' k with h|h
  ·exact h
  simp[Nat.not_lt.2 h] at hc
 repeat' first|refine Wz ?_|intro
 refine y7 (k,i',v',done++[(decide (i'<k),k,n'-k)]) za ?_ ⟨by simp only;omega,by simp only[hlen];omega,?_⟩ (by simp only;omega)
 ·exact A8
 rw[<- g3,hstep,if_pos hlt,laa];rfl⟩

section
variable {xs:List AV}
def AA:Nat->List Hsh->Hsh
 | 0,_=>G8
 | f+1,l=>match l with
  | []=>G8
  | [x]=>x
  | _=>yZ (AA f (l.take ((l.length+1) / 2))) (AA f (l.drop ((l.length+1) / 2)))
def jL (l:List Hsh):Hsh:=AA l.length l
theorem QG:∀ (f f':Nat) (l:List Hsh),l.length<=f->l.length<=f'->AA f l=AA f' l
 | 0,0,_,_,_=>rfl
 | 0,f'+1,l,h,_=>by
  have:l=[]:=List.eq_nil_of_length_eq_zero om;subst this;rfl
 | f+1,0,l,_,h=>by
  have:l=[]:=List.eq_nil_of_length_eq_zero om;subst this;rfl
 | f+1,f'+1,[],_,_=>rfl
 | f+1,f'+1,[x],_,_=>rfl
 | f+1,f'+1,x::y::l,h,h'=>by
  simp only[List.length_cons] at h h';unfold AA;simp only;rw[QG f f' _ (by simp[List.length_take];omega) (by simp[List.length_take];omega),QG f f' (List.drop _ _) (by simp;omega) (by simp;omega)]
theorem Gz (l:List Hsh)(h:2<=l.length):jL l=yZ (jL (l.take ((l.length+1) / 2))) (jL (l.drop ((l.length+1) / 2))):=by
 match l,h with
 | x::y::l,_=>
  show yZ (AA (y::l).length _) (AA (y::l).length _)=_;rw[QG (y::l).length _ (List.take _ _) (by simp[List.length_take];omega) (Nat.le_refl _),QG (y::l).length _ (List.drop _ _) (by simp;omega) (Nat.le_refl _)];rfl
theorem a1P (n:Nat):n<=1000000->∀ {l:List Hsh} {xs:List AV} {id:Option Value} [Hshs xs l],Ans prog GL 236 [.sl 32 xs id] (l.length<=n) (hA (jL l)):=by
 induction n with
 | zero=>
  intro _ l xs id hx;refine⟨λhl=>?_⟩;have h:=hx.out;subst h;obtain rfl:l=[]:=List.eq_nil_of_length_eq_zero om;refine zc func236 ntmps236 λ_ hs=>?_;exact jY
 | succ n ih=>
  intro hn l xs id hx;have ih:=@ih om;refine⟨λhl=>?_⟩;have h:=hx.out;subst h;have hm:(l.map hA).length=l.length:=llm _;refine zc func236 ntmps236 λ_ hs=>?_;repeat' first|refine Wz ?_|intro
  refine G7 (λh0=>?_) (λh0=>?_)
  ·obtain rfl:l=[]:=List.eq_nil_of_length_eq_zero om;exact jY
  repeat' first|refine Wz ?_|intro
  refine G7 (λh1=>?_) (λh1=>?_)
  ·obtain⟨x,rfl⟩:∃ x,l=[x]:=List.length_eq_one_iff.1 om;repeat' first|refine Wz ?_|intro
   refine sJ 0 (show 0<[x].length by simp) ?_;exact jY
  repeat' first|refine Wz ?_|intro
  have hk0:(((l.map hA).length:Int)+1) / 2=(((l.length+1) / 2:Nat):Int):=om
  rw[hk0];have hst:=Gz l om;generalize hk:(l.length+1) / 2=k at *;apply zd [];exact zg;intro _ _;refine vK 0 k ?_;exact j5 (A7 rfl rfl);repeat' first|refine Wz ?_|intro
  apply zd [];exact zg;intro _ _;refine vK k l.length ?_;exact j5 (A7 rfl rfl);repeat' first|refine Wz ?_|intro
  refine x9 ?_;rw[hst,List.drop_zero,List.take_length];rfl
instance b9o {l:List Hsh}{id:Option Value}[Hshs xs l]:Ans prog GL 236 [.sl 32 xs id] (l.length<=1000000) (hA (jL l)):=a1P 1000000 (Nat.le_refl _)
theorem a6u {g:Nat}{x:Ent}{v:Value}{done:List Hsh}(hl:done.length<=1000000):Av.Spec prog GL 267 [J4 x,ptr g] [.var g 94 (.sl 32 (done.map hA) (some v)),.tail 91 32 v] λu m=>∃ v',u=.tup []/\m=[.var g 94 (.sl 32 ((done++[dK x]).map hA) (some v')),.tail 91 32 v']:=by
 refine zc func267 ntmps267 λ_ hs=>?_;repeat' first|refine Wz ?_|intro
 apply aH [2];exact rfl;exact rfl;exact rfl;kernel_rfl;intro _ _;refine aP (λv'=>?_);refine j5 (W9 [.tail 91 32 v'] [] rfl rfl lpr rfl ?_);repeat' first|refine Wz ?_|intro
 refine iV [.var g 94 (.sl 32 ((done++[dK x]).map hA) (some v')),.tail 91 32 v'] ⟨v',rfl,rfl⟩ ?_;rw[show (done++[dK x]).map hA=done.map hA++[hA (dK ⟨x.key,x.val⟩)] by simp];exact List.Sublist.cons _ slr
theorem ImpC.nilS {k:Nat}:ImpC K5 (.sl k [] (some (.slice none 0 0))):=λok w cs h=>by
 rw[RC] at h;rw[RC];exact⟨none,0,h.1,sm,Nat.le_refl _,by simp[maxLen],sm,sm⟩
instance c0Z {d:List Ent}{id:Option Value}[hx:Ents xs d]:Ans prog GL 237 [.agg 1 [.sl 2 xs id]] (d.length<=1000000) (.sl 32 ((d.map dK).map hA) none):=⟨λhl=>by
 have h:=hx.out;subst h;refine zc func237 ntmps237 λ_ hs=>?_;repeat' first|refine Wz ?_|intro
 rename_i g1 g3;refine Z0 (vs:=[.pointer (some ⟨g3,0,none⟩)]) ?_;repeat' first|refine Wz ?_|intro
 refine jK (g:=g3) (v':=.sl 32 [] (some (.slice none 0 0))) ImpC.nilS ?_;refine eO (λok w h=>h.full 91 32 none 0) ?_;refine H7 (α:=Nat × Value) (λq=>[(3,ptr g3),(4,F3 267 [.pointer (some ⟨g3,0,none⟩)]),(9,.sl 2 (d.map J4) none),(10,int (d.map J4).length),(11,int q.1)])
  (λq=>[.tail 91 32 q.2,.var g3 94 (.sl 32 (((d.take q.1).map dK).map hA) (some q.2))])
  (λq=>q.1<=d.length) (λq=>d.length-q.1) (0,.slice none 0 0) za ?_ (Nat.zero_le _) ?_
 ·exact A8
 rintro⟨i,v⟩ g1;dsimp only at g1 ⊢;repeat' first|refine Wz ?_|intro
 refine G7 (λhlt=>?_) (λhlt=>?_)
 ·have hlt':i<d.length:=by simpa using hlt
  repeat' first|refine Wz ?_|intro
  refine sJ i hlt' ?_;repeat' first|refine Wz ?_|intro
  refine gX (args:=[J4 d[i]]) (cs:=[.pointer (some ⟨g3,0,none⟩)]) [.var g3 94 (.sl 32 (((d.take i).map dK).map hA) (some v)),.tail 91 32 v] _ (by rw[hs];exact a6u (x:=d[i]) (v:=v) (g:=g3) (done:=(d.take i).map dK) (by simp;omega)) (λu m1 hh=>?_) ((List.reverse_perm _).symm);obtain⟨v',rfl,rfl⟩:=hh;refine lC (λok w h=>h.perm (List.Perm.swap _ _ _)) ?_;repeat' first|refine Wz ?_|intro
  rw[show (d.take i).map dK++[dK d[i]]=(d.take (i+1)).map dK by rw[List.take_succ_eq_append_getElem hlt',List.map_append];rfl];refine y7 (i+1,v') za ?_ hlt' (by simp only;omega);exact A8
 repeat' first|refine Wz ?_|intro
 refine xE 2 Imp.sl ?_;refine x9 ?_;rw[List.take_of_length_le (by simpa using hlt)];rfl⟩
instance b9T {d:List Ent}{id:Option Value}[hx:Ents xs d]:Ans prog GL 195 [.agg 1 [.sl 2 xs id]] (d.length<=1000000) (hA (CF d.length (jL (d.map dK)))):=⟨λhl=>by
 have h:=hx.out;subst h;have hm:(d.map dK).length=d.length:=llm _;refine zc func195 ntmps195 λ_ hs=>?_;exact jY⟩
end

def kR (l:List Ent)(k:Bs):Option Ent:=l.find? λx=>decide (x.key=k)
theorem a7M {l:List Ent}{k:Bs}{i:Nat}(h:i<l.length):kR (l.drop i) k=if l[i].key=k then some l[i] else kR (l.drop (i+1)) k:=by
 rw[List.drop_eq_getElem_cons h];unfold kR;rw[List.find?_cons];by_cases h:l[i].key=k <;> simp[h]
instance a8t {l:List Ent}{k:Bs}{xs:List AV}{id:Option Value}[hx:Ents xs l]:Ans prog GL 49 [.sl 2 xs id,str k] (l.length<=1073741823) (.tup [str (((kR l k).map (·.val)).getD []),d9 (kR l k).isSome]):=⟨λhl=>by
 have h:=hx.out;subst h;refine zc func49 ntmps49 λ_ hs=>?_;repeat' first|refine Wz ?_|intro
 refine H7 (α:=Nat) (λi=>[(0,.sl 2 (l.map J4) id),(1,str k),(6,int i)]) (λ_=>[]) (λi=>i<=l.length/\kR (l.drop i) k=kR l k) (λi=>l.length-i) 0 za slr ⟨Nat.zero_le _,rfl⟩ ?_;rintro i ⟨g1,g2⟩;repeat' first|refine Wz ?_|intro
 refine G7 (λhlt=>?_) (λhlt=>?_)
 ·have hlt':i<l.length:=by simpa using hlt
  rw[a7M hlt'] at g2;repeat' first|refine Wz ?_|intro
  refine sJ i hlt' ?_;repeat' first|refine Wz ?_|intro
  refine G7 (λhe=>?_) (λhe=>?_)
  ·rw[if_pos he] at g2;repeat' first|refine Wz ?_|intro
   refine sJ i hlt' ?_;repeat' first|refine Wz ?_|intro
   refine x9 ?_;simp[L6,<- g2]
  rw[if_neg he] at g2;repeat' first|refine Wz ?_|intro
  exact y7 (i+1) za slr ⟨hlt',g2⟩ om
 repeat' first|refine Wz ?_|intro
 refine x9 ?_;rw[List.drop_of_length_le (by simpa using hlt)] at g2;rw[<- g2];rfl⟩
end Go.Proofs.Z

namespace Go.Proofs.Z
open Go Go.RowKit Tw Av


section
variable {a k:Bs}{l:List Ent}
theorem PK:∀ a:Bs,blt a a=false
 | []=>rfl
 | a::x=>by simp[blt,Op.bytesLess] at *;exact PK x
theorem PI:∀ {a b c:Bs},blt a b=true->blt b c=true->blt a c=true
 | _,[],_,h,_=>by cases ‹List UInt8› <;> simp[blt,Op.bytesLess] at h
 | _,_::_,[],_,h=>by simp[blt,Op.bytesLess] at h
 | [],_::_,_::_,_,_=>by simp[blt,Op.bytesLess]
 | a::x,b::y,c::z,h,k=>by
  simp only[blt,Op.bytesLess,Bool.or_eq_true,Bool.and_eq_true,beq_iff_eq,decide_eq_true_eq] at h k ⊢;rcases h with h|⟨rfl,h⟩
  ·rcases k with k|⟨rfl,k⟩
   ·exact .inl (UInt8.lt_trans h k)
   exact .inl h
  rcases k with k|⟨rfl,k⟩
  ·exact .inl k
  exact .inr ⟨rfl,PI h k⟩
theorem Du:∀ {a b:Bs},blt a b=false->blt b a=false->a=b
 | [],[],_,_=>rfl
 | [],_::_,h,_=>by simp[blt,Op.bytesLess] at h
 | _::_,[],_,h=>by simp[blt,Op.bytesLess] at h
 | a::x,b::y,h,k=>by
  simp only[blt,Op.bytesLess,Bool.or_eq_false_iff,decide_eq_false_iff_not,UInt8.not_lt,Bool.and_eq_false_iff] at h k;obtain rfl:a=b:=UInt8.le_antisymm k.1 h.1;have h2:=h.2;have k2:=k.2;simp at h2 k2;rw[Du h2 k2]
theorem Zl {b:Bs}(h:blt a b=true):blt b a=false:=by
 cases hb:blt b a with
 | false=>rfl
 | true=>rw[<- PK a];exact(PI h hb).symm
theorem Zk {b:Bs}(h:blt a b=true):a≠b:=λe=>by rw[e,PK] at h;cases h
theorem Xx:∀ {a b:Bs},Lib.compareBytes a b<0↔blt a b=true
 | [],[]=>by simp[Lib.compareBytes,blt,Op.bytesLess]
 | [],_::_=>by simp[Lib.compareBytes,blt,Op.bytesLess]
 | _::_,[]=>by simp[Lib.compareBytes,blt,Op.bytesLess]
 | a::x,b::y=>by
  unfold Lib.compareBytes blt Op.bytesLess;by_cases h:a<b
  ·simp[h]
  by_cases k:b<a
  ·have hne:a≠b:=λe=>by subst e;exact UInt8.lt_irrefl _ k
   simp[h,k,hne]
  obtain rfl:a=b:=UInt8.le_antisymm (UInt8.not_lt.1 k) (UInt8.not_lt.1 h);simp only[h,if_false,Xx,blt];simp
theorem Xy:∀ {a b:Bs},Lib.compareBytes a b=0↔a=b
 | [],[]=>by simp[Lib.compareBytes]
 | [],_::_=>by simp[Lib.compareBytes]
 | _::_,[]=>by simp[Lib.compareBytes]
 | a::x,b::y=>by
  unfold Lib.compareBytes;by_cases h:a<b
  ·have hne:a≠b:=λe=>by subst e;exact UInt8.lt_irrefl _ h
   simp[h,hne]
  by_cases k:b<a
  ·have hne:a≠b:=λe=>by subst e;exact UInt8.lt_irrefl _ k
   simp[h,k,hne]
  obtain rfl:a=b:=UInt8.le_antisymm (UInt8.not_lt.1 k) (UInt8.not_lt.1 h);simp only[h,if_false,Xy];simp
theorem Jb (a b:Bs):vS a b=Lib.compareBytes a b:=Lib.cmp_eq _ _
theorem Iz {b:Bs}:vS a b<0↔blt a b=true:=by rw[Jb];exact Xx
theorem Ja {b:Bs}:vS a b=0↔a=b:=by rw[Jb];exact Xy
def Srt (l:List Ent):Prop:=l.Pairwise λx y=>blt x.key y.key=true
theorem Srt.lo (h:Srt l){i j:Nat}(hij:i<=j)(hj:j<l.length)(hk:blt l[j].key k=true):blt (l[i]'(by omega)).key k=true:=by
 rcases Nat.lt_or_ge i j with hlt|hge
 ·exact PI (List.pairwise_iff_getElem.1 h i j om hj hlt) hk
 obtain rfl:i=j:=by omega
 exact hk
theorem UT {l:List Ent}{k:Bs}(h:Srt l):∀ (f i j:Nat),j-i<=f->i<=j->(hj:j<=l.length)->(∀ q,(hq:q<l.length)->q<i->blt l[q].key k=true)->(∀ q,(hq:q<l.length)->j<=q->blt l[q].key k=false) ->
  (∀ q,(hq:q<l.length)->(blt l[q].key k=true↔q<yF l k f i j))/\yF l k f i j<=l.length
 | 0,i,j,hf,hij,hj,h1,h2=>by
  obtain rfl:i=j:=by omega
  refine⟨λq hq=>⟨λhb=>?_,λhb=>h1 q hq hb⟩,hj⟩;rcases Nat.lt_or_ge q i with g|g
  ·exact g
  rw[h2 q hq g] at hb;cases hb
 | f+1,i,j,hf,hij,hj,h1,h2=>by
  unfold yF;by_cases hlt:i<j
  ·rw[if_pos hlt];have hm:(i+j) / 2<l.length:=by omega
   have hgd:l.getD ((i+j) / 2) ⟨[],[]⟩=l[(i+j) / 2]:=by simp[List.getD,hm]
   simp only[hgd];by_cases hc:vS l[(i+j) / 2].key k<0
   ·rw[if_pos hc];have hb:=Iz.1 hc;exact UT h f _ _ om om hj (λq hq hqi=>h.lo om hm hb) h2
   rw[if_neg hc];have hb:blt l[(i+j) / 2].key k=false:=by
    cases e:blt l[(i+j) / 2].key k with
    | false=>rfl
    | true=>exact absurd (Iz.2 e) hc
   refine UT h f _ _ om om om h1 (λq hq hqi=>?_);cases e:blt l[q].key k with
   | false=>rfl
   | true=>rw[h.lo hqi hq e] at hb;cases hb
  rw[if_neg hlt];obtain rfl:i=j:=by omega
  refine⟨λq hq=>⟨λhb=>?_,λhb=>h1 q hq hb⟩,hj⟩;rcases Nat.lt_or_ge q i with g|g
  ·exact g
  rw[h2 q hq g] at hb;cases hb
theorem Ze (h:Srt l):(∀ x∈l.take (G5 l k),blt x.key k=true)/\(∀ x∈l.drop (G5 l k),blt x.key k=false):=by
 obtain⟨g,_⟩:=UT (k:=k) h l.length 0 l.length om om (Nat.le_refl _) (by intros;omega) (by intros;omega);refine⟨λx hx=>?_,λx hx=>?_⟩
 ·obtain⟨q,hq,rfl⟩:=List.mem_iff_getElem.1 hx;have h1:q<G5 l k/\q<l.length:=by simpa[List.length_take,Nat.lt_min] using hq
  rw[List.getElem_take];exact(g q h1.2).2 h1.1
 obtain⟨q,hq,rfl⟩:=List.mem_iff_getElem.1 hx;have h1:q<l.length-G5 l k:=by simpa[List.length_drop] using hq
 rw[List.getElem_drop];have h2:G5 l k+q<l.length:=by omega
 cases e:blt l[G5 l k+q].key k with
 | false=>rfl
 | true=>
  have:G5 l k+q<G5 l k:=(g _ h2).1 e;omega
theorem Srt.append {a b:List Ent}:Srt (a++b)↔Srt a/\Srt b/\∀ x∈a,∀ y∈b,blt x.key y.key=true:=List.pairwise_append
theorem Srt.cons {x:Ent}{b:List Ent}:Srt (x::b)↔(∀ y∈b,blt x.key y.key=true)/\Srt b:=List.pairwise_cons
theorem wX (k:Bs)(h:Srt l):∃ A B:List Ent,(∀ x∈A,blt x.key k=true)/\(∀ x∈B,blt k x.key=true)/\G5 l k=A.length /\
  ((K8 l k=false/\l=A++B)\/∃ v,K8 l k=true/\l=A++⟨k,v⟩::B):=by
 obtain⟨h1,h2⟩:=Ze (k:=k) h;have hle:G5 l k<=l.length:=(UT (k:=k) h l.length 0 l.length om om (Nat.le_refl _) (by intros;omega) (by intros;omega)).2;have hl:(l.take (G5 l k)).length=G5 l k:=by simp;omega
 by_cases hn:G5 l k<l.length
 ·have hd:l.drop (G5 l k)=l[G5 l k]::l.drop (G5 l k+1):=List.drop_eq_getElem_cons hn;have hgd:l.getD (G5 l k) ⟨[],[]⟩=l[G5 l k]:=by simp[List.getD,hn]
  have hs:Srt (l[G5 l k]::l.drop (G5 l k+1)):=by
   rw[<- hd];exact List.Pairwise.sublist (List.drop_sublist _ _) h
  rw[Srt.cons] at hs;by_cases hk:l[G5 l k].key=k
  ·refine⟨l.take (G5 l k),l.drop (G5 l k+1),h1,λx hx=>?_,hl.symm,.inr ⟨l[G5 l k].val,?_,?_⟩⟩
   ·have:=hs.1 x hx
    rwa [hk] at this
   ·simp only[K8,hn,decide_true,Bool.true_and,hgd,decide_eq_true_eq];exact Ja.2 hk
   have:∀ y:Ent,y.key=k->(⟨k,y.val⟩:Ent)=y:=λy hy=>by subst hy;rfl
   rw[this _ hk,<- hd,List.take_append_drop]
  refine⟨l.take (G5 l k),l.drop (G5 l k),h1,λx hx=>?_,hl.symm,.inl ⟨?_,(List.take_append_drop _ _).symm⟩⟩
  ·rw[hd] at hx;have hb:=h2 l[G5 l k] (by rw[hd];exact List.mem_cons_self);have hk2:blt k l[G5 l k].key=true:=by
    cases e:blt k l[G5 l k].key with
    | true=>rfl
    | false=>exact absurd (Du hb e) hk
   rcases List.mem_cons.1 hx with rfl|hx
   ·exact hk2
   exact PI hk2 (hs.1 x hx)
  have:¬ vS l[G5 l k].key k=0:=λe=>hk (Ja.1 e);simp only[K8,hn,decide_true,Bool.true_and,hgd,this,decide_false]
 refine⟨l,[],λx hx=>h1 x (by rw[List.take_of_length_le om];exact hx),sm,om,.inl ⟨by simp[K8,hn],sm⟩⟩
theorem set_mid {α:Type}(A B:List α)(x y:α):(A++x::B).set A.length y=A++y::B:=by
 rw[List.set_append,if_neg om,Nat.sub_self,List.set_cons_zero]
theorem Sb {α:Type}(A B:List α)(x d:α):(A++x::B).getD A.length d=x:=by
 simp[List.getD]
theorem JL {A B:List Ent}(v:Bs)(hl:G5 l k=A.length)(h:(K8 l k=false/\l=A++B)\/∃ v,K8 l k=true/\l=A++⟨k,v⟩::B):O8 l k v=A++⟨k,v⟩::B:=by
 unfold O8;rw[hl];rcases h with⟨h1,h2⟩|⟨u,h1,h2⟩
 ·rw[if_neg (by simp[h1])];subst h2;simp
 rw[if_pos h1];subst h2;rw[Sb,set_mid]
theorem OU {A B:List Ent}(hA:∀ x∈A,blt x.key k=true)(hB:∀ x∈B,blt k x.key=true):kR (A++B) k=none/\∀ v,kR (A++⟨k,v⟩::B) k=some ⟨k,v⟩:=by
 have h1:kR A k=none:=by
  simp only[kR,List.find?_eq_none,decide_eq_true_eq];exact λx hx=>Zk (hA x hx)
 have h2:kR B k=none:=by
  simp only[kR,List.find?_eq_none,decide_eq_true_eq];exact λx hx=>(Zk (hB x hx)).symm
 unfold kR at *;exact⟨by rw[List.find?_append,h1,h2];rfl,λv=>by rw[List.find?_append,h1];simp⟩
theorem a7N (h:Srt l):(kR l k).isSome=K8 l k:=by
 obtain⟨A,B,hA,hB,_,h1⟩:=wX k h;have hg:=OU hA hB;rcases h1 with⟨h1,rfl⟩|⟨v,h1,rfl⟩
 ·rw[h1,hg.1];rfl
 rw[h1,hg.2];rfl
theorem Srt.put (v:Bs)(h:Srt l):Srt (O8 l k v):=by
 obtain⟨A,B,hA,hB,hl,h1⟩:=wX k h;rw[JL v hl h1];have hab:Srt A/\Srt B:=by
  rcases h1 with⟨_,rfl⟩|⟨u,_,rfl⟩
  ·rw[Srt.append] at h;exact⟨h.1,h.2.1⟩
  rw[Srt.append,Srt.cons] at h;exact⟨h.1,h.2.1.2⟩
 rw[Srt.append,Srt.cons];refine⟨hab.1,⟨hB,hab.2⟩,λx hx y hy=>?_⟩;rcases List.mem_cons.1 hy with rfl|hy
 ·exact hA x hx
 exact PI (hA x hx) (hB y hy)
theorem a2p:Srt []:=List.Pairwise.nil
def Fits (l:List Ent):Prop:=∀ x∈l,x.key.length<=400/\x.val.length<=4000
theorem a4q {d:List Ent}(x:Ent)(h:Srt d)(hf:Fits d):Fits (jR d x):=by
 unfold jR;split
 ·rename_i h0;have hx:x.key.length<=400/\x.val.length<=4000:=by
   unfold Q0 at h0;by_cases h1:400<x.key.length\/4000<x.val.length
   ·rw[if_pos h1] at h0;simp at h0
   omega
  obtain⟨A,B,_,_,hl,h1⟩:=wX x.key h;rw[JL x.val hl h1];intro y hy;have hy':y∈A\/y=x\/y∈B:=by simpa using hy
  have hsub:y∈A\/y∈B->y∈d:=by
   rcases h1 with⟨_,rfl⟩|⟨u,_,rfl⟩ <;> intro g <;> rcases g with g|g <;> simp[g]
  rcases hy' with g|rfl|g
  ·exact hf y (hsub (.inl g))
  ·exact hx
  exact hf y (hsub (.inr g))
 exact hf
theorem a4p {d:List Ent}{x:Ent}(h:Srt (d++[x]))(hx:x.key.length<=400/\x.val.length<=4000)(hl:d.length<2000):jR d x=d++[x]:=by
 have h':=h;rw[Srt.append] at h';obtain⟨h1,_,h3⟩:=h';obtain⟨A,B,hA,hB,hl',h4⟩:=wX x.key h1;have hlt:∀ y∈d,blt y.key x.key=true:=λy hy=>h3 y hy x sm;have hB0:B=[]:=by
  cases B with
  | nil=>rfl
  | cons y B=>
   have hy:y∈d:=by rcases h4 with⟨_,h4⟩|⟨u,_,h4⟩ <;> rw[h4] <;> simp
   have:=Zl (hB y sm);rw[hlt y hy] at this;cases this
 subst hB0;have hA0:K8 d x.key=false/\d=A++[]:=by
  rcases h4 with h4|⟨u,_,h4⟩
  ·exact h4
  have:=hlt ⟨x.key,u⟩ (by rw[h4];simp);rw[PK] at this;cases this
 unfold jR;rw[JL x.val hl' h4];have he:Q0 d x.key x.val=0:=by
  unfold Q0;rw[if_neg om,hA0.1];simp;omega
 rw[if_pos he];have:=hA0.2;simp at this;rw[<- this]
theorem Sm:∀ (l d:List Ent),Srt (d++l)->Fits l->(d++l).length<=2000->l.foldl jR d=d++l
 | [],d,_,_,_=>by simp
 | x::l,d,h,hf,hl=>by
  have e:d++x::l=d++[x]++l:=sm
  rw[List.foldl_cons,a4p (x:=x) (by rw[e,Srt.append] at h;exact h.1) (hf x sm) (by simp at hl;omega),e];exact Sm l _ (by rw[<- e];exact h) (λy hy=>hf y (by simp[hy])) (by rw[<- e];exact hl)
theorem a9N (h:Srt l)(hf:Fits l)(hl:l.length<=2000):rU l=l:=by
 have:=Sm l [] (by simpa using h) hf (by simpa using hl);simpa[rU] using this
theorem Sl:∀ (l d:List Ent),d.length<=2000->(l.foldl jR d).length<=2000
 | [],_,h=>h
 | _::l,_,h=>Sl l _ (Mj h)
end

section
variable {k v:Bs}{d:List Ent}
structure DOk (d:List Ent):Prop where
 s:Srt d
 f:Fits d
 l:d.length<=2000
def gO (d:List Ent)(k:Bs):Option Bs:=(kR d k).map (·.val)
def P7 (d:List Ent)(k:Bs):Bs:=(gO d k).getD []
def iM (d:List Ent)(k:Bs):List Ent:=if K8 d k=true then d.take (G5 d k)++d.drop (G5 d k+1) else d
theorem xY (h:Srt d):K8 d k=(gO d k).isSome:=by rw[gO,Option.isSome_map,a7N h]
theorem a1t (h:Srt d):(if K8 d k=true then (d.getD (G5 d k) ⟨[],[]⟩).val else [])=P7 d k:=by
 obtain⟨A,B,hA,hB,hl,h1⟩:=wX k h;have hg:=OU hA hB;rcases h1 with⟨h1,rfl⟩|⟨v,h1,rfl⟩
 ·rw[h1,if_neg sm,P7,gO,hg.1];rfl
 rw[h1,if_pos rfl,hl,Sb,P7,gO,hg.2];rfl
theorem Be {A B:List Ent}{q:Bs}(hq:q≠k):gO (A++⟨k,v⟩::B) q=gO (A++B) q:=by
 unfold gO kR;rw[List.find?_append,List.find?_append,List.find?_cons];have:decide ((⟨k,v⟩:Ent).key=q)=false:=dZ λe=>hq e.symm;rw[this]
theorem uX {q:Bs}(h:Srt d):gO (O8 d k v) q=if q=k then some v else gO d q:=by
 obtain⟨A,B,hA,hB,hl,h1⟩:=wX k h;have hg:=OU hA hB;rw[JL v hl h1];by_cases hq:q=k
 ·rw[if_pos hq,hq,gO,hg.2];rfl
 rw[if_neg hq,Be hq];rcases h1 with⟨_,rfl⟩|⟨u,_,rfl⟩
 ·rfl
 rw[Be hq]
theorem Uv {A B:List Ent}(hl:G5 d k=A.length)(h1:(K8 d k=false/\d=A++B)\/∃ v,K8 d k=true/\d=A++⟨k,v⟩::B):iM d k=A++B:=by
 unfold iM;rcases h1 with⟨h1,h2⟩|⟨v,h1,h2⟩
 ·rw[h1,if_neg sm,h2]
 rw[if_pos h1,hl];subst h2;rw[List.take_append_of_le_length (Nat.le_refl _),List.take_length,List.drop_append,List.drop_of_length_le om,show A.length+1-A.length=1 by omega];rfl
theorem OV {q:Bs}(h:Srt d):gO (iM d k) q=if q=k then none else gO d q:=by
 obtain⟨A,B,hA,hB,hl,h1⟩:=wX k h;have hg:=OU hA hB;rw[Uv hl h1];by_cases hq:q=k
 ·rw[if_pos hq,hq,gO,hg.1];rfl
 rw[if_neg hq];rcases h1 with⟨_,rfl⟩|⟨u,_,rfl⟩
 ·rfl
 rw[Be hq]
theorem WA {q:Bs}(h:Srt d):P7 (O8 d k v) q=if q=k then v else P7 d q:=by
 unfold P7;rw[uX h];split <;> rfl
theorem Gi {q:Bs}(h:Srt d):P7 (iM d k) q=if q=k then [] else P7 d q:=by
 unfold P7;rw[OV h];split <;> rfl
theorem UI (d:List Ent)(k:Bs):(iM d k).Sublist d:=by
 unfold iM;split
 ·conv=>rhs;rw[<- List.take_append_drop (G5 d k) d]
  refine List.Sublist.append slr ?_;rw[<- List.drop_drop];exact List.drop_sublist _ _
 exact List.Sublist.refl _
theorem DOk.drp (h:DOk d)(k:Bs):DOk (iM d k):=
 ⟨List.Pairwise.sublist (UI d k) h.s,λx hx=>h.f x ((UI d k).mem hx),Nat.le_trans (UI d k).length_le h.l⟩
theorem DOk.put (h:DOk d)(he:Q0 d k v=0):DOk (O8 d k v):=by
 have e:O8 d k v=jR d ⟨k,v⟩:=by rw[jR,if_pos he]
 refine⟨h.s.put v,?_,?_⟩
 ·rw[e];exact a4q _ h.s h.f
 have:=Sl [⟨k,v⟩] d h.l;rw[e];exact this
theorem DOk.nil:DOk []:=⟨a2p,λx hx=>(by cases hx),Nat.zero_le _⟩
theorem DOk.id (h:DOk d):rU d=d:=a9N h.s h.f h.l
theorem Mo :Q0 d k v=0↔k.length<=400/\v.length<=4000/\(K8 d k=true\/d.length<2000):=by
 unfold Q0
 constructor
 ·intro h;split at h
  ·cases h
  rename_i h1;split at h
  ·rename_i h2;exact⟨om,om,.inl h2⟩
  split at h
  ·cases h
  exact⟨om,om,.inr om⟩
 rintro⟨h1,h2,h3⟩;rw[if_neg om];rcases h3 with h3|h3
 ·rw[if_pos h3]
 by_cases hb:K8 d k=true
 ·rw[if_pos hb]
 rw[if_neg hb,if_neg om]
theorem RZ (h:Srt d):(O8 d k v).length=d.length+(if K8 d k=true then 0 else 1):=by
 obtain⟨A,B,hA,hB,hl,h1⟩:=wX k h;rw[JL v hl h1];rcases h1 with⟨h1,rfl⟩|⟨u,h1,rfl⟩
 ·rw[h1];simp;omega
 rw[h1];simp
def bJ (d:List Ent)(k v:Bs):List Ent × Int:=if Q0 d k v=0 then (O8 d k v,0) else ([],Q0 d k v)
theorem Ml (d:List Ent)(k v:Bs):(bJ d k v).2=Q0 d k v:=by
 unfold bJ;split
 ·rename_i h;rw[h]
 rfl
end
end Go.Proofs.Z
