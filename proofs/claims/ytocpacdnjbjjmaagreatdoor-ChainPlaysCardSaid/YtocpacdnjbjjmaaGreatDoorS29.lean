/- . -/
import Derived.Lib.Bytealg
import Derived.Test.YtocpacdnjbjjmaaGreatDoorS28
set_option maxHeartbeats 64000000
namespace Go.Proofs.YtocpacdnjbjjmaaGreatDoor
open Go Go.RowKit Tw Av Go.Proofs.Tryz
def vG:Nat->List Hsh->Hsh
 | 0,_=>J7
 | f+1,l=>match l with
  | []=>J7
  | [x]=>x
  | _=>pK (vG f (l.take ((l.length+1) / 2))) (vG f (l.drop ((l.length+1) / 2)))
def oN (l:List Hsh):Hsh:=vG l.length l
theorem JQ:∀ (f f':Nat) (l:List Hsh),l.length<=f->l.length<=f'->vG f l=vG f' l
 | 0,0,_,_,_=>rfl
 | 0,f'+1,l,h,_=>by
  have:l=[]:=List.eq_nil_of_length_eq_zero om;subst this;rfl
 | f+1,0,l,_,h=>by
  have:l=[]:=List.eq_nil_of_length_eq_zero om;subst this;rfl
 | f+1,f'+1,[],_,_=>rfl
 | f+1,f'+1,[x],_,_=>rfl
 | f+1,f'+1,x::y::l,h,h'=>by
  simp only[List.length_cons] at h h';unfold vG;simp only;rw[JQ f f' _ (by simp[List.length_take];omega) (by simp[List.length_take];omega),JQ f f' (List.drop _ _) (by simp;omega) (by simp;omega)]
theorem YQ (l:List Hsh)(h:2<=l.length):oN l=pK (oN (l.take ((l.length+1) / 2))) (oN (l.drop ((l.length+1) / 2))):=by
 match l,h with
 | x::y::l,_=>
  show pK (vG (y::l).length _) (vG (y::l).length _)=_;rw[JQ (y::l).length _ (List.take _ _) (by simp[List.length_take];omega) (Nat.le_refl _),JQ (y::l).length _ (List.drop _ _) (by simp;omega) (Nat.le_refl _)];rfl
theorem Xd (n:Nat):n<=1000000->∀ {l:List Hsh} {xs:List AV} {id:Option Value} [Hshs xs l],Ans prog GL 187 [.sl 32 xs id] (l.length<=n) (hA (oN l)):=by
 induction n with
 | zero=>
  intro _ l xs id hx;refine⟨fun hl=>?_⟩;have h:=hx.out;subst h;obtain rfl:l=[]:=List.eq_nil_of_length_eq_zero om;refine qE func187 rfl ntmps187 rfl (fun _ hs=>?_);repeat' first|refine Wz ?_|intro _
  refine d9 ?_;rfl
 | succ n ih=>
  intro hn l xs id hx;have ih:=@ih om;refine⟨fun hl=>?_⟩;have h:=hx.out;subst h;have hm:(l.map hA).length=l.length:=llm _;refine qE func187 rfl ntmps187 rfl (fun _ hs=>?_);repeat' first|refine Wz ?_|intro _
  refine o9 (fun h0=>?_) (fun h0=>?_)
  ·obtain rfl:l=[]:=List.eq_nil_of_length_eq_zero om;repeat' first|refine Wz ?_|intro _
   refine d9 ?_;rfl
  ·repeat' first|refine Wz ?_|intro _
   refine o9 (fun h1=>?_) (fun h1=>?_)
   ·obtain⟨x,rfl⟩:∃ x,l=[x]:=List.length_eq_one_iff.1 om;repeat' first|refine Wz ?_|intro _
    refine Z0 0 (show 0<[x].length by simp) ?_;repeat' first|refine Wz ?_|intro _
    refine d9 ?_;rfl
   ·repeat' first|refine Wz ?_|intro _
    have hk0:(((l.map hA).length:Int)+1) / 2=(((l.length+1) / 2:Nat):Int):=om
    rw[hk0];have hst:=YQ l om;generalize hk:(l.length+1) / 2=k at *;apply u7 [];exact rfl;exact rfl;kernel_rfl;intro _ _;refine wN 0 k ?_;exact j4 (o7 rfl rfl);repeat' first|refine Wz ?_|intro _
    apply u7 [];exact rfl;exact rfl;kernel_rfl;intro _ _;refine wN k l.length ?_;exact j4 (o7 rfl rfl);repeat' first|refine Wz ?_|intro _
    refine d9 ?_;rw[hst,List.drop_zero,List.take_length];rfl
instance b4E {l:List Hsh}{xs:List AV}{id:Option Value}[Hshs xs l]:Ans prog GL 187 [.sl 32 xs id] (l.length<=1000000) (hA (oN l)):=Xd 1000000 (Nat.le_refl _)
theorem a2w {g:Nat}{x:Ent}{v:Value}{done:List Hsh}(hl:done.length<=1000000):Av.Spec prog GL 259 [C8 x,ptr g] [.var g 99 (.sl 32 (done.map hA) (some v)),.tail 48 32 v] fun u m=>∃ v',u=.tup []/\m=[.var g 99 (.sl 32 ((done++[aI x]).map hA) (some v')),.tail 48 32 v']:=by
 refine qE func259 rfl ntmps259 rfl (fun _ hs=>?_);repeat' first|refine Wz ?_|intro _
 apply V8 [2];exact rfl;exact rfl;exact rfl;kernel_rfl;intro _ _;refine I4 (fun v'=>?_);refine j4 (U4 [.tail 48 32 v'] [] rfl rfl lpr rfl ?_);repeat' first|refine Wz ?_|intro _
 refine fU [.var g 99 (.sl 32 ((done++[aI x]).map hA) (some v')),.tail 48 32 v'] ⟨v',rfl,rfl⟩ ?_;rw[show (done++[aI x]).map hA=done.map hA++[hA (aI ⟨x.key,x.val⟩)] by simp];exact List.Sublist.cons _ slr
theorem ImpC.nilS {k:Nat}:ImpC P9 (.sl k [] (some (.slice none 0 0))):=fun ok w cs h=>by
 rw[RC] at h;rw[RC];exact⟨none,0,h.1,sm,Nat.le_refl _,by simp[maxLen],sm,sm⟩
instance b7n {d:List Ent}{xs:List AV}{id:Option Value}[hx:Ents xs d]:Ans prog GL 188 [.agg 1 [.sl 2 xs id]] (d.length<=1000000) (.sl 32 ((d.map aI).map hA) none):=⟨fun hl=>by
 have h:=hx.out;subst h;refine qE func188 rfl ntmps188 rfl (fun _ hs=>?_);repeat' first|refine Wz ?_|intro _
 rename_i g1 g3;refine eY (vs:=[.pointer (some ⟨g3,0,none⟩)]) ?_;repeat' first|refine Wz ?_|intro _
 refine gM (g:=g3) (v':=.sl 32 [] (some (.slice none 0 0))) ImpC.nilS ?_;refine O5 (fun ok w h=>h.full 48 32 none 0) ?_;refine z8 (α:=Nat × Value) (fun q=>[(3,ptr g3),(4,D6 259 [.pointer (some ⟨g3,0,none⟩)]),(9,.sl 2 (d.map C8) none),(10,int (d.map C8).length),(11,int q.1)])
  (fun q=>[.tail 48 32 q.2,.var g3 99 (.sl 32 (((d.take q.1).map aI).map hA) (some q.2))])
  (fun q=>q.1<=d.length) (fun q=>d.length-q.1) (0,.slice none 0 0) ⟨rfl,rfl,rfl,rfl,rfl,trivial⟩ ?_ (Nat.zero_le _) ?_
 ·exact r9
 rintro⟨i,v⟩ g1;dsimp only at g1 ⊢;repeat' first|refine Wz ?_|intro _
 refine o9 (fun hlt=>?_) (fun hlt=>?_)
 ·have hlt':i<d.length:=by simpa using hlt
  repeat' first|refine Wz ?_|intro _
  refine Z0 i hlt' ?_;repeat' first|refine Wz ?_|intro _
  refine kP (args:=[C8 d[i]]) (cs:=[.pointer (some ⟨g3,0,none⟩)]) [.var g3 99 (.sl 32 (((d.take i).map aI).map hA) (some v)),.tail 48 32 v] _ (by rw[hs];exact a2w (x:=d[i]) (v:=v) (g:=g3) (done:=(d.take i).map aI) (by simp;omega)) (fun u m1 hh=>?_) ((List.reverse_perm _).symm);obtain⟨v',rfl,rfl⟩:=hh;refine nJ (fun ok w h=>h.perm (List.Perm.swap _ _ _)) ?_;repeat' first|refine Wz ?_|intro _
  rw[show (d.take i).map aI++[aI d[i]]=(d.take (i+1)).map aI by rw[List.take_succ_eq_append_getElem hlt',List.map_append];rfl];refine o6 (i+1,v') ⟨rfl,rfl,rfl,rfl,rfl,trivial⟩ ?_ hlt' (by simp only;omega);exact r9
 ·repeat' first|refine Wz ?_|intro _
  refine M6 2 Imp.sl ?_;refine d9 ?_;rw[List.take_of_length_le (by simpa using hlt)];rfl⟩
instance b4X {d:List Ent}{xs:List AV}{id:Option Value}[hx:Ents xs d]:Ans prog GL 136 [.agg 1 [.sl 2 xs id]] (d.length<=1000000) (hA (rW d.length (oN (d.map aI)))):=⟨fun hl=>by
 have h:=hx.out;subst h;have hm:(d.map aI).length=d.length:=llm _;refine qE func136 rfl ntmps136 rfl (fun _ hs=>?_);repeat' first|refine Wz ?_|intro _
 refine d9 ?_;rfl⟩

def dD (l:List Ent)(k:Bs):Option Ent:=l.find? fun x=>decide (x.key=k)
theorem a3J {l:List Ent}{k:Bs}{i:Nat}(h:i<l.length):dD (l.drop i) k=if l[i].key=k then some l[i] else dD (l.drop (i+1)) k:=by
 rw[List.drop_eq_getElem_cons h];unfold dD;rw[List.find?_cons];by_cases h:l[i].key=k <;> simp[h]
instance a4p {l:List Ent}{k:Bs}{xs:List AV}{id:Option Value}[hx:Ents xs l]:Ans prog GL 147 [.sl 2 xs id,str k] (l.length<=1073741823) (.tup [str (((dD l k).map (·.val)).getD []),j3 (dD l k).isSome]):=⟨fun hl=>by
 have h:=hx.out;subst h;refine qE func147 rfl ntmps147 rfl (fun _ hs=>?_);repeat' first|refine Wz ?_|intro _
 refine z8 (α:=Nat) (fun i=>[(0,.sl 2 (l.map C8) id),(1,str k),(6,int i)]) (fun _=>[]) (fun i=>i<=l.length/\dD (l.drop i) k=dD l k) (fun i=>l.length-i) 0 ⟨rfl,rfl,rfl,trivial⟩ slr ⟨Nat.zero_le _,rfl⟩ ?_;rintro i ⟨g1,g2⟩;repeat' first|refine Wz ?_|intro _
 refine o9 (fun hlt=>?_) (fun hlt=>?_)
 ·have hlt':i<l.length:=by simpa using hlt
  rw[a3J hlt'] at g2;repeat' first|refine Wz ?_|intro _
  refine Z0 i hlt' ?_;repeat' first|refine Wz ?_|intro _
  refine o9 (fun he=>?_) (fun he=>?_)
  ·rw[if_pos he] at g2;repeat' first|refine Wz ?_|intro _
   refine Z0 i hlt' ?_;repeat' first|refine Wz ?_|intro _
   refine d9 ?_;simp[I8,<- g2]
  ·rw[if_neg he] at g2;repeat' first|refine Wz ?_|intro _
   exact o6 (i+1) ⟨rfl,rfl,rfl,trivial⟩ slr ⟨hlt',g2⟩ om
 ·repeat' first|refine Wz ?_|intro _
  refine d9 ?_;rw[List.drop_of_length_le (by simpa using hlt)] at g2;rw[<- g2];rfl⟩

def X5 (k v:Bs)(acc:List Ent × Bool)(x:Ent):List Ent × Bool:=
 let a:=if acc.2=false/\blt x.key k=false then (acc.1++[(⟨k,v⟩:Ent)],true) else acc
 if x.key=k then a else (a.1++[x],a.2)
def qZ (l:List Ent)(k v:Bs):List Ent:=
 let a:=l.foldl (X5 k v) ([],false)
 if a.2=true then a.1 else a.1++[(⟨k,v⟩:Ent)]
def jB (l:List Ent)(k v:Bs):Int:=if 400<k.length\/4000<v.length then 11 else if (dD l k).isSome=false/\2000<=l.length then 15 else 0
def uE (l:List Ent)(k v:Bs):AV:=if jB l k v=0 then .sl 2 ((qZ l k v).map C8) none else P9
instance a4m {l:List Ent}{k v:Bs}{xs:List AV}{id:Option Value}[hx:Ents xs l]:Ans prog GL 82 [.sl 2 xs id,str k,str v] (l.length<=1073741823) (.tup [uE l k v,int (jB l k v)]):=⟨fun hl=>by
 have h:=hx.out;subst h;refine qE func82 rfl ntmps82 rfl (fun _ hs=>?_);repeat' first|refine Wz ?_|intro _
 refine Y5 (fun h1=>?_) (fun h1=>?_)
 ·repeat' first|refine Wz ?_|intro _
  refine d9 ?_;have hh:400<k.length:=by omega
  have:jB l k v=11:=by simp[jB,hh]
  simp[I8,uE,this]
 ·repeat' first|refine Wz ?_|intro _
  refine o9 (fun h2=>?_) (fun h2=>?_)
  ·repeat' first|refine Wz ?_|intro _
   refine d9 ?_;have hh:4000<v.length:=by omega
   have:jB l k v=11:=by simp[jB,hh]
   simp[I8,uE,this]
  ·repeat' first|refine Wz ?_|intro _
   have hne:¬ (400<k.length\/4000<v.length):=om
   have hmain:∀ hok:jB l k v=0,uE l k v=.sl 2 ((qZ l k v).map C8) none:=fun hok=>by simp[uE,hok]
   refine GK (fun hg=>?_) (fun hg=>?_)
   focus
    repeat' first|refine Wz ?_|intro _
    refine o9 (fun h4=>?_) (fun h4=>?_)
    focus
     repeat' first|refine Wz ?_|intro _
     refine d9 ?_;have e1:jB l k v=15:=by
      have h5:2000<=l.length:=by simp at h4;omega
      have h6:(dD l k).isSome=false:=by simpa using hg
      simp only[jB,if_neg hne,h6,h5,and_self,if_true]
     simp[I8,uE,e1]
    have hok:jB l k v=0:=by
     have h5:¬ 2000<=l.length:=by simp at h4;omega
     simp only[jB,if_neg hne,h5,and_false,if_false]
   rotate_left
   focus
    have hok:jB l k v=0:=by
     have h6:(dD l k).isSome=true:=by simpa using hg
     simp[jB,hne,h6]
   all_goals
    rw[hmain hok,hok];repeat' first|refine Wz ?_|intro _
   all_goals
    refine aM 10 (Imp.nil (k:=2)) ?_;refine O5 (fun ok w h=>h.full 120 2 none 0) ?_;refine z8 (α:=Nat × Value × (List Ent × Bool)) (fun q=>[(0,.sl 2 (l.map C8) id),(1,str k),(2,str v),(10,.sl 2 (q.2.2.1.map C8) (some q.2.1)),(11,j3 q.2.2.2),(12,int q.1)]) (fun q=>[.tail 120 2 q.2.1])
     (fun q=>q.1<=l.length/\q.2.2.1.length<=2*q.1/\(l.drop q.1).foldl (X5 k v) q.2.2=l.foldl (X5 k v) ([],false)) (fun q=>l.length-q.1) (0,.slice none 0 0,[],false) ⟨rfl,rfl,rfl,rfl,rfl,rfl,trivial⟩ slr ⟨Nat.zero_le _,sm,rfl⟩ ?_
    rintro⟨i,u,done,b⟩ ⟨g1,g2,g3⟩;dsimp only at g1 g2 g3 ⊢;repeat' first|refine Wz ?_|intro _
    refine o9 (fun hlt=>?_) (fun hlt=>?_)
    focus
     have hlt':i<l.length:=by simpa using hlt
     rw[List.drop_eq_getElem_cons hlt',List.foldl_cons] at g3;cases b
     focus
      repeat' first|refine Wz ?_|intro _
      refine Z0 i hlt' ?_;repeat' first|refine Wz ?_|intro _
      refine qG (fun hb=>?_) (fun hb=>?_)
      focus
       repeat' first|refine Wz ?_|intro _
       refine I4 (fun u'=>?_);repeat' first|refine Wz ?_|intro _
       refine Z0 i hlt' ?_;repeat' first|refine Wz ?_|intro _
       have hb':blt l[i].key k=false:=by simpa using hb
       refine o9 (fun hk=>?_) (fun hk=>?_)
       focus
        repeat' first|refine Wz ?_|intro _
        refine Z0 i hlt' ?_;repeat' first|refine Wz ?_|intro _
        refine I4 (fun u''=>?_);repeat' first|refine Wz ?_|intro _
        have e:X5 k v (done,false) l[i]=(done++[(⟨k,v⟩:Ent)]++[l[i]],true):=by simp[X5,hb',hk]
        rw[e] at g3;refine M6 10 (v':=.sl 2 ((done++[(⟨k,v⟩:Ent)]++[l[i]]).map C8) (some u'')) (Imp.of_eq ?_) ?_
        focus simp
        exact o6 (i+1,u'',done++[(⟨k,v⟩:Ent)]++[l[i]],true) ⟨rfl,rfl,rfl,rfl,rfl,rfl,trivial⟩ slr ⟨hlt',by simp;omega,g3⟩ (by simp only;omega)
       have hk':l[i].key=k:=by simpa using hk
       repeat' first|refine Wz ?_|intro _
       have e:X5 k v (done,false) l[i]=(done++[(⟨k,v⟩:Ent)],true):=by simp[X5,hb',if_pos hk']
       rw[e] at g3;refine M6 10 (v':=.sl 2 ((done++[(⟨k,v⟩:Ent)]).map C8) (some u')) (Imp.of_eq ?_) ?_
       focus simp
       exact o6 (i+1,u',done++[(⟨k,v⟩:Ent)],true) ⟨rfl,rfl,rfl,rfl,rfl,rfl,trivial⟩ slr ⟨hlt',by simp;omega,g3⟩ (by simp only;omega)
      repeat' first|refine Wz ?_|intro _
      refine Z0 i hlt' ?_;repeat' first|refine Wz ?_|intro _
      have hb':blt l[i].key k=true:=by simpa using hb
      refine o9 (fun hk=>?_) (fun hk=>?_)
      focus
       repeat' first|refine Wz ?_|intro _
       refine Z0 i hlt' ?_;repeat' first|refine Wz ?_|intro _
       refine I4 (fun u''=>?_);repeat' first|refine Wz ?_|intro _
       have e:X5 k v (done,false) l[i]=(done++[l[i]],false):=by simp[X5,hb',hk]
       rw[e] at g3;refine M6 10 (v':=.sl 2 ((done++[l[i]]).map C8) (some u'')) (Imp.of_eq ?_) ?_
       focus simp
       exact o6 (i+1,u'',done++[l[i]],false) ⟨rfl,rfl,rfl,rfl,rfl,rfl,trivial⟩ slr ⟨hlt',by simp;omega,g3⟩ (by simp only;omega)
      have hk':l[i].key=k:=by simpa using hk
      repeat' first|refine Wz ?_|intro _
      have e:X5 k v (done,false) l[i]=(done,false):=by simp[X5,hb',if_pos hk']
      rw[e] at g3;exact o6 (i+1,u,done,false) ⟨rfl,rfl,rfl,rfl,rfl,rfl,trivial⟩ slr ⟨hlt',by simp;omega,g3⟩ (by simp only;omega)
     repeat' first|refine Wz ?_|intro _
     refine Z0 i hlt' ?_;repeat' first|refine Wz ?_|intro _
     refine o9 (fun hk=>?_) (fun hk=>?_)
     focus
      repeat' first|refine Wz ?_|intro _
      refine Z0 i hlt' ?_;repeat' first|refine Wz ?_|intro _
      refine I4 (fun u''=>?_);repeat' first|refine Wz ?_|intro _
      have e:X5 k v (done,true) l[i]=(done++[l[i]],true):=by simp[X5,hk]
      rw[e] at g3;refine M6 10 (v':=.sl 2 ((done++[l[i]]).map C8) (some u'')) (Imp.of_eq ?_) ?_
      focus simp
      exact o6 (i+1,u'',done++[l[i]],true) ⟨rfl,rfl,rfl,rfl,rfl,rfl,trivial⟩ slr ⟨hlt',by simp;omega,g3⟩ (by simp only;omega)
     have hk':l[i].key=k:=by simpa using hk
     repeat' first|refine Wz ?_|intro _
     have e:X5 k v (done,true) l[i]=(done,true):=by simp[X5,hk']
     rw[e] at g3;exact o6 (i+1,u,done,true) ⟨rfl,rfl,rfl,rfl,rfl,rfl,trivial⟩ slr ⟨hlt',by simp;omega,g3⟩ (by simp only;omega)
    rw[List.drop_of_length_le (by simpa using hlt),List.foldl_nil] at g3;cases b
    focus
     repeat' first|refine Wz ?_|intro _
     refine I4 (fun u''=>?_);repeat' first|refine Wz ?_|intro _
     refine M6 6 Imp.sl ?_;refine d9 ?_;have e:qZ l k v=done++[(⟨k,v⟩:Ent)]:=by simp[qZ,<- g3]
     rw[e];simp[I8]
    repeat' first|refine Wz ?_|intro _
    refine M6 6 Imp.sl ?_;refine d9 ?_;have e:qZ l k v=done:=by simp[qZ,<- g3]
    rw[e];rfl⟩

def mW (d:List Ent)(x:Ent):List Ent:=if jB d x.key x.val=0 then qZ d x.key x.val else d
def RN (l:List Ent):List Ent:=l.foldl mW []
def xP (a:List Ent × Bool):Nat:=a.1.length+(if a.2=true then 0 else 1)
theorem Ye (k v:Bs)(a:List Ent × Bool)(x:Ent):xP (X5 k v a x)<=xP a+1:=by
 obtain⟨d,b⟩:=a;unfold X5 xP;cases b <;> by_cases h1:blt x.key k=false <;> by_cases h2:x.key=k <;> simp[h1,h2] <;> (try split) <;> simp <;> omega
theorem Iz (k v:Bs):∀ (l:List Ent) (a:List Ent × Bool),xP (l.foldl (X5 k v) a)<=xP a+l.length
 | [],a=>by simp
 | x::l,a=>by
  rw[List.foldl_cons];have h1:=Iz k v l (X5 k v a x);have h2:=Ye k v a x;simp only[List.length_cons];omega
theorem a1m (l:List Ent)(k v:Bs):(qZ l k v).length<=l.length+1:=by
 have h:=Iz k v l ([],false);have h2:xP ([],false)=1:=rfl;unfold qZ;unfold xP at h h2;dsimp only;split
 ·rename_i h3;rw[if_pos h3] at h;simp at h h2;omega
 ·rename_i h3;rw[if_neg h3] at h;simp at h h2 ⊢;omega
theorem a0N (d:List Ent)(x:Ent):(mW d x).length<=d.length+1:=by
 unfold mW;split
 ·exact a1m _ _ _
 ·omega
instance b5v {l:List Ent}{xs:List AV}{id:Option Value}[hx:Ents xs l]:Ans prog GL 37 [.sl 2 xs id] (l.length<=1000000) (.sl 2 ((RN l).map C8) none):=⟨fun hl=>by
 have h:=hx.out;subst h;refine qE func37 rfl ntmps37 rfl (fun _ hs=>?_);repeat' first|refine Wz ?_|intro _
 refine aM 3 (Imp.nilN (k:=2)) ?_;refine z8 (α:=Nat × List Ent) (fun q=>[(0,.sl 2 (l.map C8) id),(3,.sl 2 (q.2.map C8) none),(4,int q.1)]) (fun _=>[]) (fun q=>q.1<=l.length/\q.2.length<=q.1/\(l.drop q.1).foldl mW q.2=RN l) (fun q=>l.length-q.1) (0,[]) ⟨rfl,rfl,rfl,trivial⟩ slr ⟨Nat.zero_le _,sm,rfl⟩ ?_;rintro⟨i,d⟩ ⟨g1,g2,g3⟩;dsimp only at g1 g2 g3 ⊢;repeat' first|refine Wz ?_|intro _
 refine o9 (fun hlt=>?_) (fun hlt=>?_)
 ·have hlt':i<l.length:=by simpa using hlt
  rw[List.drop_eq_getElem_cons hlt',List.foldl_cons] at g3;have hpl:=a0N d l[i];repeat' first|refine Wz ?_|intro _
  apply u7 [];exact rfl;exact rfl;kernel_rfl;intro _ _;refine Z0 i hlt' ?_;exact j4 (o7 rfl rfl);repeat' first|refine Wz ?_|intro _
  apply u7 [];exact rfl;exact rfl;kernel_rfl;intro _ _;refine Z0 i hlt' ?_;exact j4 (o7 rfl rfl);repeat' first|refine Wz ?_|intro _
  refine o9 (fun h0=>?_) (fun h0=>?_)
  ·have e1:uE d l[i].key l[i].val=.sl 2 ((mW d l[i]).map C8) none:=by simp[uE,mW,h0]
   rw[e1];repeat' first|refine Wz ?_|intro _
   exact o6 (i+1,mW d l[i]) ⟨rfl,rfl,rfl,trivial⟩ slr ⟨hlt',by simp only;omega,g3⟩ (by simp only;omega)
  ·have e1:mW d l[i]=d:=by simp[mW,h0]
   rw[e1] at g3;repeat' first|refine Wz ?_|intro _
   exact o6 (i+1,d) ⟨rfl,rfl,rfl,trivial⟩ slr ⟨hlt',by simp only;omega,g3⟩ (by simp only;omega)
 ·repeat' first|refine Wz ?_|intro _
  refine d9 ?_;rw[List.drop_of_length_le (by simpa using hlt)] at g3;rw[<- g3];rfl⟩
end Go.Proofs.YtocpacdnjbjjmaaGreatDoor

namespace Go.Proofs.YtocpacdnjbjjmaaGreatDoor
open Go Go.RowKit Tw Av
theorem CO:∀ a:Bs,blt a a=false
 | []=>rfl
 | a::x=>by simp[blt,Op.bytesLess] at *;exact CO x
theorem IL:∀ {a b c:Bs},blt a b=true->blt b c=true->blt a c=true
 | _,[],_,h,_=>by cases ‹List UInt8› <;> simp[blt,Op.bytesLess] at h
 | _,_::_,[],_,h=>by simp[blt,Op.bytesLess] at h
 | [],_::_,_::_,_,_=>by simp[blt,Op.bytesLess]
 | a::x,b::y,c::z,h,k=>by
  simp only[blt,Op.bytesLess,Bool.or_eq_true,Bool.and_eq_true,beq_iff_eq,decide_eq_true_eq] at h k ⊢;rcases h with h|⟨rfl,h⟩
  ·rcases k with k|⟨rfl,k⟩
   ·exact .inl (UInt8.lt_trans h k)
   ·exact .inl h
  ·rcases k with k|⟨rfl,k⟩
   ·exact .inl k
   ·exact .inr ⟨rfl,IL h k⟩
theorem Og:∀ {a b:Bs},blt a b=false->blt b a=false->a=b
 | [],[],_,_=>rfl
 | [],_::_,h,_=>by simp[blt,Op.bytesLess] at h
 | _::_,[],_,h=>by simp[blt,Op.bytesLess] at h
 | a::x,b::y,h,k=>by
  simp only[blt,Op.bytesLess,Bool.or_eq_false_iff,decide_eq_false_iff_not,UInt8.not_lt,Bool.and_eq_false_iff] at h k;obtain rfl:a=b:=UInt8.le_antisymm k.1 h.1;have h2:=h.2;have k2:=k.2;simp at h2 k2;rw[Og h2 k2]
theorem a6L {a b:Bs}(h:blt a b=true):blt b a=false:=by
 cases hb:blt b a with
 | false=>rfl
 | true=>rw[<- CO a];exact(IL h hb).symm
theorem IM {a b:Bs}(h:blt a b=true):a≠b:=fun e=>by rw[e,CO] at h;cases h
theorem Nl:∀ {a b:Bs},Lib.compareBytes a b<0↔blt a b=true
 | [],[]=>by simp[Lib.compareBytes,blt,Op.bytesLess]
 | [],_::_=>by simp[Lib.compareBytes,blt,Op.bytesLess]
 | _::_,[]=>by simp[Lib.compareBytes,blt,Op.bytesLess]
 | a::x,b::y=>by
  unfold Lib.compareBytes blt Op.bytesLess;by_cases h:a<b
  ·simp[h]
  ·by_cases k:b<a
   ·have hne:a≠b:=fun e=>by subst e;exact UInt8.lt_irrefl _ k
    simp[h,k,hne]
   ·obtain rfl:a=b:=UInt8.le_antisymm (UInt8.not_lt.1 k) (UInt8.not_lt.1 h);simp only[h,if_false,Nl,blt];simp
theorem Nn:∀ {a b:Bs},Lib.compareBytes a b=0↔a=b
 | [],[]=>by simp[Lib.compareBytes]
 | [],_::_=>by simp[Lib.compareBytes]
 | _::_,[]=>by simp[Lib.compareBytes]
 | a::x,b::y=>by
  unfold Lib.compareBytes;by_cases h:a<b
  ·have hne:a≠b:=fun e=>by subst e;exact UInt8.lt_irrefl _ h
   simp[h,hne]
  ·by_cases k:b<a
   ·have hne:a≠b:=fun e=>by subst e;exact UInt8.lt_irrefl _ k
    simp[h,k,hne]
   ·obtain rfl:a=b:=UInt8.le_antisymm (UInt8.not_lt.1 k) (UInt8.not_lt.1 h);simp only[h,if_false,Nn];simp
theorem Af (a b:Bs):oV a b=Lib.compareBytes a b:=Lib.cmp_eq _ _
theorem Ad {a b:Bs}:oV a b<0↔blt a b=true:=by rw[Af];exact Nl
theorem Ae {a b:Bs}:oV a b=0↔a=b:=by rw[Af];exact Nn
def Srt (l:List Ent):Prop:=l.Pairwise fun x y=>blt x.key y.key=true
theorem Srt.lo {l:List Ent}{k:Bs}(h:Srt l){i j:Nat}(hij:i<=j)(hj:j<l.length)(hk:blt l[j].key k=true):blt (l[i]'(by omega)).key k=true:=by
 rcases Nat.lt_or_ge i j with hlt|hge
 ·exact IL (List.pairwise_iff_getElem.1 h i j om hj hlt) hk
 ·obtain rfl:i=j:=by omega
  exact hk
theorem NT {l:List Ent}{k:Bs}(h:Srt l):∀ (f i j:Nat),j-i<=f->i<=j->(hj:j<=l.length)->(∀ q,(hq:q<l.length)->q<i->blt l[q].key k=true)->(∀ q,(hq:q<l.length)->j<=q->blt l[q].key k=false) ->
  (∀ q,(hq:q<l.length)->(blt l[q].key k=true↔q<rP l k f i j))/\rP l k f i j<=l.length
 | 0,i,j,hf,hij,hj,h1,h2=>by
  obtain rfl:i=j:=by omega
  refine⟨fun q hq=>⟨fun hb=>?_,fun hb=>h1 q hq hb⟩,hj⟩;rcases Nat.lt_or_ge q i with g|g
  ·exact g
  ·rw[h2 q hq g] at hb;cases hb
 | f+1,i,j,hf,hij,hj,h1,h2=>by
  unfold rP;by_cases hlt:i<j
  ·rw[if_pos hlt];have hm:(i+j) / 2<l.length:=by omega
   have hgd:l.getD ((i+j) / 2) ⟨[],[]⟩=l[(i+j) / 2]:=by simp[List.getD,hm]
   simp only[hgd];by_cases hc:oV l[(i+j) / 2].key k<0
   ·rw[if_pos hc];have hb:=Ad.1 hc;exact NT h f _ _ om om hj (fun q hq hqi=>h.lo om hm hb) h2
   ·rw[if_neg hc];have hb:blt l[(i+j) / 2].key k=false:=by
     cases e:blt l[(i+j) / 2].key k with
     | false=>rfl
     | true=>exact absurd (Ad.2 e) hc
    refine NT h f _ _ om om om h1 (fun q hq hqi=>?_);cases e:blt l[q].key k with
    | false=>rfl
    | true=>rw[h.lo hqi hq e] at hb;cases hb
  ·rw[if_neg hlt];obtain rfl:i=j:=by omega
   refine⟨fun q hq=>⟨fun hb=>?_,fun hb=>h1 q hq hb⟩,hj⟩;rcases Nat.lt_or_ge q i with g|g
   ·exact g
   ·rw[h2 q hq g] at hb;cases hb
theorem a6J {l:List Ent}{k:Bs}(h:Srt l):(∀ x∈l.take (F6 l k),blt x.key k=true)/\(∀ x∈l.drop (F6 l k),blt x.key k=false):=by
 obtain⟨g,_⟩:=NT (k:=k) h l.length 0 l.length om om (Nat.le_refl _) (by intros;omega) (by intros;omega);refine⟨fun x hx=>?_,fun x hx=>?_⟩
 ·obtain⟨q,hq,rfl⟩:=List.mem_iff_getElem.1 hx;have h1:q<F6 l k/\q<l.length:=by simpa[List.length_take,Nat.lt_min] using hq
  rw[List.getElem_take];exact(g q h1.2).2 h1.1
 ·obtain⟨q,hq,rfl⟩:=List.mem_iff_getElem.1 hx;have h1:q<l.length-F6 l k:=by simpa[List.length_drop] using hq
  rw[List.getElem_drop];have h2:F6 l k+q<l.length:=by omega
  cases e:blt l[F6 l k+q].key k with
  | false=>rfl
  | true=>
   have:F6 l k+q<F6 l k:=(g _ h2).1 e;omega
theorem Srt.append {a b:List Ent}:Srt (a++b)↔Srt a/\Srt b/\∀ x∈a,∀ y∈b,blt x.key y.key=true:=List.pairwise_append
theorem Srt.cons {x:Ent}{b:List Ent}:Srt (x::b)↔(∀ y∈b,blt x.key y.key=true)/\Srt b:=List.pairwise_cons
theorem wK {l:List Ent}(k:Bs)(h:Srt l):∃ A B:List Ent,(∀ x∈A,blt x.key k=true)/\(∀ x∈B,blt k x.key=true)/\F6 l k=A.length /\
  ((Q0 l k=false/\l=A++B)\/∃ v,Q0 l k=true/\l=A++⟨k,v⟩::B):=by
 obtain⟨h1,h2⟩:=a6J (k:=k) h;have hle:F6 l k<=l.length:=(NT (k:=k) h l.length 0 l.length om om (Nat.le_refl _) (by intros;omega) (by intros;omega)).2;have hl:(l.take (F6 l k)).length=F6 l k:=by simp;omega
 by_cases hn:F6 l k<l.length
 ·have hd:l.drop (F6 l k)=l[F6 l k]::l.drop (F6 l k+1):=List.drop_eq_getElem_cons hn;have hgd:l.getD (F6 l k) ⟨[],[]⟩=l[F6 l k]:=by simp[List.getD,hn]
  have hs:Srt (l[F6 l k]::l.drop (F6 l k+1)):=by
   rw[<- hd];exact List.Pairwise.sublist (List.drop_sublist _ _) h
  rw[Srt.cons] at hs;by_cases hk:l[F6 l k].key=k
  ·refine⟨l.take (F6 l k),l.drop (F6 l k+1),h1,fun x hx=>?_,hl.symm,.inr ⟨l[F6 l k].val,?_,?_⟩⟩
   ·have:=hs.1 x hx
    rwa [hk] at this
   ·simp only[Q0,hn,decide_true,Bool.true_and,hgd,decide_eq_true_eq];exact Ae.2 hk
   ·have:∀ y:Ent,y.key=k->(⟨k,y.val⟩:Ent)=y:=fun y hy=>by subst hy;rfl
    rw[this _ hk,<- hd,List.take_append_drop]
  ·refine⟨l.take (F6 l k),l.drop (F6 l k),h1,fun x hx=>?_,hl.symm,.inl ⟨?_,(List.take_append_drop _ _).symm⟩⟩
   ·rw[hd] at hx;have hb:=h2 l[F6 l k] (by rw[hd];exact List.mem_cons_self);have hk2:blt k l[F6 l k].key=true:=by
     cases e:blt k l[F6 l k].key with
     | true=>rfl
     | false=>exact absurd (Og hb e) hk
    rcases List.mem_cons.1 hx with rfl|hx
    ·exact hk2
    ·exact IL hk2 (hs.1 x hx)
   ·have:¬ oV l[F6 l k].key k=0:=fun e=>hk (Ae.1 e);simp only[Q0,hn,decide_true,Bool.true_and,hgd,this,decide_false]
 ·refine⟨l,[],fun x hx=>h1 x (by rw[List.take_of_length_le om];exact hx),sm,om,.inl ⟨by simp[Q0,hn],sm⟩⟩
theorem set_mid {α:Type}(A B:List α)(x y:α):(A++x::B).set A.length y=A++y::B:=by
 rw[List.set_append,if_neg om,Nat.sub_self,List.set_cons_zero]
theorem Io {α:Type}(A B:List α)(x d:α):(A++x::B).getD A.length d=x:=by
 simp[List.getD]
theorem KW {l A B:List Ent}{k:Bs}(v:Bs)(hl:F6 l k=A.length)(h:(Q0 l k=false/\l=A++B)\/∃ v,Q0 l k=true/\l=A++⟨k,v⟩::B):gD l k v=A++⟨k,v⟩::B:=by
 unfold gD;rw[hl];rcases h with⟨h1,h2⟩|⟨u,h1,h2⟩
 ·rw[if_neg (by simp[h1])];subst h2;simp
 ·rw[if_pos h1];subst h2;rw[Io,set_mid]
theorem QF {k v:Bs}:∀ (A:List Ent) (acc:List Ent),(∀ x∈A,blt x.key k=true)->A.foldl (X5 k v) (acc,false)=(acc++A,false)
 | [],acc,_=>by simp
 | x::A,acc,h=>by
  have hx:=h x sm;have e:X5 k v (acc,false) x=(acc++[x],false):=by simp[X5,hx,IM hx]
  rw[List.foldl_cons,e,QF A _ (fun y hy=>h y (by simp[hy]))];simp
theorem QG {k v:Bs}:∀ (B:List Ent) (acc:List Ent),(∀ x∈B,blt k x.key=true)->B.foldl (X5 k v) (acc,true)=(acc++B,true)
 | [],acc,_=>by simp
 | x::B,acc,h=>by
  have hx:=h x sm;have e:X5 k v (acc,true) x=(acc++[x],true):=by simp[X5,(IM hx).symm]
  rw[List.foldl_cons,e,QG B _ (fun y hy=>h y (by simp[hy]))];simp
theorem a1l {l A B:List Ent}{k:Bs}(v:Bs)(hA:∀ x∈A,blt x.key k=true)(hB:∀ x∈B,blt k x.key=true)(h:l=A++B\/∃ v,l=A++⟨k,v⟩::B):qZ l k v=A++⟨k,v⟩::B:=by
 unfold qZ;rcases h with rfl|⟨u,rfl⟩
 ·rw[List.foldl_append,QF A [] hA,List.nil_append];cases B with
  | nil=>simp
  | cons y B=>
   have hy:=hB y sm;have e:X5 k v (A,false) y=(A++[⟨k,v⟩]++[y],true):=by simp[X5,a6L hy,(IM hy).symm]
   rw[List.foldl_cons,e,QG B _ (fun x hx=>hB x (by simp[hx]))];simp
 ·rw[List.foldl_append,QF A [] hA,List.nil_append,List.foldl_cons];have e:X5 k v (A,false) ⟨k,u⟩=(A++[⟨k,v⟩],true):=by simp[X5,CO]
  rw[e,QG B _ hB];simp
theorem NA {A B:List Ent}{k:Bs}(hA:∀ x∈A,blt x.key k=true)(hB:∀ x∈B,blt k x.key=true):dD (A++B) k=none/\∀ v,dD (A++⟨k,v⟩::B) k=some ⟨k,v⟩:=by
 have h1:dD A k=none:=by
  simp only[dD,List.find?_eq_none,decide_eq_true_eq];exact fun x hx=>IM (hA x hx)
 have h2:dD B k=none:=by
  simp only[dD,List.find?_eq_none,decide_eq_true_eq];exact fun x hx=>(IM (hB x hx)).symm
 unfold dD at *;exact⟨by rw[List.find?_append,h1,h2];rfl,fun v=>by rw[List.find?_append,h1];simp⟩
theorem Ik {l:List Ent}{k:Bs}(h:Srt l):(dD l k).isSome=Q0 l k:=by
 obtain⟨A,B,hA,hB,_,h1⟩:=wK k h;have hg:=NA hA hB;rcases h1 with⟨h1,rfl⟩|⟨v,h1,rfl⟩
 ·rw[h1,hg.1];rfl
 ·rw[h1,hg.2];rfl
theorem Srt.put {l:List Ent}{k:Bs}(v:Bs)(h:Srt l):Srt (gD l k v):=by
 obtain⟨A,B,hA,hB,hl,h1⟩:=wK k h;rw[KW v hl h1];have hab:Srt A/\Srt B:=by
  rcases h1 with⟨_,rfl⟩|⟨u,_,rfl⟩
  ·rw[Srt.append] at h;exact⟨h.1,h.2.1⟩
  ·rw[Srt.append,Srt.cons] at h;exact⟨h.1,h.2.1.2⟩
 rw[Srt.append,Srt.cons];refine⟨hab.1,⟨hB,hab.2⟩,fun x hx y hy=>?_⟩;rcases List.mem_cons.1 hy with rfl|hy
 ·exact hA x hx
 ·exact IL (hA x hx) (hB y hy)
theorem RY {l:List Ent}{k:Bs}(v:Bs)(h:Srt l):jB l k v=K7 l k v:=by
 unfold jB K7;rw[Ik h];cases Q0 l k <;> simp
theorem Dk {l:List Ent}(x:Ent)(h:Srt l):mW l x=aZ l x:=by
 unfold mW aZ;rw[RY x.val h];split
 ·obtain⟨A,B,hA,hB,hl,h1⟩:=wK x.key h;rw[KW x.val hl h1,a1l x.val hA hB (h1.imp (·.2) fun⟨v,_,h⟩=>⟨v,h⟩)]
 ·rfl
theorem Yh {l:List Ent}(x:Ent)(h:Srt l):Srt (aZ l x):=by
 unfold aZ;split
 ·exact h.put _
 ·exact h
theorem ZF:Srt []:=List.Pairwise.nil
theorem Jb:∀ (l d:List Ent),Srt d->l.foldl mW d=l.foldl aZ d/\Srt (l.foldl aZ d)
 | [],d,h=>⟨rfl,h⟩
 | x::l,d,h=>by
  rw[List.foldl_cons,List.foldl_cons,Dk x h];exact Jb l _ (Yh x h)
theorem a0h (l:List Ent):RN l=dG l:=(Jb l [] ZF).1
def Fits (l:List Ent):Prop:=∀ x∈l,x.key.length<=400/\x.val.length<=4000
theorem a0J {d:List Ent}(x:Ent)(h:Srt d)(hf:Fits d):Fits (aZ d x):=by
 unfold aZ;split
 ·rename_i h0;have hx:x.key.length<=400/\x.val.length<=4000:=by
   unfold K7 at h0;by_cases h1:400<x.key.length\/4000<x.val.length
   ·rw[if_pos h1] at h0;simp at h0
   ·omega
  obtain⟨A,B,_,_,hl,h1⟩:=wK x.key h;rw[KW x.val hl h1];intro y hy;have hy':y∈A\/y=x\/y∈B:=by simpa using hy
  have hsub:y∈A\/y∈B->y∈d:=by
   rcases h1 with⟨_,rfl⟩|⟨u,_,rfl⟩ <;> intro g <;> rcases g with g|g <;> simp[g]
  rcases hy' with g|rfl|g
  ·exact hf y (hsub (.inl g))
  ·exact hx
  ·exact hf y (hsub (.inr g))
 ·exact hf
theorem Ja:∀ (l d:List Ent),d.length<=2000->(l.foldl aZ d).length<=2000
 | [],_,h=>h
 | _::l,_,h=>Ja l _ (Dj h)

structure DOk (d:List Ent):Prop where
 s:Srt d
 f:Fits d
 l:d.length<=2000
def gO (d:List Ent)(k:Bs):Option Bs:=(dD d k).map (·.val)
def Q3 (d:List Ent)(k:Bs):Bs:=(gO d k).getD []
def jM (d:List Ent)(k:Bs):List Ent:=if Q0 d k=true then d.take (F6 d k)++d.drop (F6 d k+1) else d
theorem MO {d:List Ent}{k:Bs}(h:Srt d):Q0 d k=(gO d k).isSome:=by rw[gO,Option.isSome_map,Ik h]
theorem Vv {d:List Ent}{k:Bs}(h:Srt d):(if Q0 d k=true then (d.getD (F6 d k) ⟨[],[]⟩).val else [])=Q3 d k:=by
 obtain⟨A,B,hA,hB,hl,h1⟩:=wK k h;have hg:=NA hA hB;rcases h1 with⟨h1,rfl⟩|⟨v,h1,rfl⟩
 ·rw[h1,if_neg sm,Q3,gO,hg.1];rfl
 ·rw[h1,if_pos rfl,hl,Io,Q3,gO,hg.2];rfl
theorem UM {A B:List Ent}{k v q:Bs}(hq:q≠k):gO (A++⟨k,v⟩::B) q=gO (A++B) q:=by
 unfold gO dD;rw[List.find?_append,List.find?_append,List.find?_cons];have:decide ((⟨k,v⟩:Ent).key=q)=false:=dZ fun e=>hq e.symm;rw[this]
theorem a3O {d:List Ent}{k v q:Bs}(h:Srt d):gO (gD d k v) q=if q=k then some v else gO d q:=by
 obtain⟨A,B,hA,hB,hl,h1⟩:=wK k h;have hg:=NA hA hB;rw[KW v hl h1];by_cases hq:q=k
 ·rw[if_pos hq,hq,gO,hg.2];rfl
 ·rw[if_neg hq,UM hq];rcases h1 with⟨_,rfl⟩|⟨u,_,rfl⟩
  ·rfl
  ·rw[UM hq]
theorem Lg {A B d:List Ent}{k:Bs}(hl:F6 d k=A.length)(h1:(Q0 d k=false/\d=A++B)\/∃ v,Q0 d k=true/\d=A++⟨k,v⟩::B):jM d k=A++B:=by
 unfold jM;rcases h1 with⟨h1,h2⟩|⟨v,h1,h2⟩
 ·rw[h1,if_neg sm,h2]
 ·rw[if_pos h1,hl];subst h2;rw[List.take_append_of_le_length (Nat.le_refl _),List.take_length,List.drop_append,List.drop_of_length_le om,show A.length+1-A.length=1 by omega];rfl
theorem a3P {d:List Ent}{k q:Bs}(h:Srt d):gO (jM d k) q=if q=k then none else gO d q:=by
 obtain⟨A,B,hA,hB,hl,h1⟩:=wK k h;have hg:=NA hA hB;rw[Lg hl h1];by_cases hq:q=k
 ·rw[if_pos hq,hq,gO,hg.1];rfl
 ·rw[if_neg hq];rcases h1 with⟨_,rfl⟩|⟨u,_,rfl⟩
  ·rfl
  ·rw[UM hq]
theorem Vw {d:List Ent}{k v q:Bs}(h:Srt d):Q3 (gD d k v) q=if q=k then v else Q3 d q:=by
 unfold Q3;rw[a3O h];split <;> rfl
theorem Vx {d:List Ent}{k q:Bs}(h:Srt d):Q3 (jM d k) q=if q=k then [] else Q3 d q:=by
 unfold Q3;rw[a3P h];split <;> rfl
theorem VI (d:List Ent)(k:Bs):(jM d k).Sublist d:=by
 unfold jM;split
 ·conv=>rhs;rw[<- List.take_append_drop (F6 d k) d]
  refine List.Sublist.append slr ?_;rw[<- List.drop_drop];exact List.drop_sublist _ _
 ·exact List.Sublist.refl _
theorem DOk.drp {d:List Ent}(h:DOk d)(k:Bs):DOk (jM d k):=
 ⟨List.Pairwise.sublist (VI d k) h.s,fun x hx=>h.f x ((VI d k).mem hx),Nat.le_trans (VI d k).length_le h.l⟩
theorem DOk.put {d:List Ent}{k v:Bs}(h:DOk d)(he:K7 d k v=0):DOk (gD d k v):=by
 have e:gD d k v=aZ d ⟨k,v⟩:=by rw[aZ,if_pos he]
 refine⟨h.s.put v,?_,?_⟩
 ·rw[e];exact a0J _ h.s h.f
 ·have:=Ja [⟨k,v⟩] d h.l;rw[e];exact this
theorem DOk.nil:DOk []:=⟨ZF,fun x hx=>(by cases hx),Nat.zero_le _⟩
theorem a0P {d:List Ent}{k v:Bs}:K7 d k v=0↔k.length<=400/\v.length<=4000/\(Q0 d k=true\/d.length<2000):=by
 unfold K7
 constructor
 ·intro h;split at h
  ·cases h
  ·rename_i h1;split at h
   ·rename_i h2;exact⟨om,om,.inl h2⟩
   ·split at h
    ·cases h
    ·exact⟨om,om,.inr om⟩
 ·rintro⟨h1,h2,h3⟩;rw[if_neg om];rcases h3 with h3|h3
  ·rw[if_pos h3]
  ·by_cases hb:Q0 d k=true
   ·rw[if_pos hb]
   ·rw[if_neg hb,if_neg om]
def U2 (d:List Ent)(k v:Bs):List Ent × Int:=if K7 d k v=0 then (gD d k v,0) else ([],K7 d k v)
theorem a0K {d:List Ent}{k v:Bs}(h:DOk d)(_he:(U2 d k v).2=0):DOk (U2 d k v).1:=by
 unfold U2 at _he ⊢;split
 ·rename_i h1;exact h.put h1
 ·exact .nil
theorem Dl (d:List Ent)(k v:Bs):(U2 d k v).2=K7 d k v:=by
 unfold U2;split
 ·rename_i h;rw[h]
 ·rfl
end Go.Proofs.YtocpacdnjbjjmaaGreatDoor
