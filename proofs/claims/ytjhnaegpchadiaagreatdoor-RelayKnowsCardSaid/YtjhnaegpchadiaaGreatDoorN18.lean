/- . -/
import Derived.Test.YtjhnaegpchadiaaGreatDoorN17
set_option maxHeartbeats 64000000
namespace Go.Proofs.YtjhnaegpchadiaaGreatDoor
open Go Go.RowKit Tw Av Go.Proofs.Tryz
def pG (a b:Bs):Int:=Extern.BytealgCompare.cmp ⟨a.toArray⟩ ⟨b.toArray⟩
theorem Sb (a b:Bs)(w:World):(Extern.BytealgCompare.compare #[sv a,sv b]).run prog w=.ok (.int .i64 (pG a b)) w:=by
 rfl
instance b5m {a b:Bs}:Ans prog GL 296 [str a,str b] True (int (pG a b)):=⟨fun _=>by
 refine qF func296 ntmps296 fun _ hs=>?_;repeat' first|refine Wz ?_|intro _
 apply GI (v:=int (pG a b)) func360;kernel_rfl;exact rfl;kernel_rfl;kernel_rfl;exact rfl;exact rfl;exact rfl
 ·rintro ok w cs _ ⟨u1,us,rfl,h1,u2,us2,rfl,h2,rfl⟩;rw[RV0.lit h1,RV0.lit h2];exact⟨_,Sb a b _,RVl rfl⟩
 repeat' first|refine Wz ?_|intro _
 exact d9 rfl⟩
instance b5e {a b:Bs}:Ans prog GL 204 [str a,str b] True (int (pG a b)):=⟨fun _=>by
 refine qF func204 ntmps204 fun _ hs=>?_;repeat' first|refine Wz ?_|intro _
 exact d9 rfl⟩
instance b4T {x y k:Bs}:Ans prog GL 203 [.agg 2 [str x,str y],str k] True (int (pG x k)):=⟨fun _=>by
 refine qF func203 ntmps203 fun _ hs=>?_;repeat' first|refine Wz ?_|intro _
 exact d9 rfl⟩
def sF (l:List Ent)(k:Bs):Nat->Nat->Nat->Nat
 | 0,i,_=>i
 | f+1,i,j=>if i<j then
   (let h:=(i+j) / 2
   if pG ((l.getD h ⟨[],[]⟩).key) k<0 then sF l k f (h+1) j else sF l k f i h)
  else i
def I6 (l:List Ent)(k:Bs):Nat:=sF l k l.length 0 l.length
def U6 (l:List Ent)(k:Bs):Bool:=decide (I6 l k<l.length)&&decide (pG ((l.getD (I6 l k) ⟨[],[]⟩).key) k=0)
instance b5G {l:List Ent}{k:Bs}{xs:List AV}{id:Option Value}[hx:Ents xs l]:Ans prog GL 202 [.sl 2 xs id,str k,F4 203 []] (l.length<4611686018427387904) (.tup [int (I6 l k),j3 (U6 l k)]):=⟨fun hmx=>by
 have h:=hx.out;subst h;refine qF func202 ntmps202 fun _ hs=>?_;repeat' first|refine Wz ?_|intro _
 refine y5 (α:=Nat × Nat × Nat) (fun q=>[(0,.sl 2 (l.map D5) id),(1,str k),(2,F4 203 []),(8,int (l.map D5).length),(9,int q.1),(10,int q.2.1)]) (fun _=>[])
  (fun q=>q.1<=q.2.1/\q.2.1<=l.length/\q.2.1-q.1<=q.2.2/\sF l k q.2.2 q.1 q.2.1=I6 l k) (fun q=>q.2.2) (0,(l.map D5).length,l.length) ⟨rfl,rfl,rfl,rfl,rfl,rfl,trivial⟩ slr ⟨Nat.zero_le _,sm,sm,by simp[I6]⟩ ?_
 rintro⟨i,j,f⟩ ⟨g1,g2,g3,g4⟩;dsimp only at g1 g2 g3 g4 ⊢;repeat' first|refine Wz ?_|intro _
 refine o8 (fun hlt=>?_) (fun hlt=>?_)
 ·repeat' first|refine Wz ?_|intro _
  have hw:IntKind.i64.wrap (((i:Int)+(j:Int)) / ((2 ^ 1:Nat):Int))=(((i+j) / 2:Nat):Int):=by rw[IntKind.wrap_i64];omega
  rw[hw];obtain⟨f,rfl⟩:∃ f',f=f'+1:=⟨f-1,om⟩;rw[sF,if_pos om] at g4;generalize hh:(i+j) / 2=h at *;have hlt':h<l.length:=by omega
  have hgd:l.getD h ⟨[],[]⟩=l[h]:=by simp[List.getD,hlt']
  simp only[hgd] at g4;refine Z5 h hlt' ?_;repeat' first|refine Wz ?_|intro _
  refine o8 (fun hc=>?_) (fun hc=>?_)
  ·rw[if_pos hc] at g4;repeat' first|refine Wz ?_|intro _
   refine o6 (h+1,j,f) ⟨rfl,rfl,rfl,rfl,rfl,rfl,trivial⟩ slr ⟨by simp only;omega,g2,by simp only;omega,g4⟩ (by simp only;omega)
  ·rw[if_neg hc] at g4;repeat' first|refine Wz ?_|intro _
   refine o6 (i,h,f) ⟨rfl,rfl,rfl,rfl,rfl,rfl,trivial⟩ slr ⟨by simp only;omega,by simp only;omega,by simp only;omega,g4⟩ (by simp only;omega)
 ·have g5:I6 l k=i:=by
   rw[<- g4];cases f with
   | zero=>rfl
   | succ f=>rw[sF,if_neg om]
  repeat' first|refine Wz ?_|intro _
  refine Y9 (fun hn=>?_) (fun hn=>?_)
  ·have hlt':i<l.length:=by simpa using hn
   repeat' first|refine Wz ?_|intro _
   refine Z5 i hlt' ?_;repeat' first|refine Wz ?_|intro _
   refine d9 ?_;have hgd:l.getD i ⟨[],[]⟩=l[i]:=by simp[List.getD,hlt']
   simp[U6,g5,hlt',J6]
  ·have hlt':¬ i<l.length:=by simpa using hn
   repeat' first|refine Wz ?_|intro _
   refine d9 ?_;simp[U6,g5,hlt',J6]⟩
instance b4U {l:List Ent}{k:Bs}{xs:List AV}{id:Option Value}[hx:Ents xs l]:Ans prog GL 93 [.agg 1 [.sl 2 xs id],str k] (l.length<4611686018427387904) (.tup [int (I6 l k),j3 (U6 l k)]):=⟨fun hl=>by
 have h:=hx.out;subst h;refine qF func93 ntmps93 fun _ hs=>?_;repeat' first|refine Wz ?_|intro _
 exact d9 rfl⟩

abbrev dA (l:List Ent):AV:=.agg 1 [.sl 2 (l.map D5) none]
def J5 (l:List Ent)(k v:Bs):Int:=if 400<k.length\/4000<v.length then 11 else if U6 l k=true then 0 else if 2000<=l.length then 15 else 0
def dW (l:List Ent)(k v:Bs):List Ent:=if U6 l k=true then l.set (I6 l k) ⟨(l.getD (I6 l k) ⟨[],[]⟩).key,v⟩ else l.take (I6 l k)++⟨k,v⟩::l.drop (I6 l k)
def pM (l:List Ent)(k v:Bs):AV:=if J5 l k v=0 then dA (dW l k v) else .agg 1 [A7]
theorem UQ (l:List Ent)(k:Bs):∀ f i j,i<=j->sF l k f i j<=j
 | 0,i,j,h=>h
 | f+1,i,j,h=>by
  unfold sF;split
  ·dsimp only;split
   ·exact UQ l k f _ _ om
   ·exact Nat.le_trans (UQ l k f _ _ om) om
  ·exact h
theorem UR (l:List Ent)(k:Bs):I6 l k<=l.length:=UQ l k _ _ _ (Nat.zero_le _)
theorem Kv {l:List Ent}{k:Bs}(h:U6 l k=true):I6 l k<l.length:=by
 unfold U6 at h;simp at h;exact h.1
instance a1A {l:List Ent}{k v:Bs}{xs:List AV}{id:Option Value}[hx:Ents xs l]:Ans prog GL 107 [.agg 1 [.sl 2 xs id],str k,str v] (l.length<=1073741823) (.tup [pM l k v,int (J5 l k v)]):=⟨fun hl=>by
 have h:=hx.out;subst h;have hat:=UR l k;refine qF func107 ntmps107 fun _ hs=>?_;repeat' first|refine Wz ?_|intro _
 refine Y9 (fun h1=>?_) (fun h1=>?_)
 ·repeat' first|refine Wz ?_|intro _
  refine d9 ?_;have hh:400<k.length:=by omega
  have:J5 l k v=11:=by simp[J5,hh]
  simp[J6,pM,this]
 ·repeat' first|refine Wz ?_|intro _
  refine o8 (fun h2=>?_) (fun h2=>?_)
  ·repeat' first|refine Wz ?_|intro _
   refine d9 ?_;have hh:4000<v.length:=by omega
   have:J5 l k v=11:=by simp[J5,hh]
   simp[J6,pM,this]
  ·repeat' first|refine Wz ?_|intro _
   have hne:¬ (400<k.length\/4000<v.length):=om
   refine I8 [] _ (by rw[hs];exact Jn (xs:=l.map D5) (id:=id) (by rw[llm];omega)) (fun c m1 hh=>?_) lpr;rcases hh with⟨hnil,rfl,rfl⟩|⟨g,cap,rfl,rfl,hcap⟩
   ·obtain rfl:l=[]:=by simpa using hnil
    repeat' (first|refine bK ?_|refine O3 ?_|refine rQ ?_|refine BF hs ?_|refine y7 (fun _=>?_)|intro _)
    refine Nk (fun gv=>?_);refine I8 [.buf gv 157 2 [D5 ⟨k,v⟩] 1] _ (by rw[hs];exact Zw) (fun c m1 hh=>?_) lpr;rcases hh with⟨hnil,rfl,rfl⟩|⟨g,cap,rfl,rfl,hcap⟩
    ·simp at hnil
    ·refine vK 35 ?_;refine jL 35 Imp.sl ?_;repeat' first|refine Wz ?_|intro _
     refine d9 ?_;have e0:U6 [] k=false:=rfl;have e1:J5 [] k v=0:=by simp[J5,hne,e0]
     have e2:[D5 ⟨k,v⟩]=(dW [] k v).map D5:=by simp[dW,e0]
     simp only[J6,pM,e1,if_true,e2]
   ·repeat' (first|refine bK ?_|refine O3 ?_|refine rQ ?_|refine BF hs ?_|refine y7 (fun _=>?_)|intro _)
    refine qP (fun h3=>?_) (fun h3=>?_)
    ·repeat' first|refine Wz ?_|intro _
     have hlt:=Kv h3;have hgd:l.getD (I6 l k) ⟨[],[]⟩=l[I6 l k]:=by simp[List.getD,hlt]
     refine MR (I6 l k) ?_;repeat' first|refine Wz ?_|intro _
     refine Ml (y:=D5 l[I6 l k]) (y':=D5 ⟨l[I6 l k].key,v⟩) ?_ ?_
     ·simp[hlt]
     refine vK 10 ?_;refine jL 10 Imp.sl ?_;repeat' first|refine Wz ?_|intro _
     refine d9 ?_;have e1:J5 l k v=0:=by simp[J5,hne,h3]
     have e2:(l.map D5).set (I6 l k) (D5 ⟨l[I6 l k].key,v⟩)=(dW l k v).map D5:=by rw[dW,if_pos h3,hgd,List.map_set]
     simp only[J6,pM,e1,if_true,e2]
    ·repeat' (first|refine bK ?_|refine O3 ?_|refine rQ ?_|refine BF hs ?_|refine y7 (fun _=>?_)|intro _)
     refine o8 (fun h4=>?_) (fun h4=>?_)
     ·repeat' first|refine Wz ?_|intro _
      refine d9 ?_;have e1:J5 l k v=15:=by
       have:2000<=l.length:=by simp at h4;omega
       simp[J5,hne,h3,this]
      simp[J6,pM,e1]
     ·repeat' (first|refine bK ?_|refine O3 ?_|refine rQ ?_|refine BF hs ?_|refine y7 (fun _=>?_)|intro _)
      refine Nk (fun gv=>?_);refine I8 [.buf g 157 2 (l.map D5) cap,.buf gv 157 2 [D5 ⟨k,v⟩] 1] _ (by rw[hs];exact Zv rfl hcap (by simpa using hat) (by rw[List.length_map];omega)) (fun c m1 hh=>?_) (List.Perm.swap _ _ _);rcases hh with⟨hnil,rfl,rfl⟩|⟨g,cap,rfl,rfl,hcap⟩
      ·simp at hnil
      ·refine vK 35 ?_;refine jL 35 Imp.sl ?_;repeat' first|refine Wz ?_|intro _
       refine d9 ?_;have e1:J5 l k v=0:=by
        have:¬ 2000<=l.length:=by simp at h4;omega
        simp[J5,hne,h3,this]
       have e2:(l.map D5).take (I6 l k)++D5 ⟨k,v⟩::(l.map D5).drop (I6 l k)=(dW l k v).map D5:=by simp[dW,h3,List.map_take,List.map_drop]
       simp only[J6,pM,e1,if_true,e2]⟩
instance a1E {l:List Ent}{k:Bs}{xs:List AV}{id:Option Value}[hx:Ents xs l]:Ans prog GL 41 [.agg 1 [.sl 2 xs id],str k] (l.length<=1073741823) (.tup [str (if U6 l k=true then (l.getD (I6 l k) ⟨[],[]⟩).val else []),j3 (U6 l k)]):=⟨fun hl=>by
 have h:=hx.out;subst h;have hat:=UR l k;refine qF func41 ntmps41 fun _ hs=>?_;repeat' first|refine Wz ?_|intro _
 refine qP (fun h3=>?_) (fun h3=>?_)
 ·repeat' first|refine Wz ?_|intro _
  refine d9 ?_;have h4:U6 l k=false:=by simpa using h3
  simp[J6,h4]
 ·have h3:U6 l k=true:=by simpa using h3
  repeat' first|refine Wz ?_|intro _
  have hlt:=Kv h3;have hgd:l.getD (I6 l k) ⟨[],[]⟩=l[I6 l k]:=by simp[List.getD,hlt]
  refine Z5 (I6 l k) hlt ?_;repeat' first|refine Wz ?_|intro _
  refine d9 ?_;simp only[J6,h3,if_true,hgd]⟩
instance b4n {l:List Ent}{xs:List AV}{id:Option Value}[hx:Ents xs l]:Ans prog GL 96 [.agg 1 [.sl 2 xs id]] True (int l.length):=⟨fun _=>by
 have h:=hx.out;subst h;refine qF func96 ntmps96 fun _ hs=>?_;repeat' first|refine Wz ?_|intro _
 refine d9 ?_;simp[J6]⟩
instance c1X {l:List Ent}{xs:List AV}{id:Option Value}[hx:Ents xs l]:Ans prog GL 27 [.agg 1 [.sl 2 xs id]] (l.length<=1073741823) (.sl 2 (l.map D5) none):=⟨fun hl=>by
 have h:=hx.out;subst h;refine qF func27 ntmps27 fun _ hs=>?_;repeat' first|refine Wz ?_|intro _
 refine I8 [] _ (by rw[hs];exact Jn (xs:=l.map D5) (id:=id) (by rw[llm];omega)) (fun c m1 hh=>?_) lpr;rcases hh with⟨hnil,rfl,rfl⟩|⟨g,cap,rfl,rfl,hcap⟩
 ·obtain rfl:l=[]:=by simpa using hnil
  refine jL 5 (Imp.nilN (k:=2)) ?_;repeat' first|refine Wz ?_|intro _
  exact d9 rfl
 ·refine vK 5 ?_;refine jL 5 Imp.sl ?_;repeat' first|refine Wz ?_|intro _
  exact d9 rfl⟩

def Z9 (d:List Ent)(x:Ent):List Ent:=if J5 d x.key x.val=0 then dW d x.key x.val else d
def aY (l:List Ent):List Ent:=l.foldl Z9 []
theorem Ba {d:List Ent}{x:Ent}(h:d.length<=2000):(Z9 d x).length<=2000:=by
 have hat:=UR d x.key;unfold Z9 J5 dW;by_cases h1:400<x.key.length\/4000<x.val.length
 ·simpa[h1] using h
 ·by_cases h2:U6 d x.key=true
  ·simpa[h1,h2] using h
  ·by_cases h3:2000<=d.length
   ·simpa[h1,h2,h3] using h
   ·simp[h1,h2,h3];omega
instance b5b {l:List Ent}{xs:List AV}{id:Option Value}[hx:Ents xs l]:Ans prog GL 50 [.sl 2 xs id] (l.length<=1073741823) (dA (aY l)):=⟨fun hl=>by
 have h:=hx.out;subst h;refine qF func50 ntmps50 fun _ hs=>?_;repeat' first|refine Wz ?_|intro _
 rename_i g2 g3;refine gK (g:=g3) (v':=dA []) (ImpC.agg1 ImpC.nil) ?_;refine y5 (α:=Nat × List Ent) (fun q=>[(2,ptr g2),(3,ptr g3),(8,.sl 2 (l.map D5) id),(9,int (l.map D5).length),(10,int q.1)]) (fun q=>[.var g3 56 (dA q.2),.var g2 56 (.agg 1 [A7])])
  (fun q=>q.1<=l.length/\q.2.length<=2000/\(l.drop q.1).foldl Z9 q.2=aY l) (fun q=>l.length-q.1) (0,[]) ⟨rfl,rfl,rfl,rfl,rfl,trivial⟩ slr ⟨Nat.zero_le _,sm,rfl⟩ ?_
 rintro⟨i,d⟩ ⟨g1,g2',g4⟩;dsimp only at g1 g2' g4 ⊢;repeat' first|refine Wz ?_|intro _
 refine o8 (fun hlt=>?_) (fun hlt=>?_)
 ·have hlt':i<l.length:=by simpa using hlt
  repeat' first|refine Wz ?_|intro _
  refine Z5 i hlt' ?_;repeat' first|refine Wz ?_|intro _
  have hst:(l.drop i).foldl Z9 d=(l.drop (i+1)).foldl Z9 (Z9 d l[i]):=by rw[List.drop_eq_getElem_cons hlt'];rfl
  rw[hst] at g4;by_cases h0:J5 d l[i].key l[i].val=0
  ·have e1:pM d l[i].key l[i].val=dA (Z9 d l[i]):=by simp[pM,Z9,h0]
   rw[e1,h0];repeat' first|refine Wz ?_|intro _
   refine o6 (i+1,Z9 d l[i]) ⟨rfl,rfl,rfl,rfl,rfl,trivial⟩ ?_ ⟨hlt',Ba g2',g4⟩ (by simp only;omega);exact x9
  ·have e1:pM d l[i].key l[i].val=.agg 1 [A7]:=by simp[pM,h0]
   have e2:Z9 d l[i]=d:=by simp[Z9,h0]
   rw[e2] at g4;rw[e1];repeat' first|refine Wz ?_|intro _
   refine o8 (fun h=>absurd h h0) (fun _=>?_);repeat' first|refine Wz ?_|intro _
   refine o6 (i+1,d) ⟨rfl,rfl,rfl,rfl,rfl,trivial⟩ ?_ ⟨hlt',g2',g4⟩ (by simp only;omega);exact x9
 ·repeat' first|refine Wz ?_|intro _
  refine d9 ?_;rw[List.drop_of_length_le (by simpa using hlt)] at g4;simp only[List.foldl_nil] at g4;rw[g4];rfl⟩

def aW (x:Ent):Hsh:=tF [[76],j6 107 x.key,j6 118 x.val]
def pV (a b:Hsh):Hsh:=tF [[78],a.l,b.l]
def uF (n:Int)(h:Hsh):Hsh:=tF [[84],p9 110 n,h.l]
instance b4p {a b:Bs}:Ans prog GL 362 [.agg 2 [str a,str b]] True (hA (aW ⟨a,b⟩)):=⟨fun _=>by
 refine qF func362 ntmps362 fun _ hs=>?_;repeat' first|refine Wz ?_|intro _
 exact d9 rfl⟩
instance b4h {a b:Hsh}:Ans prog GL 364 [hA a,hA b] True (hA (pV a b)):=⟨fun _=>by
 refine qF func364 ntmps364 fun _ hs=>?_;repeat' first|refine Wz ?_|intro _
 exact d9 rfl⟩
instance b1C {n:Int}{h:Hsh}:Ans prog GL 310 [int n,hA h] (n<=9223372036854775807) (hA (uF n h)):=⟨fun hn=>by
 refine qF func310 ntmps310 fun _ hs=>?_;repeat' first|refine Wz ?_|intro _
 exact d9 rfl⟩

instance b4O {n:Int}:Ans prog GL 363 [int n] (0<=n/\n<4611686018427387904) (int ((n+1) / 2)):=⟨fun hn=>by
 refine qF func363 ntmps363 fun _ hs=>?_;repeat' first|refine Wz ?_|intro _
 exact d9 rfl⟩
abbrev WayStep:=Bool × Nat × Nat
abbrev IL (t:WayStep):AV:=.agg 3 [j3 t.1,int t.2.1,int t.2.2]
def uE:Nat->Nat->Nat->List WayStep
 | 0,_,_=>[]
 | f+1,n,i=>if n<=1 then [] else
  (decide (i<(n+1) / 2),(n+1) / 2,n-(n+1) / 2)::(if i<(n+1) / 2 then uE f ((n+1) / 2) i else uE f (n-(n+1) / 2) (i-(n+1) / 2))
def turns (n i:Nat):List WayStep:=uE n n i
theorem IJ:∀ (f f' n i:Nat),n<=f->n<=f'->uE f n i=uE f' n i
 | 0,0,_,_,_,_=>rfl
 | 0,f'+1,n,i,h,_=>by
  have:n=0:=by omega
  subst this;rfl
 | f+1,0,n,i,_,h=>by
  have:n=0:=by omega
  subst this;rfl
 | f+1,f'+1,n,i,h,h'=>by
  unfold uE;split
  ·rfl
  ·rw[IJ f f' _ i om om,IJ f f' _ (i-(n+1) / 2) om om]
theorem II (n i:Nat)(h:1<n):turns n i=(decide (i<(n+1) / 2),(n+1) / 2,n-(n+1) / 2)::(if i<(n+1) / 2 then turns ((n+1) / 2) i else turns (n-(n+1) / 2) (i-(n+1) / 2)):=by
 obtain⟨f,rfl⟩:∃ f,n=f+1:=⟨n-1,om⟩;unfold turns;rw[uE,if_neg om,IJ f _ _ i om (Nat.le_refl _),IJ f _ _ (i-(f+1+1) / 2) om (Nat.le_refl _)]
theorem NN (i:Nat):turns 1 i=[]:=rfl
def dQ (n i:Int):List WayStep:=if i<0\/n<=i\/2000<n then [] else turns n.toNat i.toNat
instance b1z {n i:Int}:Ans prog GL 298 [int n,int i] True (.sl 3 ((dQ n i).map IL) none):=⟨fun _=>by
 refine qF func298 ntmps298 fun _ hs=>?_;repeat' first|refine Wz ?_|intro _
 refine Y9 (fun h1=>?_) (fun h1=>?_)
 ·repeat' first|refine Wz ?_|intro _
  refine aR 4 (Imp.nilN (k:=3)) ?_;refine d9 ?_;simp[J6,dQ,h1]
 ·repeat' first|refine Wz ?_|intro _
  refine Y9 (fun h2=>?_) (fun h2=>?_)
  ·repeat' first|refine Wz ?_|intro _
   refine aR 4 (Imp.nilN (k:=3)) ?_;refine d9 ?_;simp[J6,dQ,h2]
  ·repeat' first|refine Wz ?_|intro _
   refine o8 (fun h3=>?_) (fun h3=>?_)
   ·repeat' first|refine Wz ?_|intro _
    refine aR 4 (Imp.nilN (k:=3)) ?_;refine d9 ?_;simp[J6,dQ,h3]
   ·repeat' first|refine Wz ?_|intro _
    obtain⟨N,rfl⟩:∃ N:Nat,n=N:=⟨n.toNat,om⟩;obtain⟨I,rfl⟩:∃ I:Nat,i=I:=⟨i.toNat,om⟩;have hway:dQ N I=turns N I:=by simp[dQ,h1,h2,h3]
    refine aT 5 (Imp.nil (k:=3)) ?_;refine Q6 (fun ok w h=>h.full 356 3 none 0) ?_;refine y5 (α:=Nat × Nat × Value × List WayStep) (fun q=>[(0,int q.1),(1,int q.2.1),(5,.sl 3 (q.2.2.2.map IL) (some q.2.2.1))]) (fun q=>[.tail 356 3 q.2.2.1])
     (fun q=>q.2.1<q.1/\q.2.2.2.length+q.1<=2001/\q.2.2.2++turns q.1 q.2.1=turns N I) (fun q=>q.1) (N,I,.slice none 0 0,[]) ⟨rfl,rfl,rfl,trivial⟩ slr ⟨by simp only;omega,by simp only[List.length_nil];omega,rfl⟩ ?_
    rintro⟨n',i',v,done⟩ ⟨g1,g2,g3⟩;dsimp only at g1 g2 g3 ⊢;repeat' first|refine Wz ?_|intro _
    refine o8 (fun hone=>?_) (fun hone=>?_)
    ·obtain rfl:n'=1:=by omega
     repeat' first|refine Wz ?_|intro _
     refine aR 4 Imp.sl ?_;refine d9 ?_;rw[NN,List.append_nil] at g3;rw[hway,<- g3];rfl
    ·repeat' first|refine Wz ?_|intro _
     have hstep:=II n' i' om;have hk0:((n':Int)+1) / 2=(((n'+1) / 2:Nat):Int):=by omega
     rw[hk0];generalize hk:(n'+1) / 2=k at *;have hd0:decide ((i':Int)<(k:Int))=decide (i'<k):=by simp
     have hs0:(n':Int)-(k:Int)=((n'-k:Nat):Int):=om
     rw[hd0,hs0];refine I1 (fun v'=>?_);have e1:done.map IL++[.agg 3 [j3 (decide (i'<k)),int k,int (n'-k:Nat)]]=(done++[(decide (i'<k),k,n'-k)]).map IL:=by simp
     rw[e1];have hlen:(done++[(decide (i'<k),k,n'-k)]).length=done.length+1:=by simp
     repeat' first|refine Wz ?_|intro _
     refine qP (fun hc=>?_) (fun hc=>?_)
     ·have hge:¬ i'<k:=by intro h;simp[h] at hc
      repeat' first|refine Wz ?_|intro _
      rw[show (i':Int)-(k:Int)=((i'-k:Nat):Int) by omega];refine o6 (n'-k,i'-k,v',done++[(decide (i'<k),k,n'-k)]) ⟨rfl,rfl,rfl,trivial⟩ ?_ ⟨by simp only;omega,by simp only[hlen];omega,?_⟩ (by simp only;omega)
      ·exact x9
      ·rw[<- g3,hstep,if_neg hge,laa];rfl
     ·have hlt:i'<k:=by
       rcases Nat.lt_or_ge i' k with h|h
       ·exact h
       ·simp[Nat.not_lt.2 h] at hc
      repeat' first|refine Wz ?_|intro _
      refine o6 (k,i',v',done++[(decide (i'<k),k,n'-k)]) ⟨rfl,rfl,rfl,trivial⟩ ?_ ⟨by simp only;omega,by simp only[hlen];omega,?_⟩ (by simp only;omega)
      ·exact x9
      ·rw[<- g3,hstep,if_pos hlt,laa];rfl⟩
instance b2y {n i:Int}:Ans prog GL 464 [int n,int i] True (int (dQ n i).length):=⟨fun _=>by
 refine qF func464 ntmps464 fun _ hs=>?_;repeat' first|refine Wz ?_|intro _
 refine Y9 (fun h1=>?_) (fun h1=>?_)
 ·repeat' first|refine Wz ?_|intro _
  refine d9 ?_;simp[J6,dQ,h1]
 ·repeat' first|refine Wz ?_|intro _
  refine Y9 (fun h2=>?_) (fun h2=>?_)
  ·repeat' first|refine Wz ?_|intro _
   refine d9 ?_;simp[J6,dQ,h2]
  ·repeat' first|refine Wz ?_|intro _
   refine o8 (fun h3=>?_) (fun h3=>?_)
   ·repeat' first|refine Wz ?_|intro _
    refine d9 ?_;simp[J6,dQ,h3]
   ·repeat' first|refine Wz ?_|intro _
    obtain⟨N,rfl⟩:∃ N:Nat,n=N:=⟨n.toNat,om⟩;obtain⟨I,rfl⟩:∃ I:Nat,i=I:=⟨i.toNat,om⟩;have hway:dQ N I=turns N I:=by simp[dQ,h1,h2,h3]
    refine y5 (α:=Nat × Nat × Nat) (fun q=>[(0,int q.1),(1,int q.2.1),(5,int q.2.2)]) (fun q=>[])
     (fun q=>q.2.1<q.1/\q.2.2+q.1<=2001/\q.2.2+(turns q.1 q.2.1).length=(turns N I).length) (fun q=>q.1) (N,I,0) ⟨rfl,rfl,rfl,trivial⟩ slr ⟨by simp only;omega,by simp only;omega,by simp only;omega⟩ ?_
    rintro⟨n',i',d⟩ ⟨g1,g2,g3⟩;dsimp only at g1 g2 g3 ⊢;repeat' first|refine Wz ?_|intro _
    refine o8 (fun hone=>?_) (fun hone=>?_)
    ·repeat' first|refine Wz ?_|intro _
     have hstep:=II n' i' om;have hk0:((n':Int)+1) / 2=(((n'+1) / 2:Nat):Int):=by omega
     rw[hk0];generalize hk:(n'+1) / 2=k at *;refine o8 (fun hlt=>?_) (fun hlt=>?_)
     ·repeat' first|refine Wz ?_|intro _
      rw[if_pos om] at hstep;have:=congrArg List.length hstep;simp only[List.length_cons] at this;exact o6 (k,i',d+1) ⟨rfl,rfl,rfl,trivial⟩ slr ⟨by simp only;omega,by simp only;omega,by simp only;omega⟩ (by simp only;omega)
     ·repeat' first|refine Wz ?_|intro _
      rw[if_neg om] at hstep;have:=congrArg List.length hstep;simp only[List.length_cons] at this;rw[show (i':Int)-(k:Int)=((i'-k:Nat):Int) by omega,show (n':Int)-(k:Int)=((n'-k:Nat):Int) by omega];exact o6 (n'-k,i'-k,d+1) ⟨rfl,rfl,rfl,trivial⟩ slr ⟨by simp only;omega,by simp only;omega,by simp only;omega⟩ (by simp only;omega)
    ·obtain rfl:n'=1:=by omega
     repeat' first|refine Wz ?_|intro _
     refine d9 ?_;rw[NN] at g3;rw[hway,<- g3];rfl⟩

def vP:Nat->List Hsh->Hsh
 | 0,_=>F3
 | f+1,l=>match l with
  | []=>F3
  | [x]=>x
  | _=>pV (vP f (l.take ((l.length+1) / 2))) (vP f (l.drop ((l.length+1) / 2)))
def qU (l:List Hsh):Hsh:=vP l.length l
theorem IK:∀ (f f':Nat) (l:List Hsh),l.length<=f->l.length<=f'->vP f l=vP f' l
 | 0,0,_,_,_=>rfl
 | 0,f'+1,l,h,_=>by
  have:l=[]:=List.eq_nil_of_length_eq_zero om;subst this;rfl
 | f+1,0,l,_,h=>by
  have:l=[]:=List.eq_nil_of_length_eq_zero om;subst this;rfl
 | f+1,f'+1,[],_,_=>rfl
 | f+1,f'+1,[x],_,_=>rfl
 | f+1,f'+1,x::y::l,h,h'=>by
  simp only[List.length_cons] at h h';unfold vP;simp only;rw[IK f f' _ (by simp[List.length_take];omega) (by simp[List.length_take];omega),IK f f' (List.drop _ _) (by simp;omega) (by simp;omega)]
theorem WU (l:List Hsh)(h:2<=l.length):qU l=pV (qU (l.take ((l.length+1) / 2))) (qU (l.drop ((l.length+1) / 2))):=by
 match l,h with
 | x::y::l,_=>
  show pV (vP (y::l).length _) (vP (y::l).length _)=_;rw[IK (y::l).length _ (List.take _ _) (by simp[List.length_take];omega) (Nat.le_refl _),IK (y::l).length _ (List.drop _ _) (by simp;omega) (Nat.le_refl _)];rfl
theorem Qa (n:Nat):n<=1000000->∀ {l:List Hsh} {xs:List AV} {id:Option Value} [Hshs xs l],Ans prog GL 299 [.sl 32 xs id] (l.length<=n) (hA (qU l)):=by
 induction n with
 | zero=>
  intro _ l xs id hx;refine⟨fun hl=>?_⟩;have h:=hx.out;subst h;obtain rfl:l=[]:=List.eq_nil_of_length_eq_zero om;refine qF func299 ntmps299 fun _ hs=>?_;repeat' first|refine Wz ?_|intro _
  exact d9 rfl
 | succ n ih=>
  intro hn l xs id hx;have ih:=@ih om;refine⟨fun hl=>?_⟩;have h:=hx.out;subst h;have hm:(l.map hA).length=l.length:=llm _;refine qF func299 ntmps299 fun _ hs=>?_;repeat' first|refine Wz ?_|intro _
  refine o8 (fun h0=>?_) (fun h0=>?_)
  ·obtain rfl:l=[]:=List.eq_nil_of_length_eq_zero om;repeat' first|refine Wz ?_|intro _
   exact d9 rfl
  ·repeat' first|refine Wz ?_|intro _
   refine o8 (fun h1=>?_) (fun h1=>?_)
   ·obtain⟨x,rfl⟩:∃ x,l=[x]:=List.length_eq_one_iff.1 om;repeat' first|refine Wz ?_|intro _
    refine Z5 0 (show 0<[x].length by simp) ?_;repeat' first|refine Wz ?_|intro _
    exact d9 rfl
   ·repeat' first|refine Wz ?_|intro _
    have hk0:(((l.map hA).length:Int)+1) / 2=(((l.length+1) / 2:Nat):Int):=om
    rw[hk0];have hst:=WU l om;generalize hk:(l.length+1) / 2=k at *;apply x8 [];exact rfl;exact rfl;kernel_rfl;intro _ _;refine uB 0 k ?_;exact j4 (o9 rfl rfl);repeat' first|refine Wz ?_|intro _
    apply x8 [];exact rfl;exact rfl;kernel_rfl;intro _ _;refine uB k l.length ?_;exact j4 (o9 rfl rfl);repeat' first|refine Wz ?_|intro _
    refine d9 ?_;rw[hst,List.drop_zero,List.take_length];rfl
instance b1B {l:List Hsh}{xs:List AV}{id:Option Value}[Hshs xs l]:Ans prog GL 299 [.sl 32 xs id] (l.length<=1000000) (hA (qU l)):=Qa 1000000 (Nat.le_refl _)
theorem Yv {g:Nat}{x:Ent}{v:Value}{done:List Hsh}(hl:done.length<=1000000):Av.Spec prog GL 361 [D5 x,ptr g] [.var g 44 (.sl 32 (done.map hA) (some v)),.tail 34 32 v] fun u m=>∃ v',u=.tup []/\m=[.var g 44 (.sl 32 ((done++[aW x]).map hA) (some v')),.tail 34 32 v']:=by
 refine qF func361 ntmps361 fun _ hs=>?_;repeat' first|refine Wz ?_|intro _
 apply Y8 [2];exact rfl;exact rfl;exact rfl;kernel_rfl;intro _ _;refine I1 (fun v'=>?_);refine j4 (R6 [.tail 34 32 v'] [] rfl rfl lpr rfl ?_);repeat' first|refine Wz ?_|intro _
 refine iW [.var g 44 (.sl 32 ((done++[aW x]).map hA) (some v')),.tail 34 32 v'] ⟨v',rfl,rfl⟩ ?_;rw[show (done++[aW x]).map hA=done.map hA++[hA (aW ⟨x.key,x.val⟩)] by simp];exact List.Sublist.cons _ slr
theorem ImpC.nilS {k:Nat}:ImpC A7 (.sl k [] (some (.slice none 0 0))):=fun ok w cs h=>by
 rw[RC] at h;rw[RC];exact⟨none,0,h.1,sm,Nat.le_refl _,by simp[maxLen],sm,sm⟩
instance b4o {d:List Ent}{xs:List AV}{id:Option Value}[hx:Ents xs d]:Ans prog GL 297 [.agg 1 [.sl 2 xs id]] (d.length<=1000000) (.sl 32 ((d.map aW).map hA) none):=⟨fun hl=>by
 have h:=hx.out;subst h;refine qF func297 ntmps297 fun _ hs=>?_;repeat' first|refine Wz ?_|intro _
 rename_i g1 g3;refine gH (vs:=[.pointer (some ⟨g3,0,none⟩)]) ?_;repeat' first|refine Wz ?_|intro _
 refine gK (g:=g3) (v':=.sl 32 [] (some (.slice none 0 0))) ImpC.nilS ?_;refine Q6 (fun ok w h=>h.full 34 32 none 0) ?_;refine y5 (α:=Nat × Value) (fun q=>[(3,ptr g3),(4,F4 361 [.pointer (some ⟨g3,0,none⟩)]),(9,.sl 2 (d.map D5) none),(10,int (d.map D5).length),(11,int q.1)])
  (fun q=>[.tail 34 32 q.2,.var g3 44 (.sl 32 (((d.take q.1).map aW).map hA) (some q.2))])
  (fun q=>q.1<=d.length) (fun q=>d.length-q.1) (0,.slice none 0 0) ⟨rfl,rfl,rfl,rfl,rfl,trivial⟩ ?_ (Nat.zero_le _) ?_
 ·exact x9
 rintro⟨i,v⟩ g1;dsimp only at g1 ⊢;repeat' first|refine Wz ?_|intro _
 refine o8 (fun hlt=>?_) (fun hlt=>?_)
 ·have hlt':i<d.length:=by simpa using hlt
  repeat' first|refine Wz ?_|intro _
  refine Z5 i hlt' ?_;repeat' first|refine Wz ?_|intro _
  refine nT (args:=[D5 d[i]]) (cs:=[.pointer (some ⟨g3,0,none⟩)]) [.var g3 44 (.sl 32 (((d.take i).map aW).map hA) (some v)),.tail 34 32 v] _ (by rw[hs];exact Yv (x:=d[i]) (v:=v) (g:=g3) (done:=(d.take i).map aW) (by simp;omega)) (fun u m1 hh=>?_) ((List.reverse_perm _).symm);obtain⟨v',rfl,rfl⟩:=hh;refine gG (fun ok w h=>h.perm (List.Perm.swap _ _ _)) ?_;repeat' first|refine Wz ?_|intro _
  rw[show (d.take i).map aW++[aW d[i]]=(d.take (i+1)).map aW by rw[List.take_succ_eq_append_getElem hlt',List.map_append];rfl];refine o6 (i+1,v') ⟨rfl,rfl,rfl,rfl,rfl,trivial⟩ ?_ hlt' (by simp only;omega);exact x9
 ·repeat' first|refine Wz ?_|intro _
  refine aR 2 Imp.sl ?_;refine d9 ?_;rw[List.take_of_length_le (by simpa using hlt)];rfl⟩
instance b1S {d:List Ent}{xs:List AV}{id:Option Value}[hx:Ents xs d]:Ans prog GL 220 [.agg 1 [.sl 2 xs id]] (d.length<=1000000) (hA (uF d.length (qU (d.map aW)))):=⟨fun hl=>by
 have h:=hx.out;subst h;have hm:(d.map aW).length=d.length:=llm _;refine qF func220 ntmps220 fun _ hs=>?_;repeat' first|refine Wz ?_|intro _
 exact d9 rfl⟩

def dH (l:List Ent)(k:Bs):Option Ent:=l.find? fun x=>decide (x.key=k)
theorem a0J {l:List Ent}{k:Bs}{i:Nat}(h:i<l.length):dH (l.drop i) k=if l[i].key=k then some l[i] else dH (l.drop (i+1)) k:=by
 rw[List.drop_eq_getElem_cons h];unfold dH;rw[List.find?_cons];by_cases h:l[i].key=k <;> simp[h]
instance a1p {l:List Ent}{k:Bs}{xs:List AV}{id:Option Value}[hx:Ents xs l]:Ans prog GL 123 [.sl 2 xs id,str k] (l.length<=1073741823) (.tup [str (((dH l k).map (·.val)).getD []),j3 (dH l k).isSome]):=⟨fun hl=>by
 have h:=hx.out;subst h;refine qF func123 ntmps123 fun _ hs=>?_;repeat' first|refine Wz ?_|intro _
 refine y5 (α:=Nat) (fun i=>[(0,.sl 2 (l.map D5) id),(1,str k),(6,int i)]) (fun _=>[]) (fun i=>i<=l.length/\dH (l.drop i) k=dH l k) (fun i=>l.length-i) 0 ⟨rfl,rfl,rfl,trivial⟩ slr ⟨Nat.zero_le _,rfl⟩ ?_;rintro i ⟨g1,g2⟩;repeat' first|refine Wz ?_|intro _
 refine o8 (fun hlt=>?_) (fun hlt=>?_)
 ·have hlt':i<l.length:=by simpa using hlt
  rw[a0J hlt'] at g2;repeat' first|refine Wz ?_|intro _
  refine Z5 i hlt' ?_;repeat' first|refine Wz ?_|intro _
  refine o8 (fun he=>?_) (fun he=>?_)
  ·rw[if_pos he] at g2;repeat' first|refine Wz ?_|intro _
   refine Z5 i hlt' ?_;repeat' first|refine Wz ?_|intro _
   refine d9 ?_;simp[J6,<- g2]
  ·rw[if_neg he] at g2;repeat' first|refine Wz ?_|intro _
   exact o6 (i+1) ⟨rfl,rfl,rfl,trivial⟩ slr ⟨hlt',g2⟩ om
 ·repeat' first|refine Wz ?_|intro _
  refine d9 ?_;rw[List.drop_of_length_le (by simpa using hlt)] at g2;rw[<- g2];rfl⟩

def Y0 (k v:Bs)(acc:List Ent × Bool)(x:Ent):List Ent × Bool:=
 let a:=if acc.2=false/\blt x.key k=false then (acc.1++[(⟨k,v⟩:Ent)],true) else acc
 if x.key=k then a else (a.1++[x],a.2)
def rO (l:List Ent)(k v:Bs):List Ent:=
 let a:=l.foldl (Y0 k v) ([],false)
 if a.2=true then a.1 else a.1++[(⟨k,v⟩:Ent)]
def jY (l:List Ent)(k v:Bs):Int:=if 400<k.length\/4000<v.length then 11 else if (dH l k).isSome=false/\2000<=l.length then 15 else 0
def uO (l:List Ent)(k v:Bs):AV:=if jY l k v=0 then .sl 2 ((rO l k v).map D5) none else A7
instance a1m {l:List Ent}{k v:Bs}{xs:List AV}{id:Option Value}[hx:Ents xs l]:Ans prog GL 54 [.sl 2 xs id,str k,str v] (l.length<=1073741823) (.tup [uO l k v,int (jY l k v)]):=⟨fun hl=>by
 have h:=hx.out;subst h;refine qF func54 ntmps54 fun _ hs=>?_;repeat' first|refine Wz ?_|intro _
 refine Y9 (fun h1=>?_) (fun h1=>?_)
 ·repeat' first|refine Wz ?_|intro _
  refine d9 ?_;have hh:400<k.length:=by omega
  have:jY l k v=11:=by simp[jY,hh]
  simp[J6,uO,this]
 ·repeat' first|refine Wz ?_|intro _
  refine o8 (fun h2=>?_) (fun h2=>?_)
  ·repeat' first|refine Wz ?_|intro _
   refine d9 ?_;have hh:4000<v.length:=by omega
   have:jY l k v=11:=by simp[jY,hh]
   simp[J6,uO,this]
  ·repeat' first|refine Wz ?_|intro _
   have hne:¬ (400<k.length\/4000<v.length):=om
   have hmain:∀ hok:jY l k v=0,uO l k v=.sl 2 ((rO l k v).map D5) none:=fun hok=>by simp[uO,hok]
   refine FH (fun hg=>?_) (fun hg=>?_)
   focus
    repeat' first|refine Wz ?_|intro _
    refine o8 (fun h4=>?_) (fun h4=>?_)
    focus
     repeat' first|refine Wz ?_|intro _
     refine d9 ?_;have e1:jY l k v=15:=by
      have h5:2000<=l.length:=by simp at h4;omega
      have h6:(dH l k).isSome=false:=by simpa using hg
      simp only[jY,if_neg hne,h6,h5,and_self,if_true]
     simp[J6,uO,e1]
    have hok:jY l k v=0:=by
     have h5:¬ 2000<=l.length:=by simp at h4;omega
     simp only[jY,if_neg hne,h5,and_false,if_false]
   rotate_left
   focus
    have hok:jY l k v=0:=by
     have h6:(dH l k).isSome=true:=by simpa using hg
     simp[jY,hne,h6]
   all_goals
    rw[hmain hok,hok];repeat' first|refine Wz ?_|intro _
   all_goals
    refine aT 10 (Imp.nil (k:=2)) ?_;refine Q6 (fun ok w h=>h.full 157 2 none 0) ?_;refine y5 (α:=Nat × Value × (List Ent × Bool)) (fun q=>[(0,.sl 2 (l.map D5) id),(1,str k),(2,str v),(10,.sl 2 (q.2.2.1.map D5) (some q.2.1)),(11,j3 q.2.2.2),(12,int q.1)]) (fun q=>[.tail 157 2 q.2.1])
     (fun q=>q.1<=l.length/\q.2.2.1.length<=2*q.1/\(l.drop q.1).foldl (Y0 k v) q.2.2=l.foldl (Y0 k v) ([],false)) (fun q=>l.length-q.1) (0,.slice none 0 0,[],false) ⟨rfl,rfl,rfl,rfl,rfl,rfl,trivial⟩ slr ⟨Nat.zero_le _,sm,rfl⟩ ?_
    rintro⟨i,u,done,b⟩ ⟨g1,g2,g3⟩;dsimp only at g1 g2 g3 ⊢;repeat' first|refine Wz ?_|intro _
    refine o8 (fun hlt=>?_) (fun hlt=>?_)
    focus
     have hlt':i<l.length:=by simpa using hlt
     rw[List.drop_eq_getElem_cons hlt',List.foldl_cons] at g3;cases b
     focus
      repeat' first|refine Wz ?_|intro _
      refine Z5 i hlt' ?_;repeat' first|refine Wz ?_|intro _
      refine qP (fun hb=>?_) (fun hb=>?_)
      focus
       repeat' first|refine Wz ?_|intro _
       refine I1 (fun u'=>?_);repeat' first|refine Wz ?_|intro _
       refine Z5 i hlt' ?_;repeat' first|refine Wz ?_|intro _
       have hb':blt l[i].key k=false:=by simpa using hb
       refine o8 (fun hk=>?_) (fun hk=>?_)
       focus
        repeat' first|refine Wz ?_|intro _
        refine Z5 i hlt' ?_;repeat' first|refine Wz ?_|intro _
        refine I1 (fun u''=>?_);repeat' first|refine Wz ?_|intro _
        have e:Y0 k v (done,false) l[i]=(done++[(⟨k,v⟩:Ent)]++[l[i]],true):=by simp[Y0,hb',hk]
        rw[e] at g3;refine aR 10 (v':=.sl 2 ((done++[(⟨k,v⟩:Ent)]++[l[i]]).map D5) (some u'')) (Imp.of_eq ?_) ?_
        focus simp
        exact o6 (i+1,u'',done++[(⟨k,v⟩:Ent)]++[l[i]],true) ⟨rfl,rfl,rfl,rfl,rfl,rfl,trivial⟩ slr ⟨hlt',by simp;omega,g3⟩ (by simp only;omega)
       have hk':l[i].key=k:=by simpa using hk
       repeat' first|refine Wz ?_|intro _
       have e:Y0 k v (done,false) l[i]=(done++[(⟨k,v⟩:Ent)],true):=by simp[Y0,hb',if_pos hk']
       rw[e] at g3;refine aR 10 (v':=.sl 2 ((done++[(⟨k,v⟩:Ent)]).map D5) (some u')) (Imp.of_eq ?_) ?_
       focus simp
       exact o6 (i+1,u',done++[(⟨k,v⟩:Ent)],true) ⟨rfl,rfl,rfl,rfl,rfl,rfl,trivial⟩ slr ⟨hlt',by simp;omega,g3⟩ (by simp only;omega)
      repeat' first|refine Wz ?_|intro _
      refine Z5 i hlt' ?_;repeat' first|refine Wz ?_|intro _
      have hb':blt l[i].key k=true:=by simpa using hb
      refine o8 (fun hk=>?_) (fun hk=>?_)
      focus
       repeat' first|refine Wz ?_|intro _
       refine Z5 i hlt' ?_;repeat' first|refine Wz ?_|intro _
       refine I1 (fun u''=>?_);repeat' first|refine Wz ?_|intro _
       have e:Y0 k v (done,false) l[i]=(done++[l[i]],false):=by simp[Y0,hb',hk]
       rw[e] at g3;refine aR 10 (v':=.sl 2 ((done++[l[i]]).map D5) (some u'')) (Imp.of_eq ?_) ?_
       focus simp
       exact o6 (i+1,u'',done++[l[i]],false) ⟨rfl,rfl,rfl,rfl,rfl,rfl,trivial⟩ slr ⟨hlt',by simp;omega,g3⟩ (by simp only;omega)
      have hk':l[i].key=k:=by simpa using hk
      repeat' first|refine Wz ?_|intro _
      have e:Y0 k v (done,false) l[i]=(done,false):=by simp[Y0,hb',if_pos hk']
      rw[e] at g3;exact o6 (i+1,u,done,false) ⟨rfl,rfl,rfl,rfl,rfl,rfl,trivial⟩ slr ⟨hlt',by simp;omega,g3⟩ (by simp only;omega)
     repeat' first|refine Wz ?_|intro _
     refine Z5 i hlt' ?_;repeat' first|refine Wz ?_|intro _
     refine o8 (fun hk=>?_) (fun hk=>?_)
     focus
      repeat' first|refine Wz ?_|intro _
      refine Z5 i hlt' ?_;repeat' first|refine Wz ?_|intro _
      refine I1 (fun u''=>?_);repeat' first|refine Wz ?_|intro _
      have e:Y0 k v (done,true) l[i]=(done++[l[i]],true):=by simp[Y0,hk]
      rw[e] at g3;refine aR 10 (v':=.sl 2 ((done++[l[i]]).map D5) (some u'')) (Imp.of_eq ?_) ?_
      focus simp
      exact o6 (i+1,u'',done++[l[i]],true) ⟨rfl,rfl,rfl,rfl,rfl,rfl,trivial⟩ slr ⟨hlt',by simp;omega,g3⟩ (by simp only;omega)
     have hk':l[i].key=k:=by simpa using hk
     repeat' first|refine Wz ?_|intro _
     have e:Y0 k v (done,true) l[i]=(done,true):=by simp[Y0,hk']
     rw[e] at g3;exact o6 (i+1,u,done,true) ⟨rfl,rfl,rfl,rfl,rfl,rfl,trivial⟩ slr ⟨hlt',by simp;omega,g3⟩ (by simp only;omega)
    rw[List.drop_of_length_le (by simpa using hlt),List.foldl_nil] at g3;cases b
    focus
     repeat' first|refine Wz ?_|intro _
     refine I1 (fun u''=>?_);repeat' first|refine Wz ?_|intro _
     refine aR 6 Imp.sl ?_;refine d9 ?_;have e:rO l k v=done++[(⟨k,v⟩:Ent)]:=by simp[rO,<- g3]
     rw[e];simp[J6]
    repeat' first|refine Wz ?_|intro _
    refine aR 6 Imp.sl ?_;refine d9 ?_;have e:rO l k v=done:=by simp[rO,<- g3]
    rw[e];rfl⟩

def nO (d:List Ent)(x:Ent):List Ent:=if jY d x.key x.val=0 then rO d x.key x.val else d
def PO (l:List Ent):List Ent:=l.foldl nO []
def xP (a:List Ent × Bool):Nat:=a.1.length+(if a.2=true then 0 else 1)
theorem Qy (k v:Bs)(a:List Ent × Bool)(x:Ent):xP (Y0 k v a x)<=xP a+1:=by
 obtain⟨d,b⟩:=a;unfold Y0 xP;cases b <;> by_cases h1:blt x.key k=false <;> by_cases h2:x.key=k <;> simp[h1,h2] <;> (try split) <;> simp <;> omega
theorem Fx (k v:Bs):∀ (l:List Ent) (a:List Ent × Bool),xP (l.foldl (Y0 k v) a)<=xP a+l.length
 | [],a=>by simp
 | x::l,a=>by
  rw[List.foldl_cons];have h1:=Fx k v l (Y0 k v a x);have h2:=Qy k v a x;simp only[List.length_cons];omega
theorem Wh (l:List Ent)(k v:Bs):(rO l k v).length<=l.length+1:=by
 have h:=Fx k v l ([],false);have h2:xP ([],false)=1:=rfl;unfold rO;unfold xP at h h2;dsimp only;split
 ·rename_i h3;rw[if_pos h3] at h;simp at h h2;omega
 ·rename_i h3;rw[if_neg h3] at h;simp at h h2 ⊢;omega
theorem Uy (d:List Ent)(x:Ent):(nO d x).length<=d.length+1:=by
 unfold nO;split
 ·exact Wh _ _ _
 ·omega
instance b2u {l:List Ent}{xs:List AV}{id:Option Value}[hx:Ents xs l]:Ans prog GL 58 [.sl 2 xs id] (l.length<=1000000) (.sl 2 ((PO l).map D5) none):=⟨fun hl=>by
 have h:=hx.out;subst h;refine qF func58 ntmps58 fun _ hs=>?_;repeat' first|refine Wz ?_|intro _
 refine aT 3 (Imp.nilN (k:=2)) ?_;refine y5 (α:=Nat × List Ent) (fun q=>[(0,.sl 2 (l.map D5) id),(3,.sl 2 (q.2.map D5) none),(4,int q.1)]) (fun _=>[]) (fun q=>q.1<=l.length/\q.2.length<=q.1/\(l.drop q.1).foldl nO q.2=PO l) (fun q=>l.length-q.1) (0,[]) ⟨rfl,rfl,rfl,trivial⟩ slr ⟨Nat.zero_le _,sm,rfl⟩ ?_;rintro⟨i,d⟩ ⟨g1,g2,g3⟩;dsimp only at g1 g2 g3 ⊢;repeat' first|refine Wz ?_|intro _
 refine o8 (fun hlt=>?_) (fun hlt=>?_)
 ·have hlt':i<l.length:=by simpa using hlt
  rw[List.drop_eq_getElem_cons hlt',List.foldl_cons] at g3;have hpl:=Uy d l[i];repeat' first|refine Wz ?_|intro _
  apply x8 [];exact rfl;exact rfl;kernel_rfl;intro _ _;refine Z5 i hlt' ?_;exact j4 (o9 rfl rfl);repeat' first|refine Wz ?_|intro _
  apply x8 [];exact rfl;exact rfl;kernel_rfl;intro _ _;refine Z5 i hlt' ?_;exact j4 (o9 rfl rfl);repeat' first|refine Wz ?_|intro _
  refine o8 (fun h0=>?_) (fun h0=>?_)
  ·have e1:uO d l[i].key l[i].val=.sl 2 ((nO d l[i]).map D5) none:=by simp[uO,nO,h0]
   rw[e1];repeat' first|refine Wz ?_|intro _
   exact o6 (i+1,nO d l[i]) ⟨rfl,rfl,rfl,trivial⟩ slr ⟨hlt',by simp only;omega,g3⟩ (by simp only;omega)
  ·have e1:nO d l[i]=d:=by simp[nO,h0]
   rw[e1] at g3;repeat' first|refine Wz ?_|intro _
   exact o6 (i+1,d) ⟨rfl,rfl,rfl,trivial⟩ slr ⟨hlt',by simp only;omega,g3⟩ (by simp only;omega)
 ·repeat' first|refine Wz ?_|intro _
  refine d9 ?_;rw[List.drop_of_length_le (by simpa using hlt)] at g3;rw[<- g3];rfl⟩
end Go.Proofs.YtjhnaegpchadiaaGreatDoor
