/- . -/
import Derived.Test.YtgcmdlboancepaaGreatDoorQ18
namespace Go.Proofs.Z
open Go Go.RowKit Tw Av Go.Proofs.Tryz
theorem Rw {α:Type}{xs:List α}{i n j:Nat}{w z:List α}(hn:xs.length=n+1)(hi:i<=n)(hj:j=n)(hw:w=xs.drop (i+1))(_:z.length=1):(over (over xs i w) j z).take n=xs.take i++xs.drop (i+1):=by
 subst hj hw;obtain⟨a,b,rfl,rfl⟩:∃ a b,xs=a++b/\a.length=i:=⟨xs.take i,xs.drop i,(List.take_append_drop _ _).symm,by simp;omega⟩;cases b with
 | nil=>simp at hn;omega
 | cons y b=>
  simp only[List.length_append,List.length_cons] at hn;have e0:(a++y::b).drop (a.length+1)=b:=by
   rw[show a++y::b=(a++[y])++b by simp,show a.length+1=(a++[y]).length by simp,List.drop_left]
  rw[e0,List.take_left];have e1:((over (a++y::b) a.length b)).take j=a++b:=by
   unfold over;rw[List.take_left,List.take_left' (by simp;omega)]
  have e2:over (over (a++y::b) a.length b) j z=(a++b)++z++(over (a++y::b) a.length b).drop (j+z.length):=by
   rw[<- e1];rfl
  rw[e2,List.append_assoc,List.take_left' (by simp;omega)]
theorem a7t {g n c i:Nat}{xs:List AV}(hn:xs.length=n+1)(hc:n+1<=c)(hi:i<=n)(hb:n<=1073741824):Av.Spec prog GL 381 [.lit (.slice (some ⟨g,0,none⟩) (n+1) c),int i,int (i+1:Nat)] [.buf g 187 2 xs c] (OwnK 187 2 (xs.take i++xs.drop (i+1))):=by
 have hl:(xs.take i++xs.drop (i+1)).length=n:=by simp;omega
 have hend:∀ {xs':List AV},xs'=xs.take i++xs.drop (i+1)->OwnK 187 2 (xs.take i++xs.drop (i+1)) (.lit (.slice (some ⟨g,0,none⟩) n c)) [.buf g 187 2 xs' c]:=λh=>.inr ⟨g,c,by rw[hl],by rw[h],om⟩;refine ze func381 ntmps381 λ_ hs=>?_;repeat' first|refine Wz ?_|intro
 refine a8P i (i+1) (n+1) ?_;repeat' first|refine Wz ?_|intro
 refine w9 (λh=>?_) (λ_=>?_)
 ·omega
 repeat' first|refine Wz ?_|intro
 apply zf [];exact zi;intro _ _;refine gQ 0 i ?_;exact j3 (p9 rfl rfl);repeat' first|refine Wz ?_|intro
 by_cases hcc:c=i+1
 ·have hin:i=n:=om
  subst hin hcc;apply zf [];exact zi;intro _ _;refine GZ (i+1) (i+1) ?_;rw[if_pos rfl];exact j3 (p9 rfl rfl);apply jV [0];exact rfl;exact rfl;kernel_rfl;intro _ _;refine Xe (i:=i) (c:=i+1) (j2:=0) ?_;exact j3 (p9 rfl rfl);exact rfl;exact rfl;repeat' first|refine Wz ?_|intro
  refine gQ i (i+1) ?_;refine Wu (j:=i) ?_;refine Vw i ?_;repeat' first|refine Wz ?_|intro
  refine l9 [.buf g 187 2 _ (i+1)] ?_ slr;simp only[D8];rw[show i+(i+1-(i+1))=i by omega];exact hend (Rw hn hi rfl (by rw[show i+1-(i+1)=0 by omega,List.drop_of_length_le (i:=i+1) om,List.take_zero]) sm)
 apply zf [];exact zi;intro _ _;refine gQ (i+1) (n+1) ?_;exact j3 (p9 rfl rfl);apply jV [0];exact rfl;exact rfl;kernel_rfl;intro _ _;refine Xe (i:=i) (c:=c) (j2:=i+1) ?_;exact j3 (p9 rfl rfl);exact rfl;exact rfl;repeat' first|refine Wz ?_|intro
 refine gQ n (n+1) ?_;refine Wu (j:=n) ?_;refine Vw n ?_;repeat' first|refine Wz ?_|intro
 refine l9 [.buf g 187 2 _ c] ?_ slr;simp only[D8];rw[show i+(n+1-(i+1))=n by omega];exact hend (Rw hn hi rfl (List.take_of_length_le (by simp;omega)) sm)
theorem a7u {g c i:Nat}{xs:List AV}(hi:i<xs.length)(hc:xs.length<=c)(hb:xs.length<=1073741824):Av.Spec prog GL 381 [.lit (.slice (some ⟨g,0,none⟩) xs.length c),int i,int (i+1:Int)] [.buf g 187 2 xs c] (OwnK 187 2 (xs.take i++xs.drop (i+1))):=by
 obtain⟨n,hn⟩:∃ n,xs.length=n+1:=⟨xs.length-1,om⟩;rw[hn] at hc hi hb ⊢;exact a7t hn hc om om

def tO (a b:Bs):Int:=Extern.BytealgCompare.cmp ⟨a.toArray⟩ ⟨b.toArray⟩
theorem a0X (a b:Bs)(w:World):(Extern.BytealgCompare.compare #[sv a,sv b]).run prog w=.ok (.int .i64 (tO a b)) w:=by
 rfl
instance c1e {a b:Bs}:Ans prog GL 350 [str a,str b] True (int (tO a b)):=⟨λ_=>by
 refine ze func350 ntmps350 λ_ hs=>?_;repeat' first|refine Wz ?_|intro
 apply DY (v:=int (tO a b)) func405;kernel_rfl;exact rfl;kernel_rfl;kernel_rfl;exact rfl;exact rfl;exact rfl
 ·rintro ok w cs _ ⟨u1,us,rfl,h1,u2,us2,rfl,h2,rfl⟩;rw[RV0.lit h1,RV0.lit h2];exact⟨_,a0X a b _,RVl rfl⟩
 exact aP⟩
instance c0S {a b:Bs}:Ans prog GL 271 [str a,str b] True (int (tO a b)):=⟨λ_=>by
 refine ze func271 ntmps271 λ_ hs=>?_;exact aP⟩
instance c0D {x y k:Bs}:Ans prog GL 270 [.agg 2 [str x,str y],str k] True (int (tO x k)):=⟨λ_=>by
 refine ze func270 ntmps270 λ_ hs=>?_;exact aP⟩
def vV (l:List Ent)(k:Bs):Nat->Nat->Nat->Nat
 | 0,i,_=>i
 | f+1,i,j=>if i<j then
   (let h:=(i+j) / 2
   if tO ((l.getD h ⟨[],[]⟩).key) k<0 then vV l k f (h+1) j else vV l k f i h)
  else i
def G6 (l:List Ent)(k:Bs):Nat:=vV l k l.length 0 l.length
def K5 (l:List Ent)(k:Bs):Bool:=decide (G6 l k<l.length)&&decide (tO ((l.getD (G6 l k) ⟨[],[]⟩).key) k=0)
instance c1y {l:List Ent}{k:Bs}{xs:List AV}{id:Option Value}[hx:Ents xs l]:Ans prog GL 269 [.sl 2 xs id,str k,E5 270 []] (l.length<4611686018427387904) (.tup [int (G6 l k),d9 (K5 l k)]):=⟨λhmx=>by
 have h:=hx.out;subst h;refine ze func269 ntmps269 λ_ hs=>?_;repeat' first|refine Wz ?_|intro
 refine y9 (α:=Nat × Nat × Nat) (λq=>[(0,.sl 2 (l.map D5) id),(1,str k),(2,E5 270 []),(8,int (l.map D5).length),(9,int q.1),(10,int q.2.1)]) (λ_=>[])
  (λq=>q.1<=q.2.1/\q.2.1<=l.length/\q.2.1-q.1<=q.2.2/\vV l k q.2.2 q.1 q.2.1=G6 l k) (λq=>q.2.2) (0,(l.map D5).length,l.length) zc slr ⟨Nat.zero_le _,sm,sm,by simp[G6]⟩ ?_
 rintro⟨i,j,f⟩ ⟨g1,g2,g3,g4⟩;dsimp only at g1 g2 g3 g4 ⊢;repeat' first|refine Wz ?_|intro
 refine w9 (λhlt=>?_) (λhlt=>?_)
 ·repeat' first|refine Wz ?_|intro
  have hw:IntKind.i64.wrap (((i:Int)+(j:Int)) / ((2 ^ 1:Nat):Int))=(((i+j) / 2:Nat):Int):=by rw[IntKind.wrap_i64];omega
  rw[hw];obtain⟨f,rfl⟩:∃ f',f=f'+1:=⟨f-1,om⟩;rw[vV,if_pos om] at g4;generalize hh:(i+j) / 2=h at *;have hlt':h<l.length:=by omega
  have hgd:l.getD h ⟨[],[]⟩=l[h]:=by simp[List.getD,hlt']
  simp only[hgd] at g4;refine Y2 h hlt' ?_;repeat' first|refine Wz ?_|intro
  refine w9 (λhc=>?_) (λhc=>?_)
  ·rw[if_pos hc] at g4;repeat' first|refine Wz ?_|intro
   refine o9 (h+1,j,f) zc slr ⟨by simp only;omega,g2,by simp only;omega,g4⟩ (by simp only;omega)
  rw[if_neg hc] at g4;repeat' first|refine Wz ?_|intro
  refine o9 (i,h,f) zc slr ⟨by simp only;omega,by simp only;omega,by simp only;omega,g4⟩ (by simp only;omega)
 have g5:G6 l k=i:=by
  rw[<- g4];cases f with
  | zero=>rfl
  | succ f=>rw[vV,if_neg om]
 repeat' first|refine Wz ?_|intro
 refine X0 (λhn=>?_) (λhn=>?_)
 ·have hlt':i<l.length:=by simpa using hn
  repeat' first|refine Wz ?_|intro
  refine Y2 i hlt' ?_;repeat' first|refine Wz ?_|intro
  refine j6 ?_;have hgd:l.getD i ⟨[],[]⟩=l[i]:=by simp[List.getD,hlt']
  simp[K5,g5,hlt',D8]
 have hlt':¬ i<l.length:=by simpa using hn
 repeat' first|refine Wz ?_|intro
 refine j6 ?_;simp[K5,g5,hlt',D8]⟩
instance c0E {l:List Ent}{k:Bs}{xs:List AV}{id:Option Value}[hx:Ents xs l]:Ans prog GL 174 [.agg 1 [.sl 2 xs id],str k] (l.length<4611686018427387904) (.tup [int (G6 l k),d9 (K5 l k)]):=⟨λhl=>by
 have h:=hx.out;subst h;refine ze func174 ntmps174 λ_ hs=>?_;exact aP⟩

section
variable {k:Bs}{l:List Ent}{xs:List AV}
abbrev dA (l:List Ent):AV:=.agg 1 [.sl 2 (l.map D5) none]
def M6 (l:List Ent)(k v:Bs):Int:=if 400<k.length\/4000<v.length then 11 else if K5 l k=true then 0 else if 2000<=l.length then 15 else 0
def jK (l:List Ent)(k v:Bs):List Ent:=if K5 l k=true then l.set (G6 l k) ⟨(l.getD (G6 l k) ⟨[],[]⟩).key,v⟩ else l.take (G6 l k)++⟨k,v⟩::l.drop (G6 l k)
def tY (l:List Ent)(k v:Bs):AV:=if M6 l k v=0 then dA (jK l k v) else .agg 1 [J2]
theorem Ad (l:List Ent)(k:Bs):∀ f i j,i<=j->vV l k f i j<=j
 | 0,i,j,h=>h
 | f+1,i,j,h=>by
  unfold vV;split
  ·dsimp only;split
   ·exact Ad l k f _ _ om
   exact Nat.le_trans (Ad l k f _ _ om) om
  exact h
theorem LK (l:List Ent)(k:Bs):G6 l k<=l.length:=Ad l k _ _ _ (Nat.zero_le _)
theorem Ac (h:K5 l k=true):G6 l k<l.length:=by
 unfold K5 at h;simp at h;exact h.1
instance a5X {v:Bs}{id:Option Value}[hx:Ents xs l]:Ans prog GL 138 [.agg 1 [.sl 2 xs id],str k,str v] (l.length<=1073741823) (.tup [tY l k v,int (M6 l k v)]):=⟨λhl=>by
 have h:=hx.out;subst h;have hat:=LK l k;refine ze func138 ntmps138 λ_ hs=>?_;repeat' first|refine Wz ?_|intro
 refine X0 (λh1=>?_) (λh1=>?_)
 ·repeat' first|refine Wz ?_|intro
  refine j6 ?_;have hh:400<k.length:=by omega
  have:M6 l k v=11:=by simp[M6,hh]
  simp[D8,tY,this]
 repeat' first|refine Wz ?_|intro
 refine w9 (λh2=>?_) (λh2=>?_)
 ·repeat' first|refine Wz ?_|intro
  refine j6 ?_;have hh:4000<v.length:=by omega
  have:M6 l k v=11:=by simp[M6,hh]
  simp[D8,tY,this]
 repeat' first|refine Wz ?_|intro
 have hne:¬ (400<k.length\/4000<v.length):=om
 refine H6 [] _ (by rw[hs];exact ZL (xs:=l.map D5) (id:=id) (by rw[llm];omega)) (λc m1 hh=>?_) lpr;rcases hh with⟨hnil,rfl,rfl⟩|⟨g,cap,rfl,rfl,hcap⟩
 ·obtain rfl:l=[]:=by simpa using hnil
  repeat' (first|refine eP ?_|refine K3 ?_|refine nO ?_|refine GM hs ?_|refine D6 (λ_=>?_)|intro _)
  refine Wy (λgv=>?_);refine H6 [.buf gv 187 2 [D5 ⟨k,v⟩] 1] _ (by rw[hs];exact a4v) (λc m1 hh=>?_) lpr;rcases hh with⟨hnil,rfl,rfl⟩|⟨g,cap,rfl,rfl,hcap⟩
  ·simp at hnil
  refine vZ 35 ?_;refine dF 35 Imp.sl ?_;repeat' first|refine Wz ?_|intro
  refine j6 ?_;have e0:K5 [] k=false:=rfl;have e1:M6 [] k v=0:=by simp[M6,hne,e0]
  have e2:[D5 ⟨k,v⟩]=(jK [] k v).map D5:=by simp[jK,e0]
  simp only[D8,tY,e1,if_true,e2]
 repeat' (first|refine eP ?_|refine K3 ?_|refine nO ?_|refine GM hs ?_|refine D6 (λ_=>?_)|intro _)
 refine nA (λh3=>?_) (λh3=>?_)
 ·repeat' first|refine Wz ?_|intro
  have hlt:=Ac h3;have hgd:l.getD (G6 l k) ⟨[],[]⟩=l[G6 l k]:=by simp[List.getD,hlt]
  refine BB (G6 l k) ?_;repeat' first|refine Wz ?_|intro
  refine RJ (y:=D5 l[G6 l k]) (y':=D5 ⟨l[G6 l k].key,v⟩) ?_ ?_
  ·simp[hlt]
  refine vZ 10 ?_;refine dF 10 Imp.sl ?_;repeat' first|refine Wz ?_|intro
  refine j6 ?_;have e1:M6 l k v=0:=by simp[M6,hne,h3]
  have e2:(l.map D5).set (G6 l k) (D5 ⟨l[G6 l k].key,v⟩)=(jK l k v).map D5:=by rw[jK,if_pos h3,hgd,List.map_set]
  simp only[D8,tY,e1,if_true,e2]
 repeat' (first|refine eP ?_|refine K3 ?_|refine nO ?_|refine GM hs ?_|refine D6 (λ_=>?_)|intro _)
 refine w9 (λh4=>?_) (λh4=>?_)
 ·repeat' first|refine Wz ?_|intro
  refine j6 ?_;have e1:M6 l k v=15:=by
   have:2000<=l.length:=by simp at h4;omega
   simp[M6,hne,h3,this]
  simp[D8,tY,e1]
 repeat' (first|refine eP ?_|refine K3 ?_|refine nO ?_|refine GM hs ?_|refine D6 (λ_=>?_)|intro _)
 refine Wy (λgv=>?_);refine H6 [.buf g 187 2 (l.map D5) cap,.buf gv 187 2 [D5 ⟨k,v⟩] 1] _ (by rw[hs];exact a4u rfl hcap (by simpa using hat) (by rw[List.length_map];omega)) (λc m1 hh=>?_) (List.Perm.swap _ _ _);rcases hh with⟨hnil,rfl,rfl⟩|⟨g,cap,rfl,rfl,hcap⟩
 ·simp at hnil
 refine vZ 35 ?_;refine dF 35 Imp.sl ?_;repeat' first|refine Wz ?_|intro
 refine j6 ?_;have e1:M6 l k v=0:=by
  have:¬ 2000<=l.length:=by simp at h4;omega
  simp[M6,hne,h3,this]
 have e2:(l.map D5).take (G6 l k)++D5 ⟨k,v⟩::(l.map D5).drop (G6 l k)=(jK l k v).map D5:=by simp[jK,h3,List.map_take,List.map_drop]
 simp only[D8,tY,e1,if_true,e2]⟩
instance a6c {id:Option Value}[hx:Ents xs l]:Ans prog GL 83 [.agg 1 [.sl 2 xs id],str k] (l.length<=1073741823) (.tup [str (if K5 l k=true then (l.getD (G6 l k) ⟨[],[]⟩).val else []),d9 (K5 l k)]):=⟨λhl=>by
 have h:=hx.out;subst h;have hat:=LK l k;refine ze func83 ntmps83 λ_ hs=>?_;repeat' first|refine Wz ?_|intro
 refine nA (λh3=>?_) (λh3=>?_)
 ·repeat' first|refine Wz ?_|intro
  refine j6 ?_;have h4:K5 l k=false:=by simpa using h3
  simp[D8,h4]
 have h3:K5 l k=true:=by simpa using h3
 repeat' first|refine Wz ?_|intro
 have hlt:=Ac h3;have hgd:l.getD (G6 l k) ⟨[],[]⟩=l[G6 l k]:=by simp[List.getD,hlt]
 refine Y2 (G6 l k) hlt ?_;repeat' first|refine Wz ?_|intro
 refine j6 ?_;simp only[D8,h3,if_true,hgd]⟩
instance a6i [hx:Ents xs l]:Ans prog GL 320 [.agg 1 [.sl 2 xs none],str k] (l.length<=1073741823) (.tup [dA (if K5 l k=true then l.take (G6 l k)++l.drop (G6 l k+1) else l),d9 (K5 l k)]):=⟨λhl=>by
 have h:=hx.out;subst h;have hat:=LK l k;refine ze func320 ntmps320 λ_ hs=>?_;repeat' first|refine Wz ?_|intro
 refine nA (λh3=>?_) (λh3=>?_)
 ·repeat' first|refine Wz ?_|intro
  refine j6 ?_;have h4:K5 l k=false:=by simpa using h3
  simp[D8,h4]
 have h3:K5 l k=true:=by simpa using h3
 repeat' first|refine Wz ?_|intro
 have hlt:=Ac h3;refine H6 [] _ (by rw[hs];exact ZL (xs:=l.map D5) (id:=none) (by rw[llm];omega)) (λc m1 hh=>?_) lpr;rcases hh with⟨hnil,rfl,rfl⟩|⟨g,cap,rfl,rfl,hcap⟩
 ·have:l=[]:=by simpa using hnil
  simp[this] at hlt
 repeat' first|refine Wz ?_|intro
 refine H6 [.buf g 187 2 (l.map D5) cap] _ (by rw[hs];exact a7u (xs:=l.map D5) (i:=G6 l k) (c:=cap) (by simpa using hlt) hcap (by rw[List.length_map];omega)) (λc m1 hh=>?_) lpr;have e2:(l.map D5).take (G6 l k)++(l.map D5).drop (G6 l k+1)=(l.take (G6 l k)++l.drop (G6 l k+1)).map D5:=by simp[List.map_take,List.map_drop]
 rw[e2] at hh;rcases hh with⟨hnil,rfl,rfl⟩|⟨g,cap,rfl,rfl,hcap⟩
 ·refine dF 23 (Imp.nilN (k:=2)) ?_;repeat' first|refine Wz ?_|intro
  refine j6 ?_;simp only[D8,h3,if_true,dA,hnil]
 refine vZ 23 ?_;refine dF 23 Imp.sl ?_;repeat' first|refine Wz ?_|intro
 refine j6 ?_;simp only[D8,h3,if_true]⟩
instance b9I {id:Option Value}[hx:Ents xs l]:Ans prog GL 177 [.agg 1 [.sl 2 xs id]] True (int l.length):=⟨λ_=>by
 have h:=hx.out;subst h;refine ze func177 ntmps177 λ_ hs=>?_;repeat' first|refine Wz ?_|intro
 refine j6 ?_;simp[D8]⟩
instance c9Z {i:Int}{id:Option Value}[hx:Ents xs l]:Ans prog GL 178 [.agg 1 [.sl 2 xs id],int i] True (D5 (if i<0 then ⟨[],[]⟩ else l.getD i.toNat ⟨[],[]⟩)):=⟨λ_=>by
 have h:=hx.out;subst h;refine ze func178 ntmps178 λ_ hs=>?_;repeat' first|refine Wz ?_|intro
 refine X0 (λh1=>?_) (λh1=>?_)
 ·repeat' first|refine Wz ?_|intro
  refine j6 ?_;rw[if_pos h1];rfl
 repeat' first|refine Wz ?_|intro
 refine w9 (λh2=>?_) (λh2=>?_)
 ·repeat' first|refine Wz ?_|intro
  refine j6 ?_;have:l.length<=i.toNat:=by simp at h2;omega
  rw[if_neg h1];simp[D8,List.getD,List.getElem?_eq_none this]
 repeat' first|refine Wz ?_|intro
 have hlt:i.toNat<l.length:=by simp at h2;omega
 refine Y2 i.toNat hlt ?_;repeat' first|refine Wz ?_|intro
 refine j6 ?_;rw[if_neg h1];simp[D8,List.getD,hlt]⟩
instance d0a {id:Option Value}[hx:Ents xs l]:Ans prog GL 43 [.agg 1 [.sl 2 xs id]] (l.length<=1073741823) (.sl 2 (l.map D5) none):=⟨λhl=>by
 have h:=hx.out;subst h;refine ze func43 ntmps43 λ_ hs=>?_;repeat' first|refine Wz ?_|intro
 refine H6 [] _ (by rw[hs];exact ZL (xs:=l.map D5) (id:=id) (by rw[llm];omega)) (λc m1 hh=>?_) lpr;rcases hh with⟨hnil,rfl,rfl⟩|⟨g,cap,rfl,rfl,hcap⟩
 ·obtain rfl:l=[]:=by simpa using hnil
  refine dF 5 (Imp.nilN (k:=2)) ?_;exact aP
 refine vZ 5 ?_;refine dF 5 Imp.sl ?_;exact aP⟩
end

def bJ (d:List Ent)(x:Ent):List Ent:=if M6 d x.key x.val=0 then jK d x.key x.val else d
def dO (l:List Ent):List Ent:=l.foldl bJ []
theorem Ir {d:List Ent}{x:Ent}(h:d.length<=2000):(bJ d x).length<=2000:=by
 have hat:=LK d x.key;unfold bJ M6 jK;by_cases h1:400<x.key.length\/4000<x.val.length
 ·simpa[h1] using h
 by_cases h2:K5 d x.key=true
 ·simpa[h1,h2] using h
 by_cases h3:2000<=d.length
 ·simpa[h1,h2,h3] using h
 simp[h1,h2,h3];omega
instance c0O {l:List Ent}{xs:List AV}{id:Option Value}[hx:Ents xs l]:Ans prog GL 60 [.sl 2 xs id] (l.length<=1073741823) (dA (dO l)):=⟨λhl=>by
 have h:=hx.out;subst h;refine ze func60 ntmps60 λ_ hs=>?_;repeat' first|refine Wz ?_|intro
 rename_i g2 g3;refine dY (g:=g3) (v':=dA []) (ImpC.agg1 ImpC.nil) ?_;refine y9 (α:=Nat × List Ent) (λq=>[(2,ptr g2),(3,ptr g3),(8,.sl 2 (l.map D5) id),(9,int (l.map D5).length),(10,int q.1)]) (λq=>[.var g3 64 (dA q.2),.var g2 64 (.agg 1 [J2])])
  (λq=>q.1<=l.length/\q.2.length<=2000/\(l.drop q.1).foldl bJ q.2=dO l) (λq=>l.length-q.1) (0,[]) zc slr ⟨Nat.zero_le _,sm,rfl⟩ ?_
 rintro⟨i,d⟩ ⟨g1,g2',g4⟩;dsimp only at g1 g2' g4 ⊢;repeat' first|refine Wz ?_|intro
 refine w9 (λhlt=>?_) (λhlt=>?_)
 ·have hlt':i<l.length:=by simpa using hlt
  repeat' first|refine Wz ?_|intro
  refine Y2 i hlt' ?_;repeat' first|refine Wz ?_|intro
  have hst:(l.drop i).foldl bJ d=(l.drop (i+1)).foldl bJ (bJ d l[i]):=by rw[List.drop_eq_getElem_cons hlt'];rfl
  rw[hst] at g4;by_cases h0:M6 d l[i].key l[i].val=0
  ·have e1:tY d l[i].key l[i].val=dA (bJ d l[i]):=by simp[tY,bJ,h0]
   rw[e1,h0];repeat' first|refine Wz ?_|intro
   refine o9 (i+1,bJ d l[i]) zc ?_ ⟨hlt',Ir g2',g4⟩ (by simp only;omega);exact u7
  have e1:tY d l[i].key l[i].val=.agg 1 [J2]:=by simp[tY,h0]
  have e2:bJ d l[i]=d:=by simp[bJ,h0]
  rw[e2] at g4;rw[e1];repeat' first|refine Wz ?_|intro
  refine w9 (λh=>absurd h h0) (λ_=>?_);repeat' first|refine Wz ?_|intro
  refine o9 (i+1,d) zc ?_ ⟨hlt',g2',g4⟩ (by simp only;omega);exact u7
 repeat' first|refine Wz ?_|intro
 refine j6 ?_;rw[List.drop_of_length_le (by simpa using hlt)] at g4;simp only[List.foldl_nil] at g4;rw[g4];rfl⟩

def U3 (x:Ent):Hsh:=uA [[76],r9 107 x.key,r9 118 x.val]
def oV (a b:Hsh):Hsh:=uA [[78],a.l,b.l]
def xE (n:Int)(h:Hsh):Hsh:=uA [[84],D7 110 n,h.l]
instance b9K {a b:Bs}:Ans prog GL 390 [.agg 2 [str a,str b]] True (hA (U3 ⟨a,b⟩)):=⟨λ_=>by
 refine ze func390 ntmps390 λ_ hs=>?_;exact aP⟩
instance b9z {a b:Hsh}:Ans prog GL 388 [hA a,hA b] True (hA (oV a b)):=⟨λ_=>by
 refine ze func388 ntmps388 λ_ hs=>?_;exact aP⟩
instance b6p {n:Int}{h:Hsh}:Ans prog GL 330 [int n,hA h] (n<=9223372036854775807) (hA (xE n h)):=⟨λhn=>by
 refine ze func330 ntmps330 λ_ hs=>?_;exact aP⟩

instance c0v {n:Int}:Ans prog GL 387 [int n] (0<=n/\n<4611686018427387904) (int ((n+1) / 2)):=⟨λhn=>by
 refine ze func387 ntmps387 λ_ hs=>?_;exact aP⟩
abbrev WayStep:=Bool × Nat × Nat
abbrev uQ (t:WayStep):AV:=.agg 3 [d9 t.1,int t.2.1,int t.2.2]
def xD:Nat->Nat->Nat->List WayStep
 | 0,_,_=>[]
 | f+1,n,i=>if n<=1 then [] else
  (decide (i<(n+1) / 2),(n+1) / 2,n-(n+1) / 2)::(if i<(n+1) / 2 then xD f ((n+1) / 2) i else xD f (n-(n+1) / 2) (i-(n+1) / 2))
def turns (n i:Nat):List WayStep:=xD n n i
theorem NB:∀ (f f' n i:Nat),n<=f->n<=f'->xD f n i=xD f' n i
 | 0,0,_,_,_,_=>rfl
 | 0,f'+1,n,i,h,_=>by
  have:n=0:=by omega
  subst this;rfl
 | f+1,0,n,i,_,h=>by
  have:n=0:=by omega
  subst this;rfl
 | f+1,f'+1,n,i,h,h'=>by
  unfold xD;split
  ·rfl
  rw[NB f f' _ i om om,NB f f' _ (i-(n+1) / 2) om om]
theorem NA (n i:Nat)(h:1<n):turns n i=(decide (i<(n+1) / 2),(n+1) / 2,n-(n+1) / 2)::(if i<(n+1) / 2 then turns ((n+1) / 2) i else turns (n-(n+1) / 2) (i-(n+1) / 2)):=by
 obtain⟨f,rfl⟩:∃ f,n=f+1:=⟨n-1,om⟩;unfold turns;rw[xD,if_neg om,NB f _ _ i om (Nat.le_refl _),NB f _ _ (i-(f+1+1) / 2) om (Nat.le_refl _)]
theorem IW (i:Nat):turns 1 i=[]:=rfl
def S9 (n i:Int):List WayStep:=if i<0\/n<=i\/2000<n then [] else turns n.toNat i.toNat
instance b6m {n i:Int}:Ans prog GL 351 [int n,int i] True (.sl 3 ((S9 n i).map uQ) none):=⟨λ_=>by
 refine ze func351 ntmps351 λ_ hs=>?_;repeat' first|refine Wz ?_|intro
 refine X0 (λh1=>?_) (λh1=>?_)
 ·repeat' first|refine Wz ?_|intro
  refine X4 4 (Imp.nilN (k:=3)) ?_;refine j6 ?_;simp[D8,S9,h1]
 repeat' first|refine Wz ?_|intro
 refine X0 (λh2=>?_) (λh2=>?_)
 ·repeat' first|refine Wz ?_|intro
  refine X4 4 (Imp.nilN (k:=3)) ?_;refine j6 ?_;simp[D8,S9,h2]
 repeat' first|refine Wz ?_|intro
 refine w9 (λh3=>?_) (λh3=>?_)
 ·repeat' first|refine Wz ?_|intro
  refine X4 4 (Imp.nilN (k:=3)) ?_;refine j6 ?_;simp[D8,S9,h3]
 repeat' first|refine Wz ?_|intro
 obtain⟨N,rfl⟩:∃ N:Nat,n=N:=⟨n.toNat,om⟩;obtain⟨I,rfl⟩:∃ I:Nat,i=I:=⟨i.toNat,om⟩;have hway:S9 N I=turns N I:=by simp[S9,h1,h2,h3]
 refine Y4 5 (Imp.nil (k:=3)) ?_;refine P6 (λok w h=>h.full 400 3 none 0) ?_;refine y9 (α:=Nat × Nat × Value × List WayStep) (λq=>[(0,int q.1),(1,int q.2.1),(5,.sl 3 (q.2.2.2.map uQ) (some q.2.2.1))]) (λq=>[.tail 400 3 q.2.2.1])
  (λq=>q.2.1<q.1/\q.2.2.2.length+q.1<=2001/\q.2.2.2++turns q.1 q.2.1=turns N I) (λq=>q.1) (N,I,.slice none 0 0,[]) zc slr ⟨by simp only;omega,by simp only[List.length_nil];omega,rfl⟩ ?_
 rintro⟨n',i',v,done⟩ ⟨g1,g2,g3⟩;dsimp only at g1 g2 g3 ⊢;repeat' first|refine Wz ?_|intro
 refine w9 (λhone=>?_) (λhone=>?_)
 ·obtain rfl:n'=1:=by omega
  repeat' first|refine Wz ?_|intro
  refine X4 4 Imp.sl ?_;refine j6 ?_;rw[IW,List.append_nil] at g3;rw[hway,<- g3];rfl
 repeat' first|refine Wz ?_|intro
 have hstep:=NA n' i' om;have hk0:((n':Int)+1) / 2=(((n'+1) / 2:Nat):Int):=by omega
 rw[hk0];generalize hk:(n'+1) / 2=k at *;have hd0:decide ((i':Int)<(k:Int))=decide (i'<k):=by simp
 have hs0:(n':Int)-(k:Int)=((n'-k:Nat):Int):=om
 rw[hd0,hs0];refine H7 (λv'=>?_);have e1:done.map uQ++[.agg 3 [d9 (decide (i'<k)),int k,int (n'-k:Nat)]]=(done++[(decide (i'<k),k,n'-k)]).map uQ:=by simp
 rw[e1];have hlen:(done++[(decide (i'<k),k,n'-k)]).length=done.length+1:=by simp
 repeat' first|refine Wz ?_|intro
 refine nA (λhc=>?_) (λhc=>?_)
 ·have hge:¬ i'<k:=by intro h;simp[h] at hc
  repeat' first|refine Wz ?_|intro
  rw[show (i':Int)-(k:Int)=((i'-k:Nat):Int) by omega];refine o9 (n'-k,i'-k,v',done++[(decide (i'<k),k,n'-k)]) zc ?_ ⟨by simp only;omega,by simp only[hlen];omega,?_⟩ (by simp only;omega)
  ·exact u7
  rw[<- g3,hstep,if_neg hge,laa];rfl
 have hlt:i'<k:=by
  rcases Nat.lt_or_ge i' k with h|h
  ·exact h
  simp[Nat.not_lt.2 h] at hc
 repeat' first|refine Wz ?_|intro
 refine o9 (k,i',v',done++[(decide (i'<k),k,n'-k)]) zc ?_ ⟨by simp only;omega,by simp only[hlen];omega,?_⟩ (by simp only;omega)
 ·exact u7
 rw[<- g3,hstep,if_pos hlt,laa];rfl⟩
instance b7z {n i:Int}:Ans prog GL 485 [int n,int i] True (int (S9 n i).length):=⟨λ_=>by
 refine ze func485 ntmps485 λ_ hs=>?_;repeat' first|refine Wz ?_|intro
 refine X0 (λh1=>?_) (λh1=>?_)
 ·repeat' first|refine Wz ?_|intro
  refine j6 ?_;simp[D8,S9,h1]
 repeat' first|refine Wz ?_|intro
 refine X0 (λh2=>?_) (λh2=>?_)
 ·repeat' first|refine Wz ?_|intro
  refine j6 ?_;simp[D8,S9,h2]
 repeat' first|refine Wz ?_|intro
 refine w9 (λh3=>?_) (λh3=>?_)
 ·repeat' first|refine Wz ?_|intro
  refine j6 ?_;simp[D8,S9,h3]
 repeat' first|refine Wz ?_|intro
 obtain⟨N,rfl⟩:∃ N:Nat,n=N:=⟨n.toNat,om⟩;obtain⟨I,rfl⟩:∃ I:Nat,i=I:=⟨i.toNat,om⟩;have hway:S9 N I=turns N I:=by simp[S9,h1,h2,h3]
 refine y9 (α:=Nat × Nat × Nat) (λq=>[(0,int q.1),(1,int q.2.1),(5,int q.2.2)]) (λq=>[])
  (λq=>q.2.1<q.1/\q.2.2+q.1<=2001/\q.2.2+(turns q.1 q.2.1).length=(turns N I).length) (λq=>q.1) (N,I,0) zc slr ⟨by simp only;omega,by simp only;omega,by simp only;omega⟩ ?_
 rintro⟨n',i',d⟩ ⟨g1,g2,g3⟩;dsimp only at g1 g2 g3 ⊢;repeat' first|refine Wz ?_|intro
 refine w9 (λhone=>?_) (λhone=>?_)
 ·repeat' first|refine Wz ?_|intro
  have hstep:=NA n' i' om;have hk0:((n':Int)+1) / 2=(((n'+1) / 2:Nat):Int):=by omega
  rw[hk0];generalize hk:(n'+1) / 2=k at *;refine w9 (λhlt=>?_) (λhlt=>?_)
  ·repeat' first|refine Wz ?_|intro
   rw[if_pos om] at hstep;have:=congrArg List.length hstep;simp only[List.length_cons] at this;exact o9 (k,i',d+1) zc slr ⟨by simp only;omega,by simp only;omega,by simp only;omega⟩ (by simp only;omega)
  repeat' first|refine Wz ?_|intro
  rw[if_neg om] at hstep;have:=congrArg List.length hstep;simp only[List.length_cons] at this;rw[show (i':Int)-(k:Int)=((i'-k:Nat):Int) by omega,show (n':Int)-(k:Int)=((n'-k:Nat):Int) by omega];exact o9 (n'-k,i'-k,d+1) zc slr ⟨by simp only;omega,by simp only;omega,by simp only;omega⟩ (by simp only;omega)
 obtain rfl:n'=1:=by omega
 repeat' first|refine Wz ?_|intro
 refine j6 ?_;rw[IW] at g3;rw[hway,<- g3];rfl⟩

section
variable {xs:List AV}
def yU:Nat->List Hsh->Hsh
 | 0,_=>E9
 | f+1,l=>match l with
  | []=>E9
  | [x]=>x
  | _=>oV (yU f (l.take ((l.length+1) / 2))) (yU f (l.drop ((l.length+1) / 2)))
def gX (l:List Hsh):Hsh:=yU l.length l
theorem NC:∀ (f f':Nat) (l:List Hsh),l.length<=f->l.length<=f'->yU f l=yU f' l
 | 0,0,_,_,_=>rfl
 | 0,f'+1,l,h,_=>by
  have:l=[]:=List.eq_nil_of_length_eq_zero om;subst this;rfl
 | f+1,0,l,_,h=>by
  have:l=[]:=List.eq_nil_of_length_eq_zero om;subst this;rfl
 | f+1,f'+1,[],_,_=>rfl
 | f+1,f'+1,[x],_,_=>rfl
 | f+1,f'+1,x::y::l,h,h'=>by
  simp only[List.length_cons] at h h';unfold yU;simp only;rw[NC f f' _ (by simp[List.length_take];omega) (by simp[List.length_take];omega),NC f f' (List.drop _ _) (by simp;omega) (by simp;omega)]
theorem Da (l:List Hsh)(h:2<=l.length):gX l=oV (gX (l.take ((l.length+1) / 2))) (gX (l.drop ((l.length+1) / 2))):=by
 match l,h with
 | x::y::l,_=>
  show oV (yU (y::l).length _) (yU (y::l).length _)=_;rw[NC (y::l).length _ (List.take _ _) (by simp[List.length_take];omega) (Nat.le_refl _),NC (y::l).length _ (List.drop _ _) (by simp;omega) (Nat.le_refl _)];rfl
theorem Zh (n:Nat):n<=1000000->∀ {l:List Hsh} {xs:List AV} {id:Option Value} [Hshs xs l],Ans prog GL 331 [.sl 32 xs id] (l.length<=n) (hA (gX l)):=by
 induction n with
 | zero=>
  intro _ l xs id hx;refine⟨λhl=>?_⟩;have h:=hx.out;subst h;obtain rfl:l=[]:=List.eq_nil_of_length_eq_zero om;refine ze func331 ntmps331 λ_ hs=>?_;exact aP
 | succ n ih=>
  intro hn l xs id hx;have ih:=@ih om;refine⟨λhl=>?_⟩;have h:=hx.out;subst h;have hm:(l.map hA).length=l.length:=llm _;refine ze func331 ntmps331 λ_ hs=>?_;repeat' first|refine Wz ?_|intro
  refine w9 (λh0=>?_) (λh0=>?_)
  ·obtain rfl:l=[]:=List.eq_nil_of_length_eq_zero om;exact aP
  repeat' first|refine Wz ?_|intro
  refine w9 (λh1=>?_) (λh1=>?_)
  ·obtain⟨x,rfl⟩:∃ x,l=[x]:=List.length_eq_one_iff.1 om;repeat' first|refine Wz ?_|intro
   refine Y2 0 (show 0<[x].length by simp) ?_;exact aP
  repeat' first|refine Wz ?_|intro
  have hk0:(((l.map hA).length:Int)+1) / 2=(((l.length+1) / 2:Nat):Int):=om
  rw[hk0];have hst:=Da l om;generalize hk:(l.length+1) / 2=k at *;apply zf [];exact zi;intro _ _;refine jC 0 k ?_;exact j3 (p9 rfl rfl);repeat' first|refine Wz ?_|intro
  apply zf [];exact zi;intro _ _;refine jC k l.length ?_;exact j3 (p9 rfl rfl);repeat' first|refine Wz ?_|intro
  refine j6 ?_;rw[hst,List.drop_zero,List.take_length];rfl
instance b6o {l:List Hsh}{id:Option Value}[Hshs xs l]:Ans prog GL 331 [.sl 32 xs id] (l.length<=1000000) (hA (gX l)):=Zh 1000000 (Nat.le_refl _)
theorem a3S {g:Nat}{x:Ent}{v:Value}{done:List Hsh}(hl:done.length<=1000000):Av.Spec prog GL 389 [D5 x,ptr g] [.var g 50 (.sl 32 (done.map hA) (some v)),.tail 40 32 v] λu m=>∃ v',u=.tup []/\m=[.var g 50 (.sl 32 ((done++[U3 x]).map hA) (some v')),.tail 40 32 v']:=by
 refine ze func389 ntmps389 λ_ hs=>?_;repeat' first|refine Wz ?_|intro
 apply U2 [2];exact rfl;exact rfl;exact rfl;kernel_rfl;intro _ _;refine H7 (λv'=>?_);refine j3 (N7 [.tail 40 32 v'] [] rfl rfl lpr rfl ?_);repeat' first|refine Wz ?_|intro
 refine jS [.var g 50 (.sl 32 ((done++[U3 x]).map hA) (some v')),.tail 40 32 v'] ⟨v',rfl,rfl⟩ ?_;rw[show (done++[U3 x]).map hA=done.map hA++[hA (U3 ⟨x.key,x.val⟩)] by simp];exact List.Sublist.cons _ slr
theorem ImpC.nilS {k:Nat}:ImpC J2 (.sl k [] (some (.slice none 0 0))):=λok w cs h=>by
 rw[RC] at h;rw[RC];exact⟨none,0,h.1,sm,Nat.le_refl _,by simp[maxLen],sm,sm⟩
instance b9J {d:List Ent}{id:Option Value}[hx:Ents xs d]:Ans prog GL 332 [.agg 1 [.sl 2 xs id]] (d.length<=1000000) (.sl 32 ((d.map U3).map hA) none):=⟨λhl=>by
 have h:=hx.out;subst h;refine ze func332 ntmps332 λ_ hs=>?_;repeat' first|refine Wz ?_|intro
 rename_i g1 g3;refine Y3 (vs:=[.pointer (some ⟨g3,0,none⟩)]) ?_;repeat' first|refine Wz ?_|intro
 refine dY (g:=g3) (v':=.sl 32 [] (some (.slice none 0 0))) ImpC.nilS ?_;refine P6 (λok w h=>h.full 40 32 none 0) ?_;refine y9 (α:=Nat × Value) (λq=>[(3,ptr g3),(4,E5 389 [.pointer (some ⟨g3,0,none⟩)]),(9,.sl 2 (d.map D5) none),(10,int (d.map D5).length),(11,int q.1)])
  (λq=>[.tail 40 32 q.2,.var g3 50 (.sl 32 (((d.take q.1).map U3).map hA) (some q.2))])
  (λq=>q.1<=d.length) (λq=>d.length-q.1) (0,.slice none 0 0) zc ?_ (Nat.zero_le _) ?_
 ·exact u7
 rintro⟨i,v⟩ g1;dsimp only at g1 ⊢;repeat' first|refine Wz ?_|intro
 refine w9 (λhlt=>?_) (λhlt=>?_)
 ·have hlt':i<d.length:=by simpa using hlt
  repeat' first|refine Wz ?_|intro
  refine Y2 i hlt' ?_;repeat' first|refine Wz ?_|intro
  refine gU (args:=[D5 d[i]]) (cs:=[.pointer (some ⟨g3,0,none⟩)]) [.var g3 50 (.sl 32 (((d.take i).map U3).map hA) (some v)),.tail 40 32 v] _ (by rw[hs];exact a3S (x:=d[i]) (v:=v) (g:=g3) (done:=(d.take i).map U3) (by simp;omega)) (λu m1 hh=>?_) ((List.reverse_perm _).symm);obtain⟨v',rfl,rfl⟩:=hh;refine fF (λok w h=>h.perm (List.Perm.swap _ _ _)) ?_;repeat' first|refine Wz ?_|intro
  rw[show (d.take i).map U3++[U3 d[i]]=(d.take (i+1)).map U3 by rw[List.take_succ_eq_append_getElem hlt',List.map_append];rfl];refine o9 (i+1,v') zc ?_ hlt' (by simp only;omega);exact u7
 repeat' first|refine Wz ?_|intro
 refine X4 2 Imp.sl ?_;refine j6 ?_;rw[List.take_of_length_le (by simpa using hlt)];rfl⟩
instance b6M {d:List Ent}{id:Option Value}[hx:Ents xs d]:Ans prog GL 238 [.agg 1 [.sl 2 xs id]] (d.length<=1000000) (hA (xE d.length (gX (d.map U3)))):=⟨λhl=>by
 have h:=hx.out;subst h;have hm:(d.map U3).length=d.length:=llm _;refine ze func238 ntmps238 λ_ hs=>?_;exact aP⟩
end

def fZ (l:List Ent)(k:Bs):Option Ent:=l.find? λx=>decide (x.key=k)
theorem a5h {l:List Ent}{k:Bs}{i:Nat}(h:i<l.length):fZ (l.drop i) k=if l[i].key=k then some l[i] else fZ (l.drop (i+1)) k:=by
 rw[List.drop_eq_getElem_cons h];unfold fZ;rw[List.find?_cons];by_cases h:l[i].key=k <;> simp[h]
instance a5K {l:List Ent}{k:Bs}{xs:List AV}{id:Option Value}[hx:Ents xs l]:Ans prog GL 76 [.sl 2 xs id,str k] (l.length<=1073741823) (.tup [str (((fZ l k).map (·.val)).getD []),d9 (fZ l k).isSome]):=⟨λhl=>by
 have h:=hx.out;subst h;refine ze func76 ntmps76 λ_ hs=>?_;repeat' first|refine Wz ?_|intro
 refine y9 (α:=Nat) (λi=>[(0,.sl 2 (l.map D5) id),(1,str k),(6,int i)]) (λ_=>[]) (λi=>i<=l.length/\fZ (l.drop i) k=fZ l k) (λi=>l.length-i) 0 zc slr ⟨Nat.zero_le _,rfl⟩ ?_;rintro i ⟨g1,g2⟩;repeat' first|refine Wz ?_|intro
 refine w9 (λhlt=>?_) (λhlt=>?_)
 ·have hlt':i<l.length:=by simpa using hlt
  rw[a5h hlt'] at g2;repeat' first|refine Wz ?_|intro
  refine Y2 i hlt' ?_;repeat' first|refine Wz ?_|intro
  refine w9 (λhe=>?_) (λhe=>?_)
  ·rw[if_pos he] at g2;repeat' first|refine Wz ?_|intro
   refine Y2 i hlt' ?_;repeat' first|refine Wz ?_|intro
   refine j6 ?_;simp[D8,<- g2]
  rw[if_neg he] at g2;repeat' first|refine Wz ?_|intro
  exact o9 (i+1) zc slr ⟨hlt',g2⟩ om
 repeat' first|refine Wz ?_|intro
 refine j6 ?_;rw[List.drop_of_length_le (by simpa using hlt)] at g2;rw[<- g2];rfl⟩

def aQ (k v:Bs)(acc:List Ent × Bool)(x:Ent):List Ent × Bool:=
 let a:=if acc.2=false/\blt x.key k=false then (acc.1++[(⟨k,v⟩:Ent)],true) else acc
 if x.key=k then a else (a.1++[x],a.2)
def vI (l:List Ent)(k v:Bs):List Ent:=
 let a:=l.foldl (aQ k v) ([],false)
 if a.2=true then a.1 else a.1++[(⟨k,v⟩:Ent)]
def mK (l:List Ent)(k v:Bs):Int:=if 400<k.length\/4000<v.length then 11 else if (fZ l k).isSome=false/\2000<=l.length then 15 else 0
def xR (l:List Ent)(k v:Bs):AV:=if mK l k v=0 then .sl 2 ((vI l k v).map D5) none else J2
set_option maxHeartbeats 2000000 in
instance a5H {l:List Ent}{k v:Bs}{xs:List AV}{id:Option Value}[hx:Ents xs l]:Ans prog GL 63 [.sl 2 xs id,str k,str v] (l.length<=1073741823) (.tup [xR l k v,int (mK l k v)]):=⟨λhl=>by
 have h:=hx.out;subst h;refine ze func63 ntmps63 λ_ hs=>?_;repeat' first|refine Wz ?_|intro
 refine X0 (λh1=>?_) (λh1=>?_)
 ·repeat' first|refine Wz ?_|intro
  refine j6 ?_;have hh:400<k.length:=by omega
  have:mK l k v=11:=by simp[mK,hh]
  simp[D8,xR,this]
 repeat' first|refine Wz ?_|intro
 refine w9 (λh2=>?_) (λh2=>?_)
 ·repeat' first|refine Wz ?_|intro
  refine j6 ?_;have hh:4000<v.length:=by omega
  have:mK l k v=11:=by simp[mK,hh]
  simp[D8,xR,this]
 repeat' first|refine Wz ?_|intro
 have hne:¬ (400<k.length\/4000<v.length):=om
 have hmain:∀ hok:mK l k v=0,xR l k v=.sl 2 ((vI l k v).map D5) none:=λhok=>by simp[xR,hok]
 refine KS (λhg=>?_) (λhg=>?_)
 focus
  repeat' first|refine Wz ?_|intro
  refine w9 (λh4=>?_) (λh4=>?_)
  focus
   repeat' first|refine Wz ?_|intro
   refine j6 ?_;have e1:mK l k v=15:=by
    have h5:2000<=l.length:=by simp at h4;omega
    have h6:(fZ l k).isSome=false:=by simpa using hg
    simp only[mK,if_neg hne,h6,h5,and_self,if_true]
   simp[D8,xR,e1]
  have hok:mK l k v=0:=by
   have h5:¬ 2000<=l.length:=by simp at h4;omega
   simp only[mK,if_neg hne,h5,and_false,if_false]
 rotate_left
 focus
  have hok:mK l k v=0:=by
   have h6:(fZ l k).isSome=true:=by simpa using hg
   simp[mK,hne,h6]
 all_goals
  rw[hmain hok,hok];repeat' first|refine Wz ?_|intro
 all_goals
  refine Y4 10 (Imp.nil (k:=2)) ?_;refine P6 (λok w h=>h.full 187 2 none 0) ?_;refine y9 (α:=Nat × Value × (List Ent × Bool)) (λq=>[(0,.sl 2 (l.map D5) id),(1,str k),(2,str v),(10,.sl 2 (q.2.2.1.map D5) (some q.2.1)),(11,d9 q.2.2.2),(12,int q.1)]) (λq=>[.tail 187 2 q.2.1])
   (λq=>q.1<=l.length/\q.2.2.1.length<=2*q.1/\(l.drop q.1).foldl (aQ k v) q.2.2=l.foldl (aQ k v) ([],false)) (λq=>l.length-q.1) (0,.slice none 0 0,[],false) zc slr ⟨Nat.zero_le _,sm,rfl⟩ ?_
  rintro⟨i,u,done,b⟩ ⟨g1,g2,g3⟩;dsimp only at g1 g2 g3 ⊢;repeat' first|refine Wz ?_|intro
  refine w9 (λhlt=>?_) (λhlt=>?_)
  focus
   have hlt':i<l.length:=by simpa using hlt
   rw[List.drop_eq_getElem_cons hlt',List.foldl_cons] at g3;cases b
   focus
    repeat' first|refine Wz ?_|intro
    refine Y2 i hlt' ?_;repeat' first|refine Wz ?_|intro
    refine nA (λhb=>?_) (λhb=>?_)
    focus
     repeat' first|refine Wz ?_|intro
     refine H7 (λu'=>?_);repeat' first|refine Wz ?_|intro
     refine Y2 i hlt' ?_;repeat' first|refine Wz ?_|intro
     have hb':blt l[i].key k=false:=by simpa using hb
     refine w9 (λhk=>?_) (λhk=>?_)
     focus
      repeat' first|refine Wz ?_|intro
      refine Y2 i hlt' ?_;repeat' first|refine Wz ?_|intro
      refine H7 (λu''=>?_);repeat' first|refine Wz ?_|intro
      have e:aQ k v (done,false) l[i]=(done++[(⟨k,v⟩:Ent)]++[l[i]],true):=by simp[aQ,hb',hk]
      rw[e] at g3;refine X4 10 (v':=.sl 2 ((done++[(⟨k,v⟩:Ent)]++[l[i]]).map D5) (some u'')) (Imp.of_eq ?_) ?_
      focus simp
      exact o9 (i+1,u'',done++[(⟨k,v⟩:Ent)]++[l[i]],true) zc slr ⟨hlt',by simp;omega,g3⟩ (by simp only;omega)
     have hk':l[i].key=k:=by simpa using hk
     repeat' first|refine Wz ?_|intro
     have e:aQ k v (done,false) l[i]=(done++[(⟨k,v⟩:Ent)],true):=by simp[aQ,hb',if_pos hk']
     rw[e] at g3;refine X4 10 (v':=.sl 2 ((done++[(⟨k,v⟩:Ent)]).map D5) (some u')) (Imp.of_eq ?_) ?_
     focus simp
     exact o9 (i+1,u',done++[(⟨k,v⟩:Ent)],true) zc slr ⟨hlt',by simp;omega,g3⟩ (by simp only;omega)
    repeat' first|refine Wz ?_|intro
    refine Y2 i hlt' ?_;repeat' first|refine Wz ?_|intro
    have hb':blt l[i].key k=true:=by simpa using hb
    refine w9 (λhk=>?_) (λhk=>?_)
    focus
     repeat' first|refine Wz ?_|intro
     refine Y2 i hlt' ?_;repeat' first|refine Wz ?_|intro
     refine H7 (λu''=>?_);repeat' first|refine Wz ?_|intro
     have e:aQ k v (done,false) l[i]=(done++[l[i]],false):=by simp[aQ,hb',hk]
     rw[e] at g3;refine X4 10 (v':=.sl 2 ((done++[l[i]]).map D5) (some u'')) (Imp.of_eq ?_) ?_
     focus simp
     exact o9 (i+1,u'',done++[l[i]],false) zc slr ⟨hlt',by simp;omega,g3⟩ (by simp only;omega)
    have hk':l[i].key=k:=by simpa using hk
    repeat' first|refine Wz ?_|intro
    have e:aQ k v (done,false) l[i]=(done,false):=by simp[aQ,hb',if_pos hk']
    rw[e] at g3;exact o9 (i+1,u,done,false) zc slr ⟨hlt',by simp;omega,g3⟩ (by simp only;omega)
   repeat' first|refine Wz ?_|intro
   refine Y2 i hlt' ?_;repeat' first|refine Wz ?_|intro
   refine w9 (λhk=>?_) (λhk=>?_)
   focus
    repeat' first|refine Wz ?_|intro
    refine Y2 i hlt' ?_;repeat' first|refine Wz ?_|intro
    refine H7 (λu''=>?_);repeat' first|refine Wz ?_|intro
    have e:aQ k v (done,true) l[i]=(done++[l[i]],true):=by simp[aQ,hk]
    rw[e] at g3;refine X4 10 (v':=.sl 2 ((done++[l[i]]).map D5) (some u'')) (Imp.of_eq ?_) ?_
    focus simp
    exact o9 (i+1,u'',done++[l[i]],true) zc slr ⟨hlt',by simp;omega,g3⟩ (by simp only;omega)
   have hk':l[i].key=k:=by simpa using hk
   repeat' first|refine Wz ?_|intro
   have e:aQ k v (done,true) l[i]=(done,true):=by simp[aQ,hk']
   rw[e] at g3;exact o9 (i+1,u,done,true) zc slr ⟨hlt',by simp;omega,g3⟩ (by simp only;omega)
  rw[List.drop_of_length_le (by simpa using hlt),List.foldl_nil] at g3;cases b
  focus
   repeat' first|refine Wz ?_|intro
   refine H7 (λu''=>?_);repeat' first|refine Wz ?_|intro
   refine X4 6 Imp.sl ?_;refine j6 ?_;have e:vI l k v=done++[(⟨k,v⟩:Ent)]:=by simp[vI,<- g3]
   rw[e];simp[D8]
  repeat' first|refine Wz ?_|intro
  refine X4 6 Imp.sl ?_;refine j6 ?_;have e:vI l k v=done:=by simp[vI,<- g3]
  rw[e];rfl⟩
end Go.Proofs.Z
