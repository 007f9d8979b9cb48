/- . -/
import Derived.Test.YtgcmdlboancepaaGreatDoorQ23
namespace Go.Proofs.Z
open Go Go.RowKit Tw Av Go.Proofs.Tryz
def rv {α:Type}(z:α)(l:List α)(i:Nat):List α:=(List.range l.length).map λq=>if q<i\/l.length-i<=q then l.getD (l.length-1-q) z else l.getD q z
theorem EQ {α:Type}(z:α)(l:List α)(i:Nat):(rv z l i).length=l.length:=by simp[rv]
theorem ER {α:Type}(z:α)(l:List α)(i q:Nat)(h:q<l.length):(rv z l i)[q]?=some (if q<i\/l.length-i<=q then l.getD (l.length-1-q) z else l.getD q z):=by simp[rv,h]
theorem a0T {α:Type}(z:α)(l:List α):rv z l 0=l:=by
 apply List.ext_getElem?;intro q;rcases Nat.lt_or_ge q l.length with h|h
 ·rw[ER z l 0 q h,if_neg om];simp[List.getD,h]
 rw[List.getElem?_eq_none (by rw[EQ];exact h),List.getElem?_eq_none h]
theorem a0V {α:Type}(z:α)(l:List α)(i:Nat)(h:l.length<=2*i+1)(hi:2*i<=l.length):rv z l i=l.reverse:=by
 apply List.ext_getElem?;intro q;rcases Nat.lt_or_ge q l.length with hq|hq
 ·rw[ER z l i q hq,List.getElem?_reverse hq];split
  ·have:l.length-1-q<l.length:=by omega
   simp[List.getD,this]
  have:l.length-1-q=q:=by omega
  rw[this];simp[List.getD,hq]
 rw[List.getElem?_eq_none (by rw[EQ];exact hq),List.getElem?_eq_none (by simpa using hq)]
theorem a0U {α:Type}(z:α)(l:List α)(i:Nat)(h:2*i+1<l.length):((rv z l i).set i (l.getD (l.length-1-i) z)).set (l.length-1-i) (l.getD i z)=rv z l (i+1):=by
 apply List.ext_getElem?;intro q;rcases Nat.lt_or_ge q l.length with hq|hq
 ·rw[ER z l (i+1) q hq,List.getElem?_set,List.getElem?_set];simp only[List.length_set,EQ];by_cases h1:l.length-1-i=q
  ·rw[if_pos h1,if_pos om,if_pos om];congr 2
   omega
  rw[if_neg h1];by_cases h2:i=q
  ·rw[if_pos h2,if_pos om,if_pos om];congr 2
   omega
  rw[if_neg h2,ER z l i q hq];by_cases h3:q<i\/l.length-i<=q
  ·rw[if_pos h3,if_pos om]
  rw[if_neg h3,if_neg om]
 rw[List.getElem?_eq_none (by simp[EQ];exact hq),List.getElem?_eq_none (by rw[EQ];exact hq)]
def jL:List WayStep->List Hsh->List Hsh
 | [],_=>[]
 | t::ts,l=>if t.1=true then gX (l.drop t.2.1)::jL ts (l.take t.2.1) else gX (l.take t.2.1)::jL ts (l.drop t.2.1)
def iE (l:List Hsh)(i:Int):List Hsh:=(jL (S9 l.length i) l).reverse
def jQ:List WayStep->Hsh->List Hsh->Hsh
 | [],h,_=>h
 | t::ts,h,p=>if t.1=true then oV (jQ ts h p.dropLast) (p.getLastD E9) else oV (p.getLastD E9) (jQ ts h p.dropLast)
def vO (n i:Int)(h:Hsh)(p:List Hsh):Option Hsh:=if i<0\/n<=i\/2000<n\/(S9 n i).length≠p.length then none else some (xE n (jQ (S9 n i) h p))
theorem Jr:∀ (ts:List WayStep) (l:List Hsh),(jL ts l).length=ts.length
 | [],_=>rfl
 | t::ts,l=>by
  unfold jL;split <;> simp[Jr ts]
theorem EI:∀ (f n i:Nat),n<=f->(turns n i).length<=n
 | 0,n,i,h=>by
  obtain rfl:n=0:=by omega
  simp[turns,xD]
 | f+1,n,i,h=>by
  by_cases hn:1<n
  ·rw[NA n i hn,List.length_cons];split
   ·have:=EI f ((n+1) / 2) i om;omega
   have:=EI f (n-(n+1) / 2) (i-(n+1) / 2) om;omega
  obtain rfl|rfl:n=0\/n=1:=by omega
  ·simp[turns,xD]
  simp[IW]
theorem Jq (l:List Hsh)(i:Int):(iE l i).length=(S9 l.length i).length:=by simp[iE,Jr]
theorem Ch (n:Nat)(i:Int):(S9 n i).length<=n:=by
 unfold S9;split
 ·simp
 exact EI n _ _ sm
theorem MQ {n i:Nat}(h:i<n)(hn:n<=2000):S9 (n:Int) (i:Int)=turns n i:=by
 unfold S9;rw[if_neg om];simp
theorem a5i {α:Type}(l:List α)(x z:α):(l++[x]).getLastD z=x:=by simp[List.getLastD_eq_getLast?]
theorem Cr (t:WayStep)(ts:List WayStep)(h x:Hsh)(p:List Hsh):jQ (t::ts) h (p++[x])=if t.1=true then oV (jQ ts h p) x else oV x (jQ ts h p):=by
 rw[jQ,List.dropLast_concat,a5i]
theorem TE {n i:Nat}(_h:i<n)(hn:1<n):turns n i=(decide (i<(n+1) / 2),(n+1) / 2,n-(n+1) / 2)::turns (if i<(n+1) / 2 then (n+1) / 2 else n-(n+1) / 2) (if i<(n+1) / 2 then i else i-(n+1) / 2):=by
 rw[NA n i hn];split <;> rfl
theorem a1y {g c n:Nat}{l:List Hsh}(hn:n=l.length)(h1:n<=1000000):Av.Spec prog GL 352 [.lit (.slice (some ⟨g,0,none⟩) n c)] [.buf g 40 32 (l.map hA) c] λv m'=>v=.tup []/\m'=[.buf g 40 32 (l.reverse.map hA) c]:=by
 subst hn;refine ze func352 ntmps352 λ_ hs=>?_;repeat' first|refine Wz ?_|intro
 have h0:l=rv E9 l 0:=(a0T E9 l).symm;refine y9 (α:=Nat) (λi=>[(0,.lit (.slice (some ⟨g,0,none⟩) l.length c)),(2,int i),(3,int ((l.length:Int)-1-i))]) (λi=>[.buf g 40 32 ((rv E9 l i).map hA) c]) (λi=>2*i<=l.length) (λi=>l.length-2*i) 0 ⟨rfl,rfl,by simp;rfl,trivial⟩ (by rw[<- h0];exact List.Sublist.refl _) (Nat.zero_le _) ?_;intro i hi;repeat' first|refine Wz ?_|intro
 refine w9 (λhlt=>?_) (λhlt=>?_)
 ·have hlr:=EQ E9 l i;have hst:=a0U E9 l i om;have hga:=ER E9 l i i om;have hgb:=ER E9 l i (l.length-1-i) om;rw[if_neg om] at hga hgb;repeat' first|refine Wz ?_|intro
  apply zf [];exact zi;intro _ _;refine BB (l.length-1-i) ?_;exact j3 (p9 rfl rfl);apply zf [0];exact zi;intro _ _;refine Ba (j:=l.length-1-i) (off:=0) (xs:=(rv E9 l i).map hA) (y:=hA (l.getD (l.length-1-i) E9)) (u:=hA (l.getD (l.length-1-i) E9)) (by rw[List.getElem?_map,hgb];rfl) ?_;exact j3 (p9 rfl rfl);repeat' first|refine Wz ?_|intro
  apply zf [];exact zi;intro _ _;refine BB i ?_;exact j3 (p9 rfl rfl);apply zf [0];exact zi;intro _ _;refine Ba (j:=i) (off:=0) (xs:=(rv E9 l i).map hA) (y:=hA (l.getD i E9)) (u:=hA (l.getD i E9)) (by rw[List.getElem?_map,hga];rfl) ?_;exact j3 (p9 rfl rfl);repeat' first|refine Wz ?_|intro
  apply zf [];exact zi;intro _ _;refine BB i ?_;exact j3 (p9 rfl rfl);apply dH [0];exact rfl;exact rfl;kernel_rfl
  ·intro _ _;refine RJ (j:=i) (off:=0) (xs:=(rv E9 l i).map hA) (y:=hA (l.getD i E9)) (y':=hA (l.getD (l.length-1-i) E9)) (by rw[List.getElem?_map,hga];rfl) ?_;exact j3 (dX rfl)
  ·exact rfl
  ·exact rfl
  apply zf [];exact zi;intro _ _;refine BB (l.length-1-i) ?_;exact j3 (p9 rfl rfl);apply dH [0];exact rfl;exact rfl;kernel_rfl
  ·intro _ _;refine RJ (j:=l.length-1-i) (off:=0) (xs:=((rv E9 l i).map hA).set i (hA (l.getD (l.length-1-i) E9))) (y:=hA (l.getD (l.length-1-i) E9)) (y':=hA (l.getD i E9)) (by rw[List.getElem?_set_ne om,List.getElem?_map,hgb];rfl) ?_;exact j3 (dX rfl)
  ·exact rfl
  ·exact rfl
  repeat' first|refine Wz ?_|intro
  have e:(((rv E9 l i).map hA).set i (hA (l.getD (l.length-1-i) E9))).set (l.length-1-i) (hA (l.getD i E9))=(rv E9 l (i+1)).map hA:=by rw[<- hst,List.map_set,List.map_set]
  rw[show (l.length:Int)-1-(i:Int)-1=(l.length:Int)-1-((i+1:Nat):Int) by omega];refine o9 (i+1) zc ?_ om om;rw[<- e];exact List.Sublist.refl _
 repeat' first|refine Wz ?_|intro
 rw[a0V E9 l i om hi];exact jS _ ⟨rfl,rfl⟩ slr
theorem a1z:SpecE prog GL 352 [J2] (.tup []):=by
 refine ze func352 ntmps352 λ_ hs=>?_;repeat' first|refine Wz ?_|intro
 refine y9 (α:=Unit) (λ_=>[(2,int 0),(3,int (-1))]) (λ_=>[]) (λ_=>True) (λ_=>0) () zc slr trivial ?_;intro _ _;repeat' first|refine Wz ?_|intro
 exact jS [] ⟨rfl,rfl⟩ slr
instance b9m {d:List Ent}{i:Int}{xs:List AV}{id:Option Value}[hx:Ents xs d]:Ans prog GL 272 [.agg 1 [.sl 2 xs id],int i] (d.length<=1000000) (.sl 32 ((iE (d.map U3) i).map hA) none):=⟨λhl=>by
 have h:=hx.out;subst h;have hm:(d.map U3).length=d.length:=llm _;have hmA:((d.map U3).map hA).length=d.length:=by simp
 refine ze func272 ntmps272 λ_ hs=>?_;repeat' first|refine Wz ?_|intro
 generalize hL:d.map U3=L at *;rw[hmA];have hwl:(S9 (d.length:Int) i).length<=2000:=by
  unfold S9;split
  ·simp
  exact Nat.le_trans (EI _ _ _ (Nat.le_refl _)) om
 have hin:(∃ i',i'<L.length/\S9 (d.length:Int) i=turns L.length i')\/S9 (d.length:Int) i=[]:=by
  unfold S9;by_cases hc:i<0\/(d.length:Int)<=i\/2000<(d.length:Int)
  ·exact .inr (by rw[if_pos hc])
  refine .inl ⟨i.toNat,om,by rw[if_neg hc,hm];simp⟩
 have hpH:iE L i=(jL (S9 (d.length:Int) i) L).reverse:=by rw[iE,hm]
 rw[hpH];generalize S9 (d.length:Int) i=ts at *;have hmt:(ts.map uQ).length=ts.length:=llm _;rename_i g2;refine y9 (α:=Nat × List Hsh × List Hsh × Option (Nat × Nat)) (λq=>[(2,ptr g2),(5,match q.2.2.2 with|none=>J2|some (g,c)=>.lit (.slice (some ⟨g,0,none⟩) q.1 c)),(6,.sl 32 (q.2.1.map hA) none),(14,.sl 3 (ts.map uQ) none),(15,int (ts.map uQ).length),(16,int q.1)])
  (λq=>match q.2.2.2 with|none=>[]|some (g,c)=>[.buf g 40 32 (q.2.2.1.map hA) c])
  (λq=>q.1<=ts.length/\q.2.2.1.length=q.1/\jL ts L=q.2.2.1++jL (ts.drop q.1) q.2.1/\q.2.1.length<=L.length/\((∃ i',i'<q.2.1.length/\ts.drop q.1=turns q.2.1.length i')\/ts.drop q.1=[])/\(q.2.2.2=none->q.2.2.1=[])/\∀ g c,q.2.2.2=some (g,c)->q.2.2.1.length<=c) (λq=>ts.length-q.1) (0,L,[],none) zc zd ⟨Nat.zero_le _,rfl,rfl,Nat.le_refl _,hin,λ_=>rfl,λ_ _ h=>by cases h⟩ ?_
 rintro⟨j,l,done,own⟩ ⟨g1,g2',g3,g4,g5,g6,g7⟩;dsimp only at g1 g2' g3 g4 g5 g6 g7 ⊢;repeat' first|refine Wz ?_|intro
 refine w9 (λhlt=>?_) (λhlt=>?_)
 ·have hlt':j<ts.length:=om
  rw[List.drop_eq_getElem_cons hlt'] at g3 g5;obtain⟨i',hi',hts⟩:=g5.resolve_right (List.cons_ne_nil _ _);have h1:1<l.length:=by
   rcases Nat.lt_or_ge 1 l.length with h|h
   ·exact h
   have:l.length=1:=by omega
   rw[this,IW] at hts;cases hts
  rw[TE hi' h1] at hts;injection hts with ht0 htr
  have hk1:ts[j].2.1=(l.length+1) / 2:=by rw[ht0]
  have hb1:ts[j].1=decide (i'<(l.length+1) / 2):=by rw[ht0]
  generalize hT:ts[j]=T at *;obtain⟨b,k,o⟩:=T;dsimp only at hk1 hb1;have hml:(l.map hA).length=l.length:=llm _;repeat' first|refine Wz ?_|intro
  refine Y2 (l:=ts) (f:=uQ) j hlt' ?_;rw[hT];repeat' first|refine Wz ?_|intro
  rename_i g8;cases b
  focus
   have hge:¬ i'<(l.length+1) / 2:=by simpa using hb1
   rw[if_neg hge,if_neg hge] at htr;have g3':jL ts L=(done++[gX (l.take k)])++jL (ts.drop (j+1)) (l.drop k):=by rw[g3,jL,if_neg sm];simp
   repeat' first|refine Wz ?_|intro
   refine jC 0 k ?_;rw[List.drop_zero];repeat' first|refine Wz ?_|intro
   rcases own with _|⟨go,co⟩
   focus
    obtain rfl:=g6 rfl;obtain rfl:0=j:=g2';refine ME (λg' c' hc=>?_);repeat' first|refine Wz ?_|intro
    refine jC k l.length ?_;rw[show ((l.map hA).take l.length).drop k=(l.drop k).map hA by rw[List.take_of_length_le sm,List.map_drop]];repeat' first|refine Wz ?_|intro
    refine o9 (0+1,l.drop k,[gX (l.take k)],some (g',c')) zc ?_ ⟨by dsimp only;omega,sm,g3',by simp;omega,.inl ⟨i'-(l.length+1) / 2,by simp;omega,by rw[htr];congr 1;simp;omega⟩,(by intro h;cases h),(by intro g c h;cases h;simp at hc ⊢;omega)⟩ (by dsimp only;omega);exact u7
   focus
    have hdc:=g7 go co rfl;refine BF (xs:=done.map hA) (λg' c' hc=>?_);repeat' first|refine Wz ?_|intro
    refine jC k l.length ?_;rw[show ((l.map hA).take l.length).drop k=(l.drop k).map hA by rw[List.take_of_length_le sm,List.map_drop]];repeat' first|refine Wz ?_|intro
    refine o9 (j+1,l.drop k,done++[gX (l.take k)],some (g',c')) zc ?_ ⟨by dsimp only;omega,by simp[g2'],g3',by simp;omega,.inl ⟨i'-(l.length+1) / 2,by simp;omega,by rw[htr];congr 1;simp;omega⟩,(by intro h;cases h),(by intro g c h;cases h;simp at hc ⊢;omega)⟩ (by dsimp only;omega);rw[List.map_append];exact u7
  focus
   have hle:i'<(l.length+1) / 2:=by simpa using hb1
   rw[if_pos hle,if_pos hle] at htr;have g3':jL ts L=(done++[gX (l.drop k)])++jL (ts.drop (j+1)) (l.take k):=by rw[g3,jL,if_pos rfl];simp
   have hfl:(l.map hA).take l.length=l.map hA:=List.take_of_length_le om;repeat' first|refine Wz ?_|intro
   refine jC k l.length ?_;rw[hfl];repeat' first|refine Wz ?_|intro
   rcases own with _|⟨go,co⟩
   focus
    obtain rfl:=g6 rfl;obtain rfl:0=j:=g2';refine ME (λg' c' hc=>?_);repeat' first|refine Wz ?_|intro
    refine jC 0 k ?_;rw[show ((l.map hA).take k).drop 0=(l.take k).map hA by rw[List.drop_zero,List.map_take]];repeat' first|refine Wz ?_|intro
    refine o9 (0+1,l.take k,[gX (l.drop k)],some (g',c')) zc ?_ ⟨by dsimp only;omega,sm,g3',by simp;omega,.inl ⟨i',by simp;omega,by rw[htr];congr 1;simp;omega⟩,(by intro h;cases h),(by intro g c h;cases h;simp at hc ⊢;omega)⟩ (by dsimp only;omega);exact u7
   focus
    have hdc:=g7 go co rfl;refine BF (xs:=done.map hA) (λg' c' hc=>?_);repeat' first|refine Wz ?_|intro
    refine jC 0 k ?_;rw[show ((l.map hA).take k).drop 0=(l.take k).map hA by rw[List.drop_zero,List.map_take]];repeat' first|refine Wz ?_|intro
    refine o9 (j+1,l.take k,done++[gX (l.drop k)],some (g',c')) zc ?_ ⟨by dsimp only;omega,by simp[g2'],g3',by simp;omega,.inl ⟨i',by simp;omega,by rw[htr];congr 1;simp;omega⟩,(by intro h;cases h),(by intro g c h;cases h;simp at hc ⊢;omega)⟩ (by dsimp only;omega);rw[List.map_append];exact u7
 obtain rfl:j=ts.length:=by omega
 rw[List.drop_length,jL,List.append_nil] at g3;rw[g3];rcases own with _|⟨go,co⟩
 focus
  obtain rfl:=g6 rfl;repeat' first|refine Wz ?_|intro
  refine H6 (K:=λv m'=>v=.tup []/\m'=[]) [] [] (by rw[hs];exact a1z) (λv m' hh=>?_) lpr;obtain⟨rfl,rfl⟩:=hh;refine dF 5 (Imp.nilN (k:=32)) ?_;exact aP
 focus
  have hdc:=g7 go co rfl;repeat' first|refine Wz ?_|intro
  refine H6 [.buf go 40 32 (done.map hA) co] [] (by rw[hs];exact a1y (n:=ts.length) (l:=done) g2'.symm om) (λv m' hh=>?_) (by rw[List.append_nil]);obtain⟨rfl,rfl⟩:=hh;rw[List.append_nil];refine vZ 5 ?_;refine dF 5 Imp.sl ?_;exact aP⟩

section
variable {p:List Hsh}{h:Hsh}{i:Int}
theorem BA {n:Int}(hb:i<0\/n<=i\/2000<n\/(S9 n i).length≠p.length):vO n i h p=none:=if_pos hb
theorem Ob {n:Int}(hb:¬ (i<0\/n<=i\/2000<n\/(S9 n i).length≠p.length)):vO n i h p=some (xE n (jQ (S9 n i) h p)):=if_neg hb
instance c0C {n:Int}{xs:List AV}{id:Option Value}[hx:Hshs xs p]:Ans prog GL 418 [int n,int i,hA h,.sl 32 xs id] (n<=9223372036854775807) (.tup [hA ((vO n i h p).getD E9),d9 (vO n i h p).isSome]):=⟨λhn=>by
 have hh:=hx.out;subst hh;have hmp:(p.map hA).length=p.length:=llm _;have hmt:((S9 n i).map uQ).length=(S9 n i).length:=llm _;refine ze func418 ntmps418 λ_ hs=>?_;repeat' first|refine Wz ?_|intro
 refine X0 (λh1=>?_) (λh1=>?_)
 ·repeat' first|refine Wz ?_|intro
  refine j6 ?_;rw[BA (.inl h1)];rfl
 repeat' first|refine Wz ?_|intro
 refine X0 (λh2=>?_) (λh2=>?_)
 ·repeat' first|refine Wz ?_|intro
  refine j6 ?_;rw[BA (.inr (.inl h2))];rfl
 repeat' first|refine Wz ?_|intro
 refine X0 (λh3=>?_) (λh3=>?_)
 ·repeat' first|refine Wz ?_|intro
  refine j6 ?_;rw[BA (.inr (.inr (.inl h3)))];rfl
 repeat' first|refine Wz ?_|intro
 refine w9 (λh4=>?_) (λh4=>?_)
 ·repeat' first|refine Wz ?_|intro
  refine j6 ?_;rw[BA (.inr (.inr (.inr om)))];rfl
 have hgd:=Ob (h:=h) (show ¬ (i<0\/n<=i\/2000<n\/(S9 n i).length≠p.length) by omega);rw[hgd];have hm:(S9 n i).length=p.length:=by omega
 have hpl:p.length<=2000:=by
  rw[<- hm];unfold S9;split
  ·simp
  exact Nat.le_trans (EI _ _ _ (Nat.le_refl _)) om
 generalize S9 n i=ts at *;repeat' first|refine Wz ?_|intro
 rename_i g6 g8 g11;refine y9 (α:=Nat) (λj=>[(0,int n),(6,ptr g6),(8,ptr g8),(10,.sl 3 (ts.map uQ) none),(11,ptr g11),(37,.sl 32 (p.map hA) id),(38,int (p.map hA).length),(39,int j)]) (λj=>[.var g11 40 (hA (jQ (ts.drop (p.length-j)) h (p.take j))),.var g8 40 (hA E9)])
  (λj=>j<=p.length) (λj=>p.length-j) 0 zc ?_ (Nat.zero_le _) ?_
 ·rw[Nat.sub_zero,<- hm,List.drop_length,jQ];exact u7
 intro j hj;repeat' first|refine Wz ?_|intro
 refine w9 (λhlt=>?_) (λhlt=>?_)
 ·have hjp:j<p.length:=om
  have hjt:p.length-1-j<ts.length:=om
  have hst:jQ (ts.drop (p.length-(j+1))) h (p.take (j+1))=if ts[p.length-1-j].1=true then oV (jQ (ts.drop (p.length-j)) h (p.take j)) p[j] else oV p[j] (jQ (ts.drop (p.length-j)) h (p.take j)):=by
   rw[show p.length-(j+1)=p.length-1-j by omega,List.drop_eq_getElem_cons hjt,List.take_succ_eq_append_getElem hjp,Cr,show p.length-1-j+1=p.length-j by omega]
  repeat' first|refine Wz ?_|intro
  refine Y2 (l:=p) (f:=hA) j hjp ?_;repeat' first|refine Wz ?_|intro
  refine Y2 (l:=ts) (f:=uQ) (p.length-1-j) hjt ?_;repeat' first|refine Wz ?_|intro
  refine nA (λhb=>?_) (λhb=>?_)
  ·rw[if_pos hb] at hst;repeat' first|refine Wz ?_|intro
   refine o9 (j+1) zc ?_ hjp om;rw[hst];exact u7
  rw[if_neg (by rw[hb];simp)] at hst;repeat' first|refine Wz ?_|intro
  refine o9 (j+1) zc ?_ hjp om;rw[hst];exact u7
 obtain rfl:j=p.length:=by omega
 rw[Nat.sub_self,List.drop_zero,List.take_length];exact aP⟩
end

theorem Yw (N:Nat):N<=2000->∀ {n i:Nat} {h:Hsh} {p:List Hsh} {xs:List AV} {id:Option Value} [Hshs xs p],Ans prog GL 486 [int n,int i,hA h,.sl 32 xs id] (n<=N/\i<n/\p.length=(turns n i).length) (hA (jQ (turns n i) h p)):=by
 induction N with
 | zero=>exact λ_=>⟨λhc=>absurd hc.2.1 om⟩
 | succ N ih=>
  intro hN n i h p xs id hx;have ih:=@ih om;refine⟨λhc=>?_⟩;obtain⟨c1,c2,c3⟩:=hc;have hh:=hx.out;subst hh;have hm:(p.map hA).length=p.length:=llm _;refine ze func486 ntmps486 λ_ hs=>?_;repeat' first|refine Wz ?_|intro
  refine w9 (λh1=>?_) (λh1=>?_)
  ·obtain rfl:n=1:=by omega
   exact aP
  have hr:=TE c2 om;have hk0:((n:Int)+1) / 2=(((n+1) / 2:Nat):Int):=by omega
  have hpb:p.length<=n:=by rw[c3];exact EI n n i (Nat.le_refl _)
  rw[hr,List.length_cons] at c3;have hpn:p.length-1<p.length:=by omega
  have hpe:p=p.take (p.length-1)++[p[p.length-1]]:=by
   rw[<- List.take_succ_eq_append_getElem hpn,show p.length-1+1=p.length by omega,List.take_length]
  have hup:∀ t ts,jQ (t::ts) h p=if t.1=true then oV (jQ ts h (p.take (p.length-1))) p[p.length-1] else oV p[p.length-1] (jQ ts h (p.take (p.length-1))):=λt ts=>by
   have:=Cr t ts h p[p.length-1] (p.take (p.length-1))
   rwa [<- hpe] at this
  have htl:((p.take (p.length-1)).drop 0).length=p.length-1:=sm
  repeat' first|refine Wz ?_|intro
  rw[hk0];generalize hk:(n+1) / 2=k at *;refine Y2 (l:=p) (f:=hA) (p.length-1) hpn ?_;repeat' first|refine Wz ?_|intro
  refine w9 (λhlt=>?_) (λhlt=>?_)
  ·have hik:i<k:=om
   rw[if_pos hik,if_pos hik] at hr c3;repeat' first|refine Wz ?_|intro
   apply zf [];exact zi;intro _ _;refine jC 0 (p.length-1) ?_;exact j3 (p9 rfl rfl);apply zf [];exact zi;intro _ _;refine DZ (hp:=by exact⟨om,hik,by rw[htl];omega⟩) ?_;exact j3 (p9 rfl rfl);repeat' first|refine Wz ?_|intro
   refine j6 ?_;rw[hr,hup,if_pos (by simpa using hik),List.drop_zero];rfl
  have hik:¬ i<k:=om
  rw[if_neg hik,if_neg hik] at hr c3;repeat' first|refine Wz ?_|intro
  have e1:(n:Int)-(k:Int)=((n-k:Nat):Int):=om
  have e2:(i:Int)-(k:Int)=((i-k:Nat):Int):=om
  rw[e1,e2];repeat' first|refine Wz ?_|intro
  apply zf [];exact zi;intro _ _;refine jC 0 (p.length-1) ?_;exact j3 (p9 rfl rfl);apply zf [];exact zi;intro _ _;refine DZ (hp:=by exact⟨om,om,by rw[htl];omega⟩) ?_;exact j3 (p9 rfl rfl);repeat' first|refine Wz ?_|intro
  refine j6 ?_;rw[hr,hup,if_neg (by simpa using hik),List.drop_zero];rfl
instance b6k {n i:Nat}{h:Hsh}{p:List Hsh}{xs:List AV}{id:Option Value}[Hshs xs p]:Ans prog GL 486 [int n,int i,hA h,.sl 32 xs id] (n<=2000/\i<n/\p.length=(turns n i).length) (hA (jQ (turns n i) h p)):=Yw 2000 (Nat.le_refl _)
instance b7J {n i:Int}{h:Hsh}{p:List Hsh}{xs:List AV}{id:Option Value}[hx:Hshs xs p]:Ans prog GL 482 [int n,int i,hA h,.sl 32 xs id] (n<=9223372036854775807) (.tup [hA ((vO n i h p).getD E9),d9 (vO n i h p).isSome]):=⟨λhn=>by
 have hh:=hx.out;subst hh;have hmp:(p.map hA).length=p.length:=llm _;refine ze func482 ntmps482 λ_ hs=>?_;repeat' first|refine Wz ?_|intro
 refine X0 (λh1=>?_) (λh1=>?_)
 ·repeat' first|refine Wz ?_|intro
  refine j6 ?_;rw[BA (.inl h1)];rfl
 repeat' first|refine Wz ?_|intro
 refine X0 (λh2=>?_) (λh2=>?_)
 ·repeat' first|refine Wz ?_|intro
  refine j6 ?_;rw[BA (.inr (.inl h2))];rfl
 repeat' first|refine Wz ?_|intro
 refine X0 (λh3=>?_) (λh3=>?_)
 ·repeat' first|refine Wz ?_|intro
  refine j6 ?_;rw[BA (.inr (.inr (.inl h3)))];rfl
 repeat' first|refine Wz ?_|intro
 refine w9 (λh4=>?_) (λh4=>?_)
 ·repeat' first|refine Wz ?_|intro
  refine j6 ?_;rw[BA (.inr (.inr (.inr om)))];rfl
 rw[Ob (h:=h) (show ¬ (i<0\/n<=i\/2000<n\/(S9 n i).length≠p.length) by omega)];obtain⟨N,rfl⟩:∃ N:Nat,n=N:=⟨n.toNat,om⟩;obtain⟨I,rfl⟩:∃ I:Nat,i=I:=⟨i.toNat,om⟩;have hw:S9 (N:Int) (I:Int)=turns N I:=MQ om om;rw[hw] at h4 ⊢;exact aP⟩
theorem OQ {l:List Hsh}{i:Int}(h:i<0\/(l.length:Int)<=i\/l.length<2):iE l i=[]:=by
 unfold iE S9;by_cases hc:i<0\/(l.length:Int)<=i\/2000<(l.length:Int)
 ·rw[if_pos hc];rfl
 rw[if_neg hc];have h1:l.length=1:=by omega
 rw[show (l.length:Int).toNat=1 by omega,IW];rfl
theorem a2v {l:List Hsh}{i k:Nat}(h:i<l.length)(h1:1<l.length)(h2:l.length<=2000)(hk:(l.length+1) / 2=k):iE l i=if i<k then iE (l.take k) i++[gX (l.drop k)] else iE (l.drop k) ((i-k:Nat):Int)++[gX (l.take k)]:=by
 have e1:iE l i=(jL (turns l.length i) l).reverse:=by rw[iE,MQ h h2]
 rw[e1,TE h h1,hk,jL];by_cases hik:i<k
 ·have hl:(l.take k).length=k:=by simp;omega
  have e2:iE (l.take k) i=(jL (turns k i) (l.take k)).reverse:=by rw[iE,hl,MQ hik om]
  rw[if_pos hik,e2];simp[hik]
 have hl:(l.drop k).length=l.length-k:=sm
 have e2:iE (l.drop k) ((i-k:Nat):Int)=(jL (turns (l.length-k) (i-k)) (l.drop k)).reverse:=by rw[iE,hl,MQ om om]
 rw[if_neg hik,e2];simp[hik]
theorem a1r (N:Nat):N<=2000->∀ {d:List Ent} {i:Int} {xs:List AV} {id:Option Value} [Ents xs d],Ans prog GL 172 [.sl 2 xs id,int i] (d.length<=N) (.sl 32 ((iE (d.map U3) i).map hA) none):=by
 induction N with
 | zero=>
  intro _ d i xs id hx;refine⟨λhl=>?_⟩;have h:=hx.out;subst h;obtain rfl:d=[]:=List.eq_nil_of_length_eq_zero om;rw[OQ (.inr (.inr sm))];refine ze func172 ntmps172 λ_ hs=>?_;repeat' first|refine Wz ?_|intro
  refine X0 (λh1=>?_) (λh1=>?_)
  ·repeat' first|refine Wz ?_|intro
   refine X4 4 (Imp.nilN (k:=32)) ?_;exact j6 rfl
  repeat' first|refine Wz ?_|intro
  refine X0 (λh2=>?_) (λh2=>?_)
  ·repeat' first|refine Wz ?_|intro
   refine X4 4 (Imp.nilN (k:=32)) ?_;exact j6 rfl
  exfalso
  simp at h2;omega
 | succ N ih=>
  intro hN d i xs id hx;have ih:=@ih om;refine⟨λhl=>?_⟩;have h:=hx.out;subst h;have hm:(d.map D5).length=d.length:=llm _;have hml:(d.map U3).length=d.length:=llm _;refine ze func172 ntmps172 λ_ hs=>?_;repeat' first|refine Wz ?_|intro
  refine X0 (λh1=>?_) (λh1=>?_)
  ·repeat' first|refine Wz ?_|intro
   refine X4 4 (Imp.nilN (k:=32)) ?_;refine j6 ?_;rw[OQ (.inl h1)];rfl
  repeat' first|refine Wz ?_|intro
  refine X0 (λh2=>?_) (λh2=>?_)
  ·repeat' first|refine Wz ?_|intro
   refine X4 4 (Imp.nilN (k:=32)) ?_;refine j6 ?_;rw[OQ (.inr (.inl om))];rfl
  repeat' first|refine Wz ?_|intro
  refine w9 (λh3=>?_) (λh3=>?_)
  ·repeat' first|refine Wz ?_|intro
   refine X4 4 (Imp.nilN (k:=32)) ?_;refine j6 ?_;rw[OQ (.inr (.inr om))];rfl
  obtain⟨I,rfl⟩:∃ I:Nat,i=I:=⟨i.toNat,om⟩;have hst:=a2v (l:=d.map U3) (i:=I) om om om rfl;rw[hml] at hst;rw[hst];have hk0:(((d.map D5).length:Int)+1) / 2=(((d.length+1) / 2:Nat):Int):=by omega
  repeat' first|refine Wz ?_|intro
  rw[hk0];generalize hk:(d.length+1) / 2=k at *;have hwl:∀ (l:List Hsh) (i:Int),(iE l i).length<=l.length:=λl i=>by rw[Jq];exact Ch _ _
  have hw1:=hwl ((d.map U3).take k) I;have hw2:=hwl ((d.map U3).drop k) ((I-k:Nat):Int);rw[List.length_take] at hw1;rw[List.length_drop] at hw2;have hmt:(((d.map D5).take k).drop 0)=(d.take k).map D5:=by rw[List.drop_zero,List.map_take]
  have hmd:(((d.map D5).take d.length).drop k)=(d.drop k).map D5:=by rw[List.take_of_length_le om,List.map_drop]
  refine Y4 6 (Imp.nil (k:=32)) ?_;refine P6 (λok w h=>h.full 40 32 none 0) ?_;repeat' first|refine Wz ?_|intro
  refine w9 (λhlt=>?_) (λhlt=>?_)
  ·have hik:I<k:=om
   rw[if_pos hik];repeat' first|refine Wz ?_|intro
   refine jC 0 k ?_;rw[hmt];refine RN ?_;refine DZ (hp:=by simp;omega) ?_;rw[List.map_take];refine H7 (λv=>?_);repeat' first|refine Wz ?_|intro
   refine jC k d.length ?_;rw[hmd];refine DZ (hp:=by simp;omega) ?_;repeat' first|refine Wz ?_|intro
   refine H7 (λv'=>?_);repeat' first|refine Wz ?_|intro
   refine X4 4 Imp.sl ?_;refine j6 ?_;simp[D8]
  have hik:¬ I<k:=om
  rw[if_neg hik];repeat' first|refine Wz ?_|intro
  refine jC k d.length ?_;rw[hmd];repeat' first|refine Wz ?_|intro
  rw[show (I:Int)-(k:Int)=((I-k:Nat):Int) by omega,List.map_drop];refine H7 (λv=>?_);repeat' first|refine Wz ?_|intro
  refine jC 0 k ?_;rw[hmt];refine DZ (hp:=by simp;omega) ?_;repeat' first|refine Wz ?_|intro
  refine H7 (λv'=>?_);repeat' first|refine Wz ?_|intro
  refine X4 4 Imp.sl ?_;refine j6 ?_;simp[D8]

theorem Di {α:Type}{a b:List α}{i:Nat}(h:a.take i=b.take i)(ha:i<a.length)(hb:i<b.length)(he:a[i]=b[i]):a.take (i+1)=b.take (i+1):=by
 rw[List.take_succ_eq_append_getElem ha,List.take_succ_eq_append_getElem hb,h,he]
instance c0x {a b:List Hsh}{xs ys:List AV}{id id2:Option Value}[hx:Hshs xs a][hy:Hshs ys b]:Ans prog GL 179 [.sl 32 xs id,.sl 32 ys id2] (b.length<=1073741823) (d9 (decide (a=b))):=⟨λhbl=>by
 have h1:=hx.out;have h2:=hy.out;subst h1 h2;have hma:(a.map hA).length=a.length:=llm _;have hmb:(b.map hA).length=b.length:=llm _;refine ze func179 ntmps179 λ_ hs=>?_;repeat' first|refine Wz ?_|intro
 refine w9 (λhl=>?_) (λhl=>?_)
 ·repeat' first|refine Wz ?_|intro
  refine j6 ?_;have:a≠b:=λe=>by subst e;omega
  simp[D8,this]
 repeat' first|refine Wz ?_|intro
 have hle:a.length=b.length:=om
 refine y9 (α:=Nat) (λi=>[(0,.sl 32 (a.map hA) id),(1,.sl 32 (b.map hA) id2),(5,int i)]) (λ_=>[]) (λi=>i<=a.length/\a.take i=b.take i) (λi=>a.length-i) 0 zc slr ⟨Nat.zero_le _,rfl⟩ ?_;rintro i ⟨g1,g2⟩;repeat' first|refine Wz ?_|intro
 refine w9 (λhlt=>?_) (λhlt=>?_)
 ·have ha:i<a.length:=om
  have hb:i<b.length:=om
  repeat' first|refine Wz ?_|intro
  apply zf [];exact zi;intro _ _;refine Y2 (l:=a) (f:=hA) i ha ?_;exact j3 (p9 rfl rfl);repeat' first|refine Wz ?_|intro
  apply zf [];exact zi;intro _ _;refine Y2 (l:=b) (f:=hA) i hb ?_;exact j3 (p9 rfl rfl);repeat' (first|refine W ?_|refine mM ?_|refine oU ?_|refine D6 (λ_=>?_)|intro _)
  refine nA (λhc=>?_) (λhc=>?_)
  ·repeat' first|refine Wz ?_|intro
   refine j6 ?_;have hne:a[i]≠b[i]:=by simpa using hc
   have:a≠b:=λe=>by subst e;exact hne rfl
   simp[D8,this]
  repeat' first|refine Wz ?_|intro
  exact o9 (i+1) zc slr ⟨ha,Di g2 ha hb (by simpa using hc)⟩ om
 repeat' first|refine Wz ?_|intro
 refine j6 ?_;rw[List.take_of_length_le om,List.take_of_length_le om] at g2;simp[D8,g2]⟩
end Go.Proofs.Z

namespace Go.Proofs.Z
open Go Go.RowKit Tw Av
end Go.Proofs.Z

namespace Go.Proofs.Z
open Go Go.RowKit Tw Av Go.Proofs.Tryz
instance b7n {d:List Ent}{i:Int}{xs:List AV}{id:Option Value}[Ents xs d]:Ans prog GL 172 [.sl 2 xs id,int i] (d.length<=2000) (.sl 32 ((iE (d.map U3) i).map hA) none):=a1r 2000 (Nat.le_refl _)
end Go.Proofs.Z

namespace Go.Proofs.Z
open Go Go.RowKit Tw Av
end Go.Proofs.Z

namespace Go.Proofs.Z
open Go Go.RowKit Tw Av Go.Proofs.Tryz
section
variable {k:Bs}{d l:List Ent}{xs:List AV}{i:Int}
structure Prf where
 a:Int
 m:Int
 p:List Hsh
deriving DecidableEq
structure Gp where
 n:Int
 l:List Ent
 r:List Ent
 a:Prf
 b:Prf
deriving DecidableEq
abbrev Z9 (x:Prf):AV:=.agg 3 [int x.a,int x.m,.sl 32 (x.p.map hA) none]
abbrev eZ (x:Gp):AV:=.agg 9 [int x.n,.sl 2 (x.l.map D5) none,.sl 2 (x.r.map D5) none,Z9 x.a,Z9 x.b]
def eD:Prf:=⟨0,0,[]⟩
def pX:Gp:=⟨0,[],[],eD,eD⟩
def yM (d:List Ent)(i:Int):Prf:=⟨i,d.length,iE (d.map U3) i⟩
def iV (d:List Ent)(i:Nat)(is:Bool):Prf:=if is=true then yM d i else eD
def rV (d:List Ent)(i:Nat)(is:Bool):Gp:=if is=true then pX else
 ⟨d.length,if 0<i then [d.getD (i-1) ⟨[],[]⟩] else [],if i<d.length then [d.getD i ⟨[],[]⟩] else [],if 0<i then yM d ((i-1:Nat):Int) else eD,if i<d.length then yM d i else eD⟩
def mU (root:Hsh)(x:Ent)(p:Prf):Bool:=(vO p.m p.a (U3 x) p.p).isSome&&decide ((vO p.m p.a (U3 x) p.p).getD E9=root)
def Z8 (root:Hsh)(n:Int)(bes:Bs->Bool):List Ent->Prf->Bool
 | [],_=>true
 | [x],p=>bes x.key&&(decide (p.m=n)&&mU root x p)
 | _,_=>false
def AO (root:Hsh)(g:Gp):Bool:=match g.l,g.r with
 | [],[]=>decide (g.n=0)&&decide (root=xE 0 (gX []))
 | [],_=>decide (g.b.a=0)
 | _,[]=>decide (g.a.a=g.n-1)
 | _,_=>decide (g.b.a=g.a.a+1)
def xV (root:Hsh)(k:Bs)(g:Gp):Bool:=Z8 root g.n (λa=>blt a k) g.l g.a&&(Z8 root g.n (λa=>blt k a) g.r g.b&&AO root g)
def mY (l:List Ent)(k:Bs):Nat:=l.findIdx λx=>!blt x.key k
def nR (l:List Ent)(k:Bs):Bool:=decide (mY l k<l.length/\(l.getD (mY l k) ⟨[],[]⟩).key=k)
theorem a5s (l:List Ent)(k:Bs):mY l k<=l.length:=List.findIdx_le_length
theorem XW {i:Nat}(hi:i<l.length)(hb:∀ j,(hj:j<i)->blt (l[j]'(by omega)).key k=true)(hh:blt l[i].key k=false):mY l k=i:=by
 unfold mY;rw[List.findIdx_eq hi];exact⟨by simpa using hh,λj hj=>by simpa using hb j hj⟩
theorem Pk (hb:∀ j,(hj:j<l.length)->blt l[j].key k=true):mY l k=l.length:=by
 unfold mY;rw[List.findIdx_eq_length];intro x hx;obtain⟨j,hj,rfl⟩:=List.getElem_of_mem hx;simpa using hb j hj
theorem getD_at {α:Type}{l:List α}{i:Nat}{d:α}(h:i<l.length):l.getD i d=l[i]:=by simp[List.getD,h]
theorem Pj (h:Srt l):mY l k=G6 l k/\nR l k=K5 l k:=by
 obtain⟨h1,h2⟩:=Um (k:=k) h;have hle:G6 l k<=l.length:=by
  obtain⟨A,B,_,_,e,h⟩:=vU k h;rw[e];rcases h with⟨_,h⟩|⟨v,_,h⟩ <;> (rw[h];simp)
 have hat:mY l k=G6 l k:=by
  rcases Nat.lt_or_ge (G6 l k) l.length with h3|h3
  ·refine XW h3 (λj hj=>h1 _ ?_) (h2 _ ?_)
   ·exact List.mem_take_iff_getElem.2 ⟨j,om,rfl⟩
   rw[List.drop_eq_getElem_cons h3];exact List.mem_cons_self
  have e:G6 l k=l.length:=om
  rw[e,Pk];intro j hj;refine h1 _ ?_;rw[e,List.take_length];exact List.getElem_mem _
 refine⟨hat,?_⟩;unfold nR K5;rw[hat,Bool.decide_and];congr 1
 exact decide_eq_decide.2 UG.symm
instance b8h {id:Option Value}[hx:Ents xs l]:Ans prog GL 171 [.sl 2 xs id,str k] True (.tup [int (mY l k),d9 (nR l k)]):=⟨λ_=>by
 have h:=hx.out;subst h;have hm:(l.map D5).length=l.length:=llm _;refine ze func171 ntmps171 λ_ hs=>?_;refine wF 0 (λhb=>?_);have hb:=nP hb;repeat' first|refine O ?_|intro
 refine y9 (α:=Nat) (λi=>[(0,.sl 2 (l.map D5) id),(1,str k),(6,int i)]) (λ_=>[]) (λi=>i<=l.length/\∀ j,(hj:j<l.length)->j<i->blt l[j].key k=true) (λi=>l.length-i) 0 zc slr ⟨Nat.zero_le _,λ_ _ h=>absurd h om⟩ ?_;rintro i ⟨g1,g2⟩;repeat' first|refine O ?_|intro
 refine w9 (λhlt=>?_) (λhlt=>?_)
 ·have hil:i<l.length:=om
  repeat' first|refine O ?_|intro
  refine nA (λhc=>?_) (λhc=>?_)
  ·repeat' (first|refine W ?_|refine nN ?_|refine rH ?_|refine mM ?_|refine oU ?_|refine D6 (λ_=>?_)|intro _)
   refine j6 ?_;have e:=XW hil (λj hj=>g2 j om hj) (by simpa using hc);rw[nR,e,getD_at hil];simp[D8,hil]
  repeat' first|refine O ?_|intro
  refine o9 (i+1) zc slr ⟨hil,λj hj h=>?_⟩ om;rcases Nat.lt_or_ge j i with h2|h2
  ·exact g2 j hj h2
  obtain rfl:j=i:=by omega
  simpa using hc
 obtain rfl:i=l.length:=by omega
 repeat' first|refine O ?_|intro
 refine j6 ?_;have e:=Pk (λj hj=>g2 j hj hj);rw[nR,e];simp[D8]⟩
attribute [irreducible] nR
instance c0I {a b:List Ent}{ys:List AV}{id id2:Option Value}[hx:Ents xs a][hy:Ents ys b]:Ans prog GL 42 [.sl 2 xs id,.sl 2 ys id2] True (d9 (decide (a=b))):=⟨λ_=>by
 have h1:=hx.out;have h2:=hy.out;subst h1 h2;have hma:(a.map D5).length=a.length:=llm _;have hmb:(b.map D5).length=b.length:=llm _;refine ze func42 ntmps42 λ_ hs=>?_;refine wF 0 (λhb=>?_);have hb:=nP hb;repeat' first|refine O ?_|intro
 refine w9 (λhne=>?_) (λhe=>?_)
 ·repeat' first|refine O ?_|intro
  refine j6 ?_;have:a≠b:=λe=>by subst e;exact hne rfl
  simp[D8,this]
 have hle:a.length=b.length:=om
 repeat' first|refine O ?_|intro
 refine y9 (α:=Nat) (λi=>[(0,.sl 2 (a.map D5) id),(1,.sl 2 (b.map D5) id2),(5,int i)]) (λ_=>[]) (λi=>i<=a.length/\a.take i=b.take i) (λi=>a.length-i) 0 zc slr ⟨Nat.zero_le _,rfl⟩ ?_;rintro i ⟨g1,g2⟩;repeat' first|refine O ?_|intro
 refine w9 (λhlt=>?_) (λhlt=>?_)
 ·have ha:i<a.length:=om
  have hb:i<b.length:=om
  repeat' (first|refine W ?_|refine nN ?_|refine rH ?_|refine mM ?_|refine oU ?_|refine D6 (λ_=>?_)|intro _)
  have hk:decide (a[i]=b[i])=(decide (a[i].key=b[i].key)&&(decide (a[i].val=b[i].val)&&true)):=by
   rw[show a[i]=⟨a[i].key,a[i].val⟩ from rfl,show b[i]=⟨b[i].key,b[i].val⟩ from rfl];simp[Ent.mk.injEq]
  rw[<- hk];refine nA (λhc=>?_) (λhc=>?_)
  ·repeat' first|refine O ?_|intro
   refine j6 ?_;have hne:a[i]≠b[i]:=by simpa using hc
   have:a≠b:=λe=>by subst e;exact hne rfl
   simp[D8,this]
  repeat' first|refine O ?_|intro
  exact o9 (i+1) zc slr ⟨ha,Di g2 ha hb (by simpa using hc)⟩ om
 repeat' first|refine O ?_|intro
 refine j6 ?_;rw[List.take_of_length_le om,List.take_of_length_le om] at g2;simp[D8,g2]⟩
instance b9v {id:Option Value}[hx:Ents xs d]:Ans prog GL 176 [.agg 1 [.sl 2 xs id],int i] (d.length<=1000000) (Z9 (yM d i)):=⟨λhl=>by
 have h:=hx.out;subst h;refine ze func176 ntmps176 λ_ hs=>?_;exact J7⟩
theorem Ng:Imp (.tup [.agg 3 [int 0,int 0,.lit (.slice none 0 0)],d9 false]) (.tup [Z9 eD,d9 false]):=(inferInstance:ImpR _ (.tup [.agg 3 [int 0,int 0,.sl 32 [] none],d9 false])).imp
instance b9r {id:Option Value}[hx:Ents xs d]:Ans prog GL 86 [.agg 1 [.sl 2 xs id],str k] (d.length<=1000000) (.tup [Z9 (iV d (G6 d k) (K5 d k)),d9 (K5 d k)]):=⟨λhl=>by
 have h:=hx.out;subst h;refine ze func86 ntmps86 λ_ hs=>?_;repeat' first|refine O ?_|intro
 cases hb:K5 d k
 ·repeat' first|refine O ?_|intro
  refine F9 ?_;exact Ng
 exact J7⟩
instance b7x {id:Option Value}[hx:Ents xs d]:Ans prog GL 79 [.sl 2 xs id,str k] (d.length<=2000) (.tup [Z9 (iV d (mY d k) (nR d k)),d9 (nR d k)]):=⟨λhl=>by
 have h:=hx.out;subst h;refine ze func79 ntmps79 λ_ hs=>?_;repeat' first|refine O ?_|intro
 cases hb:nR d k
 ·repeat' first|refine O ?_|intro
  refine F9 ?_;exact Ng
 repeat' first|refine O ?_|intro
 refine j6 ?_;simp[D8,iV,yM]⟩
instance b9s {root:Hsh}{a b:Bs}{m:Int}{p:List Hsh}{id:Option Value}[hx:Hshs xs p]:Ans prog GL 376 [hA root,.agg 2 [str a,str b],.agg 3 [int i,int m,.sl 32 xs id]] (m<=9223372036854775807) (d9 (mU root ⟨a,b⟩ ⟨i,m,p⟩)):=⟨λhl=>by
 have h:=hx.out;subst h;refine ze func376 ntmps376 λ_ hs=>?_;repeat' first|refine O ?_|intro
 rw[mU];generalize vO m i (U3 ⟨a,b⟩) p=o;cases o
 ·repeat' (first|refine W ?_|refine nN ?_|refine rH ?_|refine mM ?_|refine oU ?_|refine D6 (λ_=>?_)|intro _)
  exact j6 rfl
 repeat' (first|refine W ?_|refine nN ?_|refine rH ?_|refine mM ?_|refine oU ?_|refine D6 (λ_=>?_)|intro _)
 exact j6 rfl⟩
instance b7E {root:Hsh}{a b:Bs}{m:Int}{p:List Hsh}{id:Option Value}[hx:Hshs xs p]:Ans prog GL 465 [hA root,.agg 2 [str a,str b],.agg 3 [int i,int m,.sl 32 xs id]] (m<=9223372036854775807) (d9 (mU root ⟨a,b⟩ ⟨i,m,p⟩)):=⟨λhl=>by
 have h:=hx.out;subst h;refine ze func465 ntmps465 λ_ hs=>?_;repeat' first|refine O ?_|intro
 rw[mU];generalize vO m i (U3 ⟨a,b⟩) p=o;cases o
 ·repeat' (first|refine W ?_|refine nN ?_|refine rH ?_|refine mM ?_|refine oU ?_|refine D6 (λ_=>?_)|intro _)
  exact j6 rfl
 repeat' (first|refine W ?_|refine nN ?_|refine rH ?_|refine mM ?_|refine oU ?_|refine D6 (λ_=>?_)|intro _)
 exact j6 rfl⟩
end

instance a5Y {xs ys:List AV}{id id2:Option Value}{i m i2 m2:Int}{p q:List Hsh}[hx:Hshs xs p][hy:Hshs ys q]:Ans prog GL 90 [.agg 3 [int i,int m,.sl 32 xs id],.agg 3 [int i2,int m2,.sl 32 ys id2]] (q.length<=1073741823) (d9 (decide (p=q)&&(decide (i=i2)&&decide (m=m2)))):=⟨λhl=>by
 have h1:=hx.out;have h2:=hy.out;subst h1 h2;refine ze func90 ntmps90 λ_ hs=>?_;repeat' first|refine O ?_|intro
 cases hb:decide (p=q)
 ·repeat' first|refine Z ?_|intro
  refine j6 ?_;simp[D8]
 by_cases hi:i=i2
 ·repeat' first|refine Z ?_|intro
  refine j6 ?_;simp[D8,hi]
 repeat' first|refine Z ?_|intro
 refine j6 ?_;simp[D8,hi]⟩
theorem Ah {a b:Bs}:(!(blt a b || decide (a=b)))=blt b a:=by
 cases h1:blt a b
 ·by_cases h2:a=b
  ·subst h2;simp[yK]
  cases h3:blt b a
  ·exact absurd (Ag h1 h3) h2
  simp[h2]
 simp[Ai h1]
theorem a3x {a k:Bs}{g:Nat}{T:TypeId}:Av.Spec prog GL 384 [str a,ptr g] [.var g T (str k)] λu m=>u=d9 (blt a k)/\m=[.var g T (str k)]:=by
 refine ze func384 ntmps384 λ_ hs=>?_;repeat' first|refine O ?_|intro
 exact l9 [.var g T (str k)] ⟨rfl,rfl⟩ slr
theorem a3w {a k:Bs}{g:Nat}{T:TypeId}:Av.Spec prog GL 385 [str a,ptr g] [.var g T (str k)] λu m=>u=d9 (blt k a)/\m=[.var g T (str k)]:=by
 refine ze func385 ntmps385 λ_ hs=>?_;repeat' first|refine O ?_|intro
 refine l9 [.var g T (str k)] ⟨?_,rfl⟩ slr;rw[<- Ah (a:=a)];rfl
theorem Kz {f:FuncId}[FnB prog f]{root:Hsh}{k:Bs}{G:Gp}{l:List Ent}{p:Prf}{gk g5 g3:Nat}{Tk:TypeId}{bes:Bs->Bool}(hb:∀ a,Av.Spec prog GL f [str a,ptr gk] [.var gk Tk (str k)] λu m=>u=d9 (bes a)/\m=[.var gk Tk (str k)])(hn:p.m<=9223372036854775807) :
  Av.Spec prog GL 383 [.sl 2 (l.map D5) none,Z9 p,E5 f [.pointer (some ⟨gk,0,none⟩)],ptr g5,ptr g3] [.var g5 55 (eZ G),.var gk Tk (str k),.var g3 40 (hA root)]
   λu m=>u=d9 (Z8 root G.n bes l p)/\m=[.var g5 55 (eZ G),.var gk Tk (str k),.var g3 40 (hA root)]:=by
 refine ze func383 ntmps383 λ_ hs=>?_;rcases l with _|⟨x,_|⟨y,l⟩⟩
 ·repeat' first|refine Z ?_|intro
  exact l9 [.var g5 55 (eZ G),.var gk Tk (str k),.var g3 40 (hA root)] ⟨rfl,rfl⟩ (List.sublist_cons_self _ _)
 ·repeat' first|refine Z ?_|intro
  apply zf [2];exact zi;intro s' hs';refine dD ?_;refine gU (args:=[str x.key]) (cs:=[.pointer (some ⟨gk,0,none⟩)]) [.var gk Tk (str k)] _ (by rw[hs'];exact hb x.key) (λu m1 hh=>?_) lpr;obtain⟨rfl,rfl⟩:=hh;exact j3 (p9 rfl rfl);cases hbe:bes x.key
  ·repeat' first|refine Z ?_|intro
   refine l9 [.var g5 55 (eZ G),.var gk Tk (str k),.var g3 40 (hA root)] ⟨?_,rfl⟩ (List.sublist_cons_self _ _);simp[D8,Z8,hbe]
  by_cases hpm:p.m=G.n
  ·repeat' first|refine Z ?_|intro
   rw[dT hpm];repeat' first|refine O ?_|intro
   refine l9 [.var g5 55 (eZ G),.var gk Tk (str k),.var g3 40 (hA root)] ⟨?_,rfl⟩ (List.sublist_cons_self _ _);simp only[D8,Z8,hbe,hpm,decide_true,Bool.true_and];rw[<- hpm]
  repeat' first|refine Z ?_|intro
  rw[dZ hpm];repeat' first|refine O ?_|intro
  refine l9 [.var g5 55 (eZ G),.var gk Tk (str k),.var g3 40 (hA root)] ⟨?_,rfl⟩ (List.sublist_cons_self _ _);simp[D8,Z8,hbe,hpm]
 repeat' first|refine Z ?_|intro
 refine l9 [.var g5 55 (eZ G),.var gk Tk (str k),.var g3 40 (hA root)] ⟨?_,rfl⟩ (List.sublist_cons_self _ _);simp[D8,Z8]
theorem a8A {d:List Ent}{n:Nat}:(if (n:Int)<0 then (⟨[],[]⟩:Ent) else d.getD (n:Int).toNat ⟨[],[]⟩)=d.getD n ⟨[],[]⟩:=by
 rw[if_neg om,Int.toNat_natCast]
instance d0c {d:List Ent}{k:Bs}{xs:List AV}{id:Option Value}[hx:Ents xs d]:Ans prog GL 89 [.agg 1 [.sl 2 xs id],str k] (d.length<=1000000) (.tup [eZ (rV d (G6 d k) (K5 d k)),d9 (!K5 d k)]):=⟨λhl=>by
 have h:=hx.out;subst h;refine ze func89 ntmps89 λ_ hs=>?_;repeat' first|refine O ?_|intro
 cases hb:K5 d k
 focus
  repeat' first|refine O ?_|intro
  have hle:=LK d k;generalize G6 d k=n at *;have e2:∀ n:Nat,(((n+1:Nat):Int)-1)=n:=λn=>by omega
  by_cases h1:n<d.length
  all_goals
   rcases n with _|n
   all_goals
    repeat' first|refine Z ?_|intro
    refine F9 ?_;simp only[D8,e2,a8A,rV,yM,eZ,Z9,eD,Nat.lt_irrefl,Nat.zero_lt_succ,Nat.add_sub_cancel,h1,if_true,if_false,List.map_cons,List.map_nil,Bool.not_false,Bool.false_eq_true];exact ImpR.imp
 focus
  repeat' first|refine O ?_|intro
  refine F9 ?_;simp only[D8,rV,eZ,Z9,if_true,pX,eD,List.map_nil,Bool.not_true];exact ImpR.imp⟩
end Go.Proofs.Z
