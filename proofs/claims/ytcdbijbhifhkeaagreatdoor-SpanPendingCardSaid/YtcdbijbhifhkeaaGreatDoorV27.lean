/- . -/
import Derived.Test.YtcdbijbhifhkeaaGreatDoorV26
set_option maxHeartbeats 64000000
namespace Go.Proofs.Z
open Go Go.RowKit Tw Av Go.Proofs.Tryz
section
variable {k:Bs}{l:List Bs}
theorem a6J (k:Bs):(xW k).length=64:=by rw[xW,Cr];simp[zeros]
theorem a5s (a:Bs):yY [a]=nX a:=by simp[yY]
theorem a5r (a b:Bs):yY [a,b]=nX (a++b):=by simp[yY]
abbrev zF (l:Bs):AV:=.agg 64 (l.map I5)
instance b9Q :Ans prog GL 239 [str k] (k.length<=1000000) (zF (xW k)):=⟨λhk=>by
 refine zc func239 ntmps239 λ_ hs=>?_;repeat' first|refine Vz ?_|intro
 refine G7 (λh1=>?_) (λh1=>?_)
 ·have:LenLe k 1000000:=⟨hk⟩;repeat' first|refine Vz ?_|intro
  rw[a5s];refine VH (l:=zeros 64) (a:=(nX k).l) rfl ?_;repeat' first|refine Vz ?_|intro
  refine x9 ?_;rw[xW,if_pos om];rfl
 repeat' first|refine Vz ?_|intro
 refine VH (l:=zeros 64) (a:=k) rfl ?_;repeat' first|refine Vz ?_|intro
 refine x9 ?_;rw[xW,if_neg om];rfl⟩
theorem a4s {g:Nat}{a b:UInt8}{T:TypeId}:Av.Spec prog GL 270 [I5 a,ptr g] [.var g T (I5 b)] λu m=>u=I5 (a ^^^ b)/\m=[.var g T (I5 b)]:=by
 refine zc func270 ntmps270 λ_ hs=>?_;repeat' first|refine Vz ?_|intro
 exact j4 [.var g T (I5 b)] ⟨rfl,rfl⟩ slr
theorem a1d {l:Bs}{b:UInt8}{i:Nat}(h:i<l.length):(eP b (l.take i)++l.drop i).set i (l[i] ^^^ b)=eP b (l.take (i+1))++l.drop (i+1):=by
 have h1:(eP b (l.take i)).length=i:=by simp[eP];omega
 rw[List.set_append,if_neg om,h1,Nat.sub_self,List.drop_eq_getElem_cons h,List.set_cons_zero,List.take_succ_eq_append_getElem h,eP,eP,List.map_append,laa];rfl
theorem Ht {l:Bs}(hl:l.length=64)(b:UInt8)(B:Int)(hB:B=b.toNat):SpecE prog GL 242 [zF l,.lit (.int .u8 B)] (str (eP b l)):=by
 subst hB;refine zc func242 ntmps242 λ_ hs=>?_;repeat' first|refine Vz ?_|intro
 rename_i g2 g3;refine Z0 (vs:=[.pointer (some ⟨g3,0,none⟩)]) ?_;repeat' first|refine Vz ?_|intro
 refine H7 (α:=Nat) (λi=>[(2,ptr g2),(5,F3 270 [.pointer (some ⟨g3,0,none⟩)]),(9,zF l),(10,int i)])
  (λi=>[.var g3 5 (I5 b),.var g2 283 (zF (eP b (l.take i)++l.drop i))]) (λi=>i<=64) (λi=>64-i) 0 za ?_ (Nat.zero_le _) ?_
 ·exact A8
 intro i hi;have hlen:(eP b (l.take i)++l.drop i).length=64:=by simp[eP];omega
 repeat' first|refine Vz ?_|intro
 refine G7 (λhlt=>?_) (λhlt=>?_)
 ·have hil:i<l.length:=om
  repeat' first|refine Vz ?_|intro
  refine IE (ps:=l.map I5) (u:=I5 l[i]) i ?_ rfl om (by simp[hil]) (by intro p hp;obtain⟨c,_,rfl⟩:=List.mem_map.1 hp;rfl) rfl;repeat' first|refine Vz ?_|intro
  refine gX (args:=[I5 l[i]]) (cs:=[.pointer (some ⟨g3,0,none⟩)]) [.var g3 5 (I5 b)] _ (by rw[hs];exact a4s) (λu m1 hh=>?_) lpr;obtain⟨rfl,rfl⟩:=hh;repeat' first|refine Vz ?_|intro
  refine aX i ?_;refine vJ (j:=i) (ps:=(eP b (l.take i)++l.drop i).map I5) (by simp only[List.length_map];omega) ?_;repeat' first|refine Vz ?_|intro
  rw[show ((eP b (l.take i)++l.drop i).map I5).set i (I5 (l[i] ^^^ b))=((eP b (l.take i)++l.drop i).set i (l[i] ^^^ b)).map I5 by rw[List.map_set],a1d hil];refine y7 (i+1) za ?_ om om;exact A8
 obtain rfl:i=64:=by omega
 rw[List.take_of_length_le om,List.drop_of_length_le om,List.append_nil];exact M7
theorem ImpC.one {n:Nat}{ps:List AV}:ImpC (.agg n [.agg n ps]) (.agg n ps):=λok w cs h=>by
 rw[RC] at h;obtain⟨h1,h2⟩:=h;rw[RCs] at h2;obtain⟨c1,c2,rfl,h3,h4⟩:=h2;rw[RCs] at h4;subst h4
 rwa [List.append_nil]
theorem a2z (hk:k.length<=1000000):Av.Spec prog GL 208 [str k] [] λu m=>∃ g,u=ptr g/\m=[.var g 321 (zF (xW k))]:=by
 refine zc func208 ntmps208 λ_ hs=>?_;repeat' first|refine Vz ?_|intro
 rename_i g;refine IL (g:=g) (v':=zF (xW k)) ImpC.one ?_;exact j4 [.var g 321 (zF (xW k))] ⟨g,rfl,rfl⟩ slr
theorem PW (b:UInt8)(l:Bs):(eP b l).length=l.length:=llm _
theorem a9a {i:Nat}(h:i<l.length):(l.take (i+1)).flatten=(l.take i).flatten++l[i]:=by
 rw[List.take_succ_eq_append_getElem h,List.flatten_append];simp
theorem Tx (i:Nat):(l.take i).flatten.length<=l.flatten.length:=by
 have h:=congrArg (λq=>(List.flatten q).length) (List.take_append_drop i l);simp only[List.flatten_append,List.length_append] at h;omega
theorem a2o {g:Nat}{kb:Bs}{id:Option Value}(hk:kb.length=64)(hl:l.flatten.length<=1000000000000)(hn:l.length<=1000000000000):Av.Spec prog GL 209 [ptr g,.sl 1 (l.map str) id] [.var g 321 (zF kb)] λu m=>u=hA (nX (eP 92 kb++(nX (eP 54 kb++l.flatten)).l))/\m=[]:=by
 have hlm:(l.map str).length=l.length:=llm _;refine zc func209 ntmps209 λ_ hs=>?_;repeat' first|refine Vz ?_|intro
 refine J6 [] _ (by rw[hs];exact rO) (λu m1 hh=>?_) lpr;obtain⟨gh,rfl,rfl⟩:=hh;repeat' first|refine Vz ?_|intro
 refine J6 [] _ (by rw[hs];exact Ht hk 54 54 rfl) (λu m1 hh=>?_) lpr;obtain⟨rfl,rfl⟩:=hh;refine J6 [.var gh 341 (dC h0 (zeros 64) 0)] _ (by rw[hs];exact TQ (M:=[]) (s:=eP 54 kb) HS.nil (by simp[PW];omega)) (λu m1 hh=>?_) lpr;obtain⟨rfl,x0,b0,hH0,rfl⟩:=hh;rw[List.nil_append] at hH0 ⊢;repeat' first|refine Vz ?_|intro
 rename_i g4 g5;refine H7 (α:=Nat × H8 × Bs) (λq=>[(4,ptr g4),(5,ptr g5),(6,ptr gh),(20,.sl 1 (l.map str) id),(21,int (l.map str).length),(22,int q.1)])
  (λq=>[.var gh 341 (dC q.2.1 q.2.2 (eP 54 kb++(l.take q.1).flatten).length),.var g5 283 (zF kb),.var g4 91 (hA G8)]) (λq=>q.1<=l.length/\HS (eP 54 kb++(l.take q.1).flatten) q.2.1 q.2.2) (λq=>l.length-q.1) (0,x0,b0) za ?_ ⟨Nat.zero_le _,by simpa using hH0⟩ ?_
 ·dsimp only;rw[List.take_zero,List.flatten_nil,List.append_nil];exact A8
 rintro⟨i,x,b⟩ ⟨hi,hH⟩;dsimp only at hi hH ⊢;repeat' first|refine Vz ?_|intro
 have hle:=Tx (l:=l) i;refine G7 (λhlt=>?_) (λhlt=>?_)
 ·have hil:i<l.length:=om
  have hle2:=Tx (l:=l) (i+1);have hfn:=a9a hil;rw[hfn,lla] at hle2;repeat' first|refine Vz ?_|intro
  refine J6 [.var gh 341 (dC x b (eP 54 kb++(l.take i).flatten).length)] _ (by rw[hs];exact TQ (s:=l[i]) hH (by rw[lla,PW];omega)) (λu m1 hh=>?_) lpr;obtain⟨rfl,x',b',hH',rfl⟩:=hh;rw[laa,<- hfn] at hH' ⊢;repeat' first|refine Vz ?_|intro
  refine y7 (i+1,x',b') za ?_ ⟨hil,hH'⟩ (by dsimp only;omega);exact A8
 obtain rfl:i=l.length:=by omega
 rw[List.take_length] at hH ⊢;repeat' first|refine Vz ?_|intro
 refine J6 [] _ (by rw[hs];exact Ht hk 92 92 rfl) (λu m1 hh=>?_) lpr;obtain⟨rfl,rfl⟩:=hh;repeat' first|refine Vz ?_|intro
 refine J6 [.var gh 341 (dC x b (eP 54 kb++l.flatten).length)] _ (by rw[hs];exact Ru hH (by rw[lla,PW];omega)) (λu m1 hh=>?_) lpr;obtain⟨rfl,rfl⟩:=hh;have:LenLe (eP 92 kb) 64:=⟨by rw[PW];omega⟩;repeat' first|refine Vz ?_|intro
 rw[a5r];repeat' first|refine Vz ?_|intro
 exact j4 [] ⟨rfl,rfl⟩ (List.nil_sublist _)
instance b9N {s:Bs}:Ans prog GL 162 [str k,str s] (k.length<=1000000/\s.length<=1000000000) (hA (WT k s)):=⟨λhp=>by
 obtain⟨hk,hsl⟩:=hp;refine zc func162 ntmps162 λ_ hs=>?_;repeat' first|refine Vz ?_|intro
 refine J6 [] _ (by rw[hs];exact a2z hk) (λu m1 hh=>?_) lpr;obtain⟨g,rfl,rfl⟩:=hh;repeat' first|refine Vz ?_|intro
 refine J6 [.var g 321 (zF (xW k))] _ (by rw[hs];exact a2o (l:=[s]) (id:=none) (a6J k) (by simpa using by omega) sm) (λu m1 hh=>?_) lpr;obtain⟨rfl,rfl⟩:=hh;repeat' first|refine Vz ?_|intro
 refine x9 ?_;rw[WT];simp[L6]⟩
end

section
variable {h p t:Int}{k:Bs}{f:Bool}{xs:List AV}{l:List Sta}
instance c1X {c:Bs}{r:Hsh}:Ans prog GL 163 [.agg 35 [str c,int h,int t,hA r]] (h<=9223372036854775807/\t<=9223372036854775807) (str (R3 ⟨c,h,t,r⟩)):=⟨λhp=>by
 obtain⟨h1,h2⟩:=hp;refine zc func163 ntmps163 λ_ hs=>?_;exact M7⟩
theorem a7z (x:Hdr):(R3 x).length<=100000000:=by
 have h1:=(inferInstance:LenLe (r9 99 x.c++y9 104 x.h++y9 116 x.t++r9 114 x.r.l) _).out;unfold R3;omega
instance c2Z {c:Bs}{r:Hsh}:Ans prog GL 102 [str k,.agg 35 [str c,int h,int t,hA r]] (k.length<=1000000/\h<=9223372036854775807/\t<=9223372036854775807) (hA (O7 k ⟨c,h,t,r⟩)):=⟨λhp=>by
 obtain⟨h0,h1,h2⟩:=hp;have h3:=a7z ⟨c,h,t,r⟩;refine zc func102 ntmps102 λ_ hs=>?_;exact M7⟩
instance b9A {c:Bs}{r:Hsh}:Ans prog GL 246 [.agg 35 [str c,int h,int t,hA r]] True (.agg 34 [int h,int t,hA r]):=⟨λ_=>by
 refine zc func246 ntmps246 λ_ hs=>?_;exact M7⟩
instance c1Y {c:Bs}{r:Hsh}:Ans prog GL 273 [str c,.agg 34 [int h,int t,hA r]] True (.agg 35 [str c,int h,int t,hA r]):=⟨λ_=>by
 refine zc func273 ntmps273 λ_ hs=>?_;exact M7⟩
instance c0n {c:Bs}{X:AV}{r:Hsh}:Ans prog GL 124 [.agg 5 [str c,str k,int p,d9 f,X],.agg 34 [int h,int t,hA r]] True (.agg 35 [str c,int h,int t,hA r]):=⟨λ_=>by
 refine zc func124 ntmps124 λ_ hs=>?_;exact M7⟩
instance c2O {c:Bs}{r:Hsh}:Ans prog GL 272 [.agg 35 [str c,int h,int t,hA r]] True (d9 (bE ⟨c,h,t,r⟩)):=⟨λ_=>by
 rcases c with _|⟨a,c⟩
 ·refine zc func272 ntmps272 λ_ hs=>?_;repeat' (first|refine W ?_|refine L8 ?_|refine qH ?_|intro _|refine p9 (λ_=>?_)|refine G7 ?_ ?_|refine xF ?_ ?_|refine fE ?_ ?_)
  refine x9 ?_;simp[L6,bE]
 refine zc func272 ntmps272 λ_ hs=>?_;repeat' (first|refine W ?_|refine L8 ?_|refine qH ?_|intro _|refine p9 (λ_=>?_)|refine G7 ?_ ?_|refine xF ?_ ?_|refine fE ?_ ?_)
 all_goals (refine x9 ?_;refine Dr ?_;simp only[bE,decide_eq_true_eq,Bool.false_eq_true,false_iff,List.length_cons] at *;omega)⟩
instance c0p {c:Bs}{r:Hsh}:Ans prog GL 123 [.agg 35 [str c,int h,int t,hA r]] True (d9 (bE ⟨c,h,t,r⟩)):=⟨λ_=>by
 refine zc func123 ntmps123 λ_ hs=>?_;repeat' (first|refine W ?_|refine L8 ?_|refine qH ?_|intro _|refine p9 (λ_=>?_)|refine G7 ?_ ?_|refine xF ?_ ?_|refine fE ?_ ?_)
 all_goals (refine x9 ?_;refine Dr ?_;simp only[bE,decide_eq_true_eq,Bool.false_eq_true,false_iff] at *;omega)⟩
instance c2h {h' t':Int}{r r':Hsh}:Ans prog GL 274 [.agg 34 [int h,int t,hA r],.agg 34 [int h',int t',hA r']] True (d9 (gJ ⟨h,t,r⟩ ⟨h',t',r'⟩)):=⟨λ_=>by
 refine zc func274 ntmps274 λ_ hs=>?_;repeat' (first|refine W ?_|refine L8 ?_|refine qH ?_|intro _|refine p9 (λ_=>?_)|refine G7 ?_ ?_|refine xF ?_ ?_|refine fE ?_ ?_)
 all_goals (refine x9 ?_;refine Dr ?_;simp only[gJ,decide_eq_true_eq,Bool.false_eq_true,false_iff] at *;omega)⟩
instance c1e {id:Option Value}[hx:Stas xs l]:Ans prog GL 213 [.sl 34 xs id] True (O6 (dW l)):=⟨λ_=>by
 have h:=hx.out;subst h;have hm:(l.map O6).length=l.length:=llm _;refine zc func213 ntmps213 λ_ hs=>?_;refine IP 0 (λhb=>?_);have hb:=BF hb;repeat' first|refine Vz ?_|intro
 refine G7 (λh1=>?_) (λh1=>?_)
 ·repeat' first|refine Vz ?_|intro
  refine x9 ?_;obtain rfl:l=[]:=List.eq_nil_of_length_eq_zero om;rfl
 repeat' first|refine Vz ?_|intro
 refine sJ (l:=l) (f:=O6) (l.length-1) om ?_;repeat' first|refine Vz ?_|intro
 refine x9 ?_;rw[dW,List.getLastD_eq_getLast?,List.getLast?_eq_getElem?,List.getElem?_eq_getElem om];rfl⟩
instance c1c {c:Bs}{id:Option Value}[Stas xs l]:Ans prog GL 166 [.agg 5 [str c,str k,int p,d9 f,.sl 34 xs id]] True (O6 (dW l)):=⟨λ_=>by
 refine zc func166 ntmps166 λ_ hs=>?_;exact M7⟩
instance d0k {c:Bs}{id:Option Value}{now:Int}[Stas xs l]:Ans prog GL 317 [.agg 5 [str c,str k,int p,d9 f,.sl 34 xs id],int now] (-4611686018427387904<=(dW l).t/\(dW l).t<=4611686018427387904/\-4611686018427387904<=p/\p<4611686018427387904) (d9 (sM ⟨c,k,p,f,l⟩ now)):=⟨λhp=>by
 obtain⟨h1,h2,h3,h4⟩:=hp;refine zc func317 ntmps317 λ_ hs=>?_;cases f
 all_goals
  repeat' first|refine Vz ?_|intro
  refine x9 ?_;simp[L6,sM]⟩
end

theorem b0B {xs:List AV}{id:Option Value}(hx:xs.length<=1073741824):Av.Spec prog GL 355 [.sl 34 xs id] [] (OwnK 166 34 xs):=by
 refine zc func355 ntmps355 λ_ hs=>?_;repeat' first|refine Wz ?_|intro
 refine Eo (λq c hq hc=>?_);repeat' first|refine Wz ?_|intro
 injection hc with hc
 subst hc;refine xF (λh=>?_) (λh=>?_)
 ·repeat' first|refine Wz ?_|intro
  exact j4 [] (.inl ⟨hq h,rfl,rfl⟩) (List.nil_sublist _)
 repeat' first|refine Wz ?_|intro
 refine Ev (λg=>?_);repeat' first|refine Wz ?_|intro
 refine IG (λg' c' hc'=>?_);repeat' first|refine Wz ?_|intro
 refine j4 [.buf g' 166 34 ([]++xs) c'] (.inr ⟨g',c',?_,rfl,?_⟩) slr
 ·simp[L6]
 simpa using hc'
theorem a7b {α:Type}{xs:List α}{i:Nat}{x:α}{p q:Nat}(h:i<=xs.length)(hp:p=xs.length-i)(hq:1<=q):over (over xs (i+1) ((xs.drop i).take p)) i ([x].take q)=xs.take i++x::xs.drop i:=Ra h hp hq
theorem a6Z {α:Type}{xs:List α}{i q:Nat}{x z:α}{p r:Nat}(h:i<=xs.length)(hq:i+q=xs.length+1)(hp:p=q-1)(hr:1<=r):over (over (xs.take i++List.replicate q z) i ([x].take r)) (i+1) ((xs.drop i).take p)=xs.take i++x::xs.drop i:=Qz h hq hp hr
theorem a6W {x:AV}{idv:Option Value}:Av.Spec prog GL 354 [K5,int 0,.sl 34 [x] idv] [] (OwnK 166 34 [x]):=by
 refine zc func354 ntmps354 λ_ hs=>?_;repeat' first|refine Wz ?_|intro
 refine LH 0 0 ?_;repeat' first|refine Wz ?_|intro
 refine VI (λg' c' hc'=>?_);repeat' first|refine Wz ?_|intro
 exact j4 [.buf g' 166 34 [x] c'] (.inr ⟨g',c',rfl,rfl,hc'⟩) sm
theorem a6V {g n c i:Nat}{xs:List AV}{x:AV}{idv:Option Value}(hn:xs.length=n)(hc:n<=c)(hi:i<=n)(hb:n<=1073741824):Av.Spec prog GL 354 [.lit (.slice (some ⟨g,0,none⟩) n c),int i,.sl 34 [x] idv] [.buf g 166 34 xs c] (OwnK 166 34 (xs.take i++x::xs.drop i)):=by
 subst hn;have hx1:([x]:List AV).length=1:=rfl;refine zc func354 ntmps354 λ_ hs=>?_;repeat' first|refine Wz ?_|intro
 refine LH i xs.length ?_;repeat' first|refine Wz ?_|intro
 refine G7 (λhin=>?_) (λhin=>?_)
 ·repeat' first|refine Wz ?_|intro
  refine IG (λg' c' hc'=>?_);repeat' first|refine Wz ?_|intro
  have hin':i=xs.length:=om
  subst hin';refine j4 [.buf g' 166 34 (xs++[x]) c'] (.inr ⟨g',c',?_,?_,?_⟩) sm
  ·simp[L6]
  ·simp
  simpa using hc'
 repeat' first|refine Wz ?_|intro
 have hl:(xs.take i++x::xs.drop i).length=xs.length+1:=by simp;omega
 refine G7 (λhcap=>?_) (λhcap=>?_)
 ·obtain⟨q,hq⟩:∃ q,i+q=xs.length+1:=⟨xs.length+1-i,om⟩;repeat' first|refine Wz ?_|intro
  refine iR 0 i ?_;repeat' first|refine Wz ?_|intro
  refine a0P (i:=i) q (λg' c' hc'=>?_);repeat' first|refine Wz ?_|intro
  refine iR i (i+q) ?_;repeat' first|refine Wz ?_|intro
  refine a0E (j:=i) ?_;repeat' first|refine Wz ?_|intro
  apply zd [];exact zg;intro _ _;refine iR (i+1) (i+q) ?_;exact j5 (A7 rfl rfl);repeat' first|refine Wz ?_|intro
  apply zd [];exact zg;intro _ _;refine iR i xs.length ?_;exact j5 (A7 rfl rfl);apply lX [0,1];exact rfl;exact rfl;kernel_rfl;intro _ _;refine LQ (j:=i+1) (j2:=i) ?_;exact j5 (A7 rfl rfl);exact rfl;exact rfl;repeat' first|refine Wz ?_|intro
  rw[a6Z om hq om om];refine j4 [.buf g' 166 34 _ c'] (.inr ⟨g',c',?_,rfl,?_⟩) (List.singleton_sublist.2 List.mem_cons_self)
  ·rw[hl,<- hq];rfl
  omega
 repeat' first|refine Wz ?_|intro
 refine iR 0 (xs.length+1) ?_;repeat' first|refine Wz ?_|intro
 refine iR (i+1) (xs.length+1) ?_;apply EP (v:=d9 false) func377;kernel_rfl;exact rfl;kernel_rfl;kernel_rfl;exact rfl;exact rfl;exact rfl
 ·intro ok w cs hS hv;exact⟨_,a5a (b:=48) (tS:=61) 4 hS List.mem_cons_self hv,RVl rfl⟩
 repeat' first|refine Wz ?_|intro
 apply zd [];exact zg;intro _ _;refine iR (i+1) (xs.length+1) ?_;exact j5 (A7 rfl rfl);repeat' first|refine Wz ?_|intro
 apply zd [];exact zg;intro _ _;refine iR i (xs.length+1) ?_;exact j5 (A7 rfl rfl);apply lX [0];exact rfl;exact rfl;kernel_rfl;intro _ _;refine LQ (j:=i+1) (j2:=i) ?_;exact j5 (A7 rfl rfl);exact rfl;exact rfl;repeat' first|refine Wz ?_|intro
 refine iR i (xs.length+1) ?_;repeat' first|refine Wz ?_|intro
 refine a0E (j:=i) ?_;repeat' first|refine Wz ?_|intro
 rw[a7b om om om];refine j4 [.buf g 166 34 _ c] (.inr ⟨g,c,?_,rfl,?_⟩) sm
 ·rw[hl];rfl
 omega

section
variable {h:Int}{l:List Sta}{xs:List AV}
theorem at1 {t:Int}{r:Hsh}{g:Nat}{T:TypeId}{n:Int}:Av.Spec prog GL 376 [.agg 34 [int h,int t,hA r],ptr g] [.var g T (int n)] λu m=>u=d9 (decide (n<=h))/\m=[.var g T (int n)]:=by
 refine zc func376 ntmps376 λ_ hs=>?_;repeat' first|refine Vz ?_|intro
 exact j4 [.var g T (int n)] ⟨rfl,rfl⟩ (List.sublist_cons_self _ _)
theorem b1I {i:Nat}(hi:i<l.length)(hb:∀ j,(hj:j<i)->¬ h<=(l[j]'(by omega)).h)(hh:h<=l[i].h):P5 l h=i:=by
 unfold P5;rw[List.findIdx_eq hi];exact⟨by simpa using hh,λj hj=>by simpa using hb j hj⟩
theorem b1J (hb:∀ j,(hj:j<l.length)->¬ h<=l[j].h):P5 l h=l.length:=by
 unfold P5;rw[List.findIdx_eq_length];intro x hx;obtain⟨j,hj,rfl⟩:=List.getElem_of_mem hx;simpa using hb j hj
theorem index_spec {id:Option Value}[hx:Stas xs l]{g:Nat}{T:TypeId}{n:Int}:Av.Spec prog GL 375 [.sl 34 xs id,F3 376 [.pointer (some ⟨g,0,none⟩)]] [.var g T (int n)] λu m=>u=int (if P5 l n<l.length then (P5 l n:Int) else -1)/\m=[.var g T (int n)]:=by
 have h:=hx.out;subst h;have hm:(l.map O6).length=l.length:=llm _;refine zc func375 ntmps375 λ_ hs=>?_;refine IP 0 (λhb=>?_);have hb:=BF hb;repeat' first|refine Vz ?_|intro
 refine H7 (α:=Nat) (λi=>[(0,.sl 34 (l.map O6) id),(1,F3 376 [.pointer (some ⟨g,0,none⟩)]),(7,int (l.map O6).length),(8,int i)]) (λi=>[.var g T (int n)])
  (λi=>i<=l.length/\∀ j,(hj:j<l.length)->j<i->¬ n<=l[j].h) (λi=>l.length-i) 0 za slr ⟨Nat.zero_le _,λ_ _ h=>absurd h om⟩ ?_
 rintro i ⟨hi,hall⟩;repeat' first|refine Vz ?_|intro
 refine G7 (λhlt=>?_) (λhlt=>?_)
 ·have hil:i<l.length:=om
  repeat' first|refine Vz ?_|intro
  refine gX (args:=[O6 l[i]]) (cs:=[.pointer (some ⟨g,0,none⟩)]) [.var g T (int n)] _ (by rw[hs];exact at1) (λu m1 hh=>?_) lpr;obtain⟨rfl,rfl⟩:=hh;repeat' first|refine Vz ?_|intro
  refine G7 (λhh=>?_) (λhh=>?_)
  ·repeat' first|refine Vz ?_|intro
   refine j4 [.var g T (int n)] ⟨?_,rfl⟩ slr;rw[b1I hil (λj hj=>hall j om hj) hh,if_pos hil];rfl
  repeat' first|refine Vz ?_|intro
  refine y7 (i+1) za slr ⟨hil,λj hj h=>?_⟩ om;rcases Nat.lt_or_ge j i with h2|h2
  ·exact hall j hj h2
  obtain rfl:j=i:=by omega
  exact hh
 obtain rfl:i=l.length:=by omega
 repeat' first|refine Vz ?_|intro
 refine j4 [.var g T (int n)] ⟨?_,rfl⟩ slr;rw[b1J (λj hj=>hall j hj hj),if_neg om];rfl
theorem b1H (hl:P5 l h<l.length):kZ l h=decide (l[P5 l h].h=h):=by
 unfold kZ;rw[List.getD,List.getElem?_eq_getElem hl];simp[hl]
theorem Eg (hl:¬ P5 l h<l.length):kZ l h=false:=by
 unfold kZ;simp[hl]
instance c3e {c k:Bs}{p:Int}{f:Bool}{id:Option Value}{n:Int}[hx:Stas xs l]:Ans prog GL 353 [.agg 5 [str c,str k,int p,d9 f,.sl 34 xs id],int n] True (.tup [int (P5 l n),d9 (kZ l n)]):=⟨λ_=>by
 have h:=hx.out;subst h;have hm:(l.map O6).length=l.length:=llm _;have hle:=a0c l n;refine zc func353 ntmps353 λ_ hs=>?_;refine Fs 0 4 (λhb=>?_);have hb:=BF hb;repeat' first|refine Vz ?_|intro
 rename_i g2 g3;refine Z0 (vs:=[.pointer (some ⟨g3,0,none⟩)]) ?_;repeat' first|refine Vz ?_|intro
 refine J6 [.var g3 3 (int n)] _ (by rw[hs];exact index_spec (l:=l) (xs:=l.map O6) (id:=id)) (λu m1 hh=>?_) lpr;obtain⟨rfl,rfl⟩:=hh;by_cases hl:P5 l n<l.length
 ·rw[if_pos hl,b1H hl];exact M7
 rw[if_neg hl,Eg hl];obtain hl:P5 l n=l.length:=by omega
 rw[hl];repeat' first|refine Vz ?_|intro
 refine x9 ?_;rw[hm];rfl⟩
instance c3c {c k:Bs}{p:Int}{f:Bool}{id:Option Value}{n:Int}[hx:Stas xs l]:Ans prog GL 366 [.agg 5 [str c,str k,int p,d9 f,.sl 34 xs id],int n] True (.tup [O6 ((BK l n).getD Z4),d9 (BK l n).isSome]):=⟨λ_=>by
 have h:=hx.out;subst h;have hm:(l.map O6).length=l.length:=llm _;refine zc func366 ntmps366 λ_ hs=>?_;cases hi:kZ l n
 all_goals
  unfold BK;rw[hi];repeat' first|refine Vz ?_|intro
  rw[hi];repeat' first|refine Vz ?_|intro
 focus
  exact x9 rfl
 have hl:P5 l n<l.length:=by
  rcases Nat.lt_or_ge (P5 l n) l.length with h|h
  ·exact h
  rw[Eg om] at hi;cases hi
 repeat' first|refine Vz ?_|intro
 refine x9 ?_;rw[List.getD,List.getElem?_eq_getElem hl];rfl⟩
end

theorem a0k {n:Nat}{p:Nat->Bool}:(List.range n).all p=true↔∀ j,j<n->p j=true:=by simp
theorem Ps {x:Cli}(h:¬ (x.k.length<=64/\1<=x.p/\x.p<=1099511627776/\1<=x.l.length/\x.l.length<=32)):bM x=false:=by
 unfold bM;simp only[h,decide_false,Bool.false_and]
theorem JZ {x:Cli}{i:Nat}(hi:i<x.l.length)(h:uU x.c x.l i=false):bM x=false:=by
 unfold bM;rw[Bool.and_eq_false_iff];refine .inr (Bool.eq_false_iff.2 λhh=>?_);have:=a0k.1 hh i hi;rw[h] at this;cases this
theorem Pp {x:Cli}(h:x.k.length<=64/\1<=x.p/\x.p<=1099511627776/\1<=x.l.length/\x.l.length<=32)(ha:∀ j,j<x.l.length->uU x.c x.l j=true):bM x=true:=by
 unfold bM;simp only[h,decide_true,Bool.true_and,a0k.2 ha,and_self]
theorem ZQ {c:Bs}{l:List Sta}{i:Nat}(hi:i<l.length):uU c l i=(bE ⟨c,l[i].h,l[i].t,l[i].r⟩&&(decide (i=0) || gJ (l.getD (i-1) Z4) l[i])):=by
 have hg:l.getD i Z4=l[i]:=by simp[List.getD,hi]
 unfold uU;rw[hg];rfl
instance c0X {c k:Bs}{p:Int}{f:Bool}{l:List Sta}{xs:List AV}{id:Option Value}[hx:Stas xs l]:Ans prog GL 247 [.agg 5 [str c,str k,int p,d9 f,.sl 34 xs id]] True (d9 (bM ⟨c,k,p,f,l⟩)):=⟨λ_=>by
 have h:=hx.out;subst h;have hm:(l.map O6).length=l.length:=llm _;refine zc func247 ntmps247 λ_ hs=>?_;refine Fs 0 4 (λhb=>?_);have hb:=BF hb;by_cases hok:k.length<=64/\1<=p/\p<=1099511627776/\1<=l.length/\l.length<=32
 ·obtain⟨h1,h2,h3,h4,h5⟩:=hok;repeat' first|refine O ?_|intro
  rename_i g1;refine H7 (α:=Nat) (λi=>[(1,ptr g1),(3,d9 true),(33,.sl 34 (l.map O6) id),(34,int (l.map O6).length),(35,int i)]) (λi=>[.var g1 63 (.agg 5 [str c,str k,int p,d9 f,.sl 34 (l.map O6) id])])
   (λi=>i<=l.length/\∀ j,j<i->uU c l j=true) (λi=>l.length-i) 0 za slr ⟨Nat.zero_le _,λ_ h=>absurd h om⟩ ?_
  rintro i ⟨hi,hall⟩;repeat' first|refine Vz ?_|intro
  refine G7 (λhlt=>?_) (λhlt=>?_)
  ·have hil:i<l.length:=om
   have hat:=ZQ (c:=c) hil;repeat' first|refine Vz ?_|intro
   cases hc:bE ⟨c,l[i].h,l[i].t,l[i].r⟩
   ·rw[hc,Bool.false_and] at hat;repeat' first|refine Vz ?_|intro
    refine x9 ?_;rw[JZ (x:=⟨c,k,p,f,l⟩) hil hat];rfl
   rw[hc,Bool.true_and] at hat;rcases i with _|i
   ·have h0:∀ j,j<1->uU c l j=true:=λj hj=>by
     obtain rfl:j=0:=by omega
     rw[hat];rfl
    repeat' first|refine Vz ?_|intro
    refine y7 1 za ?_ ⟨hil,h0⟩ om;exact A8
   have hil2:i<l.length:=om
   have hg2:l.getD (i+1-1) Z4=l[i]:=by simp[List.getD,hil2]
   rw[hg2,dZ om,Bool.false_or] at hat;repeat' first|refine Vz ?_|intro
   rw[dZ (show ¬ (((i+1:Nat):Int)=0) by omega)];repeat' first|refine Vz ?_|intro
   rw[show (((i+1:Nat):Int)-1)=(i:Int) by omega];cases hf:gJ l[i] l[i+1]
   ·rw[hf] at hat;repeat' first|refine Vz ?_|intro
    rw[hf];repeat' first|refine Vz ?_|intro
    refine x9 ?_;rw[JZ (x:=⟨c,k,p,f,l⟩) hil hat];rfl
   rw[hf] at hat;repeat' first|refine Vz ?_|intro
   rw[hf];repeat' first|refine Vz ?_|intro
   refine y7 (i+2) za ?_ ⟨hil,λj hj=>?_⟩ om
   ·exact A8
   rcases Nat.lt_or_ge j (i+1) with h6|h6
   ·exact hall j h6
   obtain rfl:j=i+1:=by omega
   exact hat
  obtain rfl:i=l.length:=by omega
  repeat' first|refine Vz ?_|intro
  refine x9 ?_;rw[Pp ⟨h1,h2,h3,h4,h5⟩ hall];rfl
 rw[Ps hok];repeat' first|refine Vz ?_|intro
 refine fE (λh=>?_) (λh6=>?_)
 ·exact M7
 repeat' first|refine Vz ?_|intro
 refine fE (λh=>?_) (λh7=>?_)
 ·exact M7
 repeat' first|refine Vz ?_|intro
 refine fE (λh=>?_) (λh8=>?_)
 ·exact M7
 repeat' first|refine Vz ?_|intro
 refine fE (λh=>?_) (λh9=>?_)
 ·exact M7
 repeat' first|refine Vz ?_|intro
 refine zO ?_;exact M7⟩

section
variable {l:List Sta}{f:Bool}{p:Int}{k:Bs}
theorem Hr {a:Sta}{h t:Int}{r:Hsh}:(decide (a.h=h)&&(decide (a.t=t)&&(decide (a.r=r)&&true)))=decide (a=⟨h,t,r⟩):=by
 rw[Bool.eq_iff_iff];simp only[Bool.and_eq_true,decide_eq_true_eq,and_true]
 constructor
 ·rintro⟨h1,h2,h3⟩;cases a
  simp_all
 rintro rfl;exact⟨rfl,rfl,rfl⟩
theorem Rf {n:Int}:Imp (.tup [.agg 5 [str [],str [],int 0,d9 false,K5],int n]) (.tup [vG sS,int n]):=(ImpR.imp:Imp _ (.tup [.agg 5 [str [],str [],int 0,d9 false,.sl 34 [] none],int n]))
theorem a7o {c:Bs}{id:Option Value}{n:Int}:Imp (.tup [.agg 5 [str c,str k,int p,d9 f,.sl 34 (l.map O6) id],int n]) (.tup [vG ⟨c,k,p,f,l⟩,int n]):=(ImpR.imp:Imp _ (.tup [.agg 5 [str c,str k,int p,d9 f,.sl 34 (l.map O6) none],int n]))
theorem OM {c:Bs}{id:Option Value}:Imp (.agg 5 [str c,str k,int p,d9 f,.sl 34 (l.map O6) id]) (vG ⟨c,k,p,f,l⟩):=(ImpR.imp:Imp _ (.agg 5 [str c,str k,int p,d9 f,.sl 34 (l.map O6) none]))
instance c0m {c:Bs}{xs:List AV}{id:Option Value}[hx:Stas xs l]:Ans prog GL 92 [.agg 5 [str c,str k,int p,d9 f,.sl 34 xs id]] True (d9 (bM ⟨c,k,p,f,l⟩)):=⟨λ_=>by
 have h:=hx.out;subst h;have hm:(l.map O6).length=l.length:=llm _;refine zc func92 ntmps92 λ_ hs=>?_;refine Fs 0 4 (λhb=>?_);have hb:=BF hb;by_cases hok:(1<=c.length/\c.length<=32)/\k.length<=64/\1<=p/\p<=1099511627776/\1<=l.length/\l.length<=32
 ·obtain⟨⟨h0,h00⟩,h1,h2,h3,h4,h5⟩:=hok;repeat' first|refine O ?_|intro
  rename_i g1;refine H7 (α:=Nat) (λi=>[(1,ptr g1),(3,int i)]) (λi=>[.var g1 63 (.agg 5 [str c,str k,int p,d9 f,.sl 34 (l.map O6) id])])
   (λi=>i<=l.length/\∀ j,j<i->uU c l j=true) (λi=>l.length-i) 0 za slr ⟨Nat.zero_le _,λ_ h=>absurd h om⟩ ?_
  rintro i ⟨hi,hall⟩;repeat' first|refine Vz ?_|intro
  refine G7 (λhlt=>?_) (λhlt=>?_)
  ·have hil:i<l.length:=om
   have hat:=ZQ (c:=c) hil;repeat' first|refine Vz ?_|intro
   cases hc:bE ⟨c,l[i].h,l[i].t,l[i].r⟩
   ·rw[hc,Bool.false_and] at hat;repeat' first|refine Vz ?_|intro
    refine x9 ?_;rw[JZ (x:=⟨c,k,p,f,l⟩) hil hat];rfl
   rw[hc,Bool.true_and] at hat;rcases i with _|i
   ·have h0:∀ j,j<1->uU c l j=true:=λj hj=>by
     obtain rfl:j=0:=by omega
     rw[hat];rfl
    repeat' first|refine Vz ?_|intro
    refine y7 1 za ?_ ⟨hil,h0⟩ om;exact A8
   have hil2:i<l.length:=om
   have hg2:l.getD (i+1-1) Z4=l[i]:=by simp[List.getD,hil2]
   rw[hg2,dZ om,Bool.false_or] at hat;repeat' first|refine Vz ?_|intro
   rw[dT (show (0:Int)<((i+1:Nat):Int) by omega)];repeat' first|refine Vz ?_|intro
   rw[show (((i+1:Nat):Int)-1)=(i:Int) by omega];repeat' first|refine Vz ?_|intro
   by_cases hq:l[i+1].h<=l[i].h
   ·have hf:gJ l[i] l[i+1]=false:=by simp[gJ];omega
    rw[dT hq];repeat' first|refine Vz ?_|intro
    refine x9 ?_;rw[JZ (x:=⟨c,k,p,f,l⟩) hil (hat.trans hf)];rfl
   rw[dZ hq];repeat' first|refine Vz ?_|intro
   rw[show (((i+1:Nat):Int)-1)=(i:Int) by omega];repeat' first|refine Vz ?_|intro
   refine G7 (λhh=>?_) (λhh=>?_)
   ·have hf:gJ l[i] l[i+1]=false:=by simp[gJ];omega
    repeat' first|refine Vz ?_|intro
    refine x9 ?_;rw[JZ (x:=⟨c,k,p,f,l⟩) hil (hat.trans hf)];rfl
   have hf:gJ l[i] l[i+1]=true:=by simp[gJ];omega
   repeat' first|refine Vz ?_|intro
   refine y7 (i+2) za ?_ ⟨hil,λj hj=>?_⟩ om
   ·exact A8
   rcases Nat.lt_or_ge j (i+1) with h6|h6
   ·exact hall j h6
   obtain rfl:j=i+1:=by omega
   exact hat.trans hf
  obtain rfl:i=l.length:=by omega
  repeat' first|refine Vz ?_|intro
  refine x9 ?_;rw[Pp ⟨h1,h2,h3,h4,h5⟩ hall];rfl
 have hmay:bM ⟨c,k,p,f,l⟩=false:=by
  by_cases h0:k.length<=64/\1<=p/\p<=1099511627776/\1<=l.length/\l.length<=32
  ·refine JZ (x:=⟨c,k,p,f,l⟩) (i:=0) h0.2.2.2.1 ?_;have hc:bE ⟨c,(l[0]'h0.2.2.2.1).h,(l[0]'h0.2.2.2.1).t,(l[0]'h0.2.2.2.1).r⟩=false:=by
    unfold bE;rw[decide_eq_false_iff_not];rintro⟨e1,e2,_⟩;exact hok ⟨⟨e1,e2⟩,h0⟩
   rw[ZQ h0.2.2.2.1,hc,Bool.false_and]
  exact Ps h0
 rw[hmay];repeat' first|refine Vz ?_|intro
 refine fE (λh=>?_) (λh4=>?_)
 ·exact M7
 repeat' first|refine Vz ?_|intro
 refine fE (λh=>?_) (λh5=>?_)
 ·exact M7
 repeat' first|refine Vz ?_|intro
 refine fE (λh=>?_) (λh6=>?_)
 ·exact M7
 repeat' first|refine Vz ?_|intro
 refine fE (λh=>?_) (λh7=>?_)
 ·exact M7
 repeat' first|refine Vz ?_|intro
 refine fE (λh=>?_) (λh8=>?_)
 ·exact M7
 repeat' first|refine Vz ?_|intro
 refine fE (λh=>?_) (λh9=>?_)
 ·exact M7
 repeat' first|refine Vz ?_|intro
 refine zO ?_;exact M7⟩
instance c0T {c:Bs}{h t:Int}{r:Hsh}:Ans prog GL 282 [str k,int p,.agg 35 [str c,int h,int t,hA r]] True (.tup [vG (DN k p ⟨c,h,t,r⟩),int (BD k p ⟨c,h,t,r⟩)]):=⟨λ_=>by
 refine zc func282 ntmps282 λ_ hs=>?_;unfold DN BD;cases hm:bM (JV k p ⟨c,h,t,r⟩)
 all_goals
  repeat' first|refine Vz ?_|intro
  rw[show bM ⟨c,k,p,false,[⟨h,t,r⟩]⟩=_ from hm];repeat' first|refine Vz ?_|intro
  refine P8 ?_
 ·exact Rf
 exact a7o (c:=c) (k:=k) (p:=p) (f:=false) (l:=[⟨h,t,r⟩]) (id:=none) (n:=0)⟩
end

section
variable {s:Sta}{x:Cli}{l:List Sta}
theorem a4i (h:kZ x.l s.h=true)(he:x.l.getD (P5 x.l s.h) Z4=s):nH x s=x:=by
 unfold nH;rw[if_pos ⟨h,he⟩]
theorem a4n (h:kZ x.l s.h=true)(he:x.l.getD (P5 x.l s.h) Z4≠s):nH x s=Bg x:=by
 unfold nH;rw[if_neg (λhh=>he hh.2),if_pos (.inl h)]
theorem a4m (h:kZ x.l s.h=false)(hb:wY x.l s (P5 x.l s.h)=true):nH x s=Bg x:=by
 unfold nH;rw[if_neg (by rw[h];simp),if_pos (.inr hb)]
theorem a4l (h:kZ x.l s.h=false)(hb:wY x.l s (P5 x.l s.h)=false):nH x s={ x with l:=EC x.l s }:=by
 unfold nH;rw[if_neg (by rw[h];simp),if_neg (by rw[h,hb];simp)]
theorem b1A :wY l s 0=(decide (0<l.length) && !gJ s (l.getD 0 Z4)):=by simp[wY]
theorem b1z {i:Nat}(hi:i<l.length):wY l s (i+1)=(!gJ l[i] s || (decide (i+1<l.length) && !gJ s (l.getD (i+1) Z4))):=by
 have:l.getD (i+1-1) Z4=l[i]:=by simp[List.getD,hi]
 unfold wY;rw[this];simp
instance c3b {c k:Bs}{p h t:Int}{f:Bool}{r:Hsh}{xs:List AV}{id:Option Value}[hx:Stas xs l]:Ans prog GL 318 [.agg 5 [str c,str k,int p,d9 f,.sl 34 xs id],.agg 34 [int h,int t,hA r]] (l.length<=1000000) (vG (nH ⟨c,k,p,f,l⟩ ⟨h,t,r⟩)):=⟨λhlen=>by
 have hxo:=hx.out;subst hxo;have hm:(l.map O6).length=l.length:=llm _;have hle:=a0c l h;refine zc func318 ntmps318 λ_ hs=>?_;repeat' (first|refine iP ?_|refine M8 ?_|refine Q4 ?_|refine L8 ?_|intro _)
 cases his:kZ l h
 ·refine GR hs ?_;repeat' (first|refine iP ?_|refine M8 ?_|refine Q4 ?_|refine L8 ?_|refine rG ?_|refine qH ?_|refine p9 (λ_=>?_)|intro _)
  rename_i g2 g3 g4;refine PS (α:=Unit) (λ_=>[(2,ptr g2),(3,ptr g3),(4,ptr g4),(5,int (P5 l h)),(26,d9 (wY l ⟨h,t,r⟩ (P5 l h)))]) (λ_=>[.var g4 63 (.agg 5 [str [],str [],int 0,d9 false,K5]),.var g3 166 (O6 ⟨h,t,r⟩),.var g2 63 (.agg 5 [str c,str k,int p,d9 f,.sl 34 (l.map O6) id])]) ?_ (λ_=>?_)
  ·generalize P5 l h=i at *;rcases i with _|i
   ·rw[b1A];repeat' first|refine Vz ?_|intro
    by_cases hlt:0<l.length
    ·have hg:l.getD 0 Z4=l[0]:=by simp[List.getD,hlt]
     rw[dT (show ((0:Nat):Int)<((l.map O6).length:Int) by omega)];repeat' first|refine Vz ?_|intro
     exact P9 () ⟨rfl,rfl,rfl,rfl,by rw[dT hlt,hg];rfl,trivial⟩ slr
    rw[dZ (show ¬ ((0:Nat):Int)<((l.map O6).length:Int) by omega)];repeat' first|refine Vz ?_|intro
    exact P9 () ⟨rfl,rfl,rfl,rfl,by rw[dZ hlt];rfl,trivial⟩ slr
   have hil:i<l.length:=om
   rw[b1z hil];repeat' first|refine Vz ?_|intro
   rw[dT (show (0:Int)<((i+1:Nat):Int) by omega)];repeat' first|refine Vz ?_|intro
   rw[show (((i+1:Nat):Int)-1)=(i:Int) by omega];repeat' first|refine Vz ?_|intro
   cases hf:gJ l[i] ⟨h,t,r⟩
   ·repeat' first|refine Vz ?_|intro
    exact P9 () za slr
   repeat' first|refine Vz ?_|intro
   by_cases hlt:i+1<l.length
   ·rw[dT (show ((i+1:Nat):Int)<((l.map O6).length:Int) by omega)];repeat' first|refine Vz ?_|intro
    have hg:l.getD (i+1) Z4=l[i+1]:=by simp[List.getD,hlt]
    exact P9 () ⟨rfl,rfl,rfl,rfl,by rw[dT hlt,hg];rfl,trivial⟩ slr
   rw[dZ (show ¬ ((i+1:Nat):Int)<((l.map O6).length:Int) by omega)];repeat' first|refine Vz ?_|intro
   exact P9 () ⟨rfl,rfl,rfl,rfl,by rw[dZ hlt];rfl,trivial⟩ slr
  cases hbad:wY l ⟨h,t,r⟩ (P5 l h)
  ·repeat' (first|refine iP ?_|refine M8 ?_|refine Q4 ?_|refine L8 ?_|refine rG ?_|refine qH ?_|refine p9 (λ_=>?_)|intro _)
   refine BX [0,1,3,4,5,2,6,7,8] kr rfl hs kr ?_;repeat' (first|refine iP ?_|refine M8 ?_|refine Q4 ?_|refine L8 ?_|refine rG ?_|refine qH ?_|refine p9 (λ_=>?_)|intro _)
   have hL:(l.take (P5 l h)++⟨h,t,r⟩::l.drop (P5 l h)).length=l.length+1:=by simp;omega
   have hmap:(l.map O6).take (P5 l h)++O6 ⟨h,t,r⟩::(l.map O6).drop (P5 l h)=(l.take (P5 l h)++⟨h,t,r⟩::l.drop (P5 l h)).map O6:=sm
   have hend:nH ⟨c,k,p,f,l⟩ ⟨h,t,r⟩=⟨c,k,p,f,(l.take (P5 l h)++⟨h,t,r⟩::l.drop (P5 l h)).drop (l.length+1-32)⟩:=a4l his hbad;rw[hend];apply aH [];exact rfl;exact rfl;kernel_rfl;kernel_rfl;intro _ hs';refine J6 [] _ (by rw[hs'];exact b0B (xs:=l.map O6) (id:=id) (by rw[llm];omega)) (λu m1 hh=>?_) lpr;rcases hh with⟨hnil,rfl,rfl⟩|⟨g,cap,rfl,rfl,hcap⟩
   ·obtain rfl:l=[]:=by simpa using hnil
    have hx1:([O6 ⟨h,t,r⟩]:List AV).length=1:=rfl;refine j5 (W9 [] [] rfl rfl lpr rfl ?_);apply aH [];exact rfl;exact rfl;kernel_rfl;kernel_rfl;intro _ hs';refine J6 [] _ (by rw[hs'];exact a6W (x:=O6 ⟨h,t,r⟩) (idv:=none)) (λu m1 hh=>?_) lpr;rcases hh with⟨hnil,rfl,rfl⟩|⟨g,cap,rfl,rfl,hcap⟩
    ·simp at hnil
    refine yH 68 ?_;refine eH 68 Imp.sl ?_;refine j5 (W9 [] [.tail 166 34 _] rfl rfl lpr rfl ?_);repeat' first|refine Vz ?_|intro
    refine vK 0 1 ?_;repeat' first|refine Vz ?_|intro
    refine P8 ?_;exact OM (l:=[⟨h,t,r⟩])
   refine j5 (W9 [] [.buf g 166 34 (l.map O6) cap] rfl rfl lpr rfl ?_);apply aH [3];exact rfl;exact rfl;kernel_rfl;kernel_rfl;intro _ hs';refine J6 [.buf g 166 34 (l.map O6) cap] [] (by rw[hs'];exact a6V (i:=P5 l h) (x:=O6 ⟨h,t,r⟩) (idv:=none) rfl hcap (by rw[hm];exact hle) (by rw[hm];omega)) (λu m1 hh=>?_) lpr;rw[hmap] at hh;rcases hh with⟨hnil,rfl,rfl⟩|⟨g,cap,rfl,rfl,hcap⟩
   ·simp at hnil
   refine yH 68 ?_;refine eH 68 Imp.sl ?_;refine j5 (W9 [.tail 166 34 _] [] rfl rfl lpr rfl ?_);have hL2:((l.take (P5 l h)++⟨h,t,r⟩::l.drop (P5 l h)).map O6).length=l.length+1:=by rw[llm,hL]
   repeat' first|refine Vz ?_|intro
   refine vK (l.length+1-32) (l.length+1) ?_;rw[<- hL2,List.take_length,hL2,<- List.map_drop];repeat' first|refine Vz ?_|intro
   refine P8 ?_;exact OM
  repeat' first|refine Vz ?_|intro
  refine P8 ?_;rw[a4m his hbad];exact OM
 have hl:P5 l h<l.length:=by
  rcases Nat.lt_or_ge (P5 l h) l.length with h|h
  ·exact h
  rw[Eg om] at his;cases his
 have hg:l.getD (P5 l h) Z4=l[P5 l h]:=by simp[List.getD,hl]
 repeat' first|refine Vz ?_|intro
 by_cases he:l[P5 l h]=⟨h,t,r⟩
 ·rw[Hr,dT he];repeat' first|refine Vz ?_|intro
  refine P8 ?_;rw[a4i his (hg.trans he)];exact OM
 rw[Hr,dZ he];repeat' first|refine Vz ?_|intro
 refine P8 ?_;rw[a4n his (by rw[hg];exact he)];exact OM⟩
end

section
variable {now:Int}{mac:Hsh}{h:Hdr}{x:Cli}
theorem TP {n:Int}{o:Cli}(h:o=sS):Imp (.tup [.agg 5 [str [],str [],int 0,d9 false,K5],int n]) (.tup [vG o,int n]):=by rw[h];exact Rf
structure CliOk (x:Cli):Prop where
 n:x.l.length<=1000000
 k:x.k.length<=1000000
 t:-4611686018427387904<=(dW x.l).t/\(dW x.l).t<=4611686018427387904
 p:-4611686018427387904<=x.p/\x.p<4611686018427387904
theorem a1z (e:sM x now=false):iU x h mac now=19/\pM x h mac now=sS:=by
 have:iU x h mac now=19:=by unfold iU;rw[if_pos e]
 exact⟨this,by unfold pM;rw[this];rfl⟩
theorem Gq (e:sM x now=true)(e2:bE h=false\/h.c≠x.c):iU x h mac now=1/\pM x h mac now=sS:=by
 have:iU x h mac now=1:=by unfold iU;rw[if_neg (by rw[e];simp),if_pos e2]
 exact⟨this,by unfold pM;rw[this];rfl⟩
theorem a1A (e:sM x now=true)(e2:bE h=true)(e3:h.c=x.c)(e4:O7 x.k h≠mac):iU x h mac now=18/\pM x h mac now=sS:=by
 have:iU x h mac now=18:=by unfold iU;rw[if_neg (by rw[e];simp),if_neg (by rw[e2,e3];simp),if_pos e4]
 exact⟨this,by unfold pM;rw[this];rfl⟩
theorem a1B (e:sM x now=true)(e2:bE h=true)(e3:h.c=x.c)(e4:O7 x.k h=mac):iU x h mac now=0/\pM x h mac now=nH x (X8 h):=by
 have:iU x h mac now=0:=by unfold iU;rw[if_neg (by rw[e];simp),if_neg (by rw[e2,e3];simp),if_neg (by rw[e4];simp)]
 exact⟨this,by unfold pM;rw[this];rfl⟩
instance b9k {c k c':Bs}{p h t:Int}{f:Bool}{r:Hsh}{l:List Sta}{xs:List AV}{id:Option Value}[hx:Stas xs l]:Ans prog GL 285 [.agg 5 [str c,str k,int p,d9 f,.sl 34 xs id],.agg 35 [str c',int h,int t,hA r],hA mac,int now] (CliOk ⟨c,k,p,f,l⟩/\h<=9223372036854775807/\t<=9223372036854775807) (.tup [vG (pM ⟨c,k,p,f,l⟩ ⟨c',h,t,r⟩ mac now),int (iU ⟨c,k,p,f,l⟩ ⟨c',h,t,r⟩ mac now)]):=⟨λhpre=>by
 obtain⟨⟨p1,p2,⟨p3,p4⟩,p5,p6⟩,p7,p8⟩:=hpre;dsimp only at p1 p2 p3 p4 p5 p6;have hxo:=hx.out;subst hxo;refine zc func285 ntmps285 λ_ hs=>?_;repeat' first|refine Vz ?_|intro
 cases ha:sM ⟨c,k,p,f,l⟩ now
 ·obtain⟨e1,e2⟩:=a1z (h:=⟨c',h,t,r⟩) (mac:=mac) ha;rw[e1];repeat' first|refine Vz ?_|intro
  refine P8 ?_;exact TP e2
 repeat' first|refine Vz ?_|intro
 cases hc:bE ⟨c',h,t,r⟩
 ·obtain⟨e1,e2⟩:=Gq (mac:=mac) ha (.inl hc);rw[e1];repeat' first|refine Vz ?_|intro
  refine P8 ?_;exact TP e2
 repeat' first|refine Vz ?_|intro
 by_cases hcc:c'≠c
 ·obtain⟨e1,e2⟩:=Gq (h:=⟨c',h,t,r⟩) (mac:=mac) ha (.inr hcc);rw[e1,dT hcc];repeat' first|refine Vz ?_|intro
  refine P8 ?_;exact TP e2
 rw[dZ hcc];have hcc:c'=c:=Classical.not_not.1 hcc;repeat' first|refine Vz ?_|intro
 by_cases hmac:O7 k ⟨c',h,t,r⟩≠mac
 ·obtain⟨e1,e2⟩:=a1A (x:=⟨c,k,p,f,l⟩) ha hc hcc hmac;rw[e1,dZ (show ¬ O7 k ⟨c',h,t,r⟩=mac from hmac)];repeat' first|refine Vz ?_|intro
  refine P8 ?_;exact TP e2
 have hmac:O7 k ⟨c',h,t,r⟩=mac:=Classical.not_not.1 hmac;obtain⟨e1,e2⟩:=a1B (x:=⟨c,k,p,f,l⟩) ha hc hcc hmac;rw[e1,dT hmac];repeat' first|refine Vz ?_|intro
 refine x9 ?_;rw[e2];rfl⟩
end
end Go.Proofs.Z

namespace Go.Proofs.Z
open Go Go.RowKit Tw Av
end Go.Proofs.Z
