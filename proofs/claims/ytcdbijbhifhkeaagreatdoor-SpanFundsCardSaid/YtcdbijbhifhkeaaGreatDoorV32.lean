/- . -/
import Derived.Test.YtcdbijbhifhkeaaGreatDoorV31
set_option maxHeartbeats 64000000
namespace Go.Proofs.Z
open Go Go.RowKit Tw Av Go.Proofs.Tryz
section
variable {i k s:Bs}{d:List Ent}{xs:List AV}
theorem Mc:nD []=10:=by rfl
theorem Lj:oH []=10:=by rfl
theorem Gh (h:(gO d k).isSome=false):P7 d k=[]:=by
 unfold P7;cases hg:gO d k with
 | none=>rfl
 | some v=>rw[hg] at h;cases h
theorem XX (h:nD s≠0):rC s=sS:=by
 unfold nD at h;unfold rC;split at h
 ·exact(h rfl).elim
 rename_i hn;rw[if_neg hn]
theorem Lh (h:oH s≠0):lS s=zW:=by
 unfold oH at h;unfold lS;split at h
 ·exact(h rfl).elim
 rename_i hn;rw[if_neg hn]
theorem a4e (h:nD s=0):bM (rC s)=true:=by
 unfold nD at h;unfold rC;split at h
 ·rename_i hn;rw[if_pos hn];unfold FN at hn;rw[bet,bet] at hn;exact hn.2.2
 cases h
theorem Ma (s:Bs):bM (rC s)=true\/rC s=sS:=by
 by_cases h:nD s=0
 ·exact .inl (a4e h)
 exact .inr (XX h)
theorem Qg {l:List Sta}(h:l≠[]):dW l∈l:=by
 rcases List.eq_nil_or_concat l with rfl|⟨l',a,rfl⟩
 ·exact(h rfl).elim
 unfold dW;simp
structure CliF (x:Cli):Prop where
 ok:CliOk x
 w:CliW x
 r:Rise x.l
 n:x.l.length<=32
theorem VR:CliF sS:=⟨⟨dc,dc,dc,dc⟩,⟨dc,dc,λs h=>by cases h⟩,List.Pairwise.nil,dc⟩
theorem Pq {x:Cli}(h:bM x=true):CliF x:=by
 obtain⟨⟨h1,h2,h3,h4,h5⟩,h6⟩:=LG.1 h;have hc:=TB h;have hb:∀ s∈x.l,1<=s.h/\s.h<=1099511627776/\0<=s.t/\s.t<=1099511627776:=λs hs=>by
  obtain⟨_,_,c3,c4,c5,c6⟩:=GZ.1 (hc s hs);exact⟨c3,c4,c5,c6⟩
 have hne:x.l≠[]:=λe=>by rw[e] at h4;simp at h4
 have hl:=hb _ (Qg hne);have step:∀ i (hi:i+1<x.l.length),x.l[i].h<x.l[i+1].h/\x.l[i].t<=x.l[i+1].t:=λi hi=>by
  have:=h6 (i+1) hi;unfold uU at this;rw[bet,Bool.or_eq_true] at this;rcases this.2 with h|h
  ·simp at h
  rw[show x.l.getD (i+1-1) Z4=x.l[i] by simp[List.getD,show i<x.l.length by omega],show x.l.getD (i+1) Z4=x.l[i+1] by simp[List.getD,hi]] at h;unfold gJ at h;simpa using h
 have far:∀ d i (hi:i+1+d<x.l.length),x.l[i].h<x.l[i+1+d].h/\x.l[i].t<=x.l[i+1+d].t:=by
  intro d
  induction d with
  | zero=>exact λi hi=>step i hi
  | succ d ih=>
   intro i hi;have a:=ih i om;have b:=step (i+1+d) om;exact⟨Int.lt_trans a.1 b.1,Int.le_trans a.2 b.2⟩
 refine⟨⟨om,om,om,om⟩,⟨om,om,λs hs=>by
  have:=hb s hs;omega⟩,?_,h5⟩
 unfold Rise;rw[List.pairwise_iff_getElem];intro i j hi hj hij;have:=far (j-i-1) i om;simpa[show i+1+(j-i-1)=j by omega] using this
theorem Db (d:List Ent)(i:Bs):CliF (U2 d i):=by
 unfold U2;rcases Ma (P7 d (E5 [67] i)) with h|h
 ·exact Pq h
 rw[h];exact VR
theorem Rt {b:Bool}:Imp (L6 [.agg 5 [.lit (.string ⟨#[]⟩),.lit (.string ⟨#[]⟩),.lit (.int .i64 0),.lit (.bool false),.lit (.slice none 0 0)],d9 b]) (.tup [vG sS,d9 b]):=(inferInstance:ImpR (.tup [.agg 5 [.lit (.string ⟨#[]⟩),.lit (.string ⟨#[]⟩),.lit (.int .i64 0),.lit (.bool false),.lit (.slice none 0 0)],d9 b]) (.tup [.agg 5 [str [],str [],int 0,d9 false,.sl 34 [] none],d9 b])).imp
instance c2G {id:Option Value}[hx:Ents xs d]:Ans prog GL 165 [.agg 1 [.sl 2 xs id],str i] (DOk d) (.tup [vG (U2 d i),d9 (U7 d i)]):=⟨λhd=>by
 have hv:=hd.val (E5 [67] i);refine zc func165 ntmps165 λ_ hs=>?_;exact o8⟩
instance c0z {id:Option Value}[hx:Ents xs d]:Ans prog GL 27 [.sl 2 xs id,str i] (DOk d) (.tup [vG (U2 d i),d9 (U7 d i)]):=⟨λhd=>by
 have hv:=hd.val (E5 [67] i);unfold U2 U7;refine zc func27 ntmps27 λ_ hs=>?_;repeat' first|refine O ?_|intro
 cases hg:(gO d (E5 [67] i)).isSome
 ·have hn:=Gh hg;rw[hn,Mc,XX (by rw[Mc];decide)];repeat' first|refine O ?_|intro
  refine P8 ?_;exact Rt
 by_cases he:nD (P7 d (E5 [67] i))=0
 ·rw[dT he];repeat' first|refine O ?_|intro
  rw[dZ (nni he)];exact o8
 rw[dZ he,XX he];repeat' first|refine O ?_|intro
 rw[dT he];repeat' first|refine O ?_|intro
 refine P8 ?_;exact Rt⟩
instance c2E {id:Option Value}[hx:Ents xs d]:Ans prog GL 264 [.agg 1 [.sl 2 xs id],str k] (DOk d) (.tup [kT (lS (P7 d k)),d9 (decide (oH (P7 d k)=0))]):=⟨λhd=>by
 have hv:=hd.val k;refine zc func264 ntmps264 λ_ hs=>?_;exact o8⟩
instance c2F {id:Option Value}[hx:Ents xs d]:Ans prog GL 286 [.agg 1 [.sl 2 xs id],str i] (DOk d) (.tup [kT (I1 d [75] i),d9 (M5 d [75] i)]):=⟨λhd=>by
 refine zc func286 ntmps286 λ_ hs=>?_;exact o8⟩
instance c2H {id:Option Value}[hx:Ents xs d]:Ans prog GL 234 [.agg 1 [.sl 2 xs id],str i] (DOk d) (.tup [kT (I1 d [72] i),d9 (M5 d [72] i)]):=⟨λhd=>by
 refine zc func234 ntmps234 λ_ hs=>?_;exact o8⟩
instance c0y {id:Option Value}[hx:Ents xs d]:Ans prog GL 28 [.sl 2 xs id,str k,str i] (DOk d/\k.length<=1000000000) (.tup [kT (I1 d k i),d9 (M5 d k i)]):=⟨λhp=>by
 obtain⟨hd,hk⟩:=hp;have hv:=hd.val (E5 k i);unfold I1 M5;refine zc func28 ntmps28 λ_ hs=>?_;repeat' first|refine O ?_|intro
 cases hg:(gO d (E5 k i)).isSome
 ·have hn:=Gh hg;rw[hn,Lj,Lh (by rw[Lj];decide)];exact o8
 by_cases he:oH (P7 d (E5 k i))=0
 ·rw[dT he];repeat' first|refine O ?_|intro
  rw[dZ (nni he)];exact o8
 rw[dZ he,Lh he];repeat' first|refine O ?_|intro
 rw[dT he];exact o8⟩
instance c2C {id:Option Value}[hx:Ents xs d]:Ans prog GL 291 [.agg 1 [.sl 2 xs id],str i] (DOk d) (int (X7 d i)):=⟨λhd=>by
 have hv:=hd.val (E5 [78] i);unfold X7;refine zc func291 ntmps291 λ_ hs=>?_;repeat' first|refine O ?_|intro
 by_cases he:xV (P7 d (E5 [78] i))=0
 ·rw[if_pos he,dZ (nni he)];exact o8
 rw[if_neg he,dT he];exact o8⟩
end

section
variable {xs:List AV}{h t:Int}{i k v:Bs}{d:List Ent}
attribute [local irreducible] U7 M5
instance c2A {hh:Int}{id:Option Value}[hx:Ents xs d]:Ans prog GL 341 [.agg 3 [.agg 1 [.sl 2 xs id],int hh,int t],str i,int h] (DOk d) (.tup [O6 (nW d i h t),int (jO d i h t)]):=⟨λhd=>by
 obtain⟨⟨_,_,c1,c2⟩,_⟩:=Db d i;refine zc func341 ntmps341 λ_ hs=>?_;repeat' first|refine O ?_|intro
 unfold nW jO;generalize hC:U2 d i=C at *;obtain⟨c,k,p,f,l⟩:=C;dsimp only at c1 c2;cases h1:U7 d i
 ·exact o8
 rw[if_neg (show ¬ true=false by decide)];repeat' first|refine O ?_|intro
 cases h2:sM ⟨c,k,p,f,l⟩ t
 ·exact o8
 rw[if_neg (show ¬ true=false by decide)];repeat' first|refine O ?_|intro
 cases h3:(BK l h).isSome
 ·exact o8
 rw[if_neg (show ¬ true=false by decide),if_pos rfl];exact o8⟩
theorem a4B {p:Prf}(h0:jO d i h t=0):Q3 d i h t k v p=if uW (nW d i h t).r ⟨k,v⟩ p=false then 18 else 0:=by
 unfold Q3;rw[h0];cases uW (nW d i h t).r ⟨k,v⟩ p <;> rfl
theorem a4C {p:Prf}(h0:jO d i h t≠0):Q3 d i h t k v p=jO d i h t:=by
 unfold Q3;rw[if_neg (λe=>h0 e.1)]
theorem a7H {g:Gp}(h0:jO d i h t=0):zJ d i h t k g=if JY (nW d i h t).r k g=false then 18 else 0:=by
 unfold zJ;rw[h0];cases JY (nW d i h t).r k g <;> rfl
theorem Ry {g:Gp}(h0:jO d i h t≠0):zJ d i h t k g=jO d i h t/\EG d i h t k g=Z4:=by
 have:zJ d i h t k g=jO d i h t:=by
  unfold zJ;rw[if_neg (λe=>h0 e.1)]
 exact⟨this,by unfold EG;rw[this,if_neg h0]⟩
theorem a2n (h0:jO d i h t≠0):nW d i h t=Z4:=by
 unfold nW;rw[if_neg h0]
instance c2B {a m:Int}{p:List Hsh}{ps:List AV}{id id2:Option Value}[hx:Ents xs d][hp:Hshs ps p]:Ans prog GL 333 [.agg 1 [.sl 2 xs id],str i,int h,int t,str k,str v,.agg 3 [int a,int m,.sl 32 ps id2]] (DOk d/\m<=9223372036854775807) (int (Q3 d i h t k v ⟨a,m,p⟩)):=⟨λhq=>by
 obtain⟨hd,hm⟩:=hq;refine zc func333 ntmps333 λ_ hs=>?_;repeat' first|refine O ?_|intro
 by_cases h0:jO d i h t=0
 ·rw[dT h0,a4B h0];repeat' first|refine O ?_|intro
  cases h1:uW (nW d i h t).r ⟨k,v⟩ ⟨a,m,p⟩
  ·exact o8
  repeat' first|refine O ?_|intro
  refine x9 ?_;rw[h0];rfl
 rw[dZ h0,a4C h0];exact o8⟩
instance c2D {n i1 m1 i2 m2:Int}{l r:List Ent}{p q:List Hsh}{xl xr x1 x2:List AV}{id:Option Value}[hx:Ents xs d][hl:Ents xl l][hr:Ents xr r][hp:Hshs x1 p][hq:Hshs x2 q]:Ans prog GL 307 [.agg 1 [.sl 2 xs id],str i,int h,int t,str k,.agg 9 [int n,.sl 2 xl none,.sl 2 xr none,.agg 3 [int i1,int m1,.sl 32 x1 none],.agg 3 [int i2,int m2,.sl 32 x2 none]]] (DOk d/\m1<=9223372036854775807/\m2<=9223372036854775807) (.tup [O6 (EG d i h t k ⟨n,l,r,⟨i1,m1,p⟩,⟨i2,m2,q⟩⟩),int (zJ d i h t k ⟨n,l,r,⟨i1,m1,p⟩,⟨i2,m2,q⟩⟩)]):=⟨λhqq=>by
 obtain⟨hd,hm1,hm2⟩:=hqq;refine zc func307 ntmps307 λ_ hs=>?_;repeat' first|refine O ?_|intro
 by_cases h0:jO d i h t=0
 ·unfold EG;rw[dT h0,a7H h0];repeat' first|refine O ?_|intro
  cases h1:JY (nW d i h t).r k ⟨n,l,r,⟨i1,m1,p⟩,⟨i2,m2,q⟩⟩
  ·exact o8
  repeat' first|refine O ?_|intro
  refine x9 ?_;rw[h0];rfl
 rw[dZ h0,(Ry h0).1,(Ry h0).2];repeat' first|refine O ?_|intro
 refine x9 ?_;rw[a2n h0];rfl⟩
end

section
variable {xs:List AV}{h t:Int}{d:List Ent}{x:TxX}
attribute [local irreducible] U7 M5
structure TxB (x:TxX):Prop where
 i:x.i.length<=400000000
 o:x.o.length<=400000000
 p:x.p.length<=400000000
 q:x.q.length<=400000000
 y:x.y.length<=400000000
 a:x.a.length<=400000000
 s:x.x.s.length<=400000000
 k:x.x.k.length<=400000000
 d:x.x.d.length<=400000000
 f:x.x.f.length<=400000000
 g:x.x.g.length<=400000000
 hh:x.h.h<=9223372036854775807
 ht:x.h.t<=9223372036854775807
 fm:x.f.m<=9223372036854775807
 gm:x.g.a.m<=9223372036854775807/\x.g.b.m<=9223372036854775807
instance c1x {e:Int}[hx:Ents xs d]:Ans prog GL 233 [.agg 3 [.agg 1 [.sl 2 xs none],int h,int t],int e] True (.tup [dA (K6 d e).1,K3 (K6 d e).2]):=⟨λ_=>by
 have h':=hx.out;subst h';refine zc func233 ntmps233 λ_ hs=>?_;exact o8⟩
instance c1h {r:List Ent}{e a b:Int}{c:Bs}{ys:List AV}[hx:Ents xs d][hy:Ents ys r]:Ans prog GL 279 [.agg 3 [.agg 1 [.sl 2 xs none],int h,int t],.agg 1 [.sl 2 ys none],int e,.agg 3 [int a,int b,str c]] True (.tup [dA (jN d (r,e) ⟨a,b,c⟩).1,K3 (jN d (r,e) ⟨a,b,c⟩).2]):=⟨λ_=>by
 have h':=hx.out;subst h';have h':=hy.out;subst h';unfold jN;refine zc func279 ntmps279 λ_ hs=>?_;repeat' first|refine O ?_|intro
 by_cases he:e=0
 ·rw[if_pos he,dZ (nni he)];exact o8
 rw[if_neg he,dT he];exact o8⟩
instance c1m {k v:Bs}[hx:Ents xs d]:Ans prog GL 283 [.agg 3 [.agg 1 [.sl 2 xs none],int h,int t],str k,str v] (DOk d) (.tup [dA (kQ d k v).1,K3 (kQ d k v).2]):=⟨λhd=>by
 have h':=hx.out;subst h';refine zc func283 ntmps283 λ_ hs=>?_;exact o8⟩
instance c1w [hx:Ents xs d]:Ans prog GL 252 [.agg 3 [.agg 1 [.sl 2 xs none],int h,int t],D8 x] (DOk d/\TxB x) (.tup [dA (rQ d x.x).1,K3 (rQ d x.x).2]):=⟨λhp=>by
 obtain⟨hd,hb⟩:=hp;have b1:=hb.d;have h':=hx.out;subst h';refine zc func252 ntmps252 λ_ hs=>?_;repeat' first|refine O ?_|intro
 unfold rQ;cases h1:gL x.x.d
 ·rw[if_pos (.inl rfl)];exact o8
 repeat' first|refine O ?_|intro
 by_cases h2:0<BI x.x.d
 ·rw[if_pos (.inr (.inl h2)),dT (show (0:Int)<((BI x.x.d:Nat):Int) by omega)];exact o8
 rw[dZ (show ¬ (0:Int)<((BI x.x.d:Nat):Int) by omega)];repeat' first|refine O ?_|intro
 cases h3:fT x.x.g
 ·rw[if_pos (.inr (.inr rfl))];exact o8
 rw[if_neg (show ¬ (true=false\/0<BI x.x.d\/true=false) by simp[h2])];exact o8⟩
instance c1s [hx:Ents xs d]:Ans prog GL 253 [.agg 3 [.agg 1 [.sl 2 xs none],int h,int t],D8 x] (DOk d/\TxB x) (.tup [dA (wC d x.x).1,K3 (wC d x.x).2]):=⟨λhp=>by
 obtain⟨hd,hb⟩:=hp;have b1:=hb.d;have h':=hx.out;subst h';refine zc func253 ntmps253 λ_ hs=>?_;repeat' first|refine O ?_|intro
 unfold wC;cases h1:gL x.x.d
 ·rw[if_pos (.inl rfl)];exact o8
 repeat' first|refine O ?_|intro
 cases h2:fT x.x.f
 ·rw[if_pos (.inr (.inl rfl))];exact o8
 repeat' first|refine O ?_|intro
 cases h3:fT x.x.g
 ·rw[if_pos (.inr (.inr rfl))];exact o8
 rw[if_neg (show ¬ (true=false\/true=false\/true=false) by decide)];exact o8⟩
instance c1y [hx:Ents xs d]:Ans prog GL 254 [.agg 3 [.agg 1 [.sl 2 xs none],int h,int t],D8 x] (DOk d/\TxB x) (.tup [dA (rW d x).1,K3 (rW d x).2]):=⟨λhp=>by
 obtain⟨hd,hb⟩:=hp;have b1:=hb.i;have h':=hx.out;subst h';have hw:CliW (DN x.y x.e x.h):=by
  unfold DN;split
  ·rename_i h;exact(Pq h).w
  exact VR.w
 refine zc func254 ntmps254 λ_ hs=>?_;repeat' first|refine O ?_|intro
 unfold rW;cases h1:I4 x.i
 ·rw[if_pos rfl];exact o8
 rw[if_neg (show ¬ true=false by decide)];repeat' first|refine O ?_|intro
 cases h2:U7 d x.i;rotate_left
 ·rw[if_pos rfl];exact o8
 rw[if_neg (show ¬ false=true by decide)];repeat' first|refine O ?_|intro
 by_cases h3:BD x.y x.e x.h=0
 rotate_left
 ·rw[if_pos h3,dT h3];exact o8
 rw[if_neg (nni h3),dZ (nni h3)];exact o8⟩
theorem a1y {x:Cli}{h:Hdr}{m:Hsh}(hx:CliF x)(h1:h.h<=9223372036854775807)(h2:h.t<=9223372036854775807):CliW (pM x h m t):=by
 unfold pM;split
 ·unfold nH;split
  ·exact hx.w
  split
  ·exact⟨hx.w.n,hx.w.p,hx.w.s⟩
  have hn:=hx.n;refine⟨?_,hx.w.p,λs hs=>?_⟩
  ·show (EC x.l (X8 h)).length<=_;unfold EC;simp;omega
  have hs:s∈EC x.l (X8 h):=hs;unfold EC at hs;rcases List.mem_append.1 (List.mem_of_mem_drop hs) with hs|hs
  ·exact hx.w.s s (List.mem_of_mem_take hs)
  rcases List.mem_cons.1 hs with rfl|hs
  ·exact⟨by show h.h<=_;omega,by show h.t<=_;omega⟩
  exact hx.w.s s (List.mem_of_mem_drop hs)
 exact VR.w
instance c1f [hx:Ents xs d]:Ans prog GL 255 [.agg 3 [.agg 1 [.sl 2 xs none],int h,int t],D8 x] (DOk d/\TxB x) (.tup [dA (lL d x t).1,K3 (lL d x t).2]):=⟨λhp=>by
 obtain⟨hd,hb⟩:=hp;have b1:=hb.i;have b2:=hb.hh;have b3:=hb.ht;have h':=hx.out;subst h';have hC:CliOk (U2 d x.i)/\x.h.h<=9223372036854775807/\x.h.t<=9223372036854775807:=⟨(Db d x.i).ok,om,om⟩;refine zc func255 ntmps255 λ_ hs=>?_;repeat' first|refine O ?_|intro
 unfold lL;cases h1:U7 d x.i
 ·rw[if_pos rfl];exact o8
 rw[if_neg (show ¬ true=false by decide)];repeat' first|refine O ?_|intro
 by_cases h3:iU (U2 d x.i) x.h x.m t=0
 rotate_left
 ·rw[if_pos h3,dT h3];exact o8
 rw[if_neg (nni h3),dZ (nni h3)];have hw:CliW (pM (U2 d x.i) x.h x.m t):=a1y (Db d x.i) b2 b3;exact o8⟩
end
end Go.Proofs.Z

namespace Go.Proofs.Z
open Go Go.RowKit Tw Av
theorem Sg {c m:Int}{σ:RS}(h:0<=m):((gT c m σ).length:Int)<=m:=(CP c m σ.1.1 σ.1.2).2 h
theorem Ki {c m:Int}{s:Bs}{b:Bool}(h:0<=m):N7 c m s b<=m:=by
 unfold N7;split <;> omega
theorem Jp (s:Bs):(kI s).m<=2000:=by
 unfold kI;split
 ·exact Ki dc
 decide
theorem Iw (s:Bs)(b:Bool):(qZ s b).m<=2000:=by
 unfold qZ;split
 ·exact Jp _
 decide
theorem Kn (s:Bs):(qC s).a.m<=2000/\(qC s).b.m<=2000:=by
 unfold qC;split
 ·exact⟨Iw _ _,Iw _ _⟩
 decide
theorem a1K (σ:RS):TxB (IX σ):=by
 have ht:∀ (c:Int) (τ:RS),(gT c 4000 τ).length<=400000000:=λc τ=>by
  have:=Sg (c:=c) (m:=4000) (σ:=τ) dc;omega
 have hi:∀ (c:Int) (τ:RS),gI c 1099511627776 τ<=9223372036854775807:=λc τ=>Int.le_trans (Bf dc).2 dc;exact⟨ht _ _,ht _ _,ht _ _,ht _ _,ht _ _,ht _ _,ht _ _,ht _ _,ht _ _,ht _ _,ht _ _,hi _ _,hi _ _,Int.le_trans (Jp _) dc,Int.le_trans (Kn _).1 dc,Int.le_trans (Kn _).2 dc⟩
theorem a3v (σ:RS):TxB (J9 σ):=by
 unfold J9;split
 ·exact a1K σ
 exact⟨dc,dc,dc,dc,dc,dc,dc,dc,dc,dc,dc,dc,dc,dc,dc⟩
theorem aQ {c m:Int}{t r:Bs}{σ:RS}(hσ:σ.1=(r9 c t++r,false))(h0:0<=c)(h1:c<256){n:Nat}(h2:t.length<=n)(h3:(n:Int)<=m/\n<=16777215):gT c m σ=t/\(sT c m σ).1=(r,false):=by
 obtain⟨a,b,e⟩:=yV (c:=c) (most:=m) (s:=t) (r:=r) h0 h1 om om;unfold gT sT;dsimp only;rw[hσ];dsimp only;rw[a,b,e];exact⟨rfl,rfl⟩
theorem uE {c m n:Int}{r:Bs}{σ:RS}(hσ:σ.1=(y9 c n++r,false))(h0:0<=c)(h1:c<256)(h2:0<=n)(h3:n<=m)(h4:m<=9223372036854775807):gI c m σ=n/\(sI c m σ).1=(r,false):=by
 obtain⟨a,b,e⟩:=oI (c:=c) (most:=m) (n:=n) (r:=r) h0 h1 h2 h3 h4;unfold gI sI;dsimp only;rw[hσ];dsimp only;rw[a,b,e];exact⟨rfl,rfl⟩
structure TxG (x:TxX):Prop where
 k:0<=x.k/\x.k<=16
 i:x.i.length<=4000
 o:x.o.length<=4000
 p:x.p.length<=4000
 q:x.q.length<=4000
 y:x.y.length<=4000
 e:0<=x.e/\x.e<=1099511627776
 c:x.h.c.length<=4000
 hh:0<=x.h.h/\x.h.h<=1099511627776
 ht:0<=x.h.t/\x.h.t<=1099511627776
 xq:0<=x.x.q/\x.x.q<=1099511627776
 xh:0<=x.x.h/\x.x.h<=1099511627776
 xt:0<=x.x.t/\x.x.t<=1099511627776
 t:0<=x.t/\x.t<=1099511627776
 xs:x.x.s.length<=4000
 xk:x.x.k.length<=4000
 xd:x.x.d.length<=4000
 xf:x.x.f.length<=4000
 xg:x.x.g.length<=4000
 a:x.a.length<=4000
 f:PG x.f
 g:GG x.g
 gl:(dY x.g).length<=4000
theorem XB {x:TxX}(h:TxG x)(hl:(j6 x).length<=1000000000):J9 (I9 (j6 x))=x/\Y0 (I9 (j6 x))=0:=by
 have hB:j6 x=y9 75 x.k++(r9 73 x.i++(r9 79 x.o++(r9 81 x.p++(r9 82 x.q++(r9 89 x.y++(y9 69 x.e++(r9 99 x.h.c++(y9 104 x.h.h++(y9 116 x.h.t++(r9 114 x.h.r.l++(r9 77 x.m.l++(y9 113 x.x.q++(r9 115 x.x.s++(r9 107 x.x.k++(r9 100 x.x.d++(r9 97 (bF x.x.a.n)++(r9 102 x.x.f++(r9 103 x.x.g++(y9 117 x.x.h++(y9 118 x.x.t++(r9 65 x.a++(y9 84 x.t++(r9 70 (R7 x.f)++(r9 71 (dY x.g)++[])))))))))))))))))))))))):=by
  unfold j6;simp only[List.append_assoc,List.append_nil]
 have e0:(I9 (j6 x)).1=(j6 x,false):=by
  unfold I9;rw[dif_pos hl]
 generalize I9 (j6 x)=σ at *;rw[hB] at e0;clear hB hl;obtain⟨g1,s1⟩:=uE (c:=75) (m:=16) e0 dc dc h.k.1 h.k.2 dc;change (qV σ).1=_ at s1
 obtain⟨g2,s2⟩:=aQ (c:=73) (m:=4000) s1 dc dc h.i dc;change (tN σ).1=_ at s2
 obtain⟨g3,s3⟩:=aQ (c:=79) (m:=4000) s2 dc dc h.o dc;change (tH σ).1=_ at s3
 obtain⟨g4,s4⟩:=aQ (c:=81) (m:=4000) s3 dc dc h.p dc;change (tF σ).1=_ at s4
 obtain⟨g5,s5⟩:=aQ (c:=82) (m:=4000) s4 dc dc h.q dc;change (tC σ).1=_ at s5
 obtain⟨g6,s6⟩:=aQ (c:=89) (m:=4000) s5 dc dc h.y dc;change (sZ σ).1=_ at s6
 obtain⟨g7,s7⟩:=uE (c:=69) (m:=1099511627776) s6 dc dc h.e.1 h.e.2 dc;change (sW σ).1=_ at s7
 obtain⟨g8,s8⟩:=aQ (c:=99) (m:=4000) s7 dc dc h.c dc;change (sV σ).1=_ at s8
 obtain⟨g9,s9⟩:=uE (c:=104) (m:=1099511627776) s8 dc dc h.hh.1 h.hh.2 dc;change (sU σ).1=_ at s9
 obtain⟨g10,s10⟩:=uE (c:=116) (m:=1099511627776) s9 dc dc h.ht.1 h.ht.2 dc;change (lJ σ).1=_ at s10
 obtain⟨g11,s11⟩:=aQ (c:=114) (m:=32) s10 dc dc (Nat.le_of_eq x.h.r.len) dc;change (lI σ).1=_ at s11
 obtain⟨g12,s12⟩:=aQ (c:=77) (m:=32) s11 dc dc (Nat.le_of_eq x.m.len) dc;change (tZ σ).1=_ at s12
 obtain⟨g13,s13⟩:=uE (c:=113) (m:=1099511627776) s12 dc dc h.xq.1 h.xq.2 dc;change (tY σ).1=_ at s13
 obtain⟨g14,s14⟩:=aQ (c:=115) (m:=4000) s13 dc dc h.xs dc;change (tX σ).1=_ at s14
 obtain⟨g15,s15⟩:=aQ (c:=107) (m:=4000) s14 dc dc h.xk dc;change (tV σ).1=_ at s15
 obtain⟨g16,s16⟩:=aQ (c:=100) (m:=4000) s15 dc dc h.xd dc;change (lH σ).1=_ at s16
 obtain⟨g17,s17⟩:=aQ (c:=97) (m:=32) s16 dc dc (Nat.le_of_eq (yG _)) dc;change (tQ σ).1=_ at s17
 obtain⟨g18,s18⟩:=aQ (c:=102) (m:=4000) s17 dc dc h.xf dc;change (tO σ).1=_ at s18
 obtain⟨g19,s19⟩:=aQ (c:=103) (m:=4000) s18 dc dc h.xg dc;change (pJ σ).1=_ at s19
 obtain⟨g20,s20⟩:=uE (c:=117) (m:=1099511627776) s19 dc dc h.xh.1 h.xh.2 dc;change (tL σ).1=_ at s20
 obtain⟨g21,s21⟩:=uE (c:=118) (m:=1099511627776) s20 dc dc h.xt.1 h.xt.2 dc;change (tK σ).1=_ at s21
 obtain⟨g22,s22⟩:=aQ (c:=65) (m:=4000) s21 dc dc h.a dc;change (tJ σ).1=_ at s22
 obtain⟨g23,s23⟩:=uE (c:=84) (m:=1099511627776) s22 dc dc h.t.1 h.t.2 dc;change (lG σ).1=_ at s23
 obtain⟨g24,s24⟩:=aQ (c:=70) (m:=4000) s23 dc dc (Na h.f) dc;change (lF σ).1=_ at s24
 obtain⟨g25,s25⟩:=aQ (c:=71) (m:=4000) s24 dc dc h.gl dc;change (qU σ).1=_ at s25
 have hE:gZ (qU σ)=0:=by
  unfold gZ;rw[s25];rfl
 have hk:vN σ=true:=by
  unfold vN LY MB ME LZ MC;rw[g11,g12,g17,g24,g25,hE,x.h.r.len,x.m.len,yG,(XE h.f).2.1,(Ko h.g).2];rfl
 have hV:IX σ=x:=by
  show (⟨gI 75 16 σ,gT 73 4000 (qV σ),gT 79 4000 (tN σ),gT 81 4000 (tH σ),gT 82 4000 (tF σ),gT 89 4000 (tC σ),gI 69 1099511627776 (sZ σ),⟨gT 99 4000 (sW σ),gI 104 1099511627776 (sV σ),gI 116 1099511627776 (sU σ),Y2 (gT 114 32 (lJ σ))⟩,Y2 (gT 77 32 (lI σ)),⟨gI 113 1099511627776 (tZ σ),gT 115 4000 (tY σ),gT 107 4000 (tX σ),gT 100 4000 (tV σ),wV (gT 97 32 (lH σ)),gT 102 4000 (tQ σ),gT 103 4000 (tO σ),gI 117 1099511627776 (pJ σ),gI 118 1099511627776 (tL σ)⟩,gT 65 4000 (tK σ),gI 84 1099511627776 (tJ σ),kI (gT 70 4000 (lG σ)),qC (gT 71 4000 (lF σ))⟩:TxX)=x;rw[g1,g2,g3,g4,g5,g6,g7,g8,g9,g10,g11,g12,g13,g14,g15,g16,g17,g18,g19,g20,g21,g22,g23,g24,g25,Ba,Ba,(XE h.f).1,(Ko h.g).1,wV,if_pos (yG _),Ea,a1q]
 unfold J9 Y0;rw[hk,if_pos rfl,if_pos rfl];exact⟨hV,rfl⟩
end Go.Proofs.Z

namespace Go.Proofs.Z
open Go Go.RowKit Tw Av Go.Proofs.Tryz
section
variable {xs:List AV}{x:TxX}{i k o p:Bs}{h t:Int}{d:List Ent}{f:FuncId}
attribute [local irreducible] U7 M5
instance c1n {v:Bs}[hx:Ents xs d]:Ans prog GL 298 [.agg 3 [.agg 1 [.sl 2 xs none],int h,int t],str i,D8 x,str k,str v] (DOk d/\TxB x) (int (Q3 d i x.t t k v x.f)):=⟨λhp=>by
 obtain⟨hd,hb⟩:=hp;have b1:DOk d/\x.f.m<=9223372036854775807:=⟨hd,by have:=hb.fm;omega⟩;refine zc func298 ntmps298 λ_ hs=>?_;exact o8⟩
class KeyF (f:FuncId)(k:outParam Bs):Prop where
 out:∀ i,Ans prog GL f [str i] True (str (E5 k i))
instance b8Z:KeyF 58 [75]:=⟨λ_=>inferInstance⟩
instance b9a:KeyF 59 [72]:=⟨λ_=>inferInstance⟩
instance c1H [h:KeyF f k]:Ans prog GL f [str i] True (str (E5 k i)):=h.out i
theorem a7d {q:Bs}:(wG o q).1.s<=9223372036854775807:=by
 unfold wG;split
 ·exact(by decide:(1:Int)<=9223372036854775807)
 exact(by decide:(0:Int)<=9223372036854775807)
theorem a1O {t:EndX}:(pR o p t).1.s<=9223372036854775807:=by
 unfold pR;split
 ·exact(by decide:(0:Int)<=9223372036854775807)
 split
 ·exact(by decide:(0:Int)<=9223372036854775807)
 exact(by decide:(2:Int)<=9223372036854775807)
theorem Ob {x t:EndX}{a b:Int}:(yX x a i p t b).1.s<=9223372036854775807:=by
 unfold yX;split
 ·exact(by decide:(3:Int)<=9223372036854775807)
 exact(by decide:(0:Int)<=9223372036854775807)
theorem b3N {x t:EndX}:(sN x i p t).1.s<=9223372036854775807:=by
 unfold sN;split
 ·decide
 exact Ob
instance c1E {kk:Bs}[FnB prog f][KeyF f kk]{b:Bool}[hx:Ents xs d]:Ans prog GL 287 [.agg 3 [.agg 1 [.sl 2 xs none],int h,int t],D8 x,str i,F3 f [],d9 b] (DOk d/\TxB x) (.tup [dA (nS d x i kk b t).1,K3 (nS d x i kk b t).2]):=⟨λhp=>by
 have hp':=hp;obtain⟨hd,hb⟩:=hp;have h':=hx.out;subst h';have e1:=a7d (o:=x.o) (q:=x.q);have e2:=a1O (o:=x.o) (p:=x.p) (t:=⟨1,x.q,x.o,[]⟩);refine zc func287 ntmps287 λ_ hs=>?_;repeat' first|refine O ?_|intro
 unfold nS;cases b
 ·rw[if_pos rfl];repeat' first|refine O ?_|intro
  by_cases h3:(wG x.o x.q).2=0
  rotate_left
  ·rw[if_pos h3,dT h3];exact o8
  rw[if_neg (nni h3),dZ (nni h3)];exact o8
 rw[if_neg (show ¬ true=false by decide)];repeat' first|refine O ?_|intro
 by_cases h1:Q3 d i x.t t (E5 kk x.p) (E9 ⟨1,x.q,x.o,[]⟩) x.f=0
 rotate_left
 ·rw[if_pos h1,dT h1];exact o8
 rw[if_neg (nni h1),dZ (nni h1)];repeat' first|refine O ?_|intro
 by_cases h3:(pR x.o x.p ⟨1,x.q,x.o,[]⟩).2=0
 rotate_left
 ·rw[if_pos h3,dT h3];exact o8
 rw[if_neg (nni h3),dZ (nni h3)];exact o8⟩
instance c1A [hx:Ents xs d]:Ans prog GL 256 [.agg 3 [.agg 1 [.sl 2 xs none],int h,int t],D8 x] (DOk d/\TxB x) (.tup [dA (qK d x t).1,K3 (qK d x t).2]):=⟨λhp=>by
 have hp':=hp;obtain⟨hd,hb⟩:=hp;have h':=hx.out;subst h';refine zc func256 ntmps256 λ_ hs=>?_;repeat' first|refine O ?_|intro
 unfold qK;cases h1:I4 x.i
 ·rw[if_pos rfl];exact o8
 rw[if_neg (show ¬ true=false by decide)];repeat' first|refine O ?_|intro
 cases h2:M5 d [75] x.i;rotate_left
 ·rw[if_pos rfl];exact o8
 rw[if_neg (show ¬ false=true by decide)];repeat' first|refine O ?_|intro
 cases h3:U7 d x.o
 ·rw[if_pos rfl];exact o8
 rw[if_neg (show ¬ true=false by decide)];exact o8⟩
instance c1r [hx:Ents xs d]:Ans prog GL 258 [.agg 3 [.agg 1 [.sl 2 xs none],int h,int t],D8 x] (DOk d/\TxB x) (.tup [dA (qG d x t).1,K3 (qG d x t).2]):=⟨λhp=>by
 have hp':=hp;obtain⟨hd,hb⟩:=hp;have h':=hx.out;subst h';refine zc func258 ntmps258 λ_ hs=>?_;repeat' first|refine O ?_|intro
 unfold qG;cases h1:I4 x.i
 ·rw[if_pos rfl];exact o8
 rw[if_neg (show ¬ true=false by decide)];repeat' first|refine O ?_|intro
 cases h2:M5 d [72] x.i;rotate_left
 ·rw[if_pos rfl];exact o8
 rw[if_neg (show ¬ false=true by decide)];repeat' first|refine O ?_|intro
 cases h3:M5 d [75] x.o
 ·rw[if_pos rfl];exact o8
 rw[if_neg (show ¬ true=false by decide)];repeat' first|refine O ?_|intro
 by_cases h4:(I1 d [75] x.o).s=3
 rotate_left
 ·rw[if_pos h4,dT h4];exact o8
 rw[if_neg (nni h4),dZ (nni h4)];exact o8⟩
def wF (d:List Ent)(x:TxX)(i k pp:Bs)(th:EndX)(r:EndX × Int)(t:Int):Out18:=if Q3 d i x.t t (E5 k pp) (E9 th) x.f≠0 then K6 d (Q3 d i x.t t (E5 k pp) (E9 th) x.f) else if r.2≠0 then K6 d r.2 else kQ d (E5 k x.i) (E9 r.1)
theorem OI {own:EndX}:rM d x own i k true t=wF d x i k x.p ⟨2,own.q,own.o,x.i⟩ (sN own x.i x.p ⟨2,own.q,own.o,x.i⟩) t:=rfl
theorem OJ {own:EndX}:rM d x own i k false t=wF d x i k own.p ⟨3,own.q,own.o,x.i⟩ (wR own x.i ⟨3,own.q,own.o,x.i⟩) t:=rfl
instance c1t {kk:Bs}[FnB prog f][KeyF f kk]{b:Bool}{s:Int}{q:Bs}[hx:Ents xs d]:Ans prog GL 288 [.agg 3 [.agg 1 [.sl 2 xs none],int h,int t],D8 x,.agg 4 [int s,str o,str q,str p],str i,F3 f [],d9 b] (DOk d/\TxB x) (.tup [dA (rM d x ⟨s,o,q,p⟩ i kk b t).1,K3 (rM d x ⟨s,o,q,p⟩ i kk b t).2]):=⟨λhp=>by
 have hp':=hp;obtain⟨hd,hb⟩:=hp;have h':=hx.out;subst h';have e1:=b3N (x:=⟨s,o,q,p⟩) (i:=x.i) (p:=x.p) (t:=⟨2,q,o,x.i⟩);have e2:(wR ⟨s,o,q,p⟩ x.i ⟨3,q,o,x.i⟩).1.s<=9223372036854775807:=Ob;refine zc func288 ntmps288 λ_ hs=>?_;repeat' first|refine O ?_|intro
 cases b
 ·rw[OJ];repeat' first|refine O ?_|intro
  unfold wF;by_cases h1:Q3 d i x.t t (E5 kk p) (E9 ⟨3,q,o,x.i⟩) x.f=0
  rotate_left
  ·rw[if_pos h1,dT h1];exact o8
  rw[if_neg (nni h1),dZ (nni h1)];repeat' first|refine O ?_|intro
  by_cases h3:(wR ⟨s,o,q,p⟩ x.i ⟨3,q,o,x.i⟩).2=0
  rotate_left
  ·rw[if_pos h3,dT h3];exact o8
  rw[if_neg (nni h3),dZ (nni h3)];exact o8
 rw[OI];repeat' first|refine O ?_|intro
 unfold wF;by_cases h1:Q3 d i x.t t (E5 kk x.p) (E9 ⟨2,q,o,x.i⟩) x.f=0
 rotate_left
 ·rw[if_pos h1,dT h1];exact o8
 rw[if_neg (nni h1),dZ (nni h1)];repeat' first|refine O ?_|intro
 by_cases h3:(sN ⟨s,o,q,p⟩ x.i x.p ⟨2,q,o,x.i⟩).2=0
 rotate_left
 ·rw[if_pos h3,dT h3];exact o8
 rw[if_neg (nni h3),dZ (nni h3)];exact o8⟩
instance c1z [hx:Ents xs d]:Ans prog GL 257 [.agg 3 [.agg 1 [.sl 2 xs none],int h,int t],D8 x] (DOk d/\TxB x) (.tup [dA (rY d x t).1,K3 (rY d x t).2]):=⟨λhp=>by
 have hp':=hp;obtain⟨hd,hb⟩:=hp;have h':=hx.out;subst h';refine zc func257 ntmps257 λ_ hs=>?_;repeat' first|refine O ?_|intro
 unfold rY;cases h3:M5 d [75] x.i
 ·rw[if_pos rfl];exact o8
 rw[if_neg (show ¬ true=false by decide)];exact o8⟩
instance c1q [hx:Ents xs d]:Ans prog GL 259 [.agg 3 [.agg 1 [.sl 2 xs none],int h,int t],D8 x] (DOk d/\TxB x) (.tup [dA (rF d x t).1,K3 (rF d x t).2]):=⟨λhp=>by
 have hp':=hp;obtain⟨hd,hb⟩:=hp;have h':=hx.out;subst h';refine zc func259 ntmps259 λ_ hs=>?_;repeat' first|refine O ?_|intro
 unfold rF;cases h3:M5 d [72] x.i
 ·rw[if_pos (.inl rfl)];exact o8
 repeat' first|refine O ?_|intro
 cases h4:M5 d [75] (I1 d [72] x.i).o
 ·rw[if_pos (.inr rfl)];exact o8
 rw[if_neg (show ¬ (true=false\/true=false) by decide)];exact o8⟩
end

section
attribute [local irreducible] U7 M5
def Asks (f:FuncId)(cs:List Value)(m:List Av.Piece)(A:EndX->Bool):Prop:=∀ c:EndX,Av.Spec prog GL f (.agg 4 [int c.s,str c.o,str c.q,str c.p]::cs.map .lit) m λu m'=>u=d9 (A c)/\m'=m
def PD (d:List Ent)(i:Bs)(A:EndX->Bool):AV:=.tup [kT (I1 d [72] i),str (if nO d i A=0 then aO d i else []),d9 (decide (nO d i A=0)&&sG d i),int (nO d i A)]
theorem Dh {f:FuncId}[FnB prog f]{cs:List Value}{m:List Av.Piece}{A:EndX->Bool}{d:List Ent}{h t:Int}{i:Bs}(ha:Asks f cs m A)(hc:∀ v∈cs,v.oneCell'=true)(hd:DOk d) :
  Av.Spec prog GL 289 [.agg 3 [dA d,int h,int t],str i,F3 f cs] m λu m'=>u=PD d i A/\m'=m:=by
 refine zc func289 ntmps289 λ_ hs=>?_;repeat' first|refine O ?_|intro
 rename_i g1 g2;unfold PD nO;cases h1:M5 d [72] i
 ·rw[if_pos rfl];repeat' first|refine O ?_|intro
  refine j4 m ⟨rfl,rfl⟩ ?_;exact A8
 rw[if_neg (show ¬ true=false by decide)];repeat' first|refine O ?_|intro
 by_cases h2:(I1 d [72] i).s=3
 rotate_left
 ·rw[dT h2];repeat' first|refine O ?_|intro
  refine j4 m ⟨?_,rfl⟩ ?_
  ·simp[h2,L6]
  exact A8
 rw[dZ (nni h2)];repeat' first|refine O ?_|intro
 first|refine D5 ?_|skip
 refine gX (args:=[kT (I1 d [72] i)]) (cs:=cs) m [Av.Piece.var g2 67 (kT (I1 d [72] i)),.var g1 310 (.agg 3 [dA d,int h,int t])] (by rw[hs];exact ha _) (λu m' hh=>?_) (List.perm_append_comm (l₁:=[Av.Piece.var g2 67 (kT (I1 d [72] i)),.var g1 310 (.agg 3 [dA d,int h,int t])]) (l₂:=m)) (hcs:=hc);obtain⟨rfl,rfl⟩:=hh;refine lC (λok w hS=>hS.perm (m':=[Av.Piece.var g2 67 (kT (I1 d [72] i)),.var g1 310 (.agg 3 [dA d,int h,int t])]++m') List.perm_append_comm) ?_;cases h3:A (I1 d [72] i)
 ·repeat' first|refine O ?_|intro
  refine j4 m' ⟨?_,rfl⟩ ?_
  ·simp[h2,L6]
  exact A8
 rw[if_neg (show ¬ ((I1 d [72] i).s≠3\/true=false) by simp[h2])];repeat' first|refine O ?_|intro
 refine j4 m' ⟨?_,rfl⟩ ?_
 ·rfl
 exact A8
theorem a2S:Asks 290 [] [] (λ_=>true):=λc=>by
 show Av.Spec _ _ _ [.agg 4 [int c.s,str c.o,str c.q,str c.p]] _ _;refine zc func290 ntmps290 λ_ hs=>?_;repeat' first|refine O ?_|intro
 refine j4 [] ⟨rfl,rfl⟩ ?_;exact A8
theorem a3N {g:Nat}{x:Pkt}:Asks 297 [.pointer (some ⟨g,0,none⟩)] [.var g 51 (eZ x)] (λc=>decide (c.p=x.s)):=λc=>by
 show Av.Spec _ _ _ [.agg 4 [int c.s,str c.o,str c.q,str c.p],ptr g] _ _;refine zc func297 ntmps297 λ_ hs=>?_;repeat' first|refine O ?_|intro
 refine j4 _ ⟨rfl,rfl⟩ ?_;exact A8
theorem a9n {g:Nat}{x:Pkt}:Asks 338 [.pointer (some ⟨g,0,none⟩)] [.var g 51 (eZ x)] (λc=>decide (c.p=x.k)):=λc=>by
 show Av.Spec _ _ _ [.agg 4 [int c.s,str c.o,str c.q,str c.p],ptr g] _ _;refine zc func338 ntmps338 λ_ hs=>?_;repeat' first|refine O ?_|intro
 refine j4 _ ⟨rfl,rfl⟩ ?_;exact A8
theorem YY {x:Pkt}(h:aN x=true):x.q<=1099511627776/\x.h<=1099511627776/\x.t<=1099511627776/\1<=x.q:=by
 unfold aN NU at h;rw[bet,decide_eq_true_iff] at h;obtain⟨⟨h0,h1,_,h2,_,h3,_⟩,_⟩:=h;exact⟨h1,h2,h3,h0⟩
instance c1j {d:List Ent}{h t:Int}{x:TxX}{xs:List AV}[hx:Ents xs d]:Ans prog GL 260 [.agg 3 [.agg 1 [.sl 2 xs none],int h,int t],D8 x] (DOk d/\TxB x) (.tup [dA (eX d x.x).1,K3 (eX d x.x).2]):=⟨λhp=>by
 have hp':=hp;obtain⟨hd,hb⟩:=hp;have h':=hx.out;subst h';have b1:=hb.d;have b2:=hb.s;refine zc func260 ntmps260 λ_ hs=>?_;repeat' first|refine O ?_|intro
 refine J6 (args:=[.agg 3 [dA d,int h,int t],str x.x.s,F3 290 []]) [] _ (by rw[hs];exact Dh a2S sm hd) (λu m' hh=>?_) lpr;obtain⟨rfl,rfl⟩:=hh;unfold PD eX goes;repeat' first|refine O ?_|intro
 by_cases h1:nO d x.x.s (λ_=>true)=0
 rotate_left
 ·rw[if_pos h1,dT h1];exact o8
 rw[if_neg (nni h1),dZ (nni h1),dT h1,if_pos h1,Bool.true_and];repeat' first|refine O ?_|intro
 unfold sF;cases h2:aN ⟨X7 d x.x.s,x.x.s,(I1 d [72] x.x.s).p,x.x.d,x.x.a,x.x.f,x.x.g,x.x.h,x.x.t⟩
 ·rw[if_pos rfl,if_neg (show ¬ false=true by decide),dT (show (1:Int)≠0 by decide)];exact o8
 rw[if_neg (show ¬ true=false by decide),if_pos rfl,dZ (show ¬ (0:Int)≠0 by decide)];repeat' first|refine O ?_|intro
 cases h3:sG d x.x.s
 ·rw[if_pos (.inl rfl)];exact o8
 repeat' first|refine O ?_|intro
 cases h4:U7 d (aO d x.x.s)
 ·rw[if_pos (.inr rfl)];exact o8
 rw[if_neg (show ¬ (true=false\/true=false) by decide)];repeat' first|refine O ?_|intro
 cases h5:aV ⟨X7 d x.x.s,x.x.s,(I1 d [72] x.x.s).p,x.x.d,x.x.a,x.x.f,x.x.g,x.x.h,x.x.t⟩ (dW (U2 d (aO d x.x.s)).l).h (dW (U2 d (aO d x.x.s)).l).t;rotate_left
 ·rw[if_pos rfl];exact o8
 rw[if_neg (show ¬ false=true by decide)];have q1:DOk d/\x.x.s.length<=1000000000/\x.x.d.length<=1000000000:=⟨hd,om,om⟩;have q2:X7 d x.x.s<=1099511627776/\x.x.h<=1099511627776/\x.x.t<=1099511627776/\1<=X7 d x.x.s:=YY h2;obtain⟨q3,q4,q5,q8⟩:=q2;have q6:DOk (Z6 d ⟨X7 d x.x.s,x.x.s,(I1 d [72] x.x.s).p,x.x.d,x.x.a,x.x.f,x.x.g,x.x.h,x.x.t⟩).1:=Ir hd;repeat' first|refine O ?_|intro
 unfold aF;dsimp only;by_cases h6:(Z6 d ⟨X7 d x.x.s,x.x.s,(I1 d [72] x.x.s).p,x.x.d,x.x.a,x.x.f,x.x.g,x.x.h,x.x.t⟩).2=0
 rotate_left
 ·rw[if_neg h6,dZ h6];repeat' first|refine O ?_|intro
  rw[dZ h6];exact o8
 rw[if_pos h6,dT h6];repeat' first|refine O ?_|intro
 have q7:DOk (bJ (Z6 d ⟨X7 d x.x.s,x.x.s,(I1 d [72] x.x.s).p,x.x.d,x.x.a,x.x.f,x.x.g,x.x.h,x.x.t⟩).1 (G9 [80] x.x.s (X7 d x.x.s)) (M9 ⟨X7 d x.x.s,x.x.s,(I1 d [72] x.x.s).p,x.x.d,x.x.a,x.x.f,x.x.g,x.x.h,x.x.t⟩)).1:=FP q6;by_cases h7:(bJ (Z6 d ⟨X7 d x.x.s,x.x.s,(I1 d [72] x.x.s).p,x.x.d,x.x.a,x.x.f,x.x.g,x.x.h,x.x.t⟩).1 (G9 [80] x.x.s (X7 d x.x.s)) (M9 ⟨X7 d x.x.s,x.x.s,(I1 d [72] x.x.s).p,x.x.d,x.x.a,x.x.f,x.x.g,x.x.h,x.x.t⟩)).2=0
 rotate_left
 ·rw[if_neg h7,dZ h7];exact o8
 rw[if_pos h7,dT h7];exact o8⟩
end

section
variable {k:Bs}{d:List Ent}
attribute [local irreducible] U7 M5
def Eb (n:Int):Prop:=0<=n/\n<256
theorem e0:Eb 0:=⟨dc,dc⟩
theorem e1:Eb 1:=⟨dc,dc⟩
theorem BO:Eb 11:=⟨dc,dc⟩
theorem BN:Eb 15:=⟨dc,dc⟩
theorem BM:Eb 16:=⟨dc,dc⟩
theorem BL:Eb 17:=⟨dc,dc⟩
theorem Mm {v:Bs}:Eb (bJ d k v).2:=by
 unfold bJ;split
 ·first|exact e0|exact e1|exact BO|exact BN|exact BM|exact BL
 unfold Q0;split <;> (try split) <;> (try split) <;> first|exact e0|exact e1|exact BO|exact BN|exact BM|exact BL
theorem ZL {n:Wd}:Eb (iY k n d).2:=by
 unfold iY;split
 ·exact Mm
 first|exact e0|exact e1|exact BO|exact BN|exact BM|exact BL
theorem a6p {n:Wd}:Eb (fZ k n d).2:=by
 unfold fZ;split
 ·first|exact e0|exact e1|exact BO|exact BN|exact BM|exact BL
 split
 ·first|exact e0|exact e1|exact BO|exact BN|exact BM|exact BL
 exact Mm
theorem Hf {a b:List Ent->List Ent × Int}(ha:∀ d,Eb (a d).2)(hb:∀ d,Eb (b d).2):Eb (aF a b d).2:=by
 unfold aF;split
 ·exact hb _
 exact ha _
theorem a5Y {a c:Bs}{n:Wd}:Eb (aL d a c n).2:=by
 unfold aL;split
 ·first|exact e0|exact e1|exact BO|exact BN|exact BM|exact BL
 split
 ·first|exact e0|exact e1|exact BO|exact BN|exact BM|exact BL
 exact Hf (λ_=>ZL) (λ_=>ZL)
theorem a5H {a b c:Bs}{n:Wd}:Eb (aC d a b c n).2:=by
 unfold aC;split
 ·first|exact e0|exact e1|exact BO|exact BN|exact BM|exact BL
 split
 ·first|exact e0|exact e1|exact BO|exact BN|exact BM|exact BL
 exact Hf (λ_=>a6p) (λ_=>ZL)
theorem a3Q {x:Pkt}:0<=(Y7 d x).2/\(Y7 d x).2<256:=by
 show Eb _;unfold Y7;split
 ·exact⟨dc,dc⟩
 split
 ·exact a5H
 exact a5Y
instance c1k {h t:Int}{x:TxX}{xs:List AV}[hx:Ents xs d]:Ans prog GL 261 [.agg 3 [.agg 1 [.sl 2 xs none],int h,int t],D8 x] (DOk d/\TxB x) (.tup [dA (rA d x h t).1,K3 (rA d x h t).2]):=⟨λhp=>by
 have hp':=hp;obtain⟨hd,hb⟩:=hp;have h':=hx.out;subst h';have b1:=hb.d;have b2:=hb.s;have b3:=hb.k;refine zc func261 ntmps261 λ_ hs=>?_;repeat' first|refine O ?_|intro
 unfold rA sF;cases h1:aN x.x
 ·rw[if_pos rfl,if_neg (show ¬ false=true by decide),dT (show (1:Int)≠0 by decide)];exact o8
 rw[if_neg (show ¬ true=false by decide),if_pos rfl,dZ (show ¬ (0:Int)≠0 by decide)];obtain⟨q1,q2,q3,q4⟩:=YY h1;repeat' first|refine O ?_|intro
 rename_i g2 g3 g4 g5 g6;refine Z0 (vs:=[.pointer (some ⟨g6,0,none⟩)]) ?_;refine J6 (args:=[.agg 3 [dA d,int h,int t],str x.x.k,F3 297 [.pointer (some ⟨g6,0,none⟩)]]) [.var g6 51 (eZ x.x)] _ (by rw[hs];exact Dh a3N (by simp[Value.oneCell']) hd) (λu m' hh=>?_) lpr;obtain⟨rfl,rfl⟩:=hh;unfold PD;repeat' first|refine O ?_|intro
 by_cases h2:nO d x.x.k (λc=>decide (c.p=x.x.s))=0
 rotate_left
 ·rw[if_pos h2,dT h2];exact o8
 rw[if_neg (nni h2),dZ (nni h2),dT h2,if_pos h2,Bool.true_and];repeat' first|refine O ?_|intro
 cases h3:aV x.x h t;rotate_left
 ·rw[if_pos rfl];exact o8
 rw[if_neg (show ¬ false=true by decide)];repeat' first|refine O ?_|intro
 cases h4:(gO d (G9 [71] x.x.k x.x.q)).isSome;rotate_left
 ·rw[if_pos rfl];exact o8
 rw[if_neg (show ¬ false=true by decide)];repeat' first|refine O ?_|intro
 cases h5:sG d x.x.k
 ·rw[if_pos rfl];exact o8
 rw[if_neg (show ¬ true=false by decide)];repeat' first|refine O ?_|intro
 by_cases h6:Q3 d (aO d x.x.k) x.t t (G9 [80] x.x.s x.x.q) (M9 x.x) x.f=0
 rotate_left
 ·rw[if_pos h6,dT h6];exact o8
 rw[if_neg (nni h6),dZ (nni h6)];have q5:DOk d/\x.x.s.length<=400000000/\x.x.d.length<=400000000/\x.x.k.length<=400000000:=⟨hd,b2,b1,b3⟩;have q6:DOk (Y7 d x.x).1:=Ll hd;have q7:=a3Q (d:=d) (x:=x.x);unfold zS;repeat' first|refine O ?_|intro
 by_cases h7:(Y7 d x.x).2=0
 ·rw[if_pos h7,if_pos h7,dZ (nni h7)];exact o8
 rw[if_neg h7,if_neg h7,dT h7];have q9:(UE (Y7 d x.x).2).length<=1000000000:=by
  unfold UE;exact(by decide:2<=1000000000)
 exact o8⟩
end
end Go.Proofs.Z
