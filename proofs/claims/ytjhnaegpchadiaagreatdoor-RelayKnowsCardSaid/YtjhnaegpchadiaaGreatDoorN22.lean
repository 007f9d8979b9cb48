/- . -/
import Derived.Test.YtjhnaegpchadiaaGreatDoorN21
namespace Go.Proofs.YtjhnaegpchadiaaGreatDoor
open Go Go.RowKit Tw Av Go.Proofs.Tryz
theorem NU:prog.underlying 186=some (.pointer 188):=by kernel_rfl
theorem XB:prog.underlying 359=some .unsafePointer:=by kernel_rfl
theorem Qr:(prog.info? 188).map (·.size)=some 2:=by kernel_rfl
theorem Qt:liesAt prog prog.depth 188 (2 / prog.cellsOf 188) 0 188 1=true:=by kernel_rfl
theorem Qs:prog.underlying 281=some (.pointer 5):=by kernel_rfl
theorem Qu:prog.cellsOf 5=1:=by kernel_rfl
def Bld (g:Nat)(l:Bs)(m:List Av.Piece):Prop:=∃ p:Option Addr,(p=none\/p=some ⟨g,0,none⟩)/\((l=[]/\m=[.var g 188 (.agg 2 [.lit (.pointer p),A7])]) \/
 ∃ g' c,l≠[]/\l.length<=c/\m=[.var g 188 (.agg 2 [.lit (.pointer p),.lit (.slice (some ⟨g',0,none⟩) l.length c)]),.buf g' 5 1 (jJ l) c])
theorem Ke {g:Nat}{p:Option Addr}{v:AV}(hp:p=none\/p=some ⟨g,0,none⟩)(_:v.size=1):Av.Spec prog GL 209 [ptr g] [.var g 188 (.agg 2 [.lit (.pointer p),v])] fun u m=>u=.tup []/\m=[.var g 188 (.agg 2 [ptr g,v])]:=by
 obtain⟨j,hj,hjs⟩:=Option.map_eq_some_iff.1 Qr;refine qF func209 ntmps209 fun _ hs=>?_;rcases hp with rfl|rfl
 ·repeat' first|refine Vz ?_|intro _
  refine a4y (n:=2) NU XB hj (by rw[hjs];decide) dc ?_;apply GI (v:=ptr g) (en:=Extern.AbiNoEscape.same) func301;kernel_rfl;exact rfl;kernel_rfl;kernel_rfl;exact rfl;exact rfl;exact rfl
  focus
   intro ok w cs _ hv;obtain⟨u1,us,rfl,h1,rfl⟩:=hv;exact⟨u1,rfl,RV.of0 h1⟩
  refine a5o (n:=2) XB NU hj Qt ?_;repeat' first|refine Vz ?_|intro _
  exact iW _ ⟨rfl,rfl⟩ slr
 ·repeat' first|refine Vz ?_|intro _
  refine a4J NU hj ?_;repeat' first|refine Vz ?_|intro _
  exact iW _ ⟨rfl,rfl⟩ slr
theorem Ku {g:Nat}{l a:Bs}{m:List Av.Piece}(hb:Bld g l m)(hl:l.length+a.length<=140737488355328):Av.Spec prog GL 103 [ptr g,str a] m fun u m=>u=.tup [int a.length,.lit .nilIface]/\Bld g (l++a) m:=by
 obtain⟨p,hp,⟨rfl,rfl⟩|⟨g',c,h0,hc,rfl⟩⟩:=hb
 ·refine qF func103 ntmps103 fun _ hs=>?_;repeat' first|refine Vz ?_|intro _
  refine I8 (args:=[ptr g]) [.var g 188 (.agg 2 [.lit (.pointer p),A7])] [] (by rw[hs];exact Ke hp rfl) (fun u m1 hh=>?_) lpr;obtain⟨rfl,rfl⟩:=hh;rcases a with _|⟨x,a⟩
  focus
   repeat' first|refine Vz ?_|intro _
   refine a5Q ?_;repeat' first|refine Vz ?_|intro _
   exact l9 _ ⟨rfl,_,.inr rfl,.inl ⟨rfl,rfl⟩⟩ slr
  focus
   have hl2:(x::a).length=a.length+1:=rfl;have hl1:([]:Bs).length=0:=rfl;repeat' first|refine Vz ?_|intro _
   refine a5P (fun g' c' hc'=>?_);repeat' first|refine Vz ?_|intro _
   refine sJ (fun ok w h=>h.perm (List.Perm.swap _ _ _)) ?_;refine l9 _ ⟨rfl,_,.inr rfl,.inr ⟨g',c',sm,hc',rfl⟩⟩ slr
 ·refine qF func103 ntmps103 fun _ hs=>?_;repeat' first|refine Vz ?_|intro _
  refine I8 (args:=[ptr g]) [.var g 188 (.agg 2 [.lit (.pointer p),.lit (.slice (some ⟨g',0,none⟩) l.length c)])] [.buf g' 5 1 (jJ l) c] (by rw[hs];exact Ke hp rfl) (fun u m1 hh=>?_) lpr;obtain⟨rfl,rfl⟩:=hh;have hbl:=Kt l;repeat' first|refine Vz ?_|intro _
  refine a5R (fun g' c' hc'=>?_);repeat' first|refine Vz ?_|intro _
  refine l9 _ ⟨rfl,_,.inr rfl,.inr ⟨g',c',by simp[h0],by simpa using hc',?_⟩⟩ slr;rw[lla,show jJ (l++a)=jJ l++jJ a from List.map_append]
theorem UO {g:Nat}{l:Bs}{m:List Av.Piece}(hb:Bld g l m)(hl:l.length<=140737488355328):Av.Spec prog GL 105 [ptr g] m fun u _=>u=str l:=by
 obtain⟨p,hp,⟨rfl,rfl⟩|⟨g',c,h0,hc,rfl⟩⟩:=hb
 ·refine qF func105 ntmps105 fun _ hs=>?_;repeat' first|refine Vz ?_|intro _
  apply x8 [];exact rfl;exact rfl;kernel_rfl;intro _ _;refine a4z ?_;exact j4 (o9 rfl rfl);repeat' first|refine Vz ?_|intro _
  apply x8 [];exact rfl;exact rfl;kernel_rfl;intro _ _;refine a4w ?_;exact j4 (o9 rfl rfl);repeat' first|refine Vz ?_|intro _
  exact l9 [] rfl (List.nil_sublist _)
 ·refine qF func105 ntmps105 fun _ hs=>?_;have hc0:c≠0:=by
   have:=List.length_pos_iff.2 h0;omega
  repeat' first|refine Vz ?_|intro _
  apply x8 [];exact rfl;exact rfl;kernel_rfl;intro _ _;refine a4A (c:=c) ?_ hc0;exact j4 (o9 rfl rfl);repeat' first|refine Vz ?_|intro _
  apply kC [1];exact rfl;exact rfl;kernel_rfl
  focus
   intro _ _;refine a4x (l:=l) (c:=c) Qs Qu h0 ?_;exact j4 (o9 rfl rfl)
  focus
   exact rfl
  focus
   exact rfl
  repeat' first|refine Vz ?_|intro _
  exact l9 [] rfl (List.nil_sublist _)
end Go.Proofs.YtjhnaegpchadiaaGreatDoor

namespace Av
open Go Go.RowKit Tw
theorem Ut {n k:Nat}{pre post:List AV}{l:Bs}{j o:Nat}{c:UInt8}(hk:l.length=k)(hj:j<l.length)(ho:o=(pre.map AV.size).sum+j):nN (w9 c) 8 (.agg n (pre++.agg k (l.map w9)::post)) o=some (.agg n (pre++.agg k ((l.set j c).map w9)::post)):=by
 rw[List.map_set];exact Az inferInstance (by simpa using hj) rfl rfl (by rw[List.getElem_map];rfl) (by simpa using hk) ho
end Av
namespace Go.Proofs.YtjhnaegpchadiaaGreatDoor
open Go Go.RowKit Tw Av
def R9 (x:Bs):Hsh:=if h:x.length=32 then ⟨x,h⟩ else F3
theorem LC {x:Bs}(h:x.length=32):(R9 x).l=x:=by unfold R9;rw[dif_pos h]
instance b4R {x:Bs}:Ans Tryz.prog GL 248 [str x] True (.tup [hA (R9 x),int (if x.length=32 then 0 else 10)]):=⟨fun _=>by
 refine qF Tryz.func248 Tryz.ntmps248 fun _ hs=>?_;repeat' first|refine Yz ?_|intro _
 by_cases h:x.length=32
 ·rw[if_pos h];repeat' first|refine Yz ?_|intro _
  rename_i g2 g4;refine MU (l:=zeros 32) (a:=x) rfl ?_;repeat' first|refine Yz ?_|intro _
  refine d9 ?_;have e:mE (zeros 32) x=x:=by
   unfold mE;rw[List.take_of_length_le (by simp[zeros,h]),List.drop_of_length_le (by simp[zeros,h]),List.append_nil]
  rw[e,hA,LC h];rfl
 ·rw[if_neg h];repeat' first|refine Yz ?_|intro _
  refine d9 ?_;unfold R9;rw[dif_neg h];rfl⟩
def M3 (c:Int)(l:List Bs):Bs:=j6 c (l.flatMap (j6 c))
theorem sO (c:Int)(s:Bs):(j6 c s).length<=16777219:=by simp[j6,qV,bU,List.length_take];omega
instance {c:Int}{l:List Bs}:LenLe (M3 c l) 16777219:=⟨sO _ _⟩
theorem LG (c:Int):∀ l:List Bs,(l.flatMap (j6 c)).length<=l.length*16777219
 | []=>by simp
 | s::l=>by
  have h1:=sO c s;have h2:=LG c l;rw[List.flatMap_cons,lla,List.length_cons,Nat.add_mul];omega
instance b1H {c:Int}{l:List Bs}{xs:List AV}{id:Option Value}[hx:Strs xs l]:Ans Tryz.prog GL 147 [.lit (.int .u8 c),.sl 1 xs id] ((0<=c/\c<256)/\l.length<=8000000) (str (M3 c l)):=⟨fun hp=>by
 obtain⟨hc,hl⟩:=hp;have h:=hx.out;subst h;have hm:(l.map str).length=l.length:=llm _;refine qF Tryz.func147 Tryz.ntmps147 fun _ hs=>?_;repeat' first|refine Yz ?_|intro _
 rename_i g5;refine y5 (α:=Nat × {m:List Av.Piece // True}) (fun q=>[(0,.lit (.int .u8 c)),(5,ptr g5),(8,.sl 1 (l.map str) id),(9,int l.length),(10,int q.1)]) (fun q=>q.2.1) (fun q=>q.1<=l.length/\Bld g5 ((l.take q.1).flatMap (j6 c)) q.2.1) (fun q=>l.length-q.1) (0,⟨[.var g5 188 (.agg 2 [.lit (.pointer none),A7])],trivial⟩) ⟨rfl,rfl,rfl,by rw[<- hm];rfl,rfl,trivial⟩ slr ⟨Nat.zero_le _,none,.inl rfl,.inl ⟨rfl,rfl⟩⟩ ?_;rintro⟨i,m,_⟩ ⟨h1,h2⟩;dsimp only at h1 h2 ⊢;repeat' first|refine Yz ?_|intro _
 refine o8 (fun hlt=>?_) (fun hlt=>?_)
 ·have hil:i<l.length:=om
  have hfl:=LG c (l.take i);have hfl2:=sO c l[i];have hti:(l.take i).length<=l.length:=by simp;omega
  repeat' first|refine Yz ?_|intro _
  refine I8 (args:=[ptr g5,str (j6 c l[i])]) m [] (by rw[hs];exact Ku h2 om) (fun u m1 hh=>?_) (by rw[List.append_nil]);obtain⟨rfl,hb⟩:=hh;rw[List.append_nil];repeat' first|refine Yz ?_|intro _
  refine o6 (i+1,⟨m1,trivial⟩) ⟨rfl,rfl,rfl,rfl,rfl,trivial⟩ slr ⟨hil,?_⟩ (by dsimp only;omega);rw[List.take_succ_eq_append_getElem hil,List.flatMap_append];simpa using hb
 ·obtain rfl:i=l.length:=by omega
  rw[List.take_length] at h2;have hfl:=LG c l;repeat' first|refine Yz ?_|intro _
  refine I8 (args:=[ptr g5]) m [] (by rw[hs];exact UO h2 om) (fun u m1 hh=>?_) (by rw[List.append_nil]);subst hh;repeat' first|refine Yz ?_|intro _
  exact d9 rfl⟩
instance b3d {c:Int}{l:List Bs}{xs:List AV}{id:Option Value}[hx:Strs xs l]:Ans Tryz.prog GL 153 [.lit (.int .u8 c),.sl 1 xs id] (l.length<=8000000) (str (M3 c l)):=⟨fun hl=>by
 have h:=hx.out;subst h;have hm:(l.map str).length=l.length:=llm _;refine qF Tryz.func153 Tryz.ntmps153 fun _ hs=>?_;repeat' first|refine Yz ?_|intro _
 refine y5 (α:=Nat) (fun i=>[(0,.lit (.int .u8 c)),(1,.sl 1 (l.map str) id),(5,str ((l.take i).flatMap (j6 c))),(6,int i)]) (fun _=>[]) (fun i=>i<=l.length) (fun i=>l.length-i) 0 ⟨rfl,rfl,rfl,rfl,trivial⟩ slr (Nat.zero_le _) ?_;intro i hi;repeat' first|refine Yz ?_|intro _
 refine o8 (fun hlt=>?_) (fun hlt=>?_)
 ·have hil:i<l.length:=om
  have hfl:=LG c (l.take i);have hfl2:=sO c l[i];have hti:(l.take i).length<=l.length:=by simp;omega
  repeat' first|refine Yz ?_|intro _
  refine o6 (i+1) ⟨rfl,rfl,?_,rfl,trivial⟩ slr hil om;rw[List.take_succ_eq_append_getElem hil,List.flatMap_append];simp;rfl
 ·obtain rfl:i=l.length:=by omega
  rw[List.take_length];repeat' first|refine Yz ?_|intro _
  exact d9 rfl⟩
def eG (x:Bs)(i:Nat):Bs:=x.take i++zeros (32-i)
theorem KX {x:Bs}{i:Nat}(hx:x.length=32)(hi:i<=32):(eG x i).length=32:=by simp[eG,zeros,hx];omega
theorem RU {x:Bs}{i:Nat}(hx:x.length=32)(hi:i<32):(eG x i).set i (x[i]'(by omega))=eG x (i+1):=by
 unfold eG;have h1:(x.take i).length=i:=by simp[hx];omega
 have h2:∀ (a b:List UInt8) (j:Nat) (c:UInt8),a.length=j->(a++b).set j c=a++b.set 0 c:=fun a b j c h=>by
  subst h;simp
 rw[h2 _ _ _ _ h1,List.take_succ_eq_append_getElem om,laa];congr 1
 rw[show 32-i=(32-(i+1))+1 by omega];rfl
theorem RX {x:Bs}(hx:x.length=32):eG x 32=x:=by
 unfold eG;rw[List.take_of_length_le om,Nat.sub_self];simp[zeros]
end Go.Proofs.YtjhnaegpchadiaaGreatDoor

namespace Go.Proofs.YtjhnaegpchadiaaGreatDoor
open Go Go.RowKit Tw Av
theorem qW {c:Int}{s:Bs}(h:s.length<=16777215):j6 c s=UInt8.ofNat c.toNat::UInt8.ofNat (s.length / 65536)::UInt8.ofNat (s.length / 256)::UInt8.ofNat s.length::s:=by
 unfold j6 qV;rw[List.take_of_length_le (by simp[bU];omega)]
theorem Yt {n:Nat}(h:n<=16777215):bJ (UInt8.ofNat (n / 65536)) (UInt8.ofNat (n / 256)) (UInt8.ofNat n)=n:=by
 unfold bJ;rw[UInt8.toNat_ofNat',UInt8.toNat_ofNat',UInt8.toNat_ofNat'];omega
theorem TW {c most:Int}{s r:Bs}(h0:0<=c)(h1:c<256)(h2:(s.length:Int)<=most)(h3:s.length<=16777215):Z0 c most false (j6 c s++r)=some (s,r):=by
 rw[qW h3];simp only[List.cons_append];rw[Z0,Yt h3,if_pos]
 ·simp
 ·refine⟨rfl,?_,h2,sm⟩;rw[UInt8.toNat_ofNat'];omega
theorem rH {c most:Int}{s r:Bs}(h0:0<=c)(h1:c<256)(h2:(s.length:Int)<=most)(h3:s.length<=16777215):D8 c most (j6 c s++r) false=s/\j5 c most (j6 c s++r) false=r/\z8 c most (j6 c s++r) false=false:=by
 have h:=TW (r:=r) h0 h1 h2 h3;unfold D8 j5 z8;rw[h];exact⟨rfl,rfl,rfl⟩
theorem yH:∀ f n,(X0 f n).length<=f
 | 0,_=>Nat.le_refl _
 | f+1,n=>by
  rw[X0];split
  ·simp
  ·have:=yH f (n / 256);simp;omega
theorem Iw:∀ f n,n<256 ^ f->numOf (X0 f n)=n
 | 0,n,h=>by simp at h;subst h;rfl
 | f+1,n,h=>by
  rw[X0];split
  ·rename_i h0;subst h0;rfl
  ·rw[ET,Iw f (n / 256) (by rw[Nat.pow_succ] at h;omega),UInt8.toNat_ofNat'];omega
theorem rJ {c most:Int}{n:Int}{r:Bs}(h0:0<=c)(h1:c<256)(h2:0<=n)(h3:n<=most)(h4:most<=9223372036854775807):K3 c most (p9 c n++r) false=n/\j5 c 8 (p9 c n++r) false=r/\K8 c most (p9 c n++r) false=false:=by
 have hd:(digits n.toNat).length<=8:=yH 8 _;have hn:numOf (digits n.toNat)=n.toNat:=Iw 8 _ (by show n.toNat<18446744073709551616;omega);have hl:kH (digits n.toNat)=false:=TS 8 _ (by show n.toNat<18446744073709551616;omega);have h:=rH (c:=c) (most:=8) (s:=digits n.toNat) (r:=r) h0 h1 om om;have e:p9 c n=j6 c (digits n.toNat):=rfl;have hN:rD c (p9 c n++r) false=n.toNat:=by
  rw[EB,e,h.1,hl,hn];rfl
 have hB:nC c (p9 c n++r) false=false:=by
  unfold nC;rw[e,h.1,h.2.2,hl];rfl
 refine⟨?_,by rw[e];exact h.2.1,?_⟩
 ·rw[K3,hN,if_neg om];omega
 ·rw[K8,hN,hB,dZ om];rfl
theorem La {c most:Int}(h0:0<=c)(h1:c<256):∀ (l:List Bs) (f:Nat),l.length<f->(∀ s∈l,(s.length:Int)<=most/\s.length<=16777215)->fE c most f (l.flatMap (j6 c)) false=(l,false)
 | [],f,hf,_=>by
  rcases f with _|f
  ·omega
  ·exact UU
 | s::l,f,hf,hl=>by
  rcases f with _|f
  ·omega
  rw[List.flatMap_cons];have h:=rH (r:=l.flatMap (j6 c)) h0 h1 (hl s sm).1 (hl s sm).2;have ih:=La h0 h1 l f (by simp at hf;omega) (fun t ht=>hl t (by simp[ht]));have hne:j6 c s++l.flatMap (j6 c)≠[]:=by rw[qW (hl s sm).2];simp
  rw[fE,if_neg (by simp[hne]),h.1,h.2.1,h.2.2,ih]
theorem Hd {c:Int}:∀ l:List Bs,l.length<=(l.flatMap (j6 c)).length
 | []=>by simp
 | s::l=>by
  have:=Hd (c:=c) l;have h2:4<=(j6 c s).length:=by simp[j6,qV]
  rw[List.flatMap_cons,lla,List.length_cons];omega
theorem JS {c many most:Int}{l:List Bs}{r:Bs}(h0:0<=c)(h1:c<256)(h2:(l.length:Int)<=many)(h3:∀ s∈l,(s.length:Int)<=most/\s.length<=16777215)(h4:(l.flatMap (j6 c)).length<=16777215):fO c many most (M3 c l++r) false=l/\j5 c 16777215 (M3 c l++r) false=r/\bH c many most (M3 c l++r) false=false:=by
 have h:=rH (c:=c) (most:=16777215) (s:=l.flatMap (j6 c)) (r:=r) h0 h1 om h4;have e:M3 c l=j6 c (l.flatMap (j6 c)):=rfl;have hX:yR c most (l.flatMap (j6 c))=(l,false):=La h0 h1 l _ (by have:=Hd (c:=c) l;omega) h3;have hb:vH false (l,false) many=false:=by
  unfold vH;rw[dZ (by show ¬ many<(l.length:Int);omega)];rfl
 refine⟨?_,by rw[e];exact h.2.1,?_⟩
 ·unfold fO;rw[e,h.1,h.2.2,hX];unfold xM;rw[hb];rfl
 ·unfold bH;rw[e,h.1,h.2.2,hX,hb]
theorem AX {c:Int}{n:Nat}:∀ {l:List Bs},(∀ s∈l,s.length<=n)->n<=16777215->(l.flatMap (j6 c)).length<=l.length*(n+4)
 | [],_,_=>by simp
 | s::l,h,hn=>by
  have h1:=AX (c:=c) (l:=l) (fun t ht=>h t (by simp[ht])) hn;have h2:=h s sm;rw[List.flatMap_cons,lla,List.length_cons,Nat.add_mul,qW om];simp only[List.length_cons];omega

def V3 (k:Bs)(n:Nat)(d:List Ent):List Ent × Int:=if n=0 then (lY d k,0) else R4 d k (eT n)
def RH (d:List Ent)(a c:Bs)(n:Wd):List Ent × Int:=if aV a=false\/fZ c=false\/n.n=0 then ([],1)
 else if aU ((G8 d (U8 c)).n+n.n)=false\/aU ((G8 d (K7 a c)).n+n.n)=false then ([],17)
 else bN (V3 (U8 c) ((G8 d (U8 c)).n+n.n)) (V3 (K7 a c) ((G8 d (K7 a c)).n+n.n)) d
def UN (d:List Ent)(a c:Bs)(n:Wd):List Ent × Int:=if aV a=false\/fZ c=false\/n.n=0 then ([],1)
 else if (G8 d (U8 c)).n<n.n\/(G8 d (K7 a c)).n<n.n then ([],16)
 else bN (V3 (U8 c) ((G8 d (U8 c)).n-n.n)) (V3 (K7 a c) ((G8 d (K7 a c)).n-n.n)) d
def RA (d:List Ent)(a b c:Bs)(n:Wd):List Ent × Int:=if aV a=false\/aV b=false\/fZ c=false\/n.n=0 then ([],1)
 else if (G8 d (K7 a c)).n<n.n then ([],16)
 else if a=b then (d,0)
 else if aU ((G8 d (K7 b c)).n+n.n)=false then ([],17)
 else bN (V3 (K7 a c) ((G8 d (K7 a c)).n-n.n)) (V3 (K7 b c) ((G8 d (K7 b c)).n+n.n)) d
theorem NQ {c:Int}{s:Bs}(h:s.length<=16777215):(j6 c s).length=s.length+4:=by
 rw[qW h];simp
theorem Qg {c:Int}{a b r t:Bs}(h0:0<=c)(h1:c<256)(ha:a.length<=1000)(hb:b.length<=1000)(h:j6 c a++r=j6 c b++t):a=b/\r=t:=by
 have e1:=TW (c:=c) (most:=1000) (s:=a) (r:=r) h0 h1 om om;have e2:=TW (c:=c) (most:=1000) (s:=b) (r:=t) h0 h1 om om;rw[h,e2] at e1;injection e1 with e1
 injection e1 with e1 e3
 exact⟨e1.symm,e3.symm⟩
theorem QW {s:Bs}(h:aV s=true):1<=s.length/\s.length<=64:=of_decide_eq_true h
theorem Io {s:Bs}(h:fZ s=true):1<=s.length/\s.length<=200:=of_decide_eq_true h
theorem a4e {a b c:Bs}(ha:aV a=true)(hb:aV b=true)(h:a≠b):K7 a c≠K7 b c:=fun e=>by
 have:=QW ha;have:=QW hb;unfold K7 at e;rw[laa,laa] at e;exact h (Qg dc dc om om (List.append_cancel_left e)).1
theorem MI {a c t:Bs}:K7 a c≠U8 t:=fun e=>by
 unfold K7 U8 at e;rw[laa] at e;injection e with e
 cases e
theorem Lt {a c:Bs}(ha:aV a=true)(hc:fZ c=true):(K7 a c).length<=400:=by
 have:=QW ha;have:=Io hc;unfold K7;rw[lla,lla,NQ om,NQ om];simp;omega
theorem Qb {c:Bs}(hc:fZ c=true):(U8 c).length<=400:=by
 have:=Io hc;unfold U8;rw[lla,NQ om];simp;omega
theorem a0F {d:List Ent}{k v q:Bs}(h:Srt d)(hq:q≠k):G8 (dW d k v) q=G8 d q:=by
 unfold G8;rw[IC h,if_neg hq]
theorem a0H {d:List Ent}{k q:Bs}(h:Srt d)(hq:q≠k):G8 (lY d k) q=G8 d q:=by
 unfold G8;rw[Pi h,if_neg hq]
theorem Ux {d:List Ent}{k v q:Bs}(h:Srt d)(hq:q≠k)(he:(R4 d k v).2=0):G8 (R4 d k v).1 q=G8 d q:=by
 unfold R4 at he ⊢;split
 ·exact a0F h hq
 ·rename_i h1;rw[if_neg h1] at he;exact absurd he h1
theorem DX {d:List Ent}{k q:Bs}{n:Nat}(h:Srt d)(hq:q≠k)(he:(V3 k n d).2=0):G8 (V3 k n d).1 q=G8 d q:=by
 unfold V3 at he ⊢;split
 ·exact a0H h hq
 ·rename_i h1;rw[if_neg h1] at he;exact Ux h hq he
theorem a0G {d:List Ent}{k:Bs}(h:Srt d)(hp:0<(G8 d k).n):U6 d k=true:=by
 rw[Ee h];unfold G8 P9 at hp;cases e:gO d k with
 | none=>
  rw[e] at hp;exact absurd hp dc
 | some v=>rfl
theorem RO {d:List Ent}{k:Bs}{n:Wd}(h:DOk d)(hk:k.length<=400)(hn:n.n≠0)(hle:n.n<=(G8 d k).n):gY k n d=V3 k ((G8 d k).n-n.n) d/\(gY k n d).2=0:=by
 have hb:U6 d k=true:=a0G h.s om;have he:∀ v:Bs,v.length<=4000->J5 d k v=0:=fun v hv=>Vb.2 ⟨hk,hv,.inl hb⟩;unfold gY V3;rw[if_neg om];by_cases h1:(G8 d k).n=n.n
 ·rw[if_pos h1,if_pos om];exact⟨rfl,rfl⟩
 ·rw[if_neg h1,if_neg om];refine⟨rfl,?_⟩;rw[Bc];exact he _ (by rw[BO];omega)
theorem KO {d:List Ent}{k:Bs}{n:Wd}(hn:n.n≠0):jD k n d=if aU ((G8 d k).n+n.n)=true then V3 k ((G8 d k).n+n.n) d else ([],17):=by
 unfold jD V3;split
 ·rw[if_neg om]
 ·rfl
theorem Xm {d:List Ent}{k:Bs}{n:Wd}:(jD k n d).2≠16:=by
 unfold jD;split
 ·rw[Bc];unfold J5;split
  ·decide
  ·split
   ·decide
   ·split <;> decide
 ·decide
theorem Xx {d:List Ent}(h:DOk d)(a c:Bs)(n:Wd):eF d a c n=RH d a c n:=by
 unfold eF RH;split
 ·rfl
 ·rename_i h1;simp only[not_or,Bool.not_eq_false] at h1;obtain⟨h2,h3,h4⟩:=h1;by_cases h5:aU ((G8 d (K7 a c)).n+n.n)=false
  ·rw[if_pos h5,if_pos (.inr h5)]
  ·rw[if_neg h5];have h5':aU ((G8 d (K7 a c)).n+n.n)=true:=by simpa using h5
   unfold bN;by_cases h6:aU ((G8 d (U8 c)).n+n.n)=false
   ·have m1:jD (U8 c) n d=([],17):=by rw[KO h4,if_neg (by simp[h6])]
    have n0:¬ (([],17):List Ent × Int).2=0:=dc
    rw[m1,if_neg n0,if_pos (.inl h6)]
   ·have h6':aU ((G8 d (U8 c)).n+n.n)=true:=by simpa using h6
    have m1:jD (U8 c) n d=V3 (U8 c) ((G8 d (U8 c)).n+n.n) d:=by rw[KO h4,if_pos h6']
    have hc:¬ (aU ((G8 d (U8 c)).n+n.n)=false\/aU ((G8 d (K7 a c)).n+n.n)=false):=by rw[h5',h6'];decide
    rw[m1,if_neg hc];by_cases h7:(V3 (U8 c) ((G8 d (U8 c)).n+n.n) d).2=0
    ·rw[if_pos h7,if_pos h7,KO h4,DX h.s MI h7,if_pos h5']
    ·rw[if_neg h7,if_neg h7]
theorem a3I {d:List Ent}(h:DOk d)(a c:Bs)(n:Wd):vF d a c n=UN d a c n:=by
 unfold vF UN;split
 ·rfl
 ·rename_i h1;simp only[not_or,Bool.not_eq_false] at h1;obtain⟨h2,h3,h4⟩:=h1;unfold bN;by_cases h5:(G8 d (U8 c)).n<n.n
  ·have n0:¬ (([],16):List Ent × Int).2=0:=dc
   have:gY (U8 c) n d=([],16):=by rw[gY,if_pos h5]
   rw[this,if_neg n0,if_pos (.inl h5)]
  ·obtain⟨e1,e2⟩:=RO h (Qb h3) h4 (by omega:n.n<=(G8 d (U8 c)).n);have e3:=e2;rw[e1] at e3;rw[if_pos e2,e1];have hd:DOk (V3 (U8 c) ((G8 d (U8 c)).n-n.n) d).1:=by
    unfold V3 at e3 ⊢;split
    ·exact h.drp _
    ·rename_i h8;rw[if_neg h8] at e3;exact QB h e3
   by_cases h6:(G8 d (K7 a c)).n<n.n
   ·rw[if_pos (show (G8 d (U8 c)).n<n.n\/(G8 d (K7 a c)).n<n.n from .inr h6),gY,DX h.s MI e3,if_pos h6]
   ·rw[if_neg (show ¬ ((G8 d (U8 c)).n<n.n\/(G8 d (K7 a c)).n<n.n) by omega),if_pos e3,(RO hd (Lt h2 h3) h4 (by rw[DX h.s MI e3];omega)).1,DX h.s MI e3]
theorem Xj {d:List Ent}(h:DOk d)(a b c:Bs)(n:Wd):jC d a b c n=RA d a b c n:=by
 unfold jC RA;split
 ·rfl
 ·rename_i h1;simp only[not_or,Bool.not_eq_false] at h1;obtain⟨h2,h2',h3,h4⟩:=h1;by_cases h5:(G8 d (K7 a c)).n<n.n
  ·have e1:bN (gY (K7 a c) n) (jD (K7 b c) n) d=([],16):=by
    unfold bN;have:gY (K7 a c) n d=([],16):=by rw[gY,if_pos h5]
    rw[this,if_neg (show ¬ (([],16):List Ent × Int).2=0 by decide)]
   rw[e1,if_neg (show ¬ (a=b/\(([],16):List Ent × Int).2≠16) from fun hh=>hh.2 rfl),if_pos h5]
  ·obtain⟨e1,e2⟩:=RO h (Lt h2 h3) h4 (by omega:n.n<=(G8 d (K7 a c)).n);have e3:=e2;rw[e1] at e3;have e4:bN (gY (K7 a c) n) (jD (K7 b c) n) d=jD (K7 b c) n (V3 (K7 a c) ((G8 d (K7 a c)).n-n.n) d).1:=by
    unfold bN;rw[if_pos e2,e1]
   rw[if_neg h5,e4];by_cases h6:a=b
   ·rw[if_pos ⟨h6,Xm⟩,if_pos h6]
   ·rw[if_neg (fun hh=>h6 hh.1),if_neg h6,KO h4,DX h.s (a4e h2' h2 (fun e=>h6 e.symm)) e3];unfold bN;rw[if_pos e3];by_cases h7:aU ((G8 d (K7 b c)).n+n.n)=true
    ·rw[if_pos h7,if_neg (by simp[h7])]
    ·rw[if_neg h7,if_pos (by simpa using h7)]
theorem wD {d:List Ent}{k v:Bs}(h:DOk d):DOk (R4 d k v).1:=by
 unfold R4;split
 ·rename_i h1;exact h.put h1
 ·exact .nil
theorem RB {d:List Ent}{k:Bs}{n:Wd}(h:DOk d):DOk (jD k n d).1:=by
 unfold jD;split
 ·exact wD h
 ·exact .nil
theorem RP {d:List Ent}{k:Bs}{n:Wd}(h:DOk d):DOk (gY k n d).1:=by
 unfold gY;split
 ·exact .nil
 ·split
  ·exact h.drp _
  ·exact wD h
theorem DF {d:List Ent}{a b:List Ent->List Ent × Int}(h:DOk d)(ha:∀ d,DOk d->DOk (a d).1)(hb:∀ d,DOk d->DOk (b d).1):DOk (bN a b d).1:=by
 unfold bN;split
 ·exact hb _ (ha _ h)
 ·exact ha _ h
theorem uP {d:List Ent}{a c:Bs}{n:Wd}(h:DOk d):DOk (eF d a c n).1:=by
 unfold eF;split
 ·exact .nil
 ·split
  ·exact .nil
  ·exact DF h (fun _ h=>RB h) (fun _ h=>RB h)
theorem a3J {d:List Ent}{a c:Bs}{n:Wd}(h:DOk d):DOk (vF d a c n).1:=by
 unfold vF;split
 ·exact .nil
 ·exact DF h (fun _ h=>RP h) (fun _ h=>RP h)
theorem KN {d:List Ent}{a b c:Bs}{n:Wd}(h:DOk d):DOk (jC d a b c n).1:=by
 unfold jC;split
 ·exact .nil
 ·split
  ·exact h
  ·exact DF h (fun _ h=>RP h) (fun _ h=>RB h)
theorem XZ {d:List Ent}{x:Pkt}(h:DOk d):DOk (mW d x).1:=by
 unfold mW;split
 ·exact .nil
 ·split
  ·exact a3J h
  ·exact KN h
theorem Ae {d:List Ent}{x:Pkt}(h:DOk d):DOk (cO d x).1:=by
 unfold cO;split
 ·exact .nil
 ·split
  ·exact KN h
  ·exact uP h
theorem a4i {d:List Ent}{x:Pkt}(h:DOk d):DOk (wU d x).1:=by
 unfold wU;split
 ·exact .nil
 ·split
  ·exact uP h
  ·exact KN h
end Go.Proofs.YtjhnaegpchadiaaGreatDoor

namespace Go.Proofs.YtjhnaegpchadiaaGreatDoor
open Go Go.RowKit Tw Av Go.Proofs.Tryz
def fill {α:Type}(f:α->Value)(z:Value)(l:List α)(i:Nat):List AV:=(l.take i).map (fun x=>.lit (f x))++List.replicate (l.length-i) (.lit z)
instance {α:Type}{f:α->Value}{z:Value}{l:List α}{i:Nat}:Siz (fill f z l i) 1:=by unfold fill;infer_instance
theorem Ho {α:Type}{f:α->Value}{z:Value}{l:List α}{i:Nat}(h:i<=l.length):(fill f z l i).length=l.length:=by simp[fill];omega
theorem Hm {α:Type}{f:α->Value}{z:Value}{l:List α}{i:Nat}(h:i<l.length):(fill f z l i).set i (.lit (f l[i]))=fill f z l (i+1):=by
 have hl:((l.take i).map fun x=>AV.lit (f x)).length=i:=by simp;omega
 unfold fill;rw[List.set_append,if_neg om,hl,Nat.sub_self,show l.length-i=(l.length-(i+1))+1 by omega,List.replicate_succ,List.set_cons_zero,List.take_succ_eq_append_getElem h,List.map_append,laa];rfl
theorem Hq {α:Type}{f:α->Value}{z:Value}{l:List α}:fill f z l l.length=l.map fun x=>.lit (f x):=by simp[fill]
class U8s (xs:List AV)(l:outParam Bs):Prop where
 out:xs=l.map w9
instance {l:Bs}:U8s (l.map w9) l:=⟨rfl⟩
instance {xs:List AV}{l:Bs}{i:Nat}[h:U8s xs l]:U8s (xs.take i) (l.take i):=⟨by rw[h.out,List.map_take]⟩
instance {xs:List AV}{l:Bs}{i:Nat}[h:U8s xs l]:U8s (xs.drop i) (l.drop i):=⟨by rw[h.out,List.map_drop]⟩
instance b2S {x:H8}{xs:List AV}{blk:Bs}{id:Option Value}[h:U8s xs blk]:Ans prog GL 294 [sU,fB x,.sl 1 xs id] (blk.length=64) (fB (vC x blk)):=by
 rw[h.out]
 infer_instance
def lU (n:Nat):Nat:=(119-n%64)%64
theorem Vr (s:Bs):(pad s).length=s.length+1+lU s.length+8:=by
 have:(eU (8*s.length)).length=8:=rfl;simp[pad,zeros,this,lU];omega
theorem WQ (q:Nat):Value.int .u8 (IntKind.u8.wrap (q:Int))=o5 (UInt8.ofNat q):=by
 unfold o5;rw[IntKind.wrap_u8];congr 1
attribute [local irreducible] Av.Obl
set_option maxHeartbeats 4000000 in
instance a1j {s:Bs}:Ans prog GL 197 [sU,str s] (s.length<=35184372088832) (hA (aM s)):=⟨fun hl=>by
 refine qF func197 ntmps197 fun _ hs=>?_;repeat' (first|refine bK ?_|refine VE ?_|refine VK (fun _=>?_)|refine MW (fun _=>?_)|intro _|fail)
 rename_i g2 g4;refine a5F (fun v=>?_);repeat' first|refine Wz ?_|intro _
 refine I1 (fun v'=>?_);repeat' first|refine Wz ?_|intro _
 have hZ:lU s.length<64:=by unfold lU;omega
 have hs0:s.map (fun c=>AV.lit (o5 c))++[.lit (.int .u8 128)]=(s++128::zeros 0).map w9:=by
  rw[List.map_append];rfl
 refine aT 5 (v':=.sl 1 ((s++128::zeros 0).map w9) (some v')) (Imp.of_eq (by rw[<- hs0])) ?_;refine y5 (α:=Nat × Value) (fun q=>[(1,str s),(2,ptr g2),(4,ptr g4),(5,.sl 1 ((s++128::zeros q.1).map w9) (some q.2))]) (fun q=>[.tail 5 1 q.2,.var g4 34 (hA F3),.var g2 267 sU])
  (fun q=>q.1<=lU s.length) (fun q=>lU s.length-q.1) (0,v') ⟨rfl,rfl,rfl,rfl,trivial⟩ slr (Nat.zero_le _) ?_
 rintro⟨z,v''⟩ hz;dsimp only at hz ⊢;have hlz:((s++128::zeros z).map w9).length=s.length+1+z:=by simp[zeros];omega
 repeat' first|refine Wz ?_|intro _
 refine o8 (fun hne=>?_) (fun hne=>?_)
 ·repeat' first|refine Wz ?_|intro _
  rw[hlz] at hne;refine I1 (hb:=by rw[hlz];simp;omega) (hl:=by rw[hlz];simp[maxLen];omega) (fun v3=>?_);repeat' first|refine Wz ?_|intro _
  have e:(s++128::zeros z).map w9++[.lit (.int .u8 0)]=(s++128::zeros (z+1)).map w9:=by
   simp[zeros,List.replicate_succ',o5]
  rw[e];exact o6 (z+1,v3) ⟨rfl,rfl,rfl,rfl,trivial⟩ slr (by simp only;unfold lU at *;omega) (by simp only;unfold lU at *;omega)
 ·rw[hlz] at hne;obtain rfl:z=lU s.length:=by unfold lU at *;omega
  repeat' first|refine Wz ?_|intro _
  refine yV ?_;have hw:IntKind.u64.wrap ((s.length:Int)*8)=((8*s.length:Nat):Int):=by rw[IntKind.wrap_u64];omega
  rw[hw];repeat' first|refine Wz ?_|intro _
  generalize hB:s++128::zeros (lU s.length)=B at *;have hlB:B.length=s.length+1+lU s.length:=by simpa using hlz
  refine y5 (α:=Nat × Value) (fun q=>[(2,ptr g2),(4,ptr g4),(5,.sl 1 ((B++(eU (8*s.length)).take q.1).map w9) (some q.2)),(6,.lit (.int .u64 ((8*s.length:Nat):Int))),(7,int (7-(q.1:Int)))]) (fun q=>[.tail 5 1 q.2,.var g4 34 (hA F3),.var g2 267 sU])
   (fun q=>q.1<=8) (fun q=>8-q.1) (0,v'') ⟨rfl,rfl,by simp;rfl,rfl,rfl,trivial⟩ slr (Nat.zero_le _) ?_
  rintro⟨i,v4⟩ hi;dsimp only at hi ⊢;have hl8:(eU (8*s.length)).length=8:=rfl;have hlq:((B++(eU (8*s.length)).take i).map w9).length=B.length+i:=by simp[hl8];omega
  repeat' first|refine Wz ?_|intro _
  refine o8 (fun hge=>?_) (fun hge=>?_)
  ·repeat' first|refine Wz ?_|intro _
   refine yS (k:=.u64) (n:=8*(7-i)) (hb:=by show _=((8*(7-i):Nat):Int);omega) (hn:=Nat.ble_eq_true_of_le (show 8*(7-i)<=64 by omega)) ?_;repeat' first|refine Wz ?_|intro _
   rw[<- Int.natCast_ediv,WQ];refine I1 (hb:=by rw[hlq];simp;omega) (hl:=by rw[hlq];simp[maxLen];omega) (fun v5=>?_);repeat' first|refine Wz ?_|intro _
   have hg:=Lr (8*s.length) (7-i) om;rw[show 7-(7-i)=i by omega] at hg;have hi8:i<(eU (8*s.length)).length:=by omega
   have e:(B++(eU (8*s.length)).take i).map w9++[.lit (o5 (UInt8.ofNat (8*s.length / 2 ^ (8*(7-i)))))]=(B++(eU (8*s.length)).take (i+1)).map w9:=by
    rw[List.getElem?_eq_getElem hi8] at hg;injection hg with hg
    rw[<- hg,List.take_succ_eq_append_getElem hi8,<- laa,List.map_append (l₁:=B++List.take i _)];rfl
   rw[e];have e7:(7:Int)-(i:Int)-1=7-((i+1:Nat):Int):=by omega
   rw[e7];exact o6 (i+1,v5) ⟨rfl,rfl,rfl,rfl,rfl,trivial⟩ slr (by simp only;omega) (by simp only;omega)
  ·obtain rfl:i=8:=by omega
   rw[List.take_of_length_le om] at hlq ⊢;have hP:B++eU (8*s.length)=pad s:=by rw[<- hB,pad,laa];rfl
   rw[hP] at hlq ⊢;have hlP:(pad s).length=s.length+1+lU s.length+8:=Vr s;have hm64:(pad s).length%64=0:=by rw[hlP];unfold lU;omega
   generalize hPP:pad s=P at *;repeat' first|refine Wz ?_|intro _
   rename_i g8;refine y5 (α:=Nat) (fun i=>[(2,ptr g2),(4,ptr g4),(5,.sl 1 (P.map w9) (some v4)),(8,ptr g8),(9,int i)]) (fun i=>[.var g8 349 (.agg 8 (fill O1 (O1 0) h0.words i)),.tail 5 1 v4,.var g4 34 (hA F3),.var g2 267 sU])
    (fun i=>i<=8) (fun i=>8-i) 0 ⟨rfl,rfl,rfl,rfl,rfl,trivial⟩ slr (Nat.zero_le _) ?_
   intro i hi;have hw8:h0.words.length=8:=rfl;repeat' first|refine Wz ?_|intro _
   refine o8 (fun hlt=>?_) (fun hlt=>?_)
   ·have hi8:i<h0.words.length:=om
    repeat' first|refine Wz ?_|intro _
    refine Z5 (l:=h0.words) (f:=fun x=>.lit (O1 x)) i hi8 ?_;repeat' first|refine Wz ?_|intro _
    refine O4 i ?_;repeat' first|refine Wz ?_|intro _
    refine kM (j:=i) (ps:=fill O1 (O1 0) h0.words i) (by rw[Ho om];omega) ?_;rw[Hm hi8];repeat' first|refine Wz ?_|intro _
    exact o6 (i+1) ⟨rfl,rfl,rfl,rfl,rfl,trivial⟩ slr om om
   ·obtain rfl:i=h0.words.length:=by omega
    rw[Hq];repeat' first|refine Wz ?_|intro _
    refine y5 (α:=Nat) (fun q=>[(2,ptr g2),(4,ptr g4),(5,.sl 1 (P.map w9) (some v4)),(8,ptr g8),(10,int (64*(q:Int)))]) (fun q=>[.var g8 349 (fB (jN h0 q P)),.tail 5 1 v4,.var g4 34 (hA F3),.var g2 267 sU])
     (fun q=>64*q<=P.length) (fun q=>P.length-64*q) 0 ⟨rfl,rfl,rfl,rfl,rfl,trivial⟩ slr (Nat.zero_le _) ?_
    intro q hq;have hlPm:(P.map w9).length=P.length:=llm _;repeat' first|refine Wz ?_|intro _
    refine o8 (fun hlt=>?_) (fun hlt=>?_)
    ·rw[hlPm] at hlt;repeat' first|refine Wz ?_|intro _
     apply x8 [];exact rfl;exact rfl;kernel_rfl;intro _ _;refine uB (64*q) (64*q+64) ?_;exact j4 (o9 rfl rfl);repeat' first|refine Wz ?_|intro _
     have e:vC (jN h0 q P) ((P.take (64*q+64)).drop (64*q))=jN h0 (q+1) P:=by
      rw[VT,List.drop_take];congr 2
      omega
     rw[e];have e2:(64:Int)*(q:Int)+64=64*((q+1:Nat):Int):=by omega
     rw[e2];exact o6 (q+1) ⟨rfl,rfl,rfl,rfl,rfl,trivial⟩ slr om om
    ·rw[hlPm] at hlt;obtain rfl:q=P.length / 64:=by omega
     have hsha:aM s=⟨(jN h0 (P.length / 64) P).bytes,rfl⟩:=Hsh.ext' (by rw[<- hPP];rfl);rw[hsha];generalize jN h0 (P.length / 64) P=X at *;repeat' first|refine Wz ?_|intro _
     rename_i g11;refine y5 (α:=Nat) (fun i=>[(4,ptr g4),(8,ptr g8),(11,ptr g11),(12,int i)]) (fun i=>[.var g11 34 (.agg 32 (fill o5 (o5 0) X.bytes i)),.var g8 349 (fB X),.var g4 34 (hA F3)])
      (fun i=>i<=32) (fun i=>32-i) 0 ⟨rfl,rfl,rfl,rfl,trivial⟩ (by repeat (first|exact List.nil_sublist _|exact List.Sublist.refl _|apply List.Sublist.cons_cons|apply List.Sublist.cons)) (Nat.zero_le _) ?_
     intro i hi;have hb32:X.bytes.length=32:=rfl;repeat' first|refine Wz ?_|intro _
     refine o8 (fun hlt=>?_) (fun hlt=>?_)
     ·have hi32:i<X.bytes.length:=om
      repeat' first|refine Wz ?_|intro _
      refine O4 (i / 4) ?_;repeat' first|refine Wz ?_|intro _
      refine dP (j:=i / 4) (ps:=X.words.map fun x=>.lit (O1 x)) (u:=S9 (X.words.getD (i / 4) 0)) (by rw[List.getElem?_map,HZ X (i / 4) om];rfl) ?_;repeat' first|refine Wz ?_|intro _
      refine BP (24-8*(i%4)) ?_;repeat' first|refine Wz ?_|intro _
      have hg:=Ko X i om;rw[List.getElem?_eq_getElem hi32] at hg;injection hg with hg
      rw[BitVec.toNat_ushiftRight,Nat.shiftRight_eq_div_pow,WQ,<- hg];refine O4 i ?_;refine kM (j:=i) (ps:=fill o5 (o5 0) X.bytes i) (by rw[Ho om];omega) ?_;rw[Hm hi32];repeat' first|refine Wz ?_|intro _
      exact o6 (i+1) ⟨rfl,rfl,rfl,rfl,trivial⟩ slr om om
     ·obtain rfl:i=X.bytes.length:=by omega
      rw[Hq];repeat' first|refine Wz ?_|intro _
      exact d9 rfl⟩
end Go.Proofs.YtjhnaegpchadiaaGreatDoor

namespace Go.Proofs.YtjhnaegpchadiaaGreatDoor
open Go Go.RowKit Tw Av Go.Proofs.Tryz
theorem Uk {s:Bs}(hl:s.length<=35184372088832):SpecE prog GL 86 [str s] (hA (aM s)):=by
 refine qF func86 ntmps86 fun _ hs=>?_;repeat' first|refine Wz ?_|intro _
 refine VI (args:=[sU,str s]) (hc:=a1j) hl ?_;repeat' first|refine Wz ?_|intro _
 exact d9 rfl
instance b4b {s:Bs}{n:Nat}[h:LenLe s n]:Ans prog GL 86 [str s] (n<=35184372088832) (hA (aM s)):=⟨fun hn=>Uk (Nat.le_trans h.out hn)⟩
theorem QN (a b c:Bs):tF [a,b,c]=aM (a++b++c):=by simp[tF]
instance b2z {a b:Bs}:Ans prog GL 231 [.agg 2 [str a,str b]] True (hA (aW ⟨a,b⟩)):=⟨fun _=>by
 refine qF func231 ntmps231 fun _ hs=>?_;repeat' first|refine Wz ?_|intro _
 refine d9 ?_;rw[aW,QN];rfl⟩
instance b2v {a b:Hsh}:Ans prog GL 232 [hA a,hA b] True (hA (pV a b)):=⟨fun _=>by
 refine qF func232 ntmps232 fun _ hs=>?_;repeat' first|refine Wz ?_|intro _
 refine d9 ?_;rw[pV,QN];rfl⟩
instance b2h {n:Int}{h:Hsh}:Ans prog GL 132 [int n,hA h] (n<=9223372036854775807) (hA (uF n h)):=⟨fun hn=>by
 refine qF func132 ntmps132 fun _ hs=>?_;repeat' first|refine Wz ?_|intro _
 refine d9 ?_;rw[uF,QN];rfl⟩
theorem Sv (n:Nat):n<=1000000->∀ {l:List Ent} {xs:List AV} {id:Option Value} [Ents xs l],Ans prog GL 133 [.sl 2 xs id] (l.length<=n) (hA (qU (l.map aW))):=by
 induction n with
 | zero=>
  intro _ l xs id hx;refine⟨fun hl=>?_⟩;have h:=hx.out;subst h;obtain rfl:l=[]:=List.eq_nil_of_length_eq_zero om;refine qF func133 ntmps133 fun _ hs=>?_;repeat' first|refine Wz ?_|intro _
  exact d9 rfl
 | succ n ih=>
  intro hn l xs id hx;have ih:=@ih om;refine⟨fun hl=>?_⟩;have h:=hx.out;subst h;have hm:(l.map D5).length=l.length:=llm _;refine qF func133 ntmps133 fun _ hs=>?_;repeat' first|refine Wz ?_|intro _
  refine o8 (fun h0=>?_) (fun h0=>?_)
  ·obtain rfl:l=[]:=List.eq_nil_of_length_eq_zero om;repeat' first|refine Wz ?_|intro _
   exact d9 rfl
  ·repeat' first|refine Wz ?_|intro _
   refine o8 (fun h1=>?_) (fun h1=>?_)
   ·obtain⟨x,rfl⟩:∃ x,l=[x]:=List.length_eq_one_iff.1 om;repeat' first|refine Wz ?_|intro _
    refine Z5 0 (show 0<[x].length by simp) ?_;repeat' first|refine Wz ?_|intro _
    exact d9 rfl
   ·repeat' first|refine Wz ?_|intro _
    have hk0:(((l.map D5).length:Int)+1) / 2=(((l.length+1) / 2:Nat):Int):=om
    rw[hk0];have hst:=WU (l.map aW) (by rw[llm];omega);rw[llm,<- List.map_take,<- List.map_drop] at hst;generalize hk:(l.length+1) / 2=k at *;apply x8 [];exact rfl;exact rfl;kernel_rfl;intro _ _;refine uB 0 k ?_;exact j4 (o9 rfl rfl);repeat' first|refine Wz ?_|intro _
    apply x8 [];exact rfl;exact rfl;kernel_rfl;intro _ _;refine uB k l.length ?_;exact j4 (o9 rfl rfl);repeat' first|refine Wz ?_|intro _
    refine d9 ?_;rw[hst,List.drop_zero,List.take_length];rfl
instance b2g {l:List Ent}{xs:List AV}{id:Option Value}[Ents xs l]:Ans prog GL 133 [.sl 2 xs id] (l.length<=1000000) (hA (qU (l.map aW))):=Sv 1000000 (Nat.le_refl _)
instance b2k {d:List Ent}{xs:List AV}{id:Option Value}[hx:Ents xs d]:Ans prog GL 62 [.sl 2 xs id] (d.length<=1000000) (hA (uF d.length (qU (d.map aW)))):=⟨fun hl=>by
 have h:=hx.out;subst h;have hm:(d.map aW).length=d.length:=llm _;have hm2:(d.map D5).length=d.length:=llm _;refine qF func62 ntmps62 fun _ hs=>?_;repeat' first|refine Wz ?_|intro _
 refine d9 ?_;rw[<- hm2];rfl⟩
end Go.Proofs.YtjhnaegpchadiaaGreatDoor

namespace Go.Proofs.YtjhnaegpchadiaaGreatDoor
open Go Go.RowKit Tw Av
def mQ:List WayStep->Hsh->List Hsh->Hsh
 | [],h,_=>h
 | t::ts,h,p=>if t.1=true then pV (mQ ts h p.dropLast) (p.getLastD F3) else pV (p.getLastD F3) (mQ ts h p.dropLast)
def yA (n i:Int)(h:Hsh)(p:List Hsh):Option Hsh:=if i<0\/n<=i\/2000<n\/(dQ n i).length≠p.length then none else some (uF n (mQ (dQ n i) h p))
theorem NP:∀ (f n i:Nat),n<=f->(turns n i).length<=n
 | 0,n,i,h=>by
  obtain rfl:n=0:=by omega
  simp[turns,uE]
 | f+1,n,i,h=>by
  by_cases hn:1<n
  ·rw[II n i hn,List.length_cons];split
   ·have:=NP f ((n+1) / 2) i om;omega
   ·have:=NP f (n-(n+1) / 2) (i-(n+1) / 2) om;omega
  ·obtain rfl|rfl:n=0\/n=1:=by omega
   ·simp[turns,uE]
   ·simp[NN]
theorem Oz {n i:Nat}(h:i<n)(hn:n<=2000):dQ (n:Int) (i:Int)=turns n i:=by
 unfold dQ;rw[if_neg om];simp
theorem a0K {α:Type}(l:List α)(x z:α):(l++[x]).getLastD z=x:=by simp[List.getLastD_eq_getLast?]
theorem Ps (t:WayStep)(ts:List WayStep)(h x:Hsh)(p:List Hsh):mQ (t::ts) h (p++[x])=if t.1=true then pV (mQ ts h p) x else pV x (mQ ts h p):=by
 rw[mQ,List.dropLast_concat,a0K]
theorem Oy {n i:Nat}(_h:i<n)(hn:1<n):turns n i=(decide (i<(n+1) / 2),(n+1) / 2,n-(n+1) / 2)::turns (if i<(n+1) / 2 then (n+1) / 2 else n-(n+1) / 2) (if i<(n+1) / 2 then i else i-(n+1) / 2):=by
 rw[II n i hn];split <;> rfl

theorem MJ {n i:Int}{h:Hsh}{p:List Hsh}(hb:i<0\/n<=i\/2000<n\/(dQ n i).length≠p.length):yA n i h p=none:=if_pos hb
theorem a0C {n i:Int}{h:Hsh}{p:List Hsh}(hb:¬ (i<0\/n<=i\/2000<n\/(dQ n i).length≠p.length)):yA n i h p=some (uF n (mQ (dQ n i) h p)):=if_neg hb
end Go.Proofs.YtjhnaegpchadiaaGreatDoor
