/- . -/
import Derived.Test.YtocpacdnjbjjmaaGreatDoorS23
namespace Go.Proofs.YtocpacdnjbjjmaaGreatDoor
open Go Go.RowKit Tw Av Go.Proofs.Tryz
instance Zu {g:Nat}{s:Bs}{b:Bool}:AnsM prog GL 85 g [] 169 (A9 s b) True (int (P5 s b)) (A9 s b):=⟨fun _=>by
 refine qE func85 rfl ntmps85 rfl (fun _ hs=>?_);cases b
 ·cases s with
  | nil=>
   repeat' first|refine Yz ?_|intro _
   exact o5 _ ⟨rfl,rfl⟩ slr
  | cons c s=>
   repeat' first|refine Yz ?_|intro _
   exact o5 _ ⟨rfl,rfl⟩ slr
 ·repeat' first|refine Yz ?_|intro _
  exact o5 _ ⟨rfl,rfl⟩ slr⟩
instance Zr {g:Nat}{s:Bs}{b:Bool}{c most:Int}:AnsM prog GL 149 g [.lit (.int .u8 c),int most] 169 (A9 s b) (s.length<=4611686018427387904) (str (D5 c most s b)) (A9 (j5 c most s b) (A7 c most s b)):=⟨fun hl=>by
 refine qE func149 rfl ntmps149 rfl (fun _ hs=>?_);cases b;rotate_left
 ·repeat' first|refine Yz ?_|intro _
  refine o5 [.var g 169 (A9 s true)] ⟨?_,?_⟩ slr
  ·rw[D5,vN];rfl
  ·rw[j5,A7,vN];rfl
 rcases s with _|⟨s0,_|⟨s1,_|⟨s2,_|⟨s3,r⟩⟩⟩⟩
 ·repeat' first|refine Yz ?_|intro _
  exact o5 [.var g 169 (A9 [] true)] ⟨rfl,rfl⟩ slr
 ·repeat' first|refine Yz ?_|intro _
  exact o5 [.var g 169 (A9 [s0] true)] ⟨rfl,rfl⟩ slr
 ·repeat' first|refine Yz ?_|intro _
  exact o5 [.var g 169 (A9 [s0,s1] true)] ⟨rfl,rfl⟩ slr
 ·repeat' first|refine Yz ?_|intro _
  exact o5 [.var g 169 (A9 [s0,s1,s2] true)] ⟨rfl,rfl⟩ slr
 have hlen:(s0::s1::s2::s3::r).length=r.length+4:=rfl;have q1:=s1.toNat_lt;have q2:=s2.toNat_lt;have q3:=s3.toNat_lt;by_cases hc:(s0.toNat:Int)=c
 rotate_left
 ·have e:Y7 c most false (s0::s1::s2::s3::r)=none:=by rw[Y7,if_neg (fun h=>hc h.2.1)]
  repeat' first|refine Yz ?_|intro _
  refine o5 [.var g 169 (A9 (s0::s1::s2::s3::r) true)] ⟨?_,?_⟩ slr
  ·rw[D5,e];rfl
  ·rw[j5,A7,e];rfl
 have hv:(s1.toNat:Int)*65536+(s2.toNat:Int)*256+(s3.toNat:Int)=(bC s1 s2 s3:Nat):=by simp[bC];omega
 have hlt:=MK s1 s2 s3;have hct:Y7 c most false (s0::s1::s2::s3::r)=if (bC s1 s2 s3:Int)<=most/\bC s1 s2 s3<=r.length then some (r.take (bC s1 s2 s3),r.drop (bC s1 s2 s3)) else none:=by
  rw[Y7];simp[hc]
 repeat' first|refine Yz ?_|intro _
 rw[hv];generalize bC s1 s2 s3=n at *;by_cases h1:(n:Int)<=most
 rotate_left
 ·have e:Y7 c most false (s0::s1::s2::s3::r)=none:=by rw[hct,if_neg (fun h=>h1 h.1)]
  repeat' first|refine Yz ?_|intro _
  refine o5 [.var g 169 (A9 (s0::s1::s2::s3::r) true)] ⟨?_,?_⟩ slr
  ·rw[D5,e];rfl
  ·rw[j5,A7,e];rfl
 by_cases h2:n<=r.length
 rotate_left
 ·have e:Y7 c most false (s0::s1::s2::s3::r)=none:=by rw[hct,if_neg (fun h=>h2 h.2)]
  repeat' first|refine Yz ?_|intro _
  refine o5 [.var g 169 (A9 (s0::s1::s2::s3::r) true)] ⟨?_,?_⟩ slr
  ·rw[D5,e];rfl
  ·rw[j5,A7,e];rfl
 have e:Y7 c most false (s0::s1::s2::s3::r)=some (r.take n,r.drop n):=by rw[hct,if_pos ⟨h1,h2⟩]
 repeat' first|refine Yz ?_|intro _
 refine Q7 4 (4+n) ?_;repeat' first|refine Yz ?_|intro _
 refine Q7 (4+n) (r.length+4) ?_;repeat' first|refine Yz ?_|intro _
 refine o5 [.var g 169 (A9 (r.drop n) false)] ⟨?_,?_⟩ ?_
 ·rw[D5,e];simp[I8,Nat.add_comm]
 ·rw[j5,A7,e];rfl
 ·have e2:List.drop (4+n) (List.take (r.length+4) (s0::s1::s2::s3::r))=r.drop n:=by
   rw[List.take_of_length_le sm,Nat.add_comm 4 n];simp
  rw[e2];exact List.Sublist.refl _⟩
instance b3v {g:Nat}{s:Bs}{b:Bool}{c:Int}:AnsM prog GL 148 g [.lit (.int .u8 c)] 169 (A9 s b) (s.length<=4611686018427387904) (.lit (.int .u64 (qK c s b))) (A9 (j5 c 8 s b) (mR c s b)):=⟨fun hl=>by
 refine qE func148 rfl ntmps148 rfl (fun _ hs=>?_);repeat' first|refine Yz ?_|intro _
 have hx:=(uA c 8 s b).2 dc;rw[mR,ES];generalize D5 c 8 s b=x at *;refine z8 (α:=Nat) (fun i=>[(0,ptr g),(5,str x),(6,.lit (.int .u64 (numOf (x.take i):Nat))),(7,int i)]) (fun _=>[.var g 169 (A9 (j5 c 8 s b) (A7 c 8 s b))])
  (fun i=>i<=x.length) (fun i=>x.length-i) 0 ⟨rfl,rfl,rfl,rfl,trivial⟩ slr om ?_
 intro i hi;repeat' first|refine Yz ?_|intro _
 refine o9 (fun hlt=>?_) (fun hlt=>?_)
 ·have hil:i<x.length:=om
  have h1:=Es hil;have h2:=x[i].toNat_lt;have h3:=FR (l:=x.take (i+1)) (by simp;omega);repeat' first|refine Yz ?_|intro _
  refine rQ i ?_ (List.getElem?_eq_getElem hil);repeat' first|refine Yz ?_|intro _
  refine o6 (i+1) ⟨rfl,rfl,?_,rfl,trivial⟩ slr hil om;rw[h1];rfl
 ·obtain rfl:i=x.length:=by omega
  rw[List.take_length];have hdg:=a5R (l:=x) om;have hns:=FR (l:=x) om;repeat' first|refine Yz ?_|intro _
  cases h0:jG x
  ·have e:=hdg.2 h0;refine o9 (fun h=>absurd e h) (fun _=>?_);repeat' first|refine Yz ?_|intro _
   refine o5 [.var g 169 (A9 (j5 c 8 s b) (A7 c 8 s b))] ⟨rfl,?_⟩ slr;simp
  ·refine o9 (fun _=>?_) (fun h=>?_);rotate_left
   ·exact absurd (hdg.1 (Classical.not_not.1 h)) (by rw[h0];simp)
   repeat' first|refine Yz ?_|intro _
   refine o5 [.var g 169 (A9 (j5 c 8 s b) true)] ⟨rfl,?_⟩ slr;simp⟩
theorem a0e {c:Int}{s:Bs}{b:Bool}(h:mR c s b=true):qK c s b=0:=by
 rw[ES];unfold mR at h;rcases Bool.or_eq_true_iff.1 h with h|h
 ·have:D5 c 8 s b=[]:=by
   unfold A7 at h;rw[D5,Option.isNone_iff_eq_none.1 h];rfl
  rw[this];rfl
 ·rw[if_pos h]
instance Zt {g:Nat}{s:Bs}{b:Bool}{c most:Int}:AnsM prog GL 83 g [.lit (.int .u8 c),int most] 169 (A9 s b) (s.length<=4611686018427387904/\0<=most/\most<=9223372036854775807) (int (J8 c most s b)) (A9 (j5 c 8 s b) (K3 c most s b)):=⟨fun hp=>by
 obtain⟨hl,h0,h1⟩:=hp;refine qE func83 rfl ntmps83 rfl (fun _ hs=>?_);repeat' first|refine Yz ?_|intro _
 have hx:=Bj c s b;have hz:=a0e (c:=c) (s:=s) (b:=b);rw[J8,K3];generalize qK c s b=n at *;by_cases h:most<(n:Int)
 ·rw[if_pos h,dT h];repeat' first|refine Yz ?_|intro _
  refine o5 [.var g 169 (A9 (j5 c 8 s b) true)] ⟨rfl,?_⟩ slr;simp
 ·rw[if_neg h,dZ h];cases hb:mR c s b
  ·repeat' first|refine Yz ?_|intro _
   refine o5 [.var g 169 (A9 (j5 c 8 s b) false)] ⟨rfl,?_⟩ slr;simp
  ·obtain rfl:=hz hb;repeat' first|refine Yz ?_|intro _
   refine o5 [.var g 169 (A9 (j5 c 8 s b) true)] ⟨rfl,?_⟩ slr;simp⟩
theorem QS {c:Int}{s:Bs}{b:Bool}:D5 c 16777216 s b=D5 c 16777215 s b/\j5 c 16777216 s b=j5 c 16777215 s b/\A7 c 16777216 s b=A7 c 16777215 s b:=by
 have h:Y7 c 16777216 b s=Y7 c 16777215 b s:=by
  unfold Y7;split
  ·rename_i s0 s1 s2 s3 r;have:=MK s1 s2 s3;by_cases h1:b=false/\(s0.toNat:Int)=c/\bC s1 s2 s3<=r.length
   ·rw[if_pos ⟨h1.1,h1.2.1,om,h1.2.2⟩,if_pos ⟨h1.1,h1.2.1,om,h1.2.2⟩]
   ·rw[if_neg (fun h=>h1 ⟨h.1,h.2.1,h.2.2.2⟩),if_neg (fun h=>h1 ⟨h.1,h.2.1,h.2.2.2⟩)]
  ·rfl
 unfold D5 j5 A7;rw[h];exact⟨rfl,rfl,rfl⟩
instance b3x {g:Nat}{s:Bs}{b:Bool}{c many most:Int}:AnsM prog GL 84 g [.lit (.int .u8 c),int many,int most] 169 (A9 s b) (s.length<=1000000000) (.sl 1 ((fG c many most s b).map str) none) (A9 (j5 c 16777215 s b) (aY c many most s b)):=⟨fun hl=>by
 refine qE func84 rfl ntmps84 rfl (fun _ hs=>?_);repeat' first|refine Yz ?_|intro _
 rw[QS.1,QS.2.1,QS.2.2];have hx:=(uA c 16777215 s b).1;have hx2:=(Q9 c 16777215 s b).1;rw[fG,aY];generalize D5 c 16777215 s b=x at *;generalize j5 c 16777215 s b=s1 at *;generalize A7 c 16777215 s b=b1 at *;generalize hX:yU c most x=X at *;rename_i gr;refine aM 10 (Imp.nil (k:=1)) ?_;refine O5 (fun ok w h=>h.full 9 1 none 0) ?_;refine WY (α:=Value × Bs) (fun q=>[(0,ptr g),(2,int many),(9,ptr gr),(10,.sl 1 (X.1.map str) (some q.1))]) (fun q=>[.tail 9 1 q.1,.var gr 169 (A9 q.2 X.2),.var g 169 (A9 s1 b1)]) ?_ (fun q=>?_);rotate_left
 ·rcases q with⟨v,s2⟩
  dsimp only;have hml:(X.1.map str).length=X.1.length:=llm _;unfold xM uX;cases hq:X.2
  ·by_cases hm:many<(X.1.length:Int)
   ·rw[dT hm,Bool.or_true,Bool.or_true,if_pos rfl];repeat' first|refine Yz ?_|intro _
    refine U8 (.sl 1 [] none) [.var g 169 (A9 s1 true)] ?_ ⟨rfl,rfl⟩ ?_
    focus
     exact Imp.nilN
    exact r9
   ·rw[dZ hm,Bool.or_false,Bool.or_false];cases b1
    ·repeat' first|refine Yz ?_|intro _
     refine U8 (.sl 1 (X.1.map str) none) [.var g 169 (A9 s1 false)] ?_ ⟨rfl,rfl⟩ ?_
     focus
      exact Imp.sl
     exact r9
    ·repeat' first|refine Yz ?_|intro _
     refine U8 (.sl 1 [] none) [.var g 169 (A9 s1 true)] ?_ ⟨rfl,rfl⟩ ?_
     focus
      exact Imp.nilN
     exact r9
  ·rw[Bool.true_or,Bool.or_true,if_pos rfl];repeat' first|refine Yz ?_|intro _
   refine U8 (.sl 1 [] none) [.var g 169 (A9 s1 true)] ?_ ⟨rfl,rfl⟩ ?_
   focus
    exact Imp.nilN
   exact r9
 refine z8 (α:=List Bs × Value × Bs × Bool × Nat) (fun q=>[(0,ptr g),(1,.lit (.int .u8 c)),(2,int many),(3,int most),(9,ptr gr),(10,.sl 1 (q.1.map str) (some q.2.1))])
   (fun q=>[.tail 9 1 q.2.1,.var gr 169 (A9 q.2.2.1 q.2.2.2.1),.var g 169 (A9 s1 b1)])
   (fun q=>X=(q.1++(eX c most q.2.2.2.2 q.2.2.1 q.2.2.2.1).1,(eX c most q.2.2.2.2 q.2.2.1 q.2.2.2.1).2)/\(q.2.2.2.1=false->q.2.2.1.length<q.2.2.2.2)/\(q.2.2.2.1=false->q.1.length+q.2.2.1.length<=x.length)/\q.1.length<=x.length) (fun q=>q.2.2.2.2) ([],.slice none 0 0,x,false,x.length+1) ⟨rfl,rfl,rfl,rfl,rfl,rfl,trivial⟩ slr ⟨hX.symm,fun _=>by dsimp only;omega,fun _=>by simp,sm⟩ ?_
 rintro⟨acc,v,s2,b2,f⟩ ⟨e1,e2,e3,e4⟩;dsimp only at e1 e2 e3 e4 ⊢;cases b2;rotate_left
 ·rw[Oc,List.append_nil] at e1;subst e1;cases s2 with
  | nil=>
   repeat' first|refine Yz ?_|intro _
   refine fO (v,[]) ⟨rfl,rfl,rfl,rfl,trivial⟩ ?_;exact r9
  | cons a s2=>
   repeat' first|refine Yz ?_|intro _
   refine fO (v,a::s2) ⟨rfl,rfl,rfl,rfl,trivial⟩ ?_;exact r9
 have e2:=e2 rfl;have e3:=e3 rfl;rcases f with _|f
 ·omega
 cases s2 with
 | nil=>
  rw[WN,List.append_nil] at e1;subst e1;repeat' first|refine Yz ?_|intro _
  refine fO (v,[]) ⟨rfl,rfl,rfl,rfl,trivial⟩ ?_;exact r9
 | cons a s2=>
  rw[Ob] at e1;have hle:=(Q9 c most (a::s2) false).1;have hlt:=QT (c:=c) (most:=most) (s:=a::s2) (b:=false);have hl3:(a::s2).length=s2.length+1:=rfl;have hma:(acc.map str).length=acc.length:=llm _;repeat' first|refine Yz ?_|intro _
  refine I4 (fun v'=>?_);repeat' first|refine Yz ?_|intro _
  refine o6 (acc++[D5 c most (a::s2) false],v',j5 c most (a::s2) false,A7 c most (a::s2) false,f) ⟨rfl,rfl,rfl,rfl,rfl,?_,trivial⟩ slr ⟨by simpa using e1,fun h=>?_,fun h=>?_,?_⟩ (by dsimp only;omega)
  ·rw[List.map_append];rfl
  ·have:=hlt h;dsimp only;omega
  ·have:=hlt h;simp only[List.length_append,List.length_cons,List.length_nil] at *;omega
  ·simp only[List.length_append,List.length_cons,List.length_nil] at *;omega⟩

theorem QD:prog.underlying 137=some (.pointer 139):=by kernel_rfl
theorem ZA:prog.underlying 235=some .unsafePointer:=by kernel_rfl
theorem Xv:(prog.info? 139).map (·.size)=some 2:=by kernel_rfl
theorem Xx:liesAt prog prog.depth 139 (2 / prog.cellsOf 139) 0 139 1=true:=by kernel_rfl
theorem Xw:prog.underlying 194=some (.pointer 5):=by kernel_rfl
theorem Xy:prog.cellsOf 5=1:=by kernel_rfl
def Bld (g:Nat)(l:Bs)(m:List Av.Piece):Prop:=∃ p:Option Addr,(p=none\/p=some ⟨g,0,none⟩)/\((l=[]/\m=[.var g 139 (.agg 2 [.lit (.pointer p),P9])]) \/
 ∃ g' c,l≠[]/\l.length<=c/\m=[.var g 139 (.agg 2 [.lit (.pointer p),.lit (.slice (some ⟨g',0,none⟩) l.length c)]),.buf g' 5 1 (iP l) c])
theorem Nk {g:Nat}{p:Option Addr}{v:AV}(hp:p=none\/p=some ⟨g,0,none⟩)(_:v.size=1):Av.Spec prog GL 122 [ptr g] [.var g 139 (.agg 2 [.lit (.pointer p),v])] fun u m=>u=.tup []/\m=[.var g 139 (.agg 2 [ptr g,v])]:=by
 obtain⟨j,hj,hjs⟩:=Option.map_eq_some_iff.1 Xv;refine qE func122 rfl ntmps122 rfl (fun _ hs=>?_);rcases hp with rfl|rfl
 ·repeat' first|refine Vz ?_|intro _
  refine a7q (n:=2) QD ZA hj (by rw[hjs];decide) dc ?_;apply yX (v:=ptr g) (en:=Extern.AbiNoEscape.same) func169;kernel_rfl;exact rfl;kernel_rfl;kernel_rfl;exact rfl;exact rfl;exact rfl
  focus
   intro ok w cs _ hv;obtain⟨u1,us,rfl,h1,rfl⟩:=hv;exact⟨u1,rfl,RV.of0 h1⟩
  refine a8h (n:=2) ZA QD hj Xx ?_;repeat' first|refine Vz ?_|intro _
  exact fU _ ⟨rfl,rfl⟩ slr
 ·repeat' first|refine Vz ?_|intro _
  refine a7C QD hj ?_;repeat' first|refine Vz ?_|intro _
  exact fU _ ⟨rfl,rfl⟩ slr
theorem Nz {g:Nat}{l a:Bs}{m:List Av.Piece}(hb:Bld g l m)(hl:l.length+a.length<=140737488355328):Av.Spec prog GL 66 [ptr g,str a] m fun u m=>u=.tup [int a.length,.lit .nilIface]/\Bld g (l++a) m:=by
 obtain⟨p,hp,⟨rfl,rfl⟩|⟨g',c,h0,hc,rfl⟩⟩:=hb
 ·refine qE func66 rfl ntmps66 rfl (fun _ hs=>?_);repeat' first|refine Vz ?_|intro _
  refine M3 (args:=[ptr g]) [.var g 139 (.agg 2 [.lit (.pointer p),P9])] [] (by rw[hs];exact Nk hp rfl) (fun u m1 hh=>?_) lpr;obtain⟨rfl,rfl⟩:=hh;rcases a with _|⟨x,a⟩
  focus
   repeat' first|refine Vz ?_|intro _
   refine a8I ?_;repeat' first|refine Vz ?_|intro _
   exact o5 _ ⟨rfl,_,.inr rfl,.inl ⟨rfl,rfl⟩⟩ slr
  focus
   have hl2:(x::a).length=a.length+1:=rfl;have hl1:([]:Bs).length=0:=rfl;repeat' first|refine Vz ?_|intro _
   refine a8H (fun g' c' hc'=>?_);repeat' first|refine Vz ?_|intro _
   refine nM (fun ok w h=>h.perm (List.Perm.swap _ _ _)) ?_;refine o5 _ ⟨rfl,_,.inr rfl,.inr ⟨g',c',sm,hc',rfl⟩⟩ slr
 ·refine qE func66 rfl ntmps66 rfl (fun _ hs=>?_);repeat' first|refine Vz ?_|intro _
  refine M3 (args:=[ptr g]) [.var g 139 (.agg 2 [.lit (.pointer p),.lit (.slice (some ⟨g',0,none⟩) l.length c)])] [.buf g' 5 1 (iP l) c] (by rw[hs];exact Nk hp rfl) (fun u m1 hh=>?_) lpr;obtain⟨rfl,rfl⟩:=hh;have hbl:=Ny l;repeat' first|refine Vz ?_|intro _
  refine a8J (fun g' c' hc'=>?_);repeat' first|refine Vz ?_|intro _
  refine o5 _ ⟨rfl,_,.inr rfl,.inr ⟨g',c',by simp[h0],by simpa using hc',?_⟩⟩ slr;rw[lla,show iP (l++a)=iP l++iP a from List.map_append]
theorem WI {g:Nat}{l:Bs}{m:List Av.Piece}(hb:Bld g l m)(hl:l.length<=140737488355328):Av.Spec prog GL 68 [ptr g] m fun u _=>u=str l:=by
 obtain⟨p,hp,⟨rfl,rfl⟩|⟨g',c,h0,hc,rfl⟩⟩:=hb
 ·refine qE func68 rfl ntmps68 rfl (fun _ hs=>?_);repeat' first|refine Vz ?_|intro _
  apply u7 [];exact rfl;exact rfl;kernel_rfl;intro _ _;refine a7t ?_;exact j4 (o7 rfl rfl);repeat' first|refine Vz ?_|intro _
  apply u7 [];exact rfl;exact rfl;kernel_rfl;intro _ _;refine a7o ?_;exact j4 (o7 rfl rfl);repeat' first|refine Vz ?_|intro _
  exact o5 [] rfl (List.nil_sublist _)
 ·refine qE func68 rfl ntmps68 rfl (fun _ hs=>?_);have hc0:c≠0:=by
   have:=List.length_pos_iff.2 h0;omega
  repeat' first|refine Vz ?_|intro _
  apply u7 [];exact rfl;exact rfl;kernel_rfl;intro _ _;refine a7u (c:=c) ?_ hc0;exact j4 (o7 rfl rfl);repeat' first|refine Vz ?_|intro _
  apply jE [1];exact rfl;exact rfl;kernel_rfl
  focus
   intro _ _;refine a7p (l:=l) (c:=c) Xw Xy h0 ?_;exact j4 (o7 rfl rfl)
  focus
   exact rfl
  focus
   exact rfl
  repeat' first|refine Vz ?_|intro _
  exact o5 [] rfl (List.nil_sublist _)
end Go.Proofs.YtocpacdnjbjjmaaGreatDoor

namespace Av
open Go Go.RowKit Tw
theorem VC:∀ (pre:List AV) (i:Nat) (p:AV) (post:List AV) (j:Nat),j<p.size->rH (pre++p::post) i ((pre.map AV.size).sum+j)=some (i+pre.length,p,j)
 | [],i,p,post,j,h=>by
  have hb:Nat.ble p.size j=false:=by
   cases hh:Nat.ble p.size j with
   | false=>rfl
   | true=>have:=nlb hh;omega
  simp[rH,hb]
 | q::pre,i,p,post,j,h=>by
  have hb:Nat.ble q.size (((q::pre).map AV.size).sum+j)=true:=Nat.ble_eq_true_of_le (by simp;omega);rw[List.cons_append,rH,hb,cond_true];have e:((q::pre).map AV.size).sum+j-q.size=(pre.map AV.size).sum+j:=by simp;omega
  rw[e,VC pre (i+1) p post j h];simp;omega
theorem ZB:∀ l:Bs,((l.map p9).map AV.size).sum=l.length
 | []=>rfl
 | c::l=>by simp only[List.map_cons,List.sum_cons,List.length_cons,ZB l];show 1+_=_;omega
theorem set_mid {α:Type}(pre post:List α)(a b:α):(pre++a::post).set pre.length b=pre++b::post:=by simp
theorem a0I {n:Nat}{pre post:List AV}{l:Bs}{j o:Nat}{c:UInt8}(hj:j<l.length)(ho:o=(pre.map AV.size).sum+j):pG (p9 c) 8 (.agg n (pre++.agg l.length (l.map p9)::post)) o=some (.agg n (pre++.agg l.length ((l.set j c).map p9)::post)):=by
 subst ho;have h1:rH (pre++.agg l.length (l.map p9)::post) 0 ((pre.map AV.size).sum+j)=some (0+pre.length,.agg l.length (l.map p9),j):=VC pre 0 _ post j hj;have hm:j<(l.map p9).length:=by simpa using hj
 have h2:rH (l.map p9) 0 j=some (j,p9 l[j],0):=by
  have h:=VC ((l.take j).map p9) 0 (p9 l[j]) ((l.drop (j+1)).map p9) 0 (by show 0<1;omega);rw[ZB] at h;have e:(l.take j).map p9++p9 l[j]::(l.drop (j+1)).map p9=l.map p9:=by
   rw[<- List.map_cons,<- List.map_append,<- List.drop_eq_getElem_cons hj,List.take_append_drop]
  rw[e] at h;simpa[Nat.min_eq_left (Nat.le_of_lt hj)] using h
 have h3:pG (p9 c) 6 (p9 l[j]) 0=some (p9 c):=rfl;have h4:pG (p9 c) 7 (.agg l.length (l.map p9)) j=some (.agg l.length ((l.set j c).map p9)):=by
  unfold pG;rw[show ((AV.agg l.length (l.map p9)).isAgg == (p9 c).isAgg)=false from rfl,Bool.and_false,cond_false];dsimp only;rw[h2];dsimp only;rw[h3];dsimp only;rw[List.map_set]
 unfold pG;rw[show ((AV.agg n (pre++AV.agg l.length (l.map p9)::post)).isAgg == (p9 c).isAgg)=false from rfl,Bool.and_false,cond_false];dsimp only;rw[h1];dsimp only;rw[h4];dsimp only;rw[Nat.zero_add,set_mid]
theorem a0H {n k:Nat}{pre post:List AV}{l:Bs}{j o:Nat}{c:UInt8}(hk:l.length=k)(hj:j<l.length)(ho:o=(pre.map AV.size).sum+j):pG (p9 c) 8 (.agg n (pre++.agg k (l.map p9)::post)) o=some (.agg n (pre++.agg k ((l.set j c).map p9)::post)):=by
 subst hk;exact a0I hj ho
end Av
namespace Go.Proofs.YtocpacdnjbjjmaaGreatDoor
open Go Go.RowKit Tw Av
def R4 (x:Bs):Hsh:=if h:x.length=32 then ⟨x,h⟩ else J7
theorem MW {x:Bs}(h:x.length=32):(R4 x).l=x:=by unfold R4;rw[dif_pos h]
instance b7O {x:Bs}:Ans Tryz.prog GL 179 [str x] True (.tup [hA (R4 x),int (if x.length=32 then 0 else 10)]):=⟨fun _=>by
 refine qE Tryz.func179 rfl Tryz.ntmps179 rfl (fun _ hs=>?_);repeat' first|refine Yz ?_|intro _
 by_cases h:x.length=32
 ·rw[if_pos h];repeat' first|refine Yz ?_|intro _
  rename_i g2 g4;refine OP (l:=zeros 32) (a:=x) rfl ?_;repeat' first|refine Yz ?_|intro _
  refine d9 ?_;have e:lS (zeros 32) x=x:=by
   unfold lS;rw[List.take_of_length_le (by simp[zeros,h]),List.drop_of_length_le (by simp[zeros,h]),List.append_nil]
  rw[e,hA,MW h];rfl
 ·rw[if_neg h];repeat' first|refine Yz ?_|intro _
  refine d9 ?_;unfold R4;rw[dif_neg h];rfl⟩
def O7 (c:Int)(l:List Bs):Bs:=o8 c (l.flatMap (o8 c))
theorem rX (c:Int)(s:Bs):(o8 c s).length<=16777219:=by simp[o8,oO,bN,List.length_take];omega
instance {c:Int}{l:List Bs}:LenLe (O7 c l) 16777219:=⟨rX _ _⟩
theorem ND (c:Int):∀ l:List Bs,(l.flatMap (o8 c)).length<=l.length*16777219
 | []=>by simp
 | s::l=>by
  have h1:=rX c s;have h2:=ND c l;rw[List.flatMap_cons,lla,List.length_cons,Nat.add_mul];omega
instance b4L {c:Int}{l:List Bs}{xs:List AV}{id:Option Value}[hx:Strs xs l]:Ans Tryz.prog GL 107 [.lit (.int .u8 c),.sl 1 xs id] ((0<=c/\c<256)/\l.length<=8000000) (str (O7 c l)):=⟨fun hp=>by
 obtain⟨hc,hl⟩:=hp;have h:=hx.out;subst h;have hm:(l.map str).length=l.length:=llm _;refine qE Tryz.func107 rfl Tryz.ntmps107 rfl (fun _ hs=>?_);repeat' first|refine Yz ?_|intro _
 rename_i g5;refine z8 (α:=Nat × {m:List Av.Piece // True}) (fun q=>[(0,.lit (.int .u8 c)),(5,ptr g5),(8,.sl 1 (l.map str) id),(9,int l.length),(10,int q.1)]) (fun q=>q.2.1) (fun q=>q.1<=l.length/\Bld g5 ((l.take q.1).flatMap (o8 c)) q.2.1) (fun q=>l.length-q.1) (0,⟨[.var g5 139 (.agg 2 [.lit (.pointer none),P9])],trivial⟩) ⟨rfl,rfl,rfl,by rw[<- hm];rfl,rfl,trivial⟩ slr ⟨Nat.zero_le _,none,.inl rfl,.inl ⟨rfl,rfl⟩⟩ ?_;rintro⟨i,m,_⟩ ⟨h1,h2⟩;dsimp only at h1 h2 ⊢;repeat' first|refine Yz ?_|intro _
 refine o9 (fun hlt=>?_) (fun hlt=>?_)
 ·have hil:i<l.length:=om
  have hfl:=ND c (l.take i);have hfl2:=rX c l[i];have hti:(l.take i).length<=l.length:=by simp;omega
  repeat' first|refine Yz ?_|intro _
  refine M3 (args:=[ptr g5,str (o8 c l[i])]) m [] (by rw[hs];exact Nz h2 om) (fun u m1 hh=>?_) (by rw[List.append_nil]);obtain⟨rfl,hb⟩:=hh;rw[List.append_nil];repeat' first|refine Yz ?_|intro _
  refine o6 (i+1,⟨m1,trivial⟩) ⟨rfl,rfl,rfl,rfl,rfl,trivial⟩ slr ⟨hil,?_⟩ (by dsimp only;omega);rw[List.take_succ_eq_append_getElem hil,List.flatMap_append];simpa using hb
 ·obtain rfl:i=l.length:=by omega
  rw[List.take_length] at h2;have hfl:=ND c l;repeat' first|refine Yz ?_|intro _
  refine M3 (args:=[ptr g5]) m [] (by rw[hs];exact WI h2 om) (fun u m1 hh=>?_) (by rw[List.append_nil]);subst hh;repeat' first|refine Yz ?_|intro _
  refine d9 ?_;rfl⟩
instance b6f {c:Int}{l:List Bs}{xs:List AV}{id:Option Value}[hx:Strs xs l]:Ans Tryz.prog GL 113 [.lit (.int .u8 c),.sl 1 xs id] (l.length<=8000000) (str (O7 c l)):=⟨fun hl=>by
 have h:=hx.out;subst h;have hm:(l.map str).length=l.length:=llm _;refine qE Tryz.func113 rfl Tryz.ntmps113 rfl (fun _ hs=>?_);repeat' first|refine Yz ?_|intro _
 refine z8 (α:=Nat) (fun i=>[(0,.lit (.int .u8 c)),(1,.sl 1 (l.map str) id),(5,str ((l.take i).flatMap (o8 c))),(6,int i)]) (fun _=>[]) (fun i=>i<=l.length) (fun i=>l.length-i) 0 ⟨rfl,rfl,rfl,rfl,trivial⟩ slr (Nat.zero_le _) ?_;intro i hi;repeat' first|refine Yz ?_|intro _
 refine o9 (fun hlt=>?_) (fun hlt=>?_)
 ·have hil:i<l.length:=om
  have hfl:=ND c (l.take i);have hfl2:=rX c l[i];have hti:(l.take i).length<=l.length:=by simp;omega
  repeat' first|refine Yz ?_|intro _
  refine o6 (i+1) ⟨rfl,rfl,?_,rfl,trivial⟩ slr hil om;rw[List.take_succ_eq_append_getElem hil,List.flatMap_append];simp;rfl
 ·obtain rfl:i=l.length:=by omega
  rw[List.take_length];repeat' first|refine Yz ?_|intro _
  refine d9 ?_;rfl⟩
def dV (x:Bs)(i:Nat):Bs:=x.take i++zeros (32-i)
theorem MM {x:Bs}{i:Nat}(hx:x.length=32)(hi:i<=32):(dV x i).length=32:=by simp[dV,zeros,hx];omega
theorem TV {x:Bs}{i:Nat}(hx:x.length=32)(hi:i<32):(dV x i).set i (x[i]'(by omega))=dV x (i+1):=by
 unfold dV;have h1:(x.take i).length=i:=by simp[hx];omega
 have h2:∀ (a b:List UInt8) (j:Nat) (c:UInt8),a.length=j->(a++b).set j c=a++b.set 0 c:=fun a b j c h=>by
  subst h;simp
 rw[h2 _ _ _ _ h1,List.take_succ_eq_append_getElem om,laa];congr 1
 rw[show 32-i=(32-(i+1))+1 by omega];rfl
theorem TW {x:Bs}(hx:x.length=32):dV x 32=x:=by
 unfold dV;rw[List.take_of_length_le om,Nat.sub_self];simp[zeros]
end Go.Proofs.YtocpacdnjbjjmaaGreatDoor

namespace Go.Proofs.YtocpacdnjbjjmaaGreatDoor
open Go Go.RowKit Tw Av
theorem wU {c:Int}{s:Bs}(h:s.length<=16777215):o8 c s=UInt8.ofNat c.toNat::UInt8.ofNat (s.length / 65536)::UInt8.ofNat (s.length / 256)::UInt8.ofNat s.length::s:=by
 unfold o8 oO;rw[List.take_of_length_le (by simp[bN];omega)]
theorem a2v {n:Nat}(h:n<=16777215):bC (UInt8.ofNat (n / 65536)) (UInt8.ofNat (n / 256)) (UInt8.ofNat n)=n:=by
 unfold bC;rw[UInt8.toNat_ofNat',UInt8.toNat_ofNat',UInt8.toNat_ofNat'];omega
theorem VP {c most:Int}{s r:Bs}(h0:0<=c)(h1:c<256)(h2:(s.length:Int)<=most)(h3:s.length<=16777215):Y7 c most false (o8 c s++r)=some (s,r):=by
 rw[wU h3];simp only[List.cons_append];rw[Y7,a2v h3,if_pos]
 ·simp
 ·refine⟨rfl,?_,h2,sm⟩;rw[UInt8.toNat_ofNat'];omega
theorem xI {c most:Int}{s r:Bs}(h0:0<=c)(h1:c<256)(h2:(s.length:Int)<=most)(h3:s.length<=16777215):D5 c most (o8 c s++r) false=s/\j5 c most (o8 c s++r) false=r/\A7 c most (o8 c s++r) false=false:=by
 have h:=VP (r:=r) h0 h1 h2 h3;unfold D5 j5 A7;rw[h];exact⟨rfl,rfl,rfl⟩
theorem IB:∀ f n,(V4 f n).length<=f
 | 0,_=>Nat.le_refl _
 | f+1,n=>by
  rw[V4];split
  ·simp
  ·have:=IB f (n / 256);simp;omega
theorem Lr:∀ f n,n<256 ^ f->numOf (V4 f n)=n
 | 0,n,h=>by simp at h;subst h;rfl
 | f+1,n,h=>by
  rw[V4];split
  ·rename_i h0;subst h0;rfl
  ·rw[FQ,Lr f (n / 256) (by rw[Nat.pow_succ] at h;omega),UInt8.toNat_ofNat'];omega
theorem xJ {c most:Int}{n:Int}{r:Bs}(h0:0<=c)(h1:c<256)(h2:0<=n)(h3:n<=most)(h4:most<=9223372036854775807):J8 c most (D8 c n++r) false=n/\j5 c 8 (D8 c n++r) false=r/\K3 c most (D8 c n++r) false=false:=by
 have hd:(digits n.toNat).length<=8:=IB 8 _;have hn:numOf (digits n.toNat)=n.toNat:=Lr 8 _ (by show n.toNat<18446744073709551616;omega);have hl:jG (digits n.toNat)=false:=VM 8 _ (by show n.toNat<18446744073709551616;omega);have h:=xI (c:=c) (most:=8) (s:=digits n.toNat) (r:=r) h0 h1 om om;have e:D8 c n=o8 c (digits n.toNat):=rfl;have hN:qK c (D8 c n++r) false=n.toNat:=by
  rw[ES,e,h.1,hl,hn];rfl
 have hB:mR c (D8 c n++r) false=false:=by
  unfold mR;rw[e,h.1,h.2.2,hl];rfl
 refine⟨?_,by rw[e];exact h.2.1,?_⟩
 ·rw[J8,hN,if_neg om];omega
 ·rw[K3,hN,hB,dZ om];rfl
theorem Od {c most:Int}(h0:0<=c)(h1:c<256):∀ (l:List Bs) (f:Nat),l.length<f->(∀ s∈l,(s.length:Int)<=most/\s.length<=16777215)->eX c most f (l.flatMap (o8 c)) false=(l,false)
 | [],f,hf,_=>by
  rcases f with _|f
  ·omega
  ·exact WN
 | s::l,f,hf,hl=>by
  rcases f with _|f
  ·omega
  rw[List.flatMap_cons];have h:=xI (r:=l.flatMap (o8 c)) h0 h1 (hl s sm).1 (hl s sm).2;have ih:=Od h0 h1 l f (by simp at hf;omega) (fun t ht=>hl t (by simp[ht]));have hne:o8 c s++l.flatMap (o8 c)≠[]:=by rw[wU (hl s sm).2];simp
  rw[eX,if_neg (by simp[hne]),h.1,h.2.1,h.2.2,ih]
theorem Kb {c:Int}:∀ l:List Bs,l.length<=(l.flatMap (o8 c)).length
 | []=>by simp
 | s::l=>by
  have:=Kb (c:=c) l;have h2:4<=(o8 c s).length:=by simp[o8,oO]
  rw[List.flatMap_cons,lla,List.length_cons];omega
theorem RO {c many most:Int}{l:List Bs}{r:Bs}(h0:0<=c)(h1:c<256)(h2:(l.length:Int)<=many)(h3:∀ s∈l,(s.length:Int)<=most/\s.length<=16777215)(h4:(l.flatMap (o8 c)).length<=16777215):fG c many most (O7 c l++r) false=l/\j5 c 16777215 (O7 c l++r) false=r/\aY c many most (O7 c l++r) false=false:=by
 have h:=xI (c:=c) (most:=16777215) (s:=l.flatMap (o8 c)) (r:=r) h0 h1 om h4;have e:O7 c l=o8 c (l.flatMap (o8 c)):=rfl;have hX:yU c most (l.flatMap (o8 c))=(l,false):=Od h0 h1 l _ (by have:=Kb (c:=c) l;omega) h3;have hb:uX false (l,false) many=false:=by
  unfold uX;rw[dZ (by show ¬ many<(l.length:Int);omega)];rfl
 refine⟨?_,by rw[e];exact h.2.1,?_⟩
 ·unfold fG;rw[e,h.1,h.2.2,hX];unfold xM;rw[hb];rfl
 ·unfold aY;rw[e,h.1,h.2.2,hX,hb]
theorem GR {c:Int}{n:Nat}:∀ {l:List Bs},(∀ s∈l,s.length<=n)->n<=16777215->(l.flatMap (o8 c)).length<=l.length*(n+4)
 | [],_,_=>by simp
 | s::l,h,hn=>by
  have h1:=GR (c:=c) (l:=l) (fun t ht=>h t (by simp[ht])) hn;have h2:=h s sm;rw[List.flatMap_cons,lla,List.length_cons,Nat.add_mul,wU om];simp only[List.length_cons];omega

def tV (q:Nat × Nat)(c:UInt8):Nat × Nat:=((q.1+c.toNat)%65521,(q.2+(q.1+c.toNat)%65521)%65521)
def mI (s:Bs):Nat × Nat:=s.foldl tV (1,0)
def dN (s:Bs):Int:=((mI s).2*65536+(mI s).1:Nat)
theorem QK (s:Bs):(mI s).1<65521/\(mI s).2<65521:=by
 unfold mI
 suffices h:∀ (s:Bs) (q:Nat × Nat),q.1<65521/\q.2<65521->(s.foldl tV q).1<65521/\(s.foldl tV q).2<65521 from h s _ dc
 intro s
 induction s with
 | nil=>exact fun q h=>h
 | cons c s ih=>exact fun q _=>ih _ ⟨Nat.mod_lt _ dc,Nat.mod_lt _ dc⟩
theorem QJ (s:Bs):0<=dN s/\dN s<=4294967295:=by
 have:=QK s;unfold dN;omega
def y7 (s:Bs):Bs:=o8 82 s++D8 83 (dN (o8 82 s))
def U1 (s:Bs):Bs:=j5 82 1048576 s false
def aG (s:Bs):Bool:=A7 82 1048576 s false
def aF (s:Bs):Bs:=D5 82 1048576 s false
def gW (s:Bs):Bs:=j5 83 8 (U1 s) (aG s)
def wW (s:Bs):Bool:=K3 83 4294967295 (U1 s) (aG s)
def wX (s:Bs):Int:=J8 83 4294967295 (U1 s) (aG s)
def fC (s:Bs):Bool:=!wW s&&decide (wX s=dN (s.take (s.length-(U1 s).length)))
theorem a0k (s:Bs):4<=(y7 s).length:=by
 unfold y7;rw[lla];have:4<=(o8 82 s).length:=by
  unfold o8 oO;simp
 omega
theorem Xj {s r:Bs}(h:s.length<=1048576):fC (y7 s++r)=true/\aF (y7 s++r)=s/\gW (y7 s++r)=r:=by
 obtain⟨a1,a2,a3⟩:=xI (c:=82) (most:=1048576) (s:=s) (r:=D8 83 (dN (o8 82 s))++r) dc dc om om;have e:y7 s++r=o8 82 s++(D8 83 (dN (o8 82 s))++r):=by unfold y7;rw[laa]
 have hs:=QJ (o8 82 s);obtain⟨b1,b2,b3⟩:=xJ (c:=83) (most:=4294967295) (n:=dN (o8 82 s)) (r:=r) dc dc hs.1 hs.2 dc;have hA:U1 (y7 s++r)=D8 83 (dN (o8 82 s))++r:=by unfold U1;rw[e,a2]
 have hB:aG (y7 s++r)=false:=by unfold aG;rw[e,a3]
 refine⟨?_,by unfold aF;rw[e,a1],by unfold gW;rw[hA,hB,b2]⟩;unfold fC wW wX;rw[hA,hB,b1,b3,e,lla,Nat.add_sub_cancel,List.take_left']
 ·rw[dT rfl];rfl
 ·rfl
theorem Xl {s:Bs}(h:fC s=true):(gW s).length<s.length:=by
 unfold fC at h;rw[bet,Bool.not_eq_true'] at h;have hb:aG s=false:=by
  cases e:aG s with
  | false=>rfl
  | true=>
   have:=h.1;unfold wW K3 at this;rw[e] at this;simp[mR,A7,vN] at this
 have h1:=QT (c:=82) (most:=1048576) (s:=s) (b:=false) hb;have h2:=(Q9 83 8 (U1 s) (aG s)).1;show (j5 83 8 (U1 s) (aG s)).length<s.length;have:(U1 s).length<s.length:=h1;omega
def lW:Nat->Bs->List Bs × Bs
 | 0,s=>([],s)
 | f+1,s=>if fC s=true then (aF s::(lW f (gW s)).1,(lW f (gW s)).2) else ([],s)
def lV (s:Bs):List Bs:=(lW (s.length+1) s).1
def wQ (s:Bs):Bs:=(lW (s.length+1) s).2
def J2 (l:List Bs):Bs:=l.flatMap y7
theorem Xk:fC []=false:=by kernel_rfl
theorem Ra:∀ (l:List Bs) (f:Nat),l.length<f->(∀ s∈l,s.length<=1048576)->lW f (J2 l)=(l,[])
 | [],f,hf,_=>by
  rcases f with _|f
  ·omega
  ·show (if fC []=true then _ else _)=_;rw[Xk];rfl
 | s::l,f,hf,h=>by
  rcases f with _|f
  ·omega
  ·have e:J2 (s::l)=y7 s++J2 l:=rfl;obtain⟨a,b,c⟩:=Xj (s:=s) (r:=J2 l) (h s sm);have ih:=Ra l f (by simp at hf;omega) (fun t ht=>h t (by simp[ht]));rw[e,lW,a,b,c,ih];rfl
theorem Fw (l:List Bs):l.length<=(J2 l).length:=by
 induction l with
 | nil=>exact Nat.zero_le _
 | cons s l ih=>
  have e:J2 (s::l)=y7 s++J2 l:=rfl;have:=a0k s;rw[e,lla,List.length_cons];omega
theorem Qd {l:List Bs}(h:∀ s∈l,s.length<=1048576):lV (J2 l)=l/\wQ (J2 l)=[]:=by
 have:=Ra l ((J2 l).length+1) (Nat.lt_succ_of_le (Fw l)) h;unfold lV wQ;rw[this];exact⟨rfl,rfl⟩

structure SlX where
 m:MkX
 l:Bs
 br:Bool
def M0 (n:Int):Int:=(n-2)*64
def dE (x:DvX)(k:Nat):Bs:=(List.range k).flatMap fun (i:Nat)=>Z8 x (2+(i:Int))
def TD (b:Int):Nat:=((b+63) / 64).toNat
def Q6 (x:DvX)(b:Int):Bs:=(dE x (TD b)).take b.toNat
def I5 (s:Bs):Bs:=s.drop (s.length-s.length%64)
def G6 (x:DvX):MkX:=rC (Z8 x 0) (Z8 x 1)
def kI (x:DvX):Int:=if x.n<=2 then 1 else if x.on=false then 14 else if M0 x.n<(G6 x).b then 10 else
 if wQ (Q6 x (G6 x).b)=[]/\((lV (Q6 x (G6 x).b)).length:Int)=(G6 x).c then 0 else 10
def dO (x:DvX):SlX:=⟨G6 x,Q6 x (G6 x).b,false⟩
def FP (x:DvX):List Bs:=lV (Q6 x (G6 x).b)
def K9 (s:Bs):Bs:=s.take 64++List.replicate (64-s.length) 0
theorem LC (s:Bs):(K9 s).length=64:=by
 unfold K9;simp;omega
theorem Ee {s:Bs}{k:Nat}(h:k<=s.length)(hk:k<=64):(K9 s).take k=s.take k:=by
 unfold K9;rw[List.take_append_of_le_length (by rw[List.length_take];omega),List.take_take,Nat.min_eq_left hk]
theorem a1g {s:Bs}:(K9 s).take s.length=s.take 64:=by
 by_cases h:s.length<=64
 ·rw[Ee (Nat.le_refl _) h,List.take_length,List.take_of_length_le h]
 ·unfold K9;rw[show 64-s.length=0 by omega,List.replicate_zero,List.append_nil,List.take_of_length_le (by rw[List.length_take];omega)]
def qD:Nat->Int->Bs->List (Int × Bs)
 | 0,_,_=>[]
 | f+1,a,s=>if s=[] then [] else (a,K9 s)::qD f (a+1) (s.drop 64)
def iD:Nat->DvX->Int->Bs->DvX × Int
 | 0,x,_,_=>(x,0)
 | f+1,x,a,s=>if s=[] then (x,0) else if (K4 x a (K9 s)).2=0 then iD f (K4 x a (K9 s)).1 (a+1) (s.drop 64) else K4 x a (K9 s)
def gG (x:DvX)(a:Int)(s:Bs):DvX × Int:=iD s.length x a s
theorem FL (f:Nat)(x:DvX)(a:Int):iD f x a []=(x,0):=by cases f <;> simp[iD]
theorem RZ:∀ {f g:Nat} {x:DvX} {a:Int} {s:Bs},s.length<=f->s.length<=g->iD f x a s=iD g x a s
 | 0,g,x,a,s,h,_=>by
  obtain rfl:=List.length_eq_zero_iff.1 (Nat.le_zero.1 h);rw[FL,FL]
 | f+1,0,x,a,s,_,h=>by
  obtain rfl:=List.length_eq_zero_iff.1 (Nat.le_zero.1 h);rw[FL,FL]
 | f+1,g+1,x,a,s,h,h'=>by
  unfold iD;by_cases hs:s=[]
  ·rw[if_pos hs,if_pos hs]
  ·rw[if_neg hs,if_neg hs,RZ (f:=f) (g:=g) (by rw[List.length_drop];omega) (by rw[List.length_drop];omega)]
theorem Dt {x:DvX}{a:Int}{s:Bs}(hs:s≠[]):gG x a s=if (K4 x a (K9 s)).2=0 then gG (K4 x a (K9 s)).1 (a+1) (s.drop 64) else K4 x a (K9 s):=by
 have hl:0<s.length:=List.length_pos_iff.2 hs;unfold gG;rw[RZ (f:=s.length) (g:=s.length-1+1) (Nat.le_refl _) om];rw[iD,if_neg hs,RZ (f:=s.length-1) (g:=(s.drop 64).length) (by rw[List.length_drop];omega) (Nat.le_refl _)]
def F5 (s:SlX)(r:Bs):MkX:=⟨s.m.e+1,s.m.b+(y7 r).length,s.m.c+1⟩
def Y9 (x:DvX)(s:SlX)(r:Bs):DvX × Int:=gG x (2+s.m.b / 64) (I5 s.l++y7 r)
def aL (x:DvX)(s:SlX)(r:Bs):DvX × Int:=R5 (Y9 x s r).1
def aK (x:DvX)(s:SlX)(r:Bs):DvX × Int:=K4 (aL x s r).1 ((F5 s r).e%2) (J9 (F5 s r))
def bM (x:DvX)(s:SlX)(r:Bs):DvX × Int:=R5 (aK x s r).1
def fK (x:DvX)(s:SlX)(r:Bs):DvX × SlX × Int:=
 if s.br=true then (x,s,13) else if 1048576<r.length then (x,s,11) else if M0 x.n-s.m.b<(y7 r).length then (x,s,15)
 else if (Y9 x s r).2≠0 then ((Y9 x s r).1,{ s with br:=true },(Y9 x s r).2)
 else if (aL x s r).2≠0 then ((aL x s r).1,{ s with br:=true },(aL x s r).2)
 else if (aK x s r).2≠0 then ((aK x s r).1,{ s with br:=true },(aK x s r).2)
 else if (bM x s r).2≠0 then ((bM x s r).1,{ s with br:=true },(bM x s r).2)
 else ((bM x s r).1,⟨F5 s r,s.l++y7 r,false⟩,0)
structure DvOk (x:DvX):Prop where
 n:0<=x.n/\x.n<=4096
 mn:MpN x.es
 el:∀ e∈x.es,e.2.1.length=64
 wl:∀ w∈x.ws,w.2.length=64
 lf:0<=x.lf/\x.lf<=1000000
theorem XC:qH.length=64:=by simp[qH]
theorem vZ {x:DvX}(h:DvOk x)(a:Int):(D9 x a).length=64:=by
 unfold D9 cO;cases hf:x.es.find? fun e=>decide (e.1=a) with
 | none=>exact XC
 | some e=>exact h.el e (List.mem_of_find?_eq_some hf)
theorem Sq {x:DvX}(h:DvOk x){a:Int}{s:Bs}(hs:bH x.ws a=some s):s.length=64:=by
 unfold bH at hs;cases hf:x.ws.reverse.find? fun w=>decide (w.1=a) with
 | none=>rw[hf] at hs;cases hs
 | some w=>
  rw[hf] at hs;injection hs with hs
  subst hs;exact h.wl w (List.mem_reverse.1 (List.mem_of_find?_eq_some hf))
theorem NG {x:DvX}(h:DvOk x)(a:Int):(Z8 x a).length=64:=by
 unfold Z8;cases hf:bH x.ws a with
 | none=>exact vZ h a
 | some s=>exact Sq h hf
theorem yF (x:DvX)(k:Nat):dE x (k+1)=dE x k++Z8 x (2+(k:Int)):=by
 unfold dE;rw[List.range_succ,List.flatMap_append];simp
theorem yG {x:DvX}(h:DvOk x):∀ k,(dE x k).length=64*k
 | 0=>rfl
 | k+1=>by
  rw[yF,lla,yG h k,NG h];omega
theorem Ez {es:List MpE}{ck:Nat}{a:Int}{s:Bs}{P:Bs->Prop}(h:∀ e∈es,P e.2.1)(hs:P s):∀ e∈bJ es ck a s,P e.2.1:=by
 unfold bJ;intro e he;split at he
 ·obtain⟨i,hi,rfl⟩:=List.mem_iff_getElem.1 he;rw[List.getElem_modify];split
  ·exact hs
  ·exact h _ (List.getElem_mem _)
 ·rcases List.mem_append.1 he with he|he
  ·exact h e he
  ·obtain rfl:=List.mem_singleton.1 he;exact hs
theorem La {x:DvX}{w:Int × Bs}(h:DvOk x)(hw:w.2.length=64):DvOk (Y6 x w):=by
 refine⟨h.n,Gn h.mn,?_,h.wl,h.lf⟩;intro e he;unfold Y6 FZ at he;dsimp only at he;split at he
 ·exact Ez (P:=fun s=>s.length=64) h.el hw e ((List.eraseIdx_sublist _ _).subset he)
 ·exact Ez (P:=fun s=>s.length=64) h.el hw e he
theorem UO:∀ {ws:List (Int × Bs)} {x:DvX},DvOk x->(∀ w∈ws,w.2.length=64)->DvOk (ws.foldl Y6 x)
 | [],_,h,_=>h
 | w::ws,x,h,hw=>UO (ws:=ws) (La h (hw w sm)) fun v hv=>hw v (by simp[hv])
theorem Le {x:DvX}(h:DvOk x):DvOk (U9 x):=by
 have:=UO h h.wl;exact⟨this.n,this.mn,this.el,by simp[U9],this.lf⟩
theorem GZ {x:DvX}(h:DvOk x)(hm:bL x=true):DvOk (I9 x):=by
 refine⟨h.n,h.mn,h.el,h.wl,?_⟩;unfold I9 bL at *;have:=h.lf;dsimp only;split
 ·rename_i ha;rw[ha] at hm;simp at hm;omega
 ·exact this
theorem VG {x:DvX}(h:DvOk x):DvOk (dF x):=⟨h.n,h.mn,h.el,h.wl,h.lf⟩
theorem Kz {x:DvX}{w:Int × Bs}(h:DvOk x)(hw:w.2.length=64):DvOk (bK x w):=by
 refine⟨h.n,h.mn,h.el,?_,h.lf⟩;intro v hv;rcases List.mem_append.1 hv with hv|hv
 ·exact h.wl v hv
 ·obtain rfl:=List.mem_singleton.1 hv;exact hw
theorem yE {x:DvX}{a:Int}{s:Bs}(h:DvOk x):DvOk (K4 x a s).1:=by
 unfold K4;split
 ·exact h
 split
 ·exact h
 rename_i hh;have hl:s.length=64:=Classical.byContradiction fun e=>hh (.inr e);split
 ·exact Kz (VG h) hl
 ·rename_i hm;exact Kz (GZ h (by simpa using hm)) hl
theorem NI {x:DvX}(h:DvOk x):DvOk (R5 x).1:=by
 unfold R5;split
 ·exact h
 split
 ·exact VG h
 ·rename_i hm;exact Le (GZ h (by simpa using hm))
theorem Dr:∀ {f:Nat} {x:DvX} {a:Int} {s:Bs},DvOk x->DvOk (iD f x a s).1
 | 0,_,_,_,h=>h
 | f+1,x,a,s,h=>by
  unfold iD;split
  ·exact h
  split
  ·exact Dr (yE h)
  ·exact yE h
theorem Du {x:DvX}{a:Int}{s:Bs}(h:DvOk x):DvOk (gG x a s).1:=Dr h
theorem Mh {x:DvX}{k:List Bool}{torn cut:Int}{i:Nat}{w:Int × Bs}(h:DvOk x)(hw:w.2.length=64):DvOk (bD x k torn cut i w):=by
 unfold bD;split
 ·refine La h ?_;dsimp only;split
  ·have:=vZ h w.1;rw[lla,List.length_take,List.length_drop];omega
  ·exact hw
 ·exact h
theorem NN {k:List Bool}{torn cut:Int}:∀ {ws:List (Int × Bs)} {i:Nat} {x:DvX},DvOk x->(∀ w∈ws,w.2.length=64)->DvOk (iO k torn cut i x ws)
 | [],_,_,h,_=>h
 | w::ws,i,x,h,hw=>NN (ws:=ws) (Mh h (hw w sm)) fun v hv=>hw v (by simp[hv])
theorem a5v {x:DvX}{k:List Bool}{torn cut:Int}(h:DvOk x):DvOk (S9 x k torn cut):=by
 unfold S9;split
 ·exact h
 ·have:=NN (k:=k) (torn:=torn) (cut:=cut) (i:=0) h h.wl;exact⟨this.n,this.mn,this.el,sm,this.lf⟩
theorem a5x {x:DvX}{k:Int}(h:DvOk x)(hk:k<=1000000):DvOk (nC x k):=⟨h.n,h.mn,h.el,h.wl,by unfold nC;dsimp only;omega⟩
theorem a5o {x:DvX}{a:Int}{s:Bs}:(K4 x a s).1.n=x.n:=by unfold K4;(repeat' split) <;> rfl
theorem uL:∀ {ws:List (Int × Bs)} {x:DvX},(ws.foldl Y6 x).n=x.n/\(ws.foldl Y6 x).on=x.on/\(ws.foldl Y6 x).ar=x.ar/\(ws.foldl Y6 x).lf=x.lf
 | [],_=>⟨rfl,rfl,rfl,rfl⟩
 | w::ws,x=>uL (ws:=ws) (x:=Y6 x w)
theorem a5t {x:DvX}:(R5 x).1.n=x.n:=by
 unfold R5;split
 ·rfl
 split
 ·rfl
 ·exact(uL (ws:=(I9 x).ws) (x:=I9 x)).1
end Go.Proofs.YtocpacdnjbjjmaaGreatDoor
