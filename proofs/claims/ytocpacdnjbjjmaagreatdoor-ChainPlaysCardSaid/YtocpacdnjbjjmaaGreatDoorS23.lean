/- . -/
import Derived.Test.YtocpacdnjbjjmaaGreatDoorS18
import Derived.Test.YtocpacdnjbjjmaaGreatDoorS22
namespace Go.Proofs.YtocpacdnjbjjmaaGreatDoor
open Go Go.RowKit Tw Av
def bC (a b c:UInt8):Nat:=(a.toNat*256+b.toNat)*256+c.toNat
theorem MK (a b c:UInt8):bC a b c<16777216:=by
 have h1:=a.toNat_lt;have h2:=b.toNat_lt;have h3:=c.toNat_lt;unfold bC;omega
def Y7 (c most:Int)(b:Bool):Bs->Option (Bs × Bs)
 | s0::s1::s2::s3::r=>if b=false/\(s0.toNat:Int)=c/\(bC s1 s2 s3:Int)<=most/\bC s1 s2 s3<=r.length then some (r.take (bC s1 s2 s3),r.drop (bC s1 s2 s3)) else none
 | _=>none
def D5 (c most:Int)(s:Bs)(b:Bool):Bs:=((Y7 c most b s).map (·.1)).getD []
def j5 (c most:Int)(s:Bs)(b:Bool):Bs:=((Y7 c most b s).map (·.2)).getD s
def A7 (c most:Int)(s:Bs)(b:Bool):Bool:=(Y7 c most b s).isNone
def numOf (l:Bs):Nat:=l.foldl (fun n c=>n*256+c.toNat) 0
def jG (l:Bs):Bool:=decide (l.head?=some 0)
def qK (c:Int)(s:Bs)(b:Bool):Nat:=if jG (D5 c 8 s b)=true then 0 else numOf (D5 c 8 s b)
def mR (c:Int)(s:Bs)(b:Bool):Bool:=A7 c 8 s b || jG (D5 c 8 s b)
def J8 (c most:Int)(s:Bs)(b:Bool):Int:=if most<(qK c s b:Int) then 0 else qK c s b
def K3 (c most:Int)(s:Bs)(b:Bool):Bool:=mR c s b || decide (most<(qK c s b:Int))
def eX (c most:Int):Nat->Bs->Bool->List Bs × Bool
 | 0,_,b=>([],b)
 | f+1,s,b=>if b=true\/s=[] then ([],b) else (D5 c most s b::(eX c most f (j5 c most s b) (A7 c most s b)).1,(eX c most f (j5 c most s b) (A7 c most s b)).2)
def yU (c most:Int)(x:Bs):List Bs × Bool:=eX c most (x.length+1) x false
def uX (b1:Bool)(r:List Bs × Bool)(many:Int):Bool:=b1 || (r.2 || decide (many<(r.1.length:Int)))
def xM (b1:Bool)(r:List Bs × Bool)(many:Int):List Bs:=if uX b1 r many=true then [] else r.1
def aY (c many most:Int)(s:Bs)(b:Bool):Bool:=uX (A7 c 16777215 s b) (yU c most (D5 c 16777215 s b)) many
def fG (c many most:Int)(s:Bs)(b:Bool):List Bs:=xM (A7 c 16777215 s b) (yU c most (D5 c 16777215 s b)) many
def P5 (s:Bs)(b:Bool):Int:=if b=true\/s≠[] then 10 else 0
abbrev A9 (s:Bs)(b:Bool):AV:=.agg 2 [str s,j3 b]
theorem Q9 (c most:Int)(s:Bs)(b:Bool):(j5 c most s b).length<=s.length/\(D5 c most s b).length<=s.length:=by
 unfold j5 D5 Y7;split
 ·split
  ·simp;omega
  ·simp
 ·simp
theorem uA (c most:Int)(s:Bs)(b:Bool):(D5 c most s b).length<16777216/\(0<=most->((D5 c most s b).length:Int)<=most):=by
 unfold D5 Y7;split
 ·rename_i s0 s1 s2 s3 r;have:=MK s1 s2 s3;split
  ·rename_i h;simp;omega
  ·simp
 ·simp
theorem QT {c most:Int}{s:Bs}{b:Bool}(h:A7 c most s b=false):(j5 c most s b).length<s.length:=by
 unfold A7 j5 Y7 at *;split at h
 ·split
  ·simp;omega
  ·rename_i h1;rw[if_neg h1] at h;simp at h
 ·simp at h
theorem vN (c most:Int)(s:Bs):Y7 c most true s=none:=by
 unfold Y7;split
 ·rw[if_neg sm]
 ·rfl
theorem FQ (l:Bs)(c:UInt8):numOf (l++[c])=numOf l*256+c.toNat:=by simp[numOf]
theorem Et:∀ (n:Nat) (l:Bs),l.length=n->numOf l<256 ^ n
 | 0,l,h=>by
  rw[List.eq_nil_of_length_eq_zero h];decide
 | n+1,l,h=>by
  have hne:l≠[]:=by rintro rfl;simp at h
  rw[<- List.dropLast_concat_getLast hne,FQ];have h1:=Et n l.dropLast (by simp[h]);have h2:=(l.getLast hne).toNat_lt;rw[Nat.pow_succ];omega
theorem Es {l:Bs}{i:Nat}(h:i<l.length):numOf (l.take (i+1))=numOf (l.take i)*256+l[i].toNat:=by
 rw[List.take_succ_eq_append_getElem h,FQ]
theorem FR {l:Bs}(h:l.length<=8):numOf l<18446744073709551616:=by
 have h1:=Et _ l rfl;have h2:256 ^ l.length<=256 ^ 8:=Nat.pow_le_pow_right dc h;omega
theorem ML (a:UInt8)(l:Bs):jG (a::l)=decide (a=0):=by simp[jG]
theorem Er:∀ (n:Nat) (l:Bs),l.length=n->jG l=false->numOf l=0->l=[]
 | 0,l,h,_,_=>List.eq_nil_of_length_eq_zero h
 | n+1,l,h,h1,h2=>by
  have hne:l≠[]:=by rintro rfl;simp at h
  rw[<- List.dropLast_concat_getLast hne,FQ] at h2;rw[<- List.dropLast_concat_getLast hne] at h1;have h3:numOf l.dropLast=0:=by omega
  have h4:(l.getLast hne).toNat=0:=om
  have h5:l.getLast hne=0:=UInt8.toNat.inj h4;cases hd:l.dropLast with
  | nil=>
   rw[hd,h5] at h1;simp[jG] at h1
  | cons a r=>
   have h6:=Er n l.dropLast (by simp[h]) (by rw[hd];rw[hd] at h1;simpa[jG] using h1) h3;rw[hd] at h6;cases h6
theorem Lm:∀ (f:Nat) (l:Bs),l.length<=f->jG l=false->V4 f (numOf l)=l
 | 0,l,h,_=>by
  rw[List.eq_nil_of_length_eq_zero (by omega:l.length=0)];rfl
 | f+1,l,h,h1=>by
  by_cases hne:l=[]
  ·subst hne;rfl
  ·have hnz:numOf l≠0:=fun h0=>hne (Er _ l rfl h1 h0);have e:=List.dropLast_concat_getLast hne;have h2:=(l.getLast hne).toNat_lt;have e1:numOf l=numOf l.dropLast*256+(l.getLast hne).toNat:=by rw[<- FQ,e]
   rw[V4,if_neg hnz,show numOf l / 256=numOf l.dropLast by omega];rw[Lm f l.dropLast (by simp;omega) (by
    cases hd:l.dropLast with
    | nil=>rfl
    | cons a r=>rw[<- e,hd] at h1;simpa[jG] using h1)]
   have h3:UInt8.ofNat (numOf l)=l.getLast hne:=by
    apply UInt8.toNat.inj;rw[UInt8.toNat_ofNat',e1];omega
   rw[h3,e]
theorem VM:∀ (f n:Nat),n<256 ^ f->jG (V4 f n)=false
 | 0,n,_=>rfl
 | f+1,n,h=>by
  rw[V4];split
  ·rfl
  ·rename_i hn;have h1:=VM f (n / 256) (by rw[Nat.pow_succ] at h;omega);cases hd:V4 f (n / 256) with
   | nil=>
    have h2:n / 256=0:=by
     cases f with
     | zero=>simp at h;omega
     | succ f=>
      rw[V4] at hd;split at hd
      ·assumption
      ·simp at hd
    rw[List.nil_append,ML];refine dZ fun h0=>hn ?_;have:=congrArg UInt8.toNat h0;rw[UInt8.toNat_ofNat'] at this;simp at this;omega
   | cons a r=>
    rw[hd] at h1;rw[List.cons_append,ML];rw[ML] at h1;exact h1
theorem a5R {l:Bs}(h:l.length<=8):(digits (numOf l)=l)↔jG l=false:=by
 constructor
 ·intro e;rw[<- e];exact VM 8 _ (by have:=FR h;simpa using this)
 ·intro h1;exact Lm 8 l h h1
end Go.Proofs.YtocpacdnjbjjmaaGreatDoor

namespace Go.Proofs.YtocpacdnjbjjmaaGreatDoor
open Go Go.RowKit Tw Av Go.Proofs.Tryz
theorem rY {s:Bs}:Av.Spec prog GL 71 [str s] [] fun u m=>∃ g,u=ptr g/\m=[.var g 201 (A9 s false)]:=by
 refine qE func71 rfl ntmps71 rfl (fun _ hs=>?_);repeat' first|refine Vz ?_|intro _
 exact o5 _ ⟨_,rfl,rfl⟩ slr
instance b3B {g:Nat}{s:Bs}{b:Bool}:AnsM prog GL 130 g [] 201 (A9 s b) True (j3 (!b)) (A9 s b):=⟨fun _=>by
 refine qE func130 rfl ntmps130 rfl (fun _ hs=>?_);repeat' first|refine Vz ?_|intro _
 exact o5 _ ⟨rfl,rfl⟩ slr⟩
instance b3C {g:Nat}{s:Bs}{b:Bool}:AnsM prog GL 127 g [] 201 (A9 s b) True (.tup []) (A9 s true):=⟨fun _=>by
 refine qE func127 rfl ntmps127 rfl (fun _ hs=>?_);repeat' first|refine Vz ?_|intro _
 exact fU _ ⟨rfl,rfl⟩ slr⟩
def Ey (s:Bs)(b:Bool):UInt8:=if b=true then 0 else s.headD 0
def a1G (s:Bs)(b:Bool):Bool:=!b&&decide (s≠[])
instance b3z {g:Nat}{s:Bs}{b:Bool}:AnsM prog GL 175 g [] 201 (A9 s b) True (.tup [p9 (Ey s b),j3 (a1G s b)]) (A9 s b):=⟨fun _=>by
 refine qE func175 rfl ntmps175 rfl (fun _ hs=>?_);cases b
 ·cases s with
  | nil=>
   repeat' first|refine Yz ?_|intro _
   exact o5 _ ⟨rfl,rfl⟩ slr
  | cons c s=>
   repeat' first|refine Yz ?_|intro _
   exact o5 _ ⟨rfl,rfl⟩ slr
 ·repeat' first|refine Yz ?_|intro _
  exact o5 _ ⟨rfl,rfl⟩ slr⟩
instance b3A {g:Nat}{s:Bs}{b:Bool}:AnsM prog GL 131 g [] 201 (A9 s b) True (int (if b=true then 0 else s.length:Nat)) (A9 s b):=⟨fun _=>by
 refine qE func131 rfl ntmps131 rfl (fun _ hs=>?_);cases b
 ·repeat' first|refine Yz ?_|intro _
  exact o5 _ ⟨rfl,rfl⟩ slr
 ·repeat' first|refine Yz ?_|intro _
  exact o5 _ ⟨rfl,rfl⟩ slr⟩
instance a0t {g:Nat}{s:Bs}{b:Bool}:AnsM prog GL 74 g [] 201 (A9 s b) True (int (P5 s b)) (A9 s b):=⟨fun _=>by
 refine qE func74 rfl ntmps74 rfl (fun _ hs=>?_);cases b
 ·cases s with
  | nil=>
   repeat' first|refine Yz ?_|intro _
   exact o5 _ ⟨rfl,rfl⟩ slr
  | cons c s=>
   repeat' first|refine Yz ?_|intro _
   exact o5 _ ⟨rfl,rfl⟩ slr
 ·repeat' first|refine Yz ?_|intro _
  exact o5 _ ⟨rfl,rfl⟩ slr⟩
def zI (a b c:UInt8):Nat->Nat
 | 0=>0
 | 1=>0*256+a.toNat
 | 2=>(0*256+a.toNat)*256+b.toNat
 | _=>((0*256+a.toNat)*256+b.toNat)*256+c.toNat
instance a0p {g:Nat}{s:Bs}{b:Bool}{c most:Int}:AnsM prog GL 128 g [.lit (.int .u8 c),int most] 201 (A9 s b) (s.length<=4611686018427387904) (str (D5 c most s b)) (A9 (j5 c most s b) (A7 c most s b)):=⟨fun hl=>by
 refine qE func128 rfl ntmps128 rfl (fun _ hs=>?_);cases b;rotate_left
 ·repeat' first|refine Yz ?_|intro _
  refine o5 [.var g 201 (A9 s true)] ⟨?_,?_⟩ slr
  ·rw[D5,vN];rfl
  ·rw[j5,A7,vN];rfl
 rcases s with _|⟨s0,s⟩
 ·repeat' first|refine Yz ?_|intro _
  exact o5 [.var g 201 (A9 [] true)] ⟨rfl,rfl⟩ slr
 have hn:(Ey (s0::s) false).toNat=s0.toNat:=rfl;by_cases hc:(s0.toNat:Int)=c
 rotate_left
 ·have e:Y7 c most false (s0::s)=none:=by
   rcases s with _|⟨s1,_|⟨s2,_|⟨s3,r⟩⟩⟩
   ·rfl
   ·rfl
   ·rfl
   ·rw[Y7,if_neg (fun h=>hc h.2.1)]
  repeat' first|refine Yz ?_|intro _
  refine o5 [.var g 201 (A9 (s0::s) true)] ⟨?_,?_⟩ slr
  ·rw[D5,e];rfl
  ·rw[j5,A7,e];rfl
 rcases s with _|⟨s1,_|⟨s2,_|⟨s3,r⟩⟩⟩
 ·repeat' first|refine Yz ?_|intro _
  exact o5 [.var g 201 (A9 [s0] true)] ⟨rfl,rfl⟩ slr
 ·repeat' first|refine Yz ?_|intro _
  exact o5 [.var g 201 (A9 [s0,s1] true)] ⟨rfl,rfl⟩ slr
 ·repeat' first|refine Yz ?_|intro _
  exact o5 [.var g 201 (A9 [s0,s1,s2] true)] ⟨rfl,rfl⟩ slr
 have hlen:(s0::s1::s2::s3::r).length=r.length+4:=rfl;have q1:=s1.toNat_lt;have q2:=s2.toNat_lt;have q3:=s3.toNat_lt;repeat' first|refine Yz ?_|intro _
 refine Q7 1 4 ?_;repeat' first|refine Yz ?_|intro _
 refine z8 (α:=Nat) (fun i=>[(0,ptr g),(2,int most),(9,int (zI s1 s2 s3 i:Nat)),(40,.sl 1 [.lit (j6 s1),.lit (j6 s2),.lit (j6 s3)] none),(41,int 3),(42,int i)]) (fun _=>[.var g 201 (A9 (s0::s1::s2::s3::r) false)])
  (fun i=>i<=3) (fun i=>3-i) 0 ⟨rfl,rfl,rfl,rfl,rfl,rfl,trivial⟩ slr om ?_
 intro i hi;rcases i with _|_|_|_|i
 ·have v0:zI s1 s2 s3 0=0:=rfl;repeat' first|refine Yz ?_|intro _
  exact o6 1 ⟨rfl,rfl,rfl,rfl,rfl,rfl,trivial⟩ slr om om
 ·have v1:zI s1 s2 s3 (0+1)=0*256+s1.toNat:=rfl;repeat' first|refine Yz ?_|intro _
  exact o6 2 ⟨rfl,rfl,rfl,rfl,rfl,rfl,trivial⟩ slr om om
 ·have v1:zI s1 s2 s3 (0+1+1)=(0*256+s1.toNat)*256+s2.toNat:=rfl;repeat' first|refine Yz ?_|intro _
  exact o6 3 ⟨rfl,rfl,rfl,rfl,rfl,rfl,trivial⟩ slr om om
 rotate_left
 ·exact absurd hi om
 have hv:zI s1 s2 s3 (0+1+1+1)=bC s1 s2 s3:=by simp[zI,bC]
 have hlt:=MK s1 s2 s3;have hct:Y7 c most false (s0::s1::s2::s3::r)=if (bC s1 s2 s3:Int)<=most/\bC s1 s2 s3<=r.length then some (r.take (bC s1 s2 s3),r.drop (bC s1 s2 s3)) else none:=by
  rw[Y7];simp[hc]
 rw[hv];generalize bC s1 s2 s3=n at *;by_cases h1:(n:Int)<=most
 rotate_left
 ·have e:Y7 c most false (s0::s1::s2::s3::r)=none:=by rw[hct,if_neg (fun h=>h1 h.1)]
  repeat' first|refine Yz ?_|intro _
  refine o5 [.var g 201 (A9 (s0::s1::s2::s3::r) true)] ⟨?_,?_⟩ slr
  ·rw[D5,e];rfl
  ·rw[j5,A7,e];rfl
 by_cases h2:n<=r.length
 rotate_left
 ·have e:Y7 c most false (s0::s1::s2::s3::r)=none:=by rw[hct,if_neg (fun h=>h2 h.2)]
  repeat' first|refine Yz ?_|intro _
  refine o5 [.var g 201 (A9 (s0::s1::s2::s3::r) true)] ⟨?_,?_⟩ slr
  ·rw[D5,e];rfl
  ·rw[j5,A7,e];rfl
 have e:Y7 c most false (s0::s1::s2::s3::r)=some (r.take n,r.drop n):=by rw[hct,if_pos ⟨h1,h2⟩]
 repeat' first|refine Yz ?_|intro _
 refine Q7 4 (4+n) ?_;repeat' first|refine Yz ?_|intro _
 refine Q7 (4+n) (r.length+4) ?_;repeat' first|refine Yz ?_|intro _
 refine o5 [.var g 201 (A9 (r.drop n) false)] ⟨?_,?_⟩ ?_
 ·rw[D5,e];simp[I8,Nat.add_comm]
 ·rw[j5,A7,e];rfl
 ·have e2:List.drop (4+n) (List.take (r.length+4) (s0::s1::s2::s3::r))=r.drop n:=by
   rw[List.take_of_length_le sm,Nat.add_comm 4 n];simp
  rw[e2];exact List.Sublist.refl _⟩

theorem ES {c:Int}{s:Bs}{b:Bool}:qK c s b=if jG (D5 c 8 s b)=true then 0 else numOf (D5 c 8 s b):=rfl
theorem Bj (c:Int)(s:Bs)(b:Bool):qK c s b<18446744073709551616:=by
 rw[ES];have h:=(uA c 8 s b).2 dc;have:=FR (l:=D5 c 8 s b) om;split <;> omega
instance rdNum {g:Nat}{s:Bs}{b:Bool}{c:Int}:AnsM prog GL 126 g [.lit (.int .u8 c)] 201 (A9 s b) (s.length<=4611686018427387904) (.lit (.int .u64 (qK c s b))) (A9 (j5 c 8 s b) (mR c s b)):=⟨fun hl=>by
 refine qE func126 rfl ntmps126 rfl (fun _ hs=>?_);repeat' first|refine Yz ?_|intro _
 have hx:=(uA c 8 s b).2 dc;rw[mR,ES];generalize D5 c 8 s b=x at *;refine z8 (α:=Nat) (fun i=>[(0,ptr g),(5,str x),(6,.lit (.int .u64 (numOf (x.take i):Nat))),(12,int x.length),(13,int i)]) (fun _=>[.var g 201 (A9 (j5 c 8 s b) (A7 c 8 s b))])
  (fun i=>i<=x.length) (fun i=>x.length-i) 0 ⟨rfl,rfl,rfl,rfl,rfl,trivial⟩ slr om ?_
 intro i hi;repeat' first|refine Yz ?_|intro _
 refine o9 (fun hlt=>?_) (fun hlt=>?_)
 ·have hil:i<x.length:=om
  have h1:=Es hil;have h2:=x[i].toNat_lt;have h3:=FR (l:=x.take (i+1)) (by simp;omega);repeat' first|refine Yz ?_|intro _
  refine rQ i ?_ (List.getElem?_eq_getElem hil);repeat' first|refine Yz ?_|intro _
  refine o6 (i+1) ⟨rfl,rfl,?_,rfl,rfl,trivial⟩ slr hil om;rw[h1];rfl
 ·obtain rfl:i=x.length:=by omega
  rw[List.take_length];cases x with
  | nil=>
   repeat' first|refine Yz ?_|intro _
   refine o5 [.var g 201 (A9 (j5 c 8 s b) (A7 c 8 s b))] ⟨rfl,?_⟩ slr;simp[jG]
  | cons a x=>
   have ha:jG (a::x)=decide ((a.toNat:Int)=0):=by
    rw[ML];refine decide_eq_decide.2 ⟨fun h=>by rw[h];rfl,fun h=>UInt8.toNat.inj (by simpa using h)⟩
   rw[ha];by_cases h0:(a.toNat:Int)=0
   ·rw[dT h0];repeat' first|refine Yz ?_|intro _
    refine o5 [.var g 201 (A9 (j5 c 8 s b) true)] ⟨rfl,?_⟩ slr;simp
   ·rw[dZ h0];repeat' first|refine Yz ?_|intro _
    refine o5 [.var g 201 (A9 (j5 c 8 s b) (A7 c 8 s b))] ⟨rfl,?_⟩ slr;simp⟩
instance a0s {g:Nat}{s:Bs}{b:Bool}{c most:Int}:AnsM prog GL 72 g [.lit (.int .u8 c),int most] 201 (A9 s b) (s.length<=4611686018427387904/\0<=most/\most<=9223372036854775807) (int (J8 c most s b)) (A9 (j5 c 8 s b) (K3 c most s b)):=⟨fun hp=>by
 obtain⟨hl,h0,h1⟩:=hp;refine qE func72 rfl ntmps72 rfl (fun _ hs=>?_);repeat' first|refine Yz ?_|intro _
 have hx:=Bj c s b;rw[J8,K3];generalize qK c s b=n at *;by_cases h:most<(n:Int)
 ·rw[if_pos h,dT h];repeat' first|refine Yz ?_|intro _
  refine o5 [.var g 201 (A9 (j5 c 8 s b) true)] ⟨rfl,?_⟩ slr;simp
 ·rw[if_neg h,dZ h];repeat' first|refine Yz ?_|intro _
  refine o5 [.var g 201 (A9 (j5 c 8 s b) (mR c s b))] ⟨rfl,?_⟩ slr;simp⟩

theorem a7n {go gi gr gl gm:Nat}{acc:List Bs}{v:Value}{s:Bs}{b:Bool}{c most:Int}(hl:s.length<=4611686018427387904)(hn:acc.length<=1000000000):Av.Spec prog GL 129 [ptr go,ptr gi,ptr gl,ptr gm]
  [.tail 9 1 v,.var go 57 (.sl 1 (acc.map str) (some v)),.var gi 151 (ptr gr),.var gr 201 (A9 s b),.var gm 3 (int most),.var gl 5 (.lit (.int .u8 c))]
  fun u m=>∃ v',u=j3 (!A7 c most s b)/\m=[.tail 9 1 v',.var go 57 (.sl 1 ((acc++[D5 c most s b]).map str) (some v')),.var gi 151 (ptr gr),.var gr 201 (A9 (j5 c most s b) (A7 c most s b)),.var gm 3 (int most),.var gl 5 (.lit (.int .u8 c))]:=by
 refine qE func129 rfl ntmps129 rfl (fun _ hs=>?_);repeat' first|refine Yz ?_|intro _
 apply V8 [0];exact rfl;exact rfl;exact rfl;kernel_rfl;intro _ _;refine I4 (fun v'=>?_);refine j4 (U4 [.tail 9 1 v'] [] rfl rfl lpr rfl ?_);repeat' first|refine Yz ?_|intro _
 refine o5 _ ⟨v',rfl,rfl⟩ ?_;rw[List.map_append];exact List.Sublist.refl _
theorem WN {c most:Int}{f:Nat}:eX c most (f+1) [] false=([],false):=by rw[eX,if_pos (.inr rfl)]
theorem Oc {c most:Int}:∀ {f:Nat} {s:Bs},eX c most f s true=([],true)
 | 0,_=>rfl
 | f+1,s=>by rw[eX,if_pos (.inl rfl)]
theorem Ob {c most:Int}{f:Nat}{a:UInt8}{s:Bs}:eX c most (f+1) (a::s) false=(D5 c most (a::s) false::(eX c most f (j5 c most (a::s) false) (A7 c most (a::s) false)).1,(eX c most f (j5 c most (a::s) false) (A7 c most (a::s) false)).2):=by rw[eX,if_neg sm]
instance b3E {g:Nat}{s:Bs}{b:Bool}{c many most:Int}:AnsM prog GL 73 g [.lit (.int .u8 c),int many,int most] 201 (A9 s b) (s.length<=1000000000) (.sl 1 ((fG c many most s b).map str) none) (A9 (j5 c 16777215 s b) (aY c many most s b)):=⟨fun hl=>by
 refine qE func73 rfl ntmps73 rfl (fun _ hs=>?_);repeat' first|refine Yz ?_|intro _
 have hx:=(uA c 16777215 s b).1;have hx2:=(Q9 c 16777215 s b).1;rw[fG,aY];generalize D5 c 16777215 s b=x at *;generalize j5 c 16777215 s b=s1 at *;generalize A7 c 16777215 s b=b1 at *;refine M3 (args:=[str x]) [] _ (by rw[hs];exact rY) (fun u m1 hh=>?_) lpr;obtain⟨gr,rfl,rfl⟩:=hh;repeat' first|refine Yz ?_|intro _
 rename_i gl gm gi go;refine eY (vs:=[.pointer (some ⟨go,0,none⟩),.pointer (some ⟨gi,0,none⟩),.pointer (some ⟨gl,0,none⟩),.pointer (some ⟨gm,0,none⟩)]) ?_;repeat' first|refine Yz ?_|intro _
 generalize hX:yU c most x=X at *;refine gM (g:=go) (v':=.sl 1 [] (some (.slice none 0 0))) ImpC.nilT ?_;refine O5 (fun ok w h=>h.full 9 1 none 0) ?_;refine WY (α:=Value) (fun _=>[(0,ptr g),(2,int many),(10,ptr go)]) (fun v=>[.tail 9 1 v,.var go 57 (.sl 1 (X.1.map str) (some v)),.var g 201 (A9 s1 (b1 || X.2))]) ?_ (fun v=>?_)
 focus
  refine z8 (α:=List Bs × Value × Bs × Nat) (fun _=>[(0,ptr g),(2,int many),(9,ptr gi),(10,ptr go),(11,D6 129 [.pointer (some ⟨go,0,none⟩),.pointer (some ⟨gi,0,none⟩),.pointer (some ⟨gl,0,none⟩),.pointer (some ⟨gm,0,none⟩)])])
   (fun q=>[.tail 9 1 q.2.1,.var go 57 (.sl 1 (q.1.map str) (some q.2.1)),.var gi 151 (ptr gr),.var gr 201 (A9 q.2.2.1 false),.var gm 3 (int most),.var gl 5 (.lit (.int .u8 c)),.var g 201 (A9 s1 b1)])
   (fun q=>X=(q.1++(eX c most q.2.2.2 q.2.2.1 false).1,(eX c most q.2.2.2 q.2.2.1 false).2)/\q.2.2.1.length<q.2.2.2/\q.1.length+q.2.2.1.length<=x.length) (fun q=>q.2.2.2) ([],.slice none 0 0,x,x.length+1) ⟨rfl,rfl,rfl,rfl,rfl,trivial⟩ slr ⟨hX.symm,by dsimp only;omega,sm⟩ ?_
  rintro⟨acc,v,s2,f⟩ ⟨e1,e2,e3⟩;dsimp only at e1 e2 e3 ⊢;rcases f with _|f
  focus
   omega
  cases s2 with
  | nil=>
   rw[WN,List.append_nil] at e1;subst e1;repeat' first|refine Yz ?_|intro _
   refine fO v ⟨rfl,rfl,rfl,trivial⟩ ?_;rw[Bool.or_false];exact r9
  | cons a s2=>
   have hl2:(if false=true then 0 else (a::s2).length)=s2.length+1:=rfl;repeat' first|refine Yz ?_|intro _
   refine kP (args:=[]) (cs:=[.pointer (some ⟨go,0,none⟩),.pointer (some ⟨gi,0,none⟩),.pointer (some ⟨gl,0,none⟩),.pointer (some ⟨gm,0,none⟩)])
    [.tail 9 1 v,.var go 57 (.sl 1 (acc.map str) (some v)),.var gi 151 (ptr gr),.var gr 201 (A9 (a::s2) false),.var gm 3 (int most),.var gl 5 (.lit (.int .u8 c))] [.var g 201 (A9 s1 b1)]
    (by rw[hs];exact a7n om om) (fun u m1 hh=>?_) lpr
   obtain⟨v',rfl,rfl⟩:=hh;rw[Ob] at e1;have hle:=(Q9 c most (a::s2) false).1;have hlt:=QT (c:=c) (most:=most) (s:=a::s2) (b:=false);generalize D5 c most (a::s2) false=x' at *;generalize j5 c most (a::s2) false=s3 at *;cases hb:A7 c most (a::s2) false
   ·have hlt:=hlt hb;rw[hb] at e1;repeat' first|refine Yz ?_|intro _
    refine o6 (acc++[x'],v',s3,f) ⟨rfl,rfl,rfl,rfl,rfl,trivial⟩ slr ⟨?_,by dsimp only;omega,by simp only[List.length_append,List.length_cons,List.length_nil];omega⟩ (by dsimp only;omega);simpa using e1
   ·rw[hb,Oc] at e1;subst e1;repeat' first|refine Yz ?_|intro _
    refine fO v' ⟨rfl,rfl,rfl,trivial⟩ ?_;rw[Bool.or_true];exact r9
 focus
  have hml:(X.1.map str).length=X.1.length:=llm _;unfold xM uX;by_cases hm:many<(X.1.length:Int)
  ·rw[dT hm,Bool.or_true,Bool.or_true,if_pos rfl];repeat' first|refine Yz ?_|intro _
   refine U8 (.sl 1 [] none) [.var g 201 (A9 s1 true)] ?_ ⟨rfl,rfl⟩ ?_
   focus
    exact Imp.nilN
   exact r9
  ·rw[dZ hm,Bool.or_false];cases hb:(b1 || X.2)
   ·repeat' first|refine Yz ?_|intro _
    refine U8 (.sl 1 (X.1.map str) none) [.var g 201 (A9 s1 false)] ?_ ⟨rfl,rfl⟩ ?_
    focus
     exact Imp.sl
    exact r9
   ·repeat' first|refine Yz ?_|intro _
    refine U8 (.sl 1 [] none) [.var g 201 (A9 s1 true)] ?_ ⟨rfl,rfl⟩ ?_
    focus
     exact Imp.nilN
    repeat (first|exact List.nil_sublist _|exact List.Sublist.refl _|apply List.Sublist.cons_cons|apply List.Sublist.cons)⟩

def aI (x:Ent):Hsh:=sM [[76],o8 107 x.key,o8 118 x.val]
def pK (a b:Hsh):Hsh:=sM [[78],a.l,b.l]
def rW (n:Int)(h:Hsh):Hsh:=sM [[84],D8 110 n,h.l]
instance b7o {a b:Bs}:Ans prog GL 260 [.agg 2 [str a,str b]] True (hA (aI ⟨a,b⟩)):=⟨fun _=>by
 refine qE func260 rfl ntmps260 rfl (fun _ hs=>?_);repeat' first|refine Wz ?_|intro _
 refine d9 ?_;rfl⟩
instance b7k {a b:Hsh}:Ans prog GL 258 [hA a,hA b] True (hA (pK a b)):=⟨fun _=>by
 refine qE func258 rfl ntmps258 rfl (fun _ hs=>?_);repeat' first|refine Wz ?_|intro _
 refine d9 ?_;rfl⟩
instance b4F {n:Int}{h:Hsh}:Ans prog GL 186 [int n,hA h] (n<=9223372036854775807) (hA (rW n h)):=⟨fun hn=>by
 refine qE func186 rfl ntmps186 rfl (fun _ hs=>?_);repeat' first|refine Wz ?_|intro _
 refine d9 ?_;rfl⟩

theorem DW (n:Nat):UInt8.ofNat (IntKind.u8.wrap (n:Int)).toNat=UInt8.ofNat n:=by
 rw[IntKind.wrap_u8];apply UInt8.toNat_inj.1;simp;omega
theorem YT (c:Int)(s:Bs)(n:Nat)(hn:n=(s.take bN).length):[UInt8.ofNat c.toNat,UInt8.ofNat (IntKind.u8.wrap ((n:Int) / 65536)).toNat,UInt8.ofNat (IntKind.u8.wrap ((n:Int) / 256)).toNat,UInt8.ofNat (IntKind.u8.wrap (n:Int)).toNat]++s.take bN=o8 c s:=by
 subst hn;have e1:=DW ((s.take bN).length / 65536);have e2:=DW ((s.take bN).length / 256);have e3:=DW (s.take bN).length;simp only[Int.natCast_ediv,Int.cast_ofNat_Int] at e1 e2;rw[e1,e2,e3];rfl
instance {s:Bs}:LenLe (s.take bN) 16777215:=⟨by simp[bN,List.length_take];omega⟩
instance b5j {c:Int}{s:Bs}:Ans prog GL 90 [.lit (.int .u8 c),str s] True (str (o8 c s)):=⟨fun _=>by
 refine qE func90 rfl ntmps90 rfl (fun _ hs=>?_);repeat' first|refine Wz ?_|intro _
 refine o9 (fun hl=>?_) (fun hl=>?_)
 ·repeat' first|refine Wz ?_|intro _
  have hb:(s.take 16777215).drop 0=s.take bN:=rfl;have hlen:(s.take bN).length=16777215:=by simp[bN];omega
  refine Q7 0 16777215 ?_;rw[hb];repeat' first|refine Wz ?_|intro _
  refine d9 ?_;exact congrArg str (YT c s _ rfl)
 ·repeat' first|refine Wz ?_|intro _
  refine d9 ?_;have hb:s.take bN=s:=List.take_of_length_le (by simp[bN];omega);have:=YT c s s.length (by rw[hb]);rw[hb] at this;exact congrArg str this⟩

instance b5M {n:Nat}:Ans prog GL 223 [.lit (.int .u64 n)] (n<18446744073709551616) (str (Tw.digits n)):=⟨fun hn=>by
 refine qE func223 rfl ntmps223 rfl (fun _ hs=>?_);repeat' first|refine Wz ?_|intro _
 refine z8 (α:=Nat × Nat × Bs) (fun q=>[(0,.lit (.int .u64 q.2.1)),(3,str q.2.2)]) (fun _=>[]) (fun q=>q.2.1<256 ^ q.1/\q.2.2.length+q.1<=8/\V4 q.1 q.2.1++q.2.2=Tw.digits n) (fun q=>q.1) (8,n,[]) ⟨rfl,rfl,trivial⟩ slr ⟨by simpa using hn,sm,by simp[Tw.digits]⟩ ?_;rintro⟨f,k,s⟩ ⟨g1,g2,g3⟩;dsimp only at g1 g2 g3 ⊢;repeat' first|refine Wz ?_|intro _
 refine o9 (fun hlt=>?_) (fun hlt=>?_)
 ·obtain⟨f,rfl⟩:∃ f',f=f'+1:=⟨f-1,by
   rcases Nat.eq_zero_or_pos f with h|h
   ·subst h;simp at g1;omega
   ·omega⟩
  have h0:k≠0:=om
  rw[V4,if_neg h0,laa] at g3;have hk:k<18446744073709551616:=by
   have:256 ^ (f+1)<=256 ^ 8:=Nat.pow_le_pow_right om om;omega
  repeat' first|refine Wz ?_|intro _
  rw[DW k];refine WU (h2:=by intro c _ _;rw[IntKind.wrap_u64];omega) ?_;repeat' first|refine Wz ?_|intro _
  have hq:(k:Int) / 256=((k / 256:Nat):Int):=om
  rw[hq];exact o6 (f,k / 256,[UInt8.ofNat k]++s) ⟨rfl,rfl,trivial⟩ slr ⟨by simp only;rw[Nat.pow_succ] at g1;omega,by simp only[List.length_append,List.length_singleton];omega,by simpa using g3⟩ (Nat.lt_succ_self f)
 ·have h0:k=0:=om
  subst h0;have:V4 f 0=[]:=by cases f <;> simp[V4]
  rw[this,List.nil_append] at g3;subst g3;repeat' first|refine Wz ?_|intro _
  refine d9 ?_;rfl⟩
instance Jn {c:Int}{n:Nat}:Ans prog GL 152 [.lit (.int .u8 c),.lit (.int .u64 n)] (n<18446744073709551616) (str (o8 c (Tw.digits n))):=⟨fun hn=>by
 refine qE func152 rfl ntmps152 rfl (fun _ hs=>?_);repeat' first|refine Wz ?_|intro _
 refine d9 ?_;rfl⟩
instance b5D {c:Int}{n:Int}:Ans prog GL 89 [.lit (.int .u8 c),int n] (n<=9223372036854775807) (str (D8 c n)):=⟨fun hn=>by
 refine qE func89 rfl ntmps89 rfl (fun _ hs=>?_);repeat' first|refine Wz ?_|intro _
 refine o9 (fun hlt=>?_) (fun hlt=>?_)
 ·repeat' first|refine Wz ?_|intro _
  refine WV (show (0:Nat)<18446744073709551616 by omega) ?_ (hc:=Jn (n:=0));repeat' first|refine Wz ?_|intro _
  refine d9 ?_;have:n.toNat=0:=by omega
  rw[D8,JU,this];rfl
 ·repeat' first|refine Wz ?_|intro _
  obtain⟨k,rfl⟩:∃ k:Nat,n=k:=⟨n.toNat,om⟩;refine WV (show k<18446744073709551616 by omega) ?_ (hc:=Jn (n:=k));repeat' first|refine Wz ?_|intro _
  refine d9 ?_;rfl⟩
instance b4D {x:W32}{c:Int}:Ans prog GL 293 [dL x,.lit (.int .u64 c)] (0<c/\c<32) (dL (aH x c.toNat)):=⟨fun hc=>by
 obtain⟨n,rfl⟩:∃ n:Nat,c=n:=⟨c.toNat,om⟩;refine qE func293 rfl ntmps293 rfl (fun _ hs=>?_);repeat' first|refine Wz ?_|intro _
 refine OI n ?_;repeat' first|refine Wz ?_|intro _
 refine yY ?_;have hw:IntKind.u64.wrap ((32:Int)-(n:Int))=((32-n:Nat):Int):=by rw[IntKind.wrap_u64];omega
 rw[hw];repeat' first|refine Wz ?_|intro _
 refine OJ (32-n) ?_;repeat' (first|refine Q5 ?_|refine R3 ?_|refine W ?_|refine G5 (fun _=>?_)|intro _)
 refine d9 ?_;rfl⟩
instance b5H {h:Hsh}:Ans prog GL 91 [hA h] True (str h.l):=⟨fun _=>by
 refine qE func91 rfl ntmps91 rfl (fun _ hs=>?_);repeat' first|refine Wz ?_|intro _
 rename_i g;have hlen:=h.len;refine aM 3 (Imp.nil (k:=1)) ?_;refine O5 (fun ok w h=>h.full 5 1 none 0) ?_;refine z8 (α:=Nat × Value) (fun q=>[(1,ptr g),(3,.sl 1 ((h.l.take q.1).map p9) (some q.2)),(4,int q.1)]) (fun q=>[.tail 5 1 q.2,.var g 48 (.agg 32 (h.l.map p9))]) (fun q=>q.1<=32) (fun q=>32-q.1) (0,.slice none 0 0) ⟨rfl,rfl,rfl,trivial⟩ slr (Nat.zero_le _) ?_;rintro⟨i,v⟩ g1;dsimp only at g1 ⊢;repeat' first|refine Wz ?_|intro _
 refine o9 (fun hlt=>?_) (fun hlt=>?_)
 ·have hlt':i<h.l.length:=om
  repeat' first|refine Wz ?_|intro _
  refine O8 i ?_;repeat' first|refine Wz ?_|intro _
  refine a8a i hlt' ?_;repeat' first|refine Wz ?_|intro _
  refine I4 (fun v'=>?_);repeat' first|refine Wz ?_|intro _
  have e:(h.l.take i).map p9++[p9 h.l[i]]=(h.l.take (i+1)).map p9:=by rw[List.take_succ_eq_append_getElem hlt',List.map_append];rfl
  rw[e];exact o6 (i+1,v') ⟨rfl,rfl,rfl,trivial⟩ slr (by simp only;omega) (by simp only;omega)
 ·repeat' first|refine Wz ?_|intro _
  rw[List.take_of_length_le om];repeat' first|refine Wz ?_|intro _
  refine d9 ?_;rfl⟩

theorem JC (blk:Bs):∀ k,(ws blk k).length=k
 | 0=>rfl
 | k+1=>by simp[ws,JC blk k]
def wA (blk:Bs)(k:Nat):List AV:=(ws blk k).map (fun x=>.lit (y8 x))++List.replicate (64-k) (.lit (y8 0))
instance {blk:Bs}{k:Nat}:Siz (wA blk k) 1:=by unfold wA;infer_instance
theorem Vu (blk:Bs)(k:Nat)(h:k<=64):(wA blk k).length=64:=by simp[wA,JC];omega
theorem tN (blk:Bs)(k j:Nat)(h:j<k):(wA blk k)[j]?=some (dL ((ws blk k).getD j 0)):=by
 have hl:=JC blk k;simp[wA,List.getElem?_append,hl,h]
def BA (blk:Bs)(k:Nat):W32:=if k<16 then zC blk k else FU (ws blk k) k
theorem Vt (blk:Bs)(k:Nat)(h:k<64):(wA blk k).set k (dL (BA blk k))=wA blk (k+1):=by
 have hl:=JC blk k;have hx:ws blk (k+1)=ws blk k++[BA blk k]:=rfl;unfold wA;rw[hx,List.set_append,if_neg (by simp[hl]),List.map_append,List.length_map,hl,Nat.sub_self,show 64-k=(64-(k+1))+1 by omega,List.replicate_succ];simp
abbrev mY (x:H8):AV:=.agg 8 (x.words.map fun x=>.lit (y8 x))
abbrev sD:AV:=.agg 2 [.sl 1 (h0.words.map fun x=>.lit (y8 x)) none,.sl 1 (jI.map fun x=>.lit (y8 x)) none]
theorem gd {l:Bs}{i:Nat}(h:i<l.length):l.getD i 0=l[i]:=by simp[List.getD,h]
theorem gdk {l:List W32}{i:Nat}(h:i<l.length):l.getD i 0=l[i]:=by simp[List.getD,h]
theorem a6l (e f g:W32):(e &&& f) ^^^ (~~~ e &&& g)=g ^^^ e &&& (f ^^^ g):=by
 apply BitVec.eq_of_getLsbD_eq;intro i hi;simp only[BitVec.getLsbD_xor,BitVec.getLsbD_and,BitVec.getLsbD_not,hi,decide_true,Bool.true_and];cases e.getLsbD i <;> cases f.getLsbD i <;> cases g.getLsbD i <;> rfl
theorem a2k (a b c:W32):(a &&& b) ^^^ (a &&& c) ^^^ (b &&& c)=a &&& b ||| c &&& (a ||| b):=by
 apply BitVec.eq_of_getLsbD_eq;intro i hi;simp only[BitVec.getLsbD_xor,BitVec.getLsbD_and,BitVec.getLsbD_or];cases a.getLsbD i <;> cases b.getLsbD i <;> cases c.getLsbD i <;> rfl
def QW (k w:W32)(y:H8):H8:=
 ⟨y.h+(aH y.e 6 ^^^ aH y.e 11 ^^^ aH y.e 25)+((y.e &&& y.f) ^^^ (~~~ y.e &&& y.g))+k+w+((aH y.a 2 ^^^ aH y.a 13 ^^^ aH y.a 22)+((y.a &&& y.b) ^^^ (y.a &&& y.c) ^^^ (y.b &&& y.c))),y.a,y.b,y.c,
  y.d+(y.h+(aH y.e 6 ^^^ aH y.e 11 ^^^ aH y.e 25)+((y.e &&& y.f) ^^^ (~~~ y.e &&& y.g))+k+w),y.e,y.f,y.g⟩
theorem Zx (k w:W32)(y:H8):round k w y=QW k w y:=by
 unfold round QW;simp only[a6l,a2k,BitVec.add_assoc]
theorem a9a (x y:H8)(i:Nat)(h:i<8):((tK x y i).map fun x=>AV.lit (y8 x)).set i (dL (x.words.getD i 0+y.words.getD i 0))=(tK x y (i+1)).map fun x=>AV.lit (y8 x):=by
 rw[<- Rk x y i h,List.map_set]
attribute [local irreducible] Av.Obl
set_option maxHeartbeats 4000000 in
instance b5U {x:H8}{blk:Bs}{id:Option Value}:Ans prog GL 239 [sD,mY x,.sl 1 (blk.map p9) id] (blk.length=64) (mY (wF x blk)):=⟨fun hbl=>by
 refine qE func239 rfl ntmps239 rfl (fun _ hs=>?_);repeat' first|refine Wz ?_|intro _
 rename_i g3 g4 g6 g7;refine gM (g:=g7) (v':=.agg 64 (wA blk 0)) (fun ok w cs h=>h) ?_;refine z8 (α:=Nat) (fun i=>[(2,.sl 1 (blk.map p9) id),(3,ptr g3),(4,ptr g4),(6,ptr g6),(7,ptr g7),(8,int i)])
   (fun i=>[.var g7 354 (.agg 64 (wA blk i)),.var g6 317 (mY ⟨0,0,0,0,0,0,0,0⟩),.var g4 317 (mY x),.var g3 234 sD]) (fun i=>i<=64) (fun i=>64-i) 0 ⟨rfl,rfl,rfl,rfl,rfl,rfl,trivial⟩ slr (Nat.zero_le _) ?_
 intro i hi;repeat' first|refine Wz ?_|intro _
 refine o9 (fun hlt=>?_) (fun hlt=>?_)
 ·repeat' first|refine Wz ?_|intro _
  have hn:=Vt blk i om;have hl64:=Vu blk i om;refine o9 (fun h16=>?_) (fun h16=>?_)
  ·repeat' (first|refine Q5 ?_|refine R3 ?_|refine W ?_|refine G5 (fun _=>?_)|intro _)
   apply u7 [];exact rfl;exact rfl;kernel_rfl;intro _ _;refine Z0 (l:=blk) (f:=p9) (4*i) om ?_;exact j4 (o7 rfl rfl);repeat' (first|refine Q5 ?_|refine R3 ?_|refine W ?_|refine G5 (fun _=>?_)|intro _)
   apply u7 [];exact rfl;exact rfl;kernel_rfl;intro _ _;refine Z0 (l:=blk) (f:=p9) (4*i+1) om ?_;exact j4 (o7 rfl rfl);repeat' (first|refine Q5 ?_|refine R3 ?_|refine W ?_|refine G5 (fun _=>?_)|intro _)
   apply u7 [];exact rfl;exact rfl;kernel_rfl;intro _ _;refine Z0 (l:=blk) (f:=p9) (4*i+2) om ?_;exact j4 (o7 rfl rfl);repeat' (first|refine Q5 ?_|refine R3 ?_|refine W ?_|refine G5 (fun _=>?_)|intro _)
   apply u7 [];exact rfl;exact rfl;kernel_rfl;intro _ _;refine Z0 (l:=blk) (f:=p9) (4*i+3) om ?_;exact j4 (o7 rfl rfl);repeat' (first|refine Q5 ?_|refine R3 ?_|refine W ?_|refine G5 (fun _=>?_)|intro _)
   apply u7 [];exact rfl;exact rfl;kernel_rfl;intro _ _;refine O8 i ?_;exact j4 (o7 rfl rfl);apply bA [0];exact rfl;exact rfl;kernel_rfl
   ·intro _ _;refine lU (j:=i) (ps:=wA blk i) om ?_;exact j4 (bG rfl)
   ·exact rfl
   ·exact rfl
   have e:nH blk[4*i] <<< 24 ||| nH blk[4*i+1] <<< 16 ||| nH blk[4*i+2] <<< 8 ||| nH blk[4*i+3]=BA blk i:=by
    rw[BA,if_pos om,zC,gd,gd,gd,gd]
   rw[e,hn];repeat' first|refine Wz ?_|intro _
   refine o6 (i+1) ⟨rfl,rfl,rfl,rfl,rfl,rfl,trivial⟩ slr om om
  ·repeat' (first|refine Q5 ?_|refine R3 ?_|refine W ?_|refine G5 (fun _=>?_)|intro _)
   apply u7 [];exact rfl;exact rfl;kernel_rfl;intro _ _;refine O8 (i-15) ?_;exact j4 (o7 rfl rfl);repeat' (first|refine Q5 ?_|refine R3 ?_|refine W ?_|refine G5 (fun _=>?_)|intro _)
   apply u7 [0];exact rfl;exact rfl;kernel_rfl;intro _ _;refine bR (j:=i-15) (ps:=wA blk i) (tN blk i (i-15) om) ?_;exact j4 (o7 rfl rfl);repeat' (first|refine Q5 ?_|refine R3 ?_|refine W ?_|refine G5 (fun _=>?_)|intro _)
   apply u7 [];exact rfl;exact rfl;kernel_rfl;intro _ _;refine O8 (i-15) ?_;exact j4 (o7 rfl rfl);repeat' (first|refine Q5 ?_|refine R3 ?_|refine W ?_|refine G5 (fun _=>?_)|intro _)
   apply u7 [0];exact rfl;exact rfl;kernel_rfl;intro _ _;refine bR (j:=i-15) (ps:=wA blk i) (tN blk i (i-15) om) ?_;exact j4 (o7 rfl rfl);repeat' (first|refine Q5 ?_|refine R3 ?_|refine W ?_|refine G5 (fun _=>?_)|intro _)
   apply u7 [];exact rfl;exact rfl;kernel_rfl;intro _ _;refine O8 (i-15) ?_;exact j4 (o7 rfl rfl);repeat' (first|refine Q5 ?_|refine R3 ?_|refine W ?_|refine G5 (fun _=>?_)|intro _)
   apply u7 [0];exact rfl;exact rfl;kernel_rfl;intro _ _;refine bR (j:=i-15) (ps:=wA blk i) (tN blk i (i-15) om) ?_;exact j4 (o7 rfl rfl);repeat' (first|refine Q5 ?_|refine R3 ?_|refine W ?_|refine G5 (fun _=>?_)|intro _)
   apply u7 [];exact rfl;exact rfl;kernel_rfl;intro _ _;refine O8 (i-2) ?_;exact j4 (o7 rfl rfl);repeat' (first|refine Q5 ?_|refine R3 ?_|refine W ?_|refine G5 (fun _=>?_)|intro _)
   apply u7 [0];exact rfl;exact rfl;kernel_rfl;intro _ _;refine bR (j:=i-2) (ps:=wA blk i) (tN blk i (i-2) om) ?_;exact j4 (o7 rfl rfl);repeat' (first|refine Q5 ?_|refine R3 ?_|refine W ?_|refine G5 (fun _=>?_)|intro _)
   apply u7 [];exact rfl;exact rfl;kernel_rfl;intro _ _;refine O8 (i-2) ?_;exact j4 (o7 rfl rfl);repeat' (first|refine Q5 ?_|refine R3 ?_|refine W ?_|refine G5 (fun _=>?_)|intro _)
   apply u7 [0];exact rfl;exact rfl;kernel_rfl;intro _ _;refine bR (j:=i-2) (ps:=wA blk i) (tN blk i (i-2) om) ?_;exact j4 (o7 rfl rfl);repeat' (first|refine Q5 ?_|refine R3 ?_|refine W ?_|refine G5 (fun _=>?_)|intro _)
   apply u7 [];exact rfl;exact rfl;kernel_rfl;intro _ _;refine O8 (i-2) ?_;exact j4 (o7 rfl rfl);repeat' (first|refine Q5 ?_|refine R3 ?_|refine W ?_|refine G5 (fun _=>?_)|intro _)
   apply u7 [0];exact rfl;exact rfl;kernel_rfl;intro _ _;refine bR (j:=i-2) (ps:=wA blk i) (tN blk i (i-2) om) ?_;exact j4 (o7 rfl rfl);repeat' (first|refine Q5 ?_|refine R3 ?_|refine W ?_|refine G5 (fun _=>?_)|intro _)
   apply u7 [];exact rfl;exact rfl;kernel_rfl;intro _ _;refine O8 (i-7) ?_;exact j4 (o7 rfl rfl);repeat' (first|refine Q5 ?_|refine R3 ?_|refine W ?_|refine G5 (fun _=>?_)|intro _)
   apply u7 [0];exact rfl;exact rfl;kernel_rfl;intro _ _;refine bR (j:=i-7) (ps:=wA blk i) (tN blk i (i-7) om) ?_;exact j4 (o7 rfl rfl);repeat' (first|refine Q5 ?_|refine R3 ?_|refine W ?_|refine G5 (fun _=>?_)|intro _)
   apply u7 [];exact rfl;exact rfl;kernel_rfl;intro _ _;refine O8 (i-16) ?_;exact j4 (o7 rfl rfl);repeat' (first|refine Q5 ?_|refine R3 ?_|refine W ?_|refine G5 (fun _=>?_)|intro _)
   apply u7 [0];exact rfl;exact rfl;kernel_rfl;intro _ _;refine bR (j:=i-16) (ps:=wA blk i) (tN blk i (i-16) om) ?_;exact j4 (o7 rfl rfl);repeat' (first|refine Q5 ?_|refine R3 ?_|refine W ?_|refine G5 (fun _=>?_)|intro _)
   apply u7 [];exact rfl;exact rfl;kernel_rfl;intro _ _;refine O8 i ?_;exact j4 (o7 rfl rfl);apply bA [0];exact rfl;exact rfl;kernel_rfl
   ·intro _ _;refine lU (j:=i) (ps:=wA blk i) om ?_;exact j4 (bG rfl)
   ·exact rfl
   ·exact rfl
   have e:(aH ((ws blk i).getD (i-2) 0) (17:Int).toNat ^^^ aH ((ws blk i).getD (i-2) 0) (19:Int).toNat ^^^ (ws blk i).getD (i-2) 0 >>> 10)+(ws blk i).getD (i-7) 0+(aH ((ws blk i).getD (i-15) 0) (7:Int).toNat ^^^ aH ((ws blk i).getD (i-15) 0) (18:Int).toNat ^^^ (ws blk i).getD (i-15) 0 >>> 3)+(ws blk i).getD (i-16) 0=BA blk i:=by
    rw[BA,if_neg om,FU];show QL ((ws blk i).getD (i-2) 0)+(ws blk i).getD (i-7) 0+QM ((ws blk i).getD (i-15) 0)+(ws blk i).getD (i-16) 0=_
    ac_rfl
   repeat' (first|refine Q5 ?_|refine R3 ?_|refine W ?_|refine G5 (fun _=>?_)|intro _)
   rw[e,hn];exact o6 (i+1) ⟨rfl,rfl,rfl,rfl,rfl,rfl,trivial⟩ slr om om
 ·obtain rfl:i=64:=by omega
  repeat' (first|refine Q5 ?_|refine R3 ?_|refine W ?_|refine G5 (fun _=>?_)|intro _)
  rename_i g11;refine z8 (α:=Nat) (fun i=>[(3,ptr g3),(4,ptr g4),(6,ptr g6),(7,ptr g7),(11,ptr g11),(12,int i)])
   (fun i=>[.var g11 317 (mY (Y1 blk x i)),.var g7 354 (.agg 64 (wA blk 64)),.var g6 317 (mY ⟨0,0,0,0,0,0,0,0⟩),.var g4 317 (mY x),.var g3 234 sD]) (fun i=>i<=64) (fun i=>64-i) 0 ⟨rfl,rfl,rfl,rfl,rfl,rfl,trivial⟩ slr (Nat.zero_le _) ?_
  intro i hi;repeat' first|refine Wz ?_|intro _
  refine o9 (fun hlt=>?_) (fun hlt=>?_)
  ·have hk:i<jI.length:=by
    have:jI.length=64:=rfl;omega
   have hr:Y1 blk x (i+1)=QW jI[i] ((ws blk 64).getD i 0) (Y1 blk x i):=by rw[Y1,Zx,gdk hk]
   generalize Y1 blk x i=y at *;repeat' (first|refine Q5 ?_|refine R3 ?_|refine W ?_|refine G5 (fun _=>?_)|intro _)
   apply u7 [];exact rfl;exact rfl;kernel_rfl;intro _ _;refine Z0 (l:=jI) (f:=fun x=>.lit (y8 x)) i hk ?_;exact j4 (o7 rfl rfl);repeat' (first|refine Q5 ?_|refine R3 ?_|refine W ?_|refine G5 (fun _=>?_)|intro _)
   apply u7 [];exact rfl;exact rfl;kernel_rfl;intro _ _;refine O8 i ?_;exact j4 (o7 rfl rfl);apply u7 [1];exact rfl;exact rfl;kernel_rfl
   ·intro _ _;refine bR (j:=i) (ps:=wA blk 64) (tN blk 64 i om) ?_;exact j4 (o7 rfl rfl)
   repeat' (first|refine Q5 ?_|refine R3 ?_|refine W ?_|refine G5 (fun _=>?_)|intro _)
   refine o6 (i+1) ⟨rfl,rfl,rfl,rfl,rfl,rfl,trivial⟩ ?_ om om;dsimp only;rw[hr];exact List.Sublist.refl _
  ·obtain rfl:i=64:=by omega
   have hcm:wF x blk=x.add (Y1 blk x 64):=rfl;rw[hcm];generalize Y1 blk x 64=y at *;repeat' (first|refine Q5 ?_|refine R3 ?_|refine W ?_|refine G5 (fun _=>?_)|intro _)
   refine z8 (α:=Nat) (fun i=>[(4,ptr g4),(6,ptr g6),(11,ptr g11),(19,int i)])
    (fun i=>[.var g11 317 (mY y),.var g6 317 (mY ⟨0,0,0,0,0,0,0,0⟩),.var g4 317 (.agg 8 ((tK x y i).map fun x=>.lit (y8 x)))]) (fun i=>i<=8) (fun i=>8-i) 0 ⟨rfl,rfl,rfl,rfl,trivial⟩ (by repeat (first|exact List.nil_sublist _|exact List.Sublist.refl _|apply List.Sublist.cons_cons|apply List.Sublist.cons)) (Nat.zero_le _) ?_
   intro i hi;repeat' first|refine Wz ?_|intro _
   refine o9 (fun hlt=>?_) (fun hlt=>?_)
   ·have hi8:i<8:=om
    repeat' (first|refine Q5 ?_|refine R3 ?_|refine W ?_|refine G5 (fun _=>?_)|intro _)
    apply u7 [];exact rfl;exact rfl;kernel_rfl;intro _ _;refine O8 i ?_;exact j4 (o7 rfl rfl);apply u7 [2];exact rfl;exact rfl;kernel_rfl
    ·intro _ _;refine bR (j:=i) (ps:=(tK x y i).map fun x=>.lit (y8 x)) (u:=dL (x.words.getD i 0)) (by rw[List.getElem?_map,Rl x y i hi8];rfl) ?_;exact j4 (o7 rfl rfl)
    repeat' (first|refine Q5 ?_|refine R3 ?_|refine W ?_|refine G5 (fun _=>?_)|intro _)
    apply u7 [];exact rfl;exact rfl;kernel_rfl;intro _ _;refine O8 i ?_;exact j4 (o7 rfl rfl);apply u7 [0];exact rfl;exact rfl;kernel_rfl;intro _ _;refine bR (j:=i) (ps:=y.words.map fun x=>.lit (y8 x)) (u:=dL (y.words.getD i 0)) (by rw[List.getElem?_map,PP y i hi8];rfl) ?_;exact j4 (o7 rfl rfl);repeat' (first|refine Q5 ?_|refine R3 ?_|refine W ?_|refine G5 (fun _=>?_)|intro _)
    apply u7 [];exact rfl;exact rfl;kernel_rfl;intro _ _;refine O8 i ?_;exact j4 (o7 rfl rfl);apply bA [2];exact rfl;exact rfl;kernel_rfl
    ·intro _ _;refine lU (j:=i) (ps:=(tK x y i).map fun x=>.lit (y8 x)) (by simp[OY x y i hi];omega) ?_;exact j4 (bG rfl)
    ·exact rfl
    ·exact rfl
    repeat' (first|refine Q5 ?_|refine R3 ?_|refine W ?_|refine G5 (fun _=>?_)|intro _)
    rw[a9a x y i hi8];exact o6 (i+1) ⟨rfl,rfl,rfl,rfl,trivial⟩ slr om om
   ·obtain rfl:i=8:=by omega
    repeat' (first|refine Q5 ?_|refine R3 ?_|refine W ?_|refine G5 (fun _=>?_)|intro _)
    refine d9 ?_;rfl⟩
end Go.Proofs.YtocpacdnjbjjmaaGreatDoor
