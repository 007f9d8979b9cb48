/- . -/
import Derived.Test.YtcdbijbhifhkeaaGreatDoorV16
namespace Go.Proofs.Z
open Go Go.RowKit Tw Av
def fD (a b c:UInt8):Nat:=(a.toNat*256+b.toNat)*256+c.toNat
theorem TG (a b c:UInt8):fD a b c<16777216:=by
 have h1:=a.toNat_lt;have h2:=b.toNat_lt;have h3:=c.toNat_lt;unfold fD;omega
def bO (c most:Int)(b:Bool):Bs->Option (Bs × Bs)
 | s0::s1::s2::s3::r=>if b=false/\(s0.toNat:Int)=c/\(fD s1 s2 s3:Int)<=most/\fD s1 s2 s3<=r.length then some (r.take (fD s1 s2 s3),r.drop (fD s1 s2 s3)) else none
 | _=>none
def I7 (c most:Int)(s:Bs)(b:Bool):Bs:=((bO c most b s).map (·.1)).getD []
def l9 (c most:Int)(s:Bs)(b:Bool):Bs:=((bO c most b s).map (·.2)).getD s
def F8 (c most:Int)(s:Bs)(b:Bool):Bool:=(bO c most b s).isNone
def numOf (l:Bs):Nat:=l.foldl (λn c=>n*256+c.toNat) 0
def nM (l:Bs):Bool:=decide (l.head?=some 0)
def vU (c:Int)(s:Bs)(b:Bool):Nat:=if nM (I7 c 8 s b)=true then 0 else numOf (I7 c 8 s b)
def uG (c:Int)(s:Bs)(b:Bool):Bool:=F8 c 8 s b || nM (I7 c 8 s b)
def N7 (c most:Int)(s:Bs)(b:Bool):Int:=if most<(vU c s b:Int) then 0 else vU c s b
def O1 (c most:Int)(s:Bs)(b:Bool):Bool:=uG c s b || decide (most<(vU c s b:Int))
def jW (c most:Int):Nat->Bs->Bool->List Bs × Bool
 | 0,_,b=>([],b)
 | f+1,s,b=>if b=true\/s=[] then ([],b) else (I7 c most s b::(jW c most f (l9 c most s b) (F8 c most s b)).1,(jW c most f (l9 c most s b) (F8 c most s b)).2)
def IC (c most:Int)(x:Bs):List Bs × Bool:=jW c most (x.length+1) x false
def BR (b1:Bool)(r:List Bs × Bool)(many:Int):Bool:=b1 || (r.2 || decide (many<(r.1.length:Int)))
def FQ (b1:Bool)(r:List Bs × Bool)(many:Int):List Bs:=if BR b1 r many=true then [] else r.1
def eY (c many most:Int)(s:Bs)(b:Bool):Bool:=BR (F8 c 16777215 s b) (IC c most (I7 c 16777215 s b)) many
def kM (c many most:Int)(s:Bs)(b:Bool):List Bs:=FQ (F8 c 16777215 s b) (IC c most (I7 c 16777215 s b)) many
def X6 (s:Bs)(b:Bool):Int:=if b=true\/s≠[] then 10 else 0
abbrev H5 (s:Bs)(b:Bool):AV:=.agg 2 [str s,d9 b]
theorem aU (c most:Int)(s:Bs)(b:Bool):(l9 c most s b).length<=s.length/\(I7 c most s b).length<=s.length:=by
 unfold l9 I7 bO;split
 ·split
  ·simp;omega
  simp
 simp
theorem CP (c most:Int)(s:Bs)(b:Bool):(I7 c most s b).length<16777216/\(0<=most->((I7 c most s b).length:Int)<=most):=by
 unfold I7 bO;split
 ·rename_i s0 s1 s2 s3 r;have:=TG s1 s2 s3;split
  ·rename_i h;simp;omega
  simp
 simp
theorem XD {c most:Int}{s:Bs}{b:Bool}(h:F8 c most s b=false):(l9 c most s b).length<s.length:=by
 unfold F8 l9 bO at *;split at h
 ·split
  ·simp;omega
  rename_i h1;rw[if_neg h1] at h;simp at h
 simp at h
theorem CY (c most:Int)(s:Bs):bO c most true s=none:=by
 unfold bO;split
 ·rw[if_neg sm]
 rfl
theorem NV (l:Bs)(c:UInt8):numOf (l++[c])=numOf l*256+c.toNat:=by simp[numOf]
theorem Ot:∀ (n:Nat) (l:Bs),l.length=n->numOf l<256 ^ n
 | 0,l,h=>by
  rw[List.eq_nil_of_length_eq_zero h];decide
 | n+1,l,h=>by
  have hne:l≠[]:=by rintro rfl;simp at h
  rw[<- List.dropLast_concat_getLast hne,NV];have h1:=Ot n l.dropLast (by simp[h]);have h2:=(l.getLast hne).toNat_lt;rw[Nat.pow_succ];omega
theorem Oq {l:Bs}{i:Nat}(h:i<l.length):numOf (l.take (i+1))=numOf (l.take i)*256+l[i].toNat:=by
 rw[List.take_succ_eq_append_getElem h,NV]
theorem NW {l:Bs}(h:l.length<=8):numOf l<18446744073709551616:=by
 have h1:=Ot _ l rfl;have h2:256 ^ l.length<=256 ^ 8:=Nat.pow_le_pow_right dc h;omega
theorem TH (a:UInt8)(l:Bs):nM (a::l)=decide (a=0):=by simp[nM]
theorem Oo:∀ (n:Nat) (l:Bs),l.length=n->nM l=false->numOf l=0->l=[]
 | 0,l,h,_,_=>List.eq_nil_of_length_eq_zero h
 | n+1,l,h,h1,h2=>by
  have hne:l≠[]:=by rintro rfl;simp at h
  rw[<- List.dropLast_concat_getLast hne,NV] at h2;rw[<- List.dropLast_concat_getLast hne] at h1;have h3:numOf l.dropLast=0:=by omega
  have h4:(l.getLast hne).toNat=0:=om
  have h5:l.getLast hne=0:=UInt8.toNat.inj h4;cases hd:l.dropLast with
  | nil=>
   rw[hd,h5] at h1;simp[nM] at h1
  | cons a r=>
   have h6:=Oo n l.dropLast (by simp[h]) (by rw[hd];rw[hd] at h1;simpa[nM] using h1) h3;rw[hd] at h6;cases h6
theorem Vu:∀ (f:Nat) (l:Bs),l.length<=f->nM l=false->aM f (numOf l)=l
 | 0,l,h,_=>by
  rw[List.eq_nil_of_length_eq_zero (by omega:l.length=0)];rfl
 | f+1,l,h,h1=>by
  by_cases hne:l=[]
  ·subst hne;rfl
  have hnz:numOf l≠0:=λh0=>hne (Oo _ l rfl h1 h0);have e:=List.dropLast_concat_getLast hne;have h2:=(l.getLast hne).toNat_lt;have e1:numOf l=numOf l.dropLast*256+(l.getLast hne).toNat:=by rw[<- NV,e]
  rw[aM,if_neg hnz,show numOf l / 256=numOf l.dropLast by omega];rw[Vu f l.dropLast (by simp;omega) (by
   cases hd:l.dropLast with
   | nil=>rfl
   | cons a r=>rw[<- e,hd] at h1;simpa[nM] using h1)]
  have h3:UInt8.ofNat (numOf l)=l.getLast hne:=by
   apply UInt8.toNat.inj;rw[UInt8.toNat_ofNat',e1];omega
  rw[h3,e]
theorem Ci:∀ (f n:Nat),n<256 ^ f->nM (aM f n)=false
 | 0,n,_=>rfl
 | f+1,n,h=>by
  rw[aM];split
  ·rfl
  rename_i hn;have h1:=Ci f (n / 256) (by rw[Nat.pow_succ] at h;omega);cases hd:aM f (n / 256) with
  | nil=>
   have h2:n / 256=0:=by
    cases f with
    | zero=>simp at h;omega
    | succ f=>
     rw[aM] at hd;split at hd
     ·assumption
     simp at hd
   rw[List.nil_append,TH];refine dZ λh0=>hn ?_;have:=congrArg UInt8.toNat h0;rw[UInt8.toNat_ofNat'] at this;simp at this;omega
  | cons a r=>
   rw[hd] at h1;rw[List.cons_append,TH];rw[TH] at h1;exact h1
theorem a9L {l:Bs}(h:l.length<=8):(digits (numOf l)=l)↔nM l=false:=by
 constructor
 ·intro e;rw[<- e];exact Ci 8 _ (by have:=NW h;simpa using this)
 intro h1;exact Vu 8 l h h1
end Go.Proofs.Z

namespace Go.Proofs.Z
open Go Go.RowKit Tw Av Go.Proofs.Tryz
section
variable {s:Bs}
theorem yM :Av.Spec prog GL 136 [str s] [] λu m=>∃ g,u=ptr g/\m=[.var g 267 (H5 s false)]:=by
 refine zc func136 ntmps136 λ_ hs=>?_;repeat' first|refine Vz ?_|intro
 exact j4 _ ⟨_,rfl,rfl⟩ slr
instance b8e {g:Nat}{b:Bool}:AnsM prog GL 189 g [] 267 (H5 s b) True (d9 (!b)) (H5 s b):=⟨λ_=>by
 refine zc func189 ntmps189 λ_ hs=>?_;repeat' first|refine Vz ?_|intro
 exact j4 _ ⟨rfl,rfl⟩ slr⟩
instance b8f {g:Nat}{b:Bool}:AnsM prog GL 186 g [] 267 (H5 s b) True (.tup []) (H5 s true):=⟨λ_=>by
 refine zc func186 ntmps186 λ_ hs=>?_;repeat' first|refine Vz ?_|intro
 exact iV _ ⟨rfl,rfl⟩ slr⟩
def Pf (s:Bs)(b:Bool):UInt8:=if b=true then 0 else s.headD 0
def a5x (s:Bs)(b:Bool):Bool:=!b&&decide (s≠[])
instance b8c {g:Nat}{b:Bool}:AnsM prog GL 224 g [] 267 (H5 s b) True (.tup [I5 (Pf s b),d9 (a5x s b)]) (H5 s b):=⟨λ_=>by
 refine zc func224 ntmps224 λ_ hs=>?_;cases b
 ·cases s with
  | nil=>
   repeat' first|refine Yz ?_|intro
   exact j4 _ ⟨rfl,rfl⟩ slr
  | cons c s=>
   repeat' first|refine Yz ?_|intro
   exact j4 _ ⟨rfl,rfl⟩ slr
 repeat' first|refine Yz ?_|intro
 exact j4 _ ⟨rfl,rfl⟩ slr⟩
instance b8d {g:Nat}{b:Bool}:AnsM prog GL 190 g [] 267 (H5 s b) True (int (if b=true then 0 else s.length:Nat)) (H5 s b):=⟨λ_=>by
 refine zc func190 ntmps190 λ_ hs=>?_;cases b
 ·repeat' first|refine Yz ?_|intro
  exact j4 _ ⟨rfl,rfl⟩ slr
 repeat' first|refine Yz ?_|intro
 exact j4 _ ⟨rfl,rfl⟩ slr⟩
instance a4a {g:Nat}{b:Bool}:AnsM prog GL 139 g [] 267 (H5 s b) True (int (X6 s b)) (H5 s b):=⟨λ_=>by
 refine zc func139 ntmps139 λ_ hs=>?_;cases b
 ·cases s with
  | nil=>
   repeat' first|refine Yz ?_|intro
   exact j4 _ ⟨rfl,rfl⟩ slr
  | cons c s=>
   repeat' first|refine Yz ?_|intro
   exact j4 _ ⟨rfl,rfl⟩ slr
 repeat' first|refine Yz ?_|intro
 exact j4 _ ⟨rfl,rfl⟩ slr⟩
def IV (a b c:UInt8):Nat->Nat
 | 0=>0
 | 1=>0*256+a.toNat
 | 2=>(0*256+a.toNat)*256+b.toNat
 | _=>((0*256+a.toNat)*256+b.toNat)*256+c.toNat
instance a3X {g:Nat}{b:Bool}{c most:Int}:AnsM prog GL 187 g [.lit (.int .u8 c),int most] 267 (H5 s b) (s.length<=4611686018427387904) (str (I7 c most s b)) (H5 (l9 c most s b) (F8 c most s b)):=⟨λhl=>by
 refine zc func187 ntmps187 λ_ hs=>?_;cases b;rotate_left
 ·repeat' first|refine Yz ?_|intro
  refine j4 [.var g 267 (H5 s true)] ⟨?_,?_⟩ slr
  ·rw[I7,CY];rfl
  rw[l9,F8,CY];rfl
 rcases s with _|⟨s0,s⟩
 ·repeat' first|refine Yz ?_|intro
  exact j4 [.var g 267 (H5 [] true)] ⟨rfl,rfl⟩ slr
 have hn:(Pf (s0::s) false).toNat=s0.toNat:=rfl;by_cases hc:(s0.toNat:Int)=c
 rotate_left
 ·have e:bO c most false (s0::s)=none:=by
   rcases s with _|⟨s1,_|⟨s2,_|⟨s3,r⟩⟩⟩
   ·rfl
   ·rfl
   ·rfl
   rw[bO,if_neg (λh=>hc h.2.1)]
  repeat' first|refine Yz ?_|intro
  refine j4 [.var g 267 (H5 (s0::s) true)] ⟨?_,?_⟩ slr
  ·rw[I7,e];rfl
  rw[l9,F8,e];rfl
 rcases s with _|⟨s1,_|⟨s2,_|⟨s3,r⟩⟩⟩
 ·repeat' first|refine Yz ?_|intro
  exact j4 [.var g 267 (H5 [s0] true)] ⟨rfl,rfl⟩ slr
 ·repeat' first|refine Yz ?_|intro
  exact j4 [.var g 267 (H5 [s0,s1] true)] ⟨rfl,rfl⟩ slr
 ·repeat' first|refine Yz ?_|intro
  exact j4 [.var g 267 (H5 [s0,s1,s2] true)] ⟨rfl,rfl⟩ slr
 have hlen:(s0::s1::s2::s3::r).length=r.length+4:=rfl;have q1:=s1.toNat_lt;have q2:=s2.toNat_lt;have q3:=s3.toNat_lt;repeat' first|refine Yz ?_|intro
 refine dG 1 4 ?_;repeat' first|refine Yz ?_|intro
 refine H7 (α:=Nat) (λi=>[(0,ptr g),(2,int most),(9,int (IV s1 s2 s3 i:Nat)),(40,.sl 1 [.lit (y8 s1),.lit (y8 s2),.lit (y8 s3)] none),(41,int 3),(42,int i)]) (λ_=>[.var g 267 (H5 (s0::s1::s2::s3::r) false)])
  (λi=>i<=3) (λi=>3-i) 0 za slr om ?_
 intro i hi;rcases i with _|_|_|_|i
 ·have v0:IV s1 s2 s3 0=0:=rfl;repeat' first|refine Yz ?_|intro
  exact y7 1 za slr om om
 ·have v1:IV s1 s2 s3 (0+1)=0*256+s1.toNat:=rfl;repeat' first|refine Yz ?_|intro
  exact y7 2 za slr om om
 ·have v1:IV s1 s2 s3 (0+1+1)=(0*256+s1.toNat)*256+s2.toNat:=rfl;repeat' first|refine Yz ?_|intro
  exact y7 3 za slr om om
 rotate_left
 ·exact absurd hi om
 have hv:IV s1 s2 s3 (0+1+1+1)=fD s1 s2 s3:=by simp[IV,fD]
 have hlt:=TG s1 s2 s3;have hct:bO c most false (s0::s1::s2::s3::r)=if (fD s1 s2 s3:Int)<=most/\fD s1 s2 s3<=r.length then some (r.take (fD s1 s2 s3),r.drop (fD s1 s2 s3)) else none:=by
  rw[bO];simp[hc]
 rw[hv];generalize fD s1 s2 s3=n at *;by_cases h1:(n:Int)<=most
 rotate_left
 ·have e:bO c most false (s0::s1::s2::s3::r)=none:=by rw[hct,if_neg (λh=>h1 h.1)]
  repeat' first|refine Yz ?_|intro
  refine j4 [.var g 267 (H5 (s0::s1::s2::s3::r) true)] ⟨?_,?_⟩ slr
  ·rw[I7,e];rfl
  rw[l9,F8,e];rfl
 by_cases h2:n<=r.length
 rotate_left
 ·have e:bO c most false (s0::s1::s2::s3::r)=none:=by rw[hct,if_neg (λh=>h2 h.2)]
  repeat' first|refine Yz ?_|intro
  refine j4 [.var g 267 (H5 (s0::s1::s2::s3::r) true)] ⟨?_,?_⟩ slr
  ·rw[I7,e];rfl
  rw[l9,F8,e];rfl
 have e:bO c most false (s0::s1::s2::s3::r)=some (r.take n,r.drop n):=by rw[hct,if_pos ⟨h1,h2⟩]
 repeat' first|refine Yz ?_|intro
 refine dG 4 (4+n) ?_;repeat' first|refine Yz ?_|intro
 refine dG (4+n) (r.length+4) ?_;repeat' first|refine Yz ?_|intro
 refine j4 [.var g 267 (H5 (r.drop n) false)] ⟨?_,?_⟩ ?_
 ·rw[I7,e];simp[L6,Nat.add_comm]
 ·rw[l9,F8,e];rfl
 have e2:List.drop (4+n) (List.take (r.length+4) (s0::s1::s2::s3::r))=r.drop n:=by
  rw[List.take_of_length_le sm,Nat.add_comm 4 n];simp
 rw[e2];exact List.Sublist.refl _⟩
end

theorem NC {c:Int}{s:Bs}{b:Bool}:vU c s b=if nM (I7 c 8 s b)=true then 0 else numOf (I7 c 8 s b):=rfl
theorem Ka (c:Int)(s:Bs)(b:Bool):vU c s b<18446744073709551616:=by
 rw[NC];have h:=(CP c 8 s b).2 dc;have:=NW (l:=I7 c 8 s b) om;split <;> omega
instance rdNum {g:Nat}{s:Bs}{b:Bool}{c:Int}:AnsM prog GL 185 g [.lit (.int .u8 c)] 267 (H5 s b) (s.length<=4611686018427387904) (.lit (.int .u64 (vU c s b))) (H5 (l9 c 8 s b) (uG c s b)):=⟨λhl=>by
 refine zc func185 ntmps185 λ_ hs=>?_;repeat' first|refine Yz ?_|intro
 have hx:=(CP c 8 s b).2 dc;rw[uG,NC];generalize I7 c 8 s b=x at *;refine H7 (α:=Nat) (λi=>[(0,ptr g),(5,str x),(6,.lit (.int .u64 (numOf (x.take i):Nat))),(12,int x.length),(13,int i)]) (λ_=>[.var g 267 (H5 (l9 c 8 s b) (F8 c 8 s b))])
  (λi=>i<=x.length) (λi=>x.length-i) 0 za slr om ?_
 intro i hi;repeat' first|refine Yz ?_|intro
 refine G7 (λhlt=>?_) (λhlt=>?_)
 ·have hil:i<x.length:=om
  have h1:=Oq hil;have h2:=x[i].toNat_lt;have h3:=NW (l:=x.take (i+1)) (by simp;omega);repeat' first|refine Yz ?_|intro
  refine EO i ?_ (List.getElem?_eq_getElem hil);repeat' first|refine Yz ?_|intro
  refine y7 (i+1) ⟨rfl,rfl,?_,rfl,rfl,trivial⟩ slr hil om;rw[h1];rfl
 obtain rfl:i=x.length:=by omega
 rw[List.take_length];cases x with
 | nil=>
  repeat' first|refine Yz ?_|intro
  refine j4 [.var g 267 (H5 (l9 c 8 s b) (F8 c 8 s b))] ⟨rfl,?_⟩ slr;simp[nM]
 | cons a x=>
  have ha:nM (a::x)=decide ((a.toNat:Int)=0):=by
   rw[TH];refine decide_eq_decide.2 ⟨λh=>by rw[h];rfl,λh=>UInt8.toNat.inj (by simpa using h)⟩
  rw[ha];by_cases h0:(a.toNat:Int)=0
  ·rw[dT h0];repeat' first|refine Yz ?_|intro
   refine j4 [.var g 267 (H5 (l9 c 8 s b) true)] ⟨rfl,?_⟩ slr;simp
  rw[dZ h0];repeat' first|refine Yz ?_|intro
  refine j4 [.var g 267 (H5 (l9 c 8 s b) (F8 c 8 s b))] ⟨rfl,?_⟩ slr;simp⟩
instance a3Z {g:Nat}{s:Bs}{b:Bool}{c most:Int}:AnsM prog GL 137 g [.lit (.int .u8 c),int most] 267 (H5 s b) (s.length<=4611686018427387904/\0<=most/\most<=9223372036854775807) (int (N7 c most s b)) (H5 (l9 c 8 s b) (O1 c most s b)):=⟨λhp=>by
 obtain⟨hl,h0,h1⟩:=hp;refine zc func137 ntmps137 λ_ hs=>?_;repeat' first|refine Yz ?_|intro
 have hx:=Ka c s b;rw[N7,O1];generalize vU c s b=n at *;by_cases h:most<(n:Int)
 ·rw[if_pos h,dT h];repeat' first|refine Yz ?_|intro
  refine j4 [.var g 267 (H5 (l9 c 8 s b) true)] ⟨rfl,?_⟩ slr;simp
 rw[if_neg h,dZ h];repeat' first|refine Yz ?_|intro
 refine j4 [.var g 267 (H5 (l9 c 8 s b) (uG c s b))] ⟨rfl,?_⟩ slr;simp⟩

section
variable {most:Int}{s:Bs}
theorem b1R {go gi gr gl gm:Nat}{acc:List Bs}{v:Value}{b:Bool}{c:Int}(hl:s.length<=4611686018427387904)(hn:acc.length<=1000000000):Av.Spec prog GL 188 [ptr go,ptr gi,ptr gl,ptr gm]
  [.tail 9 1 v,.var go 109 (.sl 1 (acc.map str) (some v)),.var gi 221 (ptr gr),.var gr 267 (H5 s b),.var gm 3 (int most),.var gl 5 (.lit (.int .u8 c))]
  λu m=>∃ v',u=d9 (!F8 c most s b)/\m=[.tail 9 1 v',.var go 109 (.sl 1 ((acc++[I7 c most s b]).map str) (some v')),.var gi 221 (ptr gr),.var gr 267 (H5 (l9 c most s b) (F8 c most s b)),.var gm 3 (int most),.var gl 5 (.lit (.int .u8 c))]:=by
 refine zc func188 ntmps188 λ_ hs=>?_;repeat' first|refine Yz ?_|intro
 apply aH [0];exact rfl;exact rfl;exact rfl;kernel_rfl;intro _ _;refine aP (λv'=>?_);refine j5 (W9 [.tail 9 1 v'] [] rfl rfl lpr rfl ?_);repeat' first|refine Yz ?_|intro
 refine j4 _ ⟨v',rfl,rfl⟩ ?_;rw[List.map_append];exact List.Sublist.refl _
theorem Dt {c:Int}{f:Nat}:jW c most (f+1) [] false=([],false):=by rw[jW,if_pos (.inr rfl)]
theorem Zh {c:Int}:∀ {f:Nat} {s:Bs},jW c most f s true=([],true)
 | 0,_=>rfl
 | f+1,s=>by rw[jW,if_pos (.inl rfl)]
theorem Zg {c:Int}{f:Nat}{a:UInt8}:jW c most (f+1) (a::s) false=(I7 c most (a::s) false::(jW c most f (l9 c most (a::s) false) (F8 c most (a::s) false)).1,(jW c most f (l9 c most (a::s) false) (F8 c most (a::s) false)).2):=by rw[jW,if_neg sm]
instance b8h {g:Nat}{b:Bool}{c many:Int}:AnsM prog GL 138 g [.lit (.int .u8 c),int many,int most] 267 (H5 s b) (s.length<=1000000000) (.sl 1 ((kM c many most s b).map str) none) (H5 (l9 c 16777215 s b) (eY c many most s b)):=⟨λhl=>by
 refine zc func138 ntmps138 λ_ hs=>?_;repeat' first|refine Yz ?_|intro
 have hx:=(CP c 16777215 s b).1;have hx2:=(aU c 16777215 s b).1;rw[kM,eY];generalize I7 c 16777215 s b=x at *;generalize l9 c 16777215 s b=s1 at *;generalize F8 c 16777215 s b=b1 at *;refine J6 (args:=[str x]) [] _ (by rw[hs];exact yM) (λu m1 hh=>?_) lpr;obtain⟨gr,rfl,rfl⟩:=hh;repeat' first|refine Yz ?_|intro
 rename_i gl gm gi go;refine Z0 (vs:=[.pointer (some ⟨go,0,none⟩),.pointer (some ⟨gi,0,none⟩),.pointer (some ⟨gl,0,none⟩),.pointer (some ⟨gm,0,none⟩)]) ?_;repeat' first|refine Yz ?_|intro
 generalize hX:IC c most x=X at *;refine jK (g:=go) (v':=.sl 1 [] (some (.slice none 0 0))) ImpC.nilT ?_;refine eO (λok w h=>h.full 9 1 none 0) ?_;refine sO (α:=Value) (λ_=>[(0,ptr g),(2,int many),(10,ptr go)]) (λv=>[.tail 9 1 v,.var go 109 (.sl 1 (X.1.map str) (some v)),.var g 267 (H5 s1 (b1 || X.2))]) ?_ (λv=>?_)
 focus
  refine H7 (α:=List Bs × Value × Bs × Nat) (λ_=>[(0,ptr g),(2,int many),(9,ptr gi),(10,ptr go),(11,F3 188 [.pointer (some ⟨go,0,none⟩),.pointer (some ⟨gi,0,none⟩),.pointer (some ⟨gl,0,none⟩),.pointer (some ⟨gm,0,none⟩)])])
   (λq=>[.tail 9 1 q.2.1,.var go 109 (.sl 1 (q.1.map str) (some q.2.1)),.var gi 221 (ptr gr),.var gr 267 (H5 q.2.2.1 false),.var gm 3 (int most),.var gl 5 (.lit (.int .u8 c)),.var g 267 (H5 s1 b1)])
   (λq=>X=(q.1++(jW c most q.2.2.2 q.2.2.1 false).1,(jW c most q.2.2.2 q.2.2.1 false).2)/\q.2.2.1.length<q.2.2.2/\q.1.length+q.2.2.1.length<=x.length) (λq=>q.2.2.2) ([],.slice none 0 0,x,x.length+1) za slr ⟨hX.symm,by dsimp only;omega,sm⟩ ?_
  rintro⟨acc,v,s2,f⟩ ⟨e1,e2,e3⟩;dsimp only at e1 e2 e3 ⊢;rcases f with _|f
  focus
   omega
  cases s2 with
  | nil=>
   rw[Dt,List.append_nil] at e1;subst e1;repeat' first|refine Yz ?_|intro
   refine P9 v za ?_;rw[Bool.or_false];exact A8
  | cons a s2=>
   have hl2:(if false=true then 0 else (a::s2).length)=s2.length+1:=rfl;repeat' first|refine Yz ?_|intro
   refine gX (args:=[]) (cs:=[.pointer (some ⟨go,0,none⟩),.pointer (some ⟨gi,0,none⟩),.pointer (some ⟨gl,0,none⟩),.pointer (some ⟨gm,0,none⟩)])
    [.tail 9 1 v,.var go 109 (.sl 1 (acc.map str) (some v)),.var gi 221 (ptr gr),.var gr 267 (H5 (a::s2) false),.var gm 3 (int most),.var gl 5 (.lit (.int .u8 c))] [.var g 267 (H5 s1 b1)]
    (by rw[hs];exact b1R om om) (λu m1 hh=>?_) lpr
   obtain⟨v',rfl,rfl⟩:=hh;rw[Zg] at e1;have hle:=(aU c most (a::s2) false).1;have hlt:=XD (c:=c) (most:=most) (s:=a::s2) (b:=false);generalize I7 c most (a::s2) false=x' at *;generalize l9 c most (a::s2) false=s3 at *;cases hb:F8 c most (a::s2) false
   ·have hlt:=hlt hb;rw[hb] at e1;repeat' first|refine Yz ?_|intro
    refine y7 (acc++[x'],v',s3,f) za slr ⟨?_,by dsimp only;omega,by simp only[List.length_append,List.length_cons,List.length_nil];omega⟩ (by dsimp only;omega);simpa using e1
   rw[hb,Zh] at e1;subst e1;repeat' first|refine Yz ?_|intro
   refine P9 v' za ?_;rw[Bool.or_true];exact A8
 focus
  have hml:(X.1.map str).length=X.1.length:=llm _;unfold FQ BR;by_cases hm:many<(X.1.length:Int)
  ·rw[dT hm,Bool.or_true,Bool.or_true,if_pos rfl];repeat' first|refine Yz ?_|intro
   refine Y1 (.sl 1 [] none) [.var g 267 (H5 s1 true)] ?_ ⟨rfl,rfl⟩ ?_
   focus
    exact Imp.nilN
   exact A8
  rw[dZ hm,Bool.or_false];cases hb:(b1 || X.2)
  ·repeat' first|refine Yz ?_|intro
   refine Y1 (.sl 1 (X.1.map str) none) [.var g 267 (H5 s1 false)] ?_ ⟨rfl,rfl⟩ ?_
   focus
    exact Imp.sl
   exact A8
  repeat' first|refine Yz ?_|intro
  refine Y1 (.sl 1 [] none) [.var g 267 (H5 s1 true)] ?_ ⟨rfl,rfl⟩ ?_
  focus
   exact Imp.nilN
  exact zb⟩
end

def dK (x:Ent):Hsh:=yY [[76],r9 107 x.key,r9 118 x.val]
def yZ (a b:Hsh):Hsh:=yY [[78],a.l,b.l]
def CF (n:Int)(h:Hsh):Hsh:=yY [[84],y9 110 n,h.l]
instance c1b {a b:Bs}:Ans prog GL 268 [.agg 2 [str a,str b]] True (hA (dK ⟨a,b⟩)):=⟨λ_=>by
 refine zc func268 ntmps268 λ_ hs=>?_;exact jY⟩
instance c0S {a b:Hsh}:Ans prog GL 266 [hA a,hA b] True (hA (yZ a b)):=⟨λ_=>by
 refine zc func266 ntmps266 λ_ hs=>?_;exact jY⟩
instance b9p {n:Int}{h:Hsh}:Ans prog GL 235 [int n,hA h] (n<=9223372036854775807) (hA (CF n h)):=⟨λhn=>by
 refine zc func235 ntmps235 λ_ hs=>?_;exact jY⟩

instance c0h {c:Int}{s:Bs}:Ans prog GL 80 [.lit (.int .u8 c),str s] True (str (r9 c s)):=⟨λ_=>by
 refine zc func80 ntmps80 λ_ hs=>?_;repeat' first|refine Wz ?_|intro
 refine G7 (λhl=>?_) (λhl=>?_)
 ·repeat' first|refine Wz ?_|intro
  have hb:(s.take 16777215).drop 0=s.take gQ:=rfl;have hlen:(s.take gQ).length=16777215:=by simp[gQ];omega
  refine dG 0 16777215 ?_;rw[hb];repeat' first|refine Wz ?_|intro
  refine x9 ?_;exact congrArg str (WI c s _ rfl)
 repeat' first|refine Wz ?_|intro
 refine x9 ?_;have hb:s.take gQ=s:=List.take_of_length_le (by simp[gQ];omega);have:=WI c s s.length (by rw[hb]);rw[hb] at this;exact congrArg str this⟩

instance c0o {n:Nat}:Ans prog GL 178 [.lit (.int .u64 n)] (n<18446744073709551616) (str (Tw.digits n)):=⟨λhn=>by
 refine zc func178 ntmps178 λ_ hs=>?_;repeat' first|refine Wz ?_|intro
 refine H7 (α:=Nat × Nat × Bs) (λq=>[(0,.lit (.int .u64 q.2.1)),(3,str q.2.2)]) (λ_=>[]) (λq=>q.2.1<256 ^ q.1/\q.2.2.length+q.1<=8/\aM q.1 q.2.1++q.2.2=Tw.digits n) (λq=>q.1) (8,n,[]) za slr ⟨by simpa using hn,sm,by simp[Tw.digits]⟩ ?_;rintro⟨f,k,s⟩ ⟨g1,g2,g3⟩;dsimp only at g1 g2 g3 ⊢;repeat' first|refine Wz ?_|intro
 refine G7 (λhlt=>?_) (λhlt=>?_)
 ·obtain⟨f,rfl⟩:∃ f',f=f'+1:=⟨f-1,by
   rcases Nat.eq_zero_or_pos f with h|h
   ·subst h;simp at g1;omega
   omega⟩
  have h0:k≠0:=om
  rw[aM,if_neg h0,laa] at g3;have hk:k<18446744073709551616:=by
   have:256 ^ (f+1)<=256 ^ 8:=Nat.pow_le_pow_right om om;omega
  repeat' first|refine Wz ?_|intro
  rw[MK k];refine Et (h2:=by intro c _ _;rw[IntKind.wrap_u64];omega) ?_;repeat' first|refine Wz ?_|intro
  have hq:(k:Int) / 256=((k / 256:Nat):Int):=om
  rw[hq];exact y7 (f,k / 256,[UInt8.ofNat k]++s) za slr ⟨by simp only;rw[Nat.pow_succ] at g1;omega,by simp only[List.length_append,List.length_singleton];omega,by simpa using g3⟩ (Nat.lt_succ_self f)
 have h0:k=0:=om
 subst h0;have:aM f 0=[]:=by cases f <;> simp[aM]
 rw[this,List.nil_append] at g3;subst g3;exact jY⟩
end Go.Proofs.Z

namespace Go.Proofs.Z
open Go Go.RowKit Tw Av
attribute [local irreducible] Av.Obl
end Go.Proofs.Z

namespace Go.Proofs.Z
open Go Go.RowKit Tw Av Go.Proofs.Tryz
section
variable {s:Bs}{most:Int}
instance a3y {g:Nat}{b:Bool}:AnsM prog GL 86 g [] 148 (H5 s b) True (int (X6 s b)) (H5 s b):=⟨λ_=>by
 refine zc func86 ntmps86 λ_ hs=>?_;cases b
 ·cases s with
  | nil=>
   repeat' first|refine Yz ?_|intro
   exact j4 _ ⟨rfl,rfl⟩ slr
  | cons c s=>
   repeat' first|refine Yz ?_|intro
   exact j4 _ ⟨rfl,rfl⟩ slr
 repeat' first|refine Yz ?_|intro
 exact j4 _ ⟨rfl,rfl⟩ slr⟩
instance a3w {g:Nat}{b:Bool}{c:Int}:AnsM prog GL 82 g [.lit (.int .u8 c),int most] 148 (H5 s b) (s.length<=4611686018427387904) (str (I7 c most s b)) (H5 (l9 c most s b) (F8 c most s b)):=⟨λhl=>by
 refine zc func82 ntmps82 λ_ hs=>?_;cases b;rotate_left
 ·repeat' first|refine Yz ?_|intro
  refine j4 [.var g 148 (H5 s true)] ⟨?_,?_⟩ slr
  ·rw[I7,CY];rfl
  rw[l9,F8,CY];rfl
 rcases s with _|⟨s0,_|⟨s1,_|⟨s2,_|⟨s3,r⟩⟩⟩⟩
 ·repeat' first|refine Yz ?_|intro
  exact j4 [.var g 148 (H5 [] true)] ⟨rfl,rfl⟩ slr
 ·repeat' first|refine Yz ?_|intro
  exact j4 [.var g 148 (H5 [s0] true)] ⟨rfl,rfl⟩ slr
 ·repeat' first|refine Yz ?_|intro
  exact j4 [.var g 148 (H5 [s0,s1] true)] ⟨rfl,rfl⟩ slr
 ·repeat' first|refine Yz ?_|intro
  exact j4 [.var g 148 (H5 [s0,s1,s2] true)] ⟨rfl,rfl⟩ slr
 have hlen:(s0::s1::s2::s3::r).length=r.length+4:=rfl;have q1:=s1.toNat_lt;have q2:=s2.toNat_lt;have q3:=s3.toNat_lt;by_cases hc:(s0.toNat:Int)=c
 rotate_left
 ·have e:bO c most false (s0::s1::s2::s3::r)=none:=by rw[bO,if_neg (λh=>hc h.2.1)]
  repeat' first|refine Yz ?_|intro
  refine j4 [.var g 148 (H5 (s0::s1::s2::s3::r) true)] ⟨?_,?_⟩ slr
  ·rw[I7,e];rfl
  rw[l9,F8,e];rfl
 have hv:(s1.toNat:Int)*65536+(s2.toNat:Int)*256+(s3.toNat:Int)=(fD s1 s2 s3:Nat):=by simp[fD];omega
 have hlt:=TG s1 s2 s3;have hct:bO c most false (s0::s1::s2::s3::r)=if (fD s1 s2 s3:Int)<=most/\fD s1 s2 s3<=r.length then some (r.take (fD s1 s2 s3),r.drop (fD s1 s2 s3)) else none:=by
  rw[bO];simp[hc]
 repeat' first|refine Yz ?_|intro
 rw[hv];generalize fD s1 s2 s3=n at *;by_cases h1:(n:Int)<=most
 rotate_left
 ·have e:bO c most false (s0::s1::s2::s3::r)=none:=by rw[hct,if_neg (λh=>h1 h.1)]
  repeat' first|refine Yz ?_|intro
  refine j4 [.var g 148 (H5 (s0::s1::s2::s3::r) true)] ⟨?_,?_⟩ slr
  ·rw[I7,e];rfl
  rw[l9,F8,e];rfl
 by_cases h2:n<=r.length
 rotate_left
 ·have e:bO c most false (s0::s1::s2::s3::r)=none:=by rw[hct,if_neg (λh=>h2 h.2)]
  repeat' first|refine Yz ?_|intro
  refine j4 [.var g 148 (H5 (s0::s1::s2::s3::r) true)] ⟨?_,?_⟩ slr
  ·rw[I7,e];rfl
  rw[l9,F8,e];rfl
 have e:bO c most false (s0::s1::s2::s3::r)=some (r.take n,r.drop n):=by rw[hct,if_pos ⟨h1,h2⟩]
 repeat' first|refine Yz ?_|intro
 refine dG 4 (4+n) ?_;repeat' first|refine Yz ?_|intro
 refine dG (4+n) (r.length+4) ?_;repeat' first|refine Yz ?_|intro
 refine j4 [.var g 148 (H5 (r.drop n) false)] ⟨?_,?_⟩ ?_
 ·rw[I7,e];simp[L6,Nat.add_comm]
 ·rw[l9,F8,e];rfl
 have e2:List.drop (4+n) (List.take (r.length+4) (s0::s1::s2::s3::r))=r.drop n:=by
  rw[List.take_of_length_le sm,Nat.add_comm 4 n];simp
 rw[e2];exact List.Sublist.refl _⟩
instance b7Z {g:Nat}{b:Bool}{c:Int}:AnsM prog GL 116 g [.lit (.int .u8 c)] 148 (H5 s b) (s.length<=4611686018427387904) (.lit (.int .u64 (vU c s b))) (H5 (l9 c 8 s b) (uG c s b)):=⟨λhl=>by
 refine zc func116 ntmps116 λ_ hs=>?_;repeat' first|refine Yz ?_|intro
 have hx:=(CP c 8 s b).2 dc;rw[uG,NC];generalize I7 c 8 s b=x at *;refine H7 (α:=Nat) (λi=>[(0,ptr g),(5,str x),(6,.lit (.int .u64 (numOf (x.take i):Nat))),(7,int i)]) (λ_=>[.var g 148 (H5 (l9 c 8 s b) (F8 c 8 s b))])
  (λi=>i<=x.length) (λi=>x.length-i) 0 za slr om ?_
 intro i hi;repeat' first|refine Yz ?_|intro
 refine G7 (λhlt=>?_) (λhlt=>?_)
 ·have hil:i<x.length:=om
  have h1:=Oq hil;have h2:=x[i].toNat_lt;have h3:=NW (l:=x.take (i+1)) (by simp;omega);repeat' first|refine Yz ?_|intro
  refine EO i ?_ (List.getElem?_eq_getElem hil);repeat' first|refine Yz ?_|intro
  refine y7 (i+1) ⟨rfl,rfl,?_,rfl,trivial⟩ slr hil om;rw[h1];rfl
 obtain rfl:i=x.length:=by omega
 rw[List.take_length];have hdg:=a9L (l:=x) om;have hns:=NW (l:=x) om;repeat' first|refine Yz ?_|intro
 cases h0:nM x
 ·have e:=hdg.2 h0;refine G7 (λh=>absurd e h) (λ_=>?_);repeat' first|refine Yz ?_|intro
  refine j4 [.var g 148 (H5 (l9 c 8 s b) (F8 c 8 s b))] ⟨rfl,?_⟩ slr;simp
 refine G7 (λ_=>?_) (λh=>?_);rotate_left
 ·exact absurd (hdg.1 (Classical.not_not.1 h)) (by rw[h0];simp)
 repeat' first|refine Yz ?_|intro
 refine j4 [.var g 148 (H5 (l9 c 8 s b) true)] ⟨rfl,?_⟩ slr;simp⟩
theorem a3E {c:Int}{b:Bool}(h:uG c s b=true):vU c s b=0:=by
 rw[NC];unfold uG at h;rcases Bool.or_eq_true_iff.1 h with h|h
 ·have:I7 c 8 s b=[]:=by
   unfold F8 at h;rw[I7,Option.isNone_iff_eq_none.1 h];rfl
  rw[this];rfl
 rw[if_pos h]
instance a3x {g:Nat}{b:Bool}{c:Int}:AnsM prog GL 81 g [.lit (.int .u8 c),int most] 148 (H5 s b) (s.length<=4611686018427387904/\0<=most/\most<=9223372036854775807) (int (N7 c most s b)) (H5 (l9 c 8 s b) (O1 c most s b)):=⟨λhp=>by
 obtain⟨hl,h0,h1⟩:=hp;refine zc func81 ntmps81 λ_ hs=>?_;repeat' first|refine Yz ?_|intro
 have hx:=Ka c s b;have hz:=a3E (c:=c) (s:=s) (b:=b);rw[N7,O1];generalize vU c s b=n at *;by_cases h:most<(n:Int)
 ·rw[if_pos h,dT h];repeat' first|refine Yz ?_|intro
  refine j4 [.var g 148 (H5 (l9 c 8 s b) true)] ⟨rfl,?_⟩ slr;simp
 rw[if_neg h,dZ h];cases hb:uG c s b
 ·repeat' first|refine Yz ?_|intro
  refine j4 [.var g 148 (H5 (l9 c 8 s b) false)] ⟨rfl,?_⟩ slr;simp
 obtain rfl:=hz hb;repeat' first|refine Yz ?_|intro
 refine j4 [.var g 148 (H5 (l9 c 8 s b) true)] ⟨rfl,?_⟩ slr;simp⟩
theorem XC {c:Int}{b:Bool}:I7 c 16777216 s b=I7 c 16777215 s b/\l9 c 16777216 s b=l9 c 16777215 s b/\F8 c 16777216 s b=F8 c 16777215 s b:=by
 have h:bO c 16777216 b s=bO c 16777215 b s:=by
  unfold bO;split
  ·rename_i s0 s1 s2 s3 r;have:=TG s1 s2 s3;by_cases h1:b=false/\(s0.toNat:Int)=c/\fD s1 s2 s3<=r.length
   ·rw[if_pos ⟨h1.1,h1.2.1,om,h1.2.2⟩,if_pos ⟨h1.1,h1.2.1,om,h1.2.2⟩]
   rw[if_neg (λh=>h1 ⟨h.1,h.2.1,h.2.2.2⟩),if_neg (λh=>h1 ⟨h.1,h.2.1,h.2.2.2⟩)]
  rfl
 unfold I7 l9 F8;rw[h];exact⟨rfl,rfl,rfl⟩
instance b8b {g:Nat}{b:Bool}{c many:Int}:AnsM prog GL 90 g [.lit (.int .u8 c),int many,int most] 148 (H5 s b) (s.length<=1000000000) (.sl 1 ((kM c many most s b).map str) none) (H5 (l9 c 16777215 s b) (eY c many most s b)):=⟨λhl=>by
 refine zc func90 ntmps90 λ_ hs=>?_;repeat' first|refine Yz ?_|intro
 rw[XC.1,XC.2.1,XC.2.2];have hx:=(CP c 16777215 s b).1;have hx2:=(aU c 16777215 s b).1;rw[kM,eY];generalize I7 c 16777215 s b=x at *;generalize l9 c 16777215 s b=s1 at *;generalize F8 c 16777215 s b=b1 at *;generalize hX:IC c most x=X at *;rename_i gr;refine sP 10 (Imp.nil (k:=1)) ?_;refine eO (λok w h=>h.full 9 1 none 0) ?_;refine sO (α:=Value × Bs) (λq=>[(0,ptr g),(2,int many),(9,ptr gr),(10,.sl 1 (X.1.map str) (some q.1))]) (λq=>[.tail 9 1 q.1,.var gr 148 (H5 q.2 X.2),.var g 148 (H5 s1 b1)]) ?_ (λq=>?_);rotate_left
 ·rcases q with⟨v,s2⟩
  dsimp only;have hml:(X.1.map str).length=X.1.length:=llm _;unfold FQ BR;cases hq:X.2
  ·by_cases hm:many<(X.1.length:Int)
   ·rw[dT hm,Bool.or_true,Bool.or_true,if_pos rfl];repeat' first|refine Yz ?_|intro
    refine Y1 (.sl 1 [] none) [.var g 148 (H5 s1 true)] ?_ ⟨rfl,rfl⟩ ?_
    focus
     exact Imp.nilN
    exact A8
   rw[dZ hm,Bool.or_false,Bool.or_false];cases b1
   ·repeat' first|refine Yz ?_|intro
    refine Y1 (.sl 1 (X.1.map str) none) [.var g 148 (H5 s1 false)] ?_ ⟨rfl,rfl⟩ ?_
    focus
     exact Imp.sl
    exact A8
   repeat' first|refine Yz ?_|intro
   refine Y1 (.sl 1 [] none) [.var g 148 (H5 s1 true)] ?_ ⟨rfl,rfl⟩ ?_
   focus
    exact Imp.nilN
   exact A8
  rw[Bool.true_or,Bool.or_true,if_pos rfl];repeat' first|refine Yz ?_|intro
  refine Y1 (.sl 1 [] none) [.var g 148 (H5 s1 true)] ?_ ⟨rfl,rfl⟩ ?_
  focus
   exact Imp.nilN
  exact A8
 refine H7 (α:=List Bs × Value × Bs × Bool × Nat) (λq=>[(0,ptr g),(1,.lit (.int .u8 c)),(2,int many),(3,int most),(9,ptr gr),(10,.sl 1 (q.1.map str) (some q.2.1))])
   (λq=>[.tail 9 1 q.2.1,.var gr 148 (H5 q.2.2.1 q.2.2.2.1),.var g 148 (H5 s1 b1)])
   (λq=>X=(q.1++(jW c most q.2.2.2.2 q.2.2.1 q.2.2.2.1).1,(jW c most q.2.2.2.2 q.2.2.1 q.2.2.2.1).2)/\(q.2.2.2.1=false->q.2.2.1.length<q.2.2.2.2)/\(q.2.2.2.1=false->q.1.length+q.2.2.1.length<=x.length)/\q.1.length<=x.length) (λq=>q.2.2.2.2) ([],.slice none 0 0,x,false,x.length+1) za slr ⟨hX.symm,λ_=>by dsimp only;omega,λ_=>by simp,sm⟩ ?_
 rintro⟨acc,v,s2,b2,f⟩ ⟨e1,e2,e3,e4⟩;dsimp only at e1 e2 e3 e4 ⊢;cases b2;rotate_left
 ·rw[Zh,List.append_nil] at e1;subst e1;cases s2 with
  | nil=>
   repeat' first|refine Yz ?_|intro
   refine P9 (v,[]) za ?_;exact A8
  | cons a s2=>
   repeat' first|refine Yz ?_|intro
   refine P9 (v,a::s2) za ?_;exact A8
 have e2:=e2 rfl;have e3:=e3 rfl;rcases f with _|f
 ·omega
 cases s2 with
 | nil=>
  rw[Dt,List.append_nil] at e1;subst e1;repeat' first|refine Yz ?_|intro
  refine P9 (v,[]) za ?_;exact A8
 | cons a s2=>
  rw[Zg] at e1;have hle:=(aU c most (a::s2) false).1;have hlt:=XD (c:=c) (most:=most) (s:=a::s2) (b:=false);have hl3:(a::s2).length=s2.length+1:=rfl;have hma:(acc.map str).length=acc.length:=llm _;repeat' first|refine Yz ?_|intro
  refine aP (λv'=>?_);repeat' first|refine Yz ?_|intro
  refine y7 (acc++[I7 c most (a::s2) false],v',l9 c most (a::s2) false,F8 c most (a::s2) false,f) ⟨rfl,rfl,rfl,rfl,rfl,?_,trivial⟩ slr ⟨by simpa using e1,λh=>?_,λh=>?_,?_⟩ (by dsimp only;omega)
  ·rw[List.map_append];rfl
  ·have:=hlt h;dsimp only;omega
  ·have:=hlt h;simp only[List.length_append,List.length_cons,List.length_nil] at *;omega
  simp only[List.length_append,List.length_cons,List.length_nil] at *;omega⟩
end

theorem WL:prog.underlying 209=some (.pointer 211):=by kernel_rfl
theorem Hl:prog.underlying 297=some .unsafePointer:=by kernel_rfl
theorem tUS:(prog.info? 211).map (·.size)=some 2:=by kernel_rfl
theorem tUL:liesAt prog prog.depth 211 (2 / prog.cellsOf 211) 0 211 1=true:=by kernel_rfl
theorem tUP:prog.underlying 262=some (.pointer 5):=by kernel_rfl
theorem tUC:prog.cellsOf 5=1:=by kernel_rfl
def Bld (g:Nat)(l:Bs)(m:List Av.Piece):Prop:=∃ p:Option Addr,(p=none\/p=some ⟨g,0,none⟩)/\((l=[]/\m=[.var g 211 (.agg 2 [.lit (.pointer p),K5])]) \/
 ∃ g' c,l≠[]/\l.length<=c/\m=[.var g 211 (.agg 2 [.lit (.pointer p),.lit (.slice (some ⟨g',0,none⟩) l.length c)]),.buf g' 5 1 (nQ l) c])
theorem Xw {g:Nat}{p:Option Addr}{v:AV}(hp:p=none\/p=some ⟨g,0,none⟩)(_:v.size=1):Av.Spec prog GL 182 [ptr g] [.var g 211 (.agg 2 [.lit (.pointer p),v])] λu m=>u=.tup []/\m=[.var g 211 (.agg 2 [ptr g,v])]:=by
 obtain⟨j,hj,hjs⟩:=Option.map_eq_some_iff.1 tUS;refine zc func182 ntmps182 λ_ hs=>?_;rcases hp with rfl|rfl
 ·repeat' first|refine Vz ?_|intro
  refine b1U (n:=2) WL Hl hj (by rw[hjs];decide) dc ?_;apply EP (v:=ptr g) (en:=Extern.AbiNoEscape.same) func221;kernel_rfl;exact rfl;kernel_rfl;kernel_rfl;exact rfl;exact rfl;exact rfl
  focus
   intro ok w cs _ hv;obtain⟨u1,us,rfl,h1,rfl⟩:=hv;exact⟨u1,rfl,RV.of0 h1⟩
  refine b2P (n:=2) Hl WL hj tUL ?_;repeat' first|refine Vz ?_|intro
  exact iV _ ⟨rfl,rfl⟩ slr
 repeat' first|refine Vz ?_|intro
 refine b2k WL hj ?_;repeat' first|refine Vz ?_|intro
 exact iV _ ⟨rfl,rfl⟩ slr
theorem Zd {g:Nat}{l a:Bs}{m:List Av.Piece}(hb:Bld g l m)(hl:l.length+a.length<=140737488355328):Av.Spec prog GL 131 [ptr g,str a] m λu m=>u=.tup [int a.length,.lit .nilIface]/\Bld g (l++a) m:=by
 obtain⟨p,hp,⟨rfl,rfl⟩|⟨g',c,h0,hc,rfl⟩⟩:=hb
 ·refine zc func131 ntmps131 λ_ hs=>?_;repeat' first|refine Vz ?_|intro
  refine J6 (args:=[ptr g]) [.var g 211 (.agg 2 [.lit (.pointer p),K5])] [] (by rw[hs];exact Xw hp rfl) (λu m1 hh=>?_) lpr;obtain⟨rfl,rfl⟩:=hh;rcases a with _|⟨x,a⟩
  focus
   repeat' first|refine Vz ?_|intro
   refine b3q ?_;repeat' first|refine Vz ?_|intro
   exact j4 _ ⟨rfl,_,.inr rfl,.inl ⟨rfl,rfl⟩⟩ slr
  focus
   have hl2:(x::a).length=a.length+1:=rfl;have hl1:([]:Bs).length=0:=rfl;repeat' first|refine Vz ?_|intro
   refine b3p (λg' c' hc'=>?_);repeat' first|refine Vz ?_|intro
   refine zR (λok w h=>h.perm (List.Perm.swap _ _ _)) ?_;refine j4 _ ⟨rfl,_,.inr rfl,.inr ⟨g',c',sm,hc',rfl⟩⟩ slr
 refine zc func131 ntmps131 λ_ hs=>?_;repeat' first|refine Vz ?_|intro
 refine J6 (args:=[ptr g]) [.var g 211 (.agg 2 [.lit (.pointer p),.lit (.slice (some ⟨g',0,none⟩) l.length c)])] [.buf g' 5 1 (nQ l) c] (by rw[hs];exact Xw hp rfl) (λu m1 hh=>?_) lpr;obtain⟨rfl,rfl⟩:=hh;have hbl:=Zc l;repeat' first|refine Vz ?_|intro
 refine b3r (λg' c' hc'=>?_);repeat' first|refine Vz ?_|intro
 refine j4 _ ⟨rfl,_,.inr rfl,.inr ⟨g',c',by simp[h0],by simpa using hc',?_⟩⟩ slr;rw[lla,show nQ (l++a)=nQ l++nQ a from List.map_append]
theorem Dn {g:Nat}{l:Bs}{m:List Av.Piece}(hb:Bld g l m)(hl:l.length<=140737488355328):Av.Spec prog GL 133 [ptr g] m λu _=>u=str l:=by
 obtain⟨p,hp,⟨rfl,rfl⟩|⟨g',c,h0,hc,rfl⟩⟩:=hb
 ·refine zc func133 ntmps133 λ_ hs=>?_;repeat' first|refine Vz ?_|intro
  apply zd [];exact zg;intro _ _;refine b1Z ?_;exact j5 (A7 rfl rfl);repeat' first|refine Vz ?_|intro
  apply zd [];exact zg;intro _ _;refine b1S ?_;exact j5 (A7 rfl rfl);repeat' first|refine Vz ?_|intro
  exact j4 [] rfl (List.nil_sublist _)
 refine zc func133 ntmps133 λ_ hs=>?_;have hc0:c≠0:=by
  have:=List.length_pos_iff.2 h0;omega
 repeat' first|refine Vz ?_|intro
 apply zd [];exact zg;intro _ _;refine b2a (c:=c) ?_ hc0;exact j5 (A7 rfl rfl);repeat' first|refine Vz ?_|intro
 apply lX [1];exact rfl;exact rfl;kernel_rfl
 focus
  intro _ _;refine b1T (l:=l) (c:=c) tUP tUC h0 ?_;exact j5 (A7 rfl rfl)
 focus
  exact rfl
 focus
  exact rfl
 repeat' first|refine Vz ?_|intro
 exact j4 [] rfl (List.nil_sublist _)
end Go.Proofs.Z
