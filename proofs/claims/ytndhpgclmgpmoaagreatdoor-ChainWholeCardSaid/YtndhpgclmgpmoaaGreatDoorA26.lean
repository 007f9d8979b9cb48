/- hashes out of bytes, lists of texts written, walked; bytes laid into an array -/
import Derived.Test.YtndhpgclmgpmoaaGreatDoorA14
import Derived.Test.YtndhpgclmgpmoaaGreatDoorA20
import Derived.Test.YtndhpgclmgpmoaaGreatDoorA24
import Derived.Test.YtndhpgclmgpmoaaGreatDoorA25
namespace Go.Proofs.YtndhpgclmgpmoaaGreatDoor
open Go Go.RowKit Tw Av
theorem tlvRead {s:Bs}:Av.Spec Tryz.prog GL 54 [str s] [] fun u m=>∃ g,u=ptr g/\m=[.var g 172 (rdA s false)]:=by
 refine qE Tryz.func54 rfl Tryz.ntmps54 rfl (fun _ hs=>?_)
 repeat' first|refine Vz ?_|intro _
 exact reK _ ⟨_,rfl,rfl⟩ slr
instance rdGood {g:Nat}{s:Bs}{b:Bool}:AnsM Tryz.prog GL 94 g [] 172 (rdA s b) True (boo (!b)) (rdA s b):=⟨fun _=>by
 refine qE Tryz.func94 rfl Tryz.ntmps94 rfl (fun _ hs=>?_)
 repeat' first|refine Vz ?_|intro _
 exact reK _ ⟨rfl,rfl⟩ slr⟩
instance rdFails {g:Nat}{s:Bs}{b:Bool}:AnsM Tryz.prog GL 91 g [] 172 (rdA s b) True (.tup []) (rdA s true):=⟨fun _=>by
 refine qE Tryz.func91 rfl Tryz.ntmps91 rfl (fun _ hs=>?_)
 repeat' first|refine Vz ?_|intro _
 exact reN _ ⟨rfl,rfl⟩ slr⟩
def nextC (s:Bs)(b:Bool):UInt8:=if b=true then 0 else s.headD 0
def nextIs (s:Bs)(b:Bool):Bool:=!b && decide (s≠[])
instance rdNext {g:Nat}{s:Bs}{b:Bool}:AnsM Tryz.prog GL 129 g [] 172 (rdA s b) True (.tup [u8A (nextC s b),boo (nextIs s b)]) (rdA s b):=⟨fun _=>by
 refine qE Tryz.func129 rfl Tryz.ntmps129 rfl (fun _ hs=>?_)
 cases b
 ·cases s with
  | nil=>
   repeat' first|refine Yz ?_|intro _
   exact reK _ ⟨rfl,rfl⟩ slr
  | cons c s=>
   repeat' first|refine Yz ?_|intro _
   exact reK _ ⟨rfl,rfl⟩ slr
 ·repeat' first|refine Yz ?_|intro _
  exact reK _ ⟨rfl,rfl⟩ slr⟩
instance rdLeft {g:Nat}{s:Bs}{b:Bool}:AnsM Tryz.prog GL 95 g [] 172 (rdA s b) True (int (if b=true then 0 else s.length:Nat)) (rdA s b):=⟨fun _=>by
 refine qE Tryz.func95 rfl Tryz.ntmps95 rfl (fun _ hs=>?_)
 cases b
 ·repeat' first|refine Yz ?_|intro _
  exact reK _ ⟨rfl,rfl⟩ slr
 ·repeat' first|refine Yz ?_|intro _
  exact reK _ ⟨rfl,rfl⟩ slr⟩
instance rdEnd {g:Nat}{s:Bs}{b:Bool}:AnsM Tryz.prog GL 57 g [] 172 (rdA s b) True (int (reE' s b)) (rdA s b):=⟨fun _=>by
 refine qE Tryz.func57 rfl Tryz.ntmps57 rfl (fun _ hs=>?_)
 cases b
 ·cases s with
  | nil=>
   repeat' first|refine Yz ?_|intro _
   exact reK _ ⟨rfl,rfl⟩ slr
  | cons c s=>
   repeat' first|refine Yz ?_|intro _
   exact reK _ ⟨rfl,rfl⟩ slr
 ·repeat' first|refine Yz ?_|intro _
  exact reK _ ⟨rfl,rfl⟩ slr⟩
def val3 (a b c:UInt8):Nat->Nat
 | 0=>0
 | 1=>0 * 256 + a.toNat
 | 2=>(0 * 256 + a.toNat) * 256 + b.toNat
 | _=>((0 * 256 + a.toNat) * 256 + b.toNat) * 256 + c.toNat
instance rdText {g:Nat}{s:Bs}{b:Bool}{c most:Int}:AnsM Tryz.prog GL 92 g [.lit (.int .u8 c),int most] 172 (rdA s b) (s.length<=4611686018427387904) (str (rtT c most s b)) (rdA (rsT c most s b) (rbT c most s b)):=⟨fun hl=>by
 refine qE Tryz.func92 rfl Tryz.ntmps92 rfl (fun _ hs=>?_)
 cases b
 rotate_left
 ·repeat' first|refine Yz ?_|intro _
  refine reK [.var g 172 (rdA s true)] ⟨?_,?_⟩ slr
  ·rw [rtT,rbT_bad];rfl
  ·rw [rsT,rbT,rbT_bad];rfl
 rcases s with _|⟨s0,s⟩
 ·repeat' first|refine Yz ?_|intro _
  exact reK [.var g 172 (rdA [] true)] ⟨rfl,rfl⟩ slr
 have hn:(nextC (s0::s) false).toNat=s0.toNat:=rfl
 by_cases hc:(s0.toNat:Int)=c
 rotate_left
 ·have e:cutT c most false (s0::s)=none:=by
   rcases s with _|⟨s1,_|⟨s2,_|⟨s3,r⟩⟩⟩
   ·rfl
   ·rfl
   ·rfl
   ·rw [cutT,if_neg (fun h=>hc h.2.1)]
  repeat' first|refine Yz ?_|intro _
  refine reK [.var g 172 (rdA (s0::s) true)] ⟨?_,?_⟩ slr
  ·rw [rtT,e];rfl
  ·rw [rsT,rbT,e];rfl
 rcases s with _|⟨s1,_|⟨s2,_|⟨s3,r⟩⟩⟩
 ·repeat' first|refine Yz ?_|intro _
  exact reK [.var g 172 (rdA [s0] true)] ⟨rfl,rfl⟩ slr
 ·repeat' first|refine Yz ?_|intro _
  exact reK [.var g 172 (rdA [s0,s1] true)] ⟨rfl,rfl⟩ slr
 ·repeat' first|refine Yz ?_|intro _
  exact reK [.var g 172 (rdA [s0,s1,s2] true)] ⟨rfl,rfl⟩ slr
 have hlen:(s0::s1::s2::s3::r).length=r.length + 4:=rfl
 have q1:=s1.toNat_lt
 have q2:=s2.toNat_lt
 have q3:=s3.toNat_lt
 repeat' first|refine Yz ?_|intro _
 refine al_sliceS 1 4 ?_
 repeat' first|refine Yz ?_|intro _
 refine ac_loop (α:=Nat) (fun i=>[(0,ptr g),(2,int most),(9,int (val3 s1 s2 s3 i:Nat)),(40,.sl 1 [.lit (u8v s1),.lit (u8v s2),.lit (u8v s3)] none),(41,int 3),(42,int i)]) (fun _=>[.var g 172 (rdA (s0::s1::s2::s3::r) false)])
  (fun i=>i<=3) (fun i=>3 - i) 0 ⟨rfl,rfl,rfl,rfl,rfl,rfl,trivial⟩ slr (by omega) ?_
 intro i hi
 rcases i with _|_|_|_|i
 ·have v0:val3 s1 s2 s3 0=0:=rfl
  repeat' first|refine Yz ?_|intro _
  exact ae_round 1 ⟨rfl,rfl,rfl,rfl,rfl,rfl,trivial⟩ slr (by omega) (by omega)
 ·have v1:val3 s1 s2 s3 (0 + 1)=0 * 256 + s1.toNat:=rfl
  repeat' first|refine Yz ?_|intro _
  exact ae_round 2 ⟨rfl,rfl,rfl,rfl,rfl,rfl,trivial⟩ slr (by omega) (by omega)
 ·have v1:val3 s1 s2 s3 (0 + 1 + 1)=(0 * 256 + s1.toNat) * 256 + s2.toNat:=rfl
  repeat' first|refine Yz ?_|intro _
  exact ae_round 3 ⟨rfl,rfl,rfl,rfl,rfl,rfl,trivial⟩ slr (by omega) (by omega)
 rotate_left
 ·exact absurd hi (by omega)
 have hv:val3 s1 s2 s3 (0 + 1 + 1 + 1)=len3 s1 s2 s3:=by simp [val3,len3]
 have hlt:=len3_lt s1 s2 s3
 have hct:cutT c most false (s0::s1::s2::s3::r)=if (len3 s1 s2 s3:Int)<=most/\len3 s1 s2 s3<=r.length then some (r.take (len3 s1 s2 s3),r.drop (len3 s1 s2 s3)) else none:=by
  rw [cutT]
  simp [hc]
 rw [hv]
 generalize len3 s1 s2 s3=n at *
 by_cases h1:(n:Int)<=most
 rotate_left
 ·have e:cutT c most false (s0::s1::s2::s3::r)=none:=by rw [hct,if_neg (fun h=>h1 h.1)]
  repeat' first|refine Yz ?_|intro _
  refine reK [.var g 172 (rdA (s0::s1::s2::s3::r) true)] ⟨?_,?_⟩ slr
  ·rw [rtT,e];rfl
  ·rw [rsT,rbT,e];rfl
 by_cases h2:n<=r.length
 rotate_left
 ·have e:cutT c most false (s0::s1::s2::s3::r)=none:=by rw [hct,if_neg (fun h=>h2 h.2)]
  repeat' first|refine Yz ?_|intro _
  refine reK [.var g 172 (rdA (s0::s1::s2::s3::r) true)] ⟨?_,?_⟩ slr
  ·rw [rtT,e];rfl
  ·rw [rsT,rbT,e];rfl
 have e:cutT c most false (s0::s1::s2::s3::r)=some (r.take n,r.drop n):=by rw [hct,if_pos ⟨h1,h2⟩]
 repeat' first|refine Yz ?_|intro _
 refine al_sliceS 4 (4 + n) ?_
 repeat' first|refine Yz ?_|intro _
 refine al_sliceS (4 + n) (r.length + 4) ?_
 repeat' first|refine Yz ?_|intro _
 refine reK [.var g 172 (rdA (r.drop n) false)] ⟨?_,?_⟩ ?_
 ·rw [rtT,e]
  simp [outOf,Nat.add_comm]
 ·rw [rsT,rbT,e];rfl
 ·have e2:List.drop (4 + n) (List.take (r.length + 4) (s0::s1::s2::s3::r))=r.drop n:=by
   rw [List.take_of_length_le (by simp),Nat.add_comm 4 n]
   simp
  rw [e2]
  exact List.Sublist.refl _⟩

theorem rnN_eq {c:Int}{s:Bs}{b:Bool}:rnN c s b=if lead0 (rtT c 8 s b)=true then 0 else numOf (rtT c 8 s b):=rfl
theorem rnN_lt (c:Int)(s:Bs)(b:Bool):rnN c s b < 18446744073709551616:=by
 rw [rnN_eq]
 have h:=(rtT_len c 8 s b).2 (by decide)
 have:=numOf_small (l:=rtT c 8 s b) (by omega)
 split <;> omega
instance rdNum {g:Nat}{s:Bs}{b:Bool}{c:Int}:AnsM Tryz.prog GL 90 g [.lit (.int .u8 c)] 172 (rdA s b) (s.length<=4611686018427387904) (.lit (.int .u64 (rnN c s b))) (rdA (rsT c 8 s b) (rnB c s b)):=⟨fun hl=>by
 refine qE Tryz.func90 rfl Tryz.ntmps90 rfl (fun _ hs=>?_)
 repeat' first|refine Yz ?_|intro _
 have hx:=(rtT_len c 8 s b).2 (by decide)
 rw [rnB,rnN_eq]
 generalize rtT c 8 s b=x at *
 refine ac_loop (α:=Nat) (fun i=>[(0,ptr g),(5,str x),(6,.lit (.int .u64 (numOf (x.take i):Nat))),(12,int x.length),(13,int i)]) (fun _=>[.var g 172 (rdA (rsT c 8 s b) (rbT c 8 s b))])
  (fun i=>i<=x.length) (fun i=>x.length - i) 0 ⟨rfl,rfl,rfl,rfl,rfl,trivial⟩ slr (by omega) ?_
 intro i hi
 repeat' first|refine Yz ?_|intro _
 refine ac_cond (fun hlt=>?_) (fun hlt=>?_)
 ·have hil:i < x.length:=by omega
  have h1:=numOf_take hil
  have h2:=x[i].toNat_lt
  have h3:=numOf_small (l:=x.take (i + 1)) (by simp;omega)
  repeat' first|refine Yz ?_|intro _
  refine al_idxS i ?_ (List.getElem?_eq_getElem hil)
  repeat' first|refine Yz ?_|intro _
  refine ae_round (i + 1) ⟨rfl,rfl,?_,rfl,rfl,trivial⟩ slr hil (by omega)
  rw [h1]
  rfl
 ·obtain rfl:i=x.length:=by omega
  rw [List.take_length]
  cases x with
  | nil=>
   repeat' first|refine Yz ?_|intro _
   refine reK [.var g 172 (rdA (rsT c 8 s b) (rbT c 8 s b))] ⟨rfl,?_⟩ slr
   simp [lead0]
  | cons a x=>
   have ha:lead0 (a::x)=decide ((a.toNat:Int)=0):=by
    rw [lead0_cons]
    refine decide_eq_decide.2 ⟨fun h=>by rw [h];rfl,fun h=>UInt8.toNat.inj (by simpa using h)⟩
   rw [ha]
   by_cases h0:(a.toNat:Int)=0
   ·rw [dT h0]
    repeat' first|refine Yz ?_|intro _
    refine reK [.var g 172 (rdA (rsT c 8 s b) true)] ⟨rfl,?_⟩ slr
    simp
   ·rw [dZ h0]
    repeat' first|refine Yz ?_|intro _
    refine reK [.var g 172 (rdA (rsT c 8 s b) (rbT c 8 s b))] ⟨rfl,?_⟩ slr
    simp⟩
instance rdInt {g:Nat}{s:Bs}{b:Bool}{c most:Int}:AnsM Tryz.prog GL 55 g [.lit (.int .u8 c),int most] 172 (rdA s b) (s.length<=4611686018427387904/\0<=most/\most<=9223372036854775807) (int (riI c most s b)) (rdA (rsT c 8 s b) (riB c most s b)):=⟨fun hp=>by
 obtain⟨hl,h0,h1⟩:=hp
 refine qE Tryz.func55 rfl Tryz.ntmps55 rfl (fun _ hs=>?_)
 repeat' first|refine Yz ?_|intro _
 have hx:=rnN_lt c s b
 rw [riI,riB]
 generalize rnN c s b=n at *
 by_cases h:most < (n:Int)
 ·rw [if_pos h,dT h]
  repeat' first|refine Yz ?_|intro _
  refine reK [.var g 172 (rdA (rsT c 8 s b) true)] ⟨rfl,?_⟩ slr
  simp
 ·rw [if_neg h,dZ h]
  repeat' first|refine Yz ?_|intro _
  refine reK [.var g 172 (rdA (rsT c 8 s b) (rnB c s b))] ⟨rfl,?_⟩ slr
  simp⟩

theorem all1 {go gi gr gl gm:Nat}{acc:List Bs}{v:Value}{s:Bs}{b:Bool}{c most:Int}(hl:s.length<=4611686018427387904)(hn:acc.length<=1000000000):Av.Spec Tryz.prog GL 93 [ptr go,ptr gi,ptr gl,ptr gm]
  [.tail 9 1 v,.var go 59 (.sl 1 (acc.map str) (some v)),.var gi 136 (ptr gr),.var gr 172 (rdA s b),.var gm 3 (int most),.var gl 5 (.lit (.int .u8 c))]
  fun u m=>∃ v',u=boo (!rbT c most s b)/\m=[.tail 9 1 v',.var go 59 (.sl 1 ((acc++[rtT c most s b]).map str) (some v')),.var gi 136 (ptr gr),.var gr 172 (rdA (rsT c most s b) (rbT c most s b)),.var gm 3 (int most),.var gl 5 (.lit (.int .u8 c))]:=by
 refine qE Tryz.func93 rfl Tryz.ntmps93 rfl (fun _ hs=>?_)
 repeat' first|refine Yz ?_|intro _
 apply obl_fresh [0];exact rfl;exact rfl;exact rfl;kernel_rfl;intro _ _
 refine al_append (fun v'=>?_)
 refine al_nil (ae_fresh [.tail 9 1 v'] [] rfl rfl lpr rfl ?_)
 repeat' first|refine Yz ?_|intro _
 refine reK _ ⟨v',rfl,rfl⟩ ?_
 rw [List.map_append]
 exact List.Sublist.refl _
theorem bods_nil {c most:Int}{f:Nat}:bods c most (f + 1) [] false=([],false):=by rw [bods,if_pos (.inr rfl)]
theorem bods_bad {c most:Int}:∀ {f:Nat} {s:Bs},bods c most f s true=([],true)
 | 0,_=>rfl
 | f + 1,s=>by rw [bods,if_pos (.inl rfl)]
theorem bods_cons {c most:Int}{f:Nat}{a:UInt8}{s:Bs}:bods c most (f + 1) (a::s) false=(rtT c most (a::s) false::(bods c most f (rsT c most (a::s) false) (rbT c most (a::s) false)).1,(bods c most f (rsT c most (a::s) false) (rbT c most (a::s) false)).2):=by rw [bods,if_neg (by simp)]
instance rdAll {g:Nat}{s:Bs}{b:Bool}{c many most:Int}:AnsM Tryz.prog GL 56 g [.lit (.int .u8 c),int many,int most] 172 (rdA s b) (s.length<=1000000000) (.sl 1 ((raL c many most s b).map str) none) (rdA (rsT c 16777215 s b) (raB c many most s b)):=⟨fun hl=>by
 refine qE Tryz.func56 rfl Tryz.ntmps56 rfl (fun _ hs=>?_)
 repeat' first|refine Yz ?_|intro _
 have hx:=(rtT_len c 16777215 s b).1
 have hx2:=(rsT_len c 16777215 s b).1
 rw [raL,raB]
 generalize rtT c 16777215 s b=x at *
 generalize rsT c 16777215 s b=s1 at *
 generalize rbT c 16777215 s b=b1 at *
 refine al_callK (args:=[str x]) [] _ (by rw [hs];exact tlvRead) (fun u m1 hh=>?_) lpr
 obtain⟨gr,rfl,rfl⟩:=hh
 repeat' first|refine Yz ?_|intro _
 rename_i gl gm gi go
 refine al_makeFunc (vs:=[.pointer (some ⟨go,0,none⟩),.pointer (some ⟨gi,0,none⟩),.pointer (some ⟨gl,0,none⟩),.pointer (some ⟨gm,0,none⟩)]) ?_
 repeat' first|refine Yz ?_|intro _
 generalize hX:allX c most x=X at *
 refine ac_asV (g:=go) (v':=.sl 1 [] (some (.slice none 0 0))) ImpC.nilT ?_
 refine ac_st (fun ok w h=>h.full 9 1 none 0) ?_
 refine ac_midB (α:=Value) (fun _=>[(0,ptr g),(2,int many),(10,ptr go)]) (fun v=>[.tail 9 1 v,.var go 59 (.sl 1 (X.1.map str) (some v)),.var g 172 (rdA s1 (b1 || X.2))]) ?_ (fun v=>?_)
 focus
  refine ac_loop (α:=List Bs × Value × Bs × Nat) (fun _=>[(0,ptr g),(2,int many),(9,ptr gi),(10,ptr go),(11,fnv 93 [.pointer (some ⟨go,0,none⟩),.pointer (some ⟨gi,0,none⟩),.pointer (some ⟨gl,0,none⟩),.pointer (some ⟨gm,0,none⟩)])])
   (fun q=>[.tail 9 1 q.2.1,.var go 59 (.sl 1 (q.1.map str) (some q.2.1)),.var gi 136 (ptr gr),.var gr 172 (rdA q.2.2.1 false),.var gm 3 (int most),.var gl 5 (.lit (.int .u8 c)),.var g 172 (rdA s1 b1)])
   (fun q=>X=(q.1++(bods c most q.2.2.2 q.2.2.1 false).1,(bods c most q.2.2.2 q.2.2.1 false).2)/\q.2.2.1.length < q.2.2.2/\q.1.length + q.2.2.1.length<=x.length) (fun q=>q.2.2.2) ([],.slice none 0 0,x,x.length + 1) ⟨rfl,rfl,rfl,rfl,rfl,trivial⟩ slr ⟨hX.symm,by dsimp only;omega,by simp⟩ ?_
  rintro⟨acc,v,s2,f⟩ ⟨e1,e2,e3⟩
  dsimp only at e1 e2 e3 ⊢
  rcases f with _|f
  focus
   omega
  cases s2 with
  | nil=>
   rw [bods_nil,List.append_nil] at e1
   subst e1
   repeat' first|refine Yz ?_|intro _
   refine ae_cut v ⟨rfl,rfl,rfl,trivial⟩ ?_
   rw [Bool.or_false]
   exact sbl
  | cons a s2=>
   have hl2:(if false=true then 0 else (a::s2).length)=s2.length + 1:=rfl
   repeat' first|refine Yz ?_|intro _
   refine al_callV (args:=[]) (cs:=[.pointer (some ⟨go,0,none⟩),.pointer (some ⟨gi,0,none⟩),.pointer (some ⟨gl,0,none⟩),.pointer (some ⟨gm,0,none⟩)])
    [.tail 9 1 v,.var go 59 (.sl 1 (acc.map str) (some v)),.var gi 136 (ptr gr),.var gr 172 (rdA (a::s2) false),.var gm 3 (int most),.var gl 5 (.lit (.int .u8 c))] [.var g 172 (rdA s1 b1)]
    (by rw [hs];exact all1 (by omega) (by omega)) (fun u m1 hh=>?_) lpr
   obtain⟨v',rfl,rfl⟩:=hh
   rw [bods_cons] at e1
   have hle:=(rsT_len c most (a::s2) false).1
   have hlt:=rsT_dec (c:=c) (most:=most) (s:=a::s2) (b:=false)
   generalize rtT c most (a::s2) false=x' at *
   generalize rsT c most (a::s2) false=s3 at *
   cases hb:rbT c most (a::s2) false
   ·have hlt:=hlt hb
    rw [hb] at e1
    repeat' first|refine Yz ?_|intro _
    refine ae_round (acc++[x'],v',s3,f) ⟨rfl,rfl,rfl,rfl,rfl,trivial⟩ slr ⟨?_,by dsimp only;omega,by simp only [List.length_append,List.length_cons,List.length_nil];omega⟩ (by dsimp only;omega)
    simpa using e1
   ·rw [hb,bods_bad] at e1
    subst e1
    repeat' first|refine Yz ?_|intro _
    refine ae_cut v' ⟨rfl,rfl,rfl,trivial⟩ ?_
    rw [Bool.or_true]
    exact sbl
 focus
  have hml:(X.1.map str).length=X.1.length:=llm _
  unfold outA badA
  by_cases hm:many < (X.1.length:Int)
  ·rw [dT hm,Bool.or_true,Bool.or_true,if_pos rfl]
   repeat' first|refine Yz ?_|intro _
   refine reIKm (.sl 1 [] none) [.var g 172 (rdA s1 true)] ?_ ⟨rfl,rfl⟩ ?_
   focus
    exact Imp.nilN
   exact sbl
  ·rw [dZ hm,Bool.or_false]
   cases hb:(b1 || X.2)
   ·repeat' first|refine Yz ?_|intro _
    refine reIKm (.sl 1 (X.1.map str) none) [.var g 172 (rdA s1 false)] ?_ ⟨rfl,rfl⟩ ?_
    focus
     exact Imp.sl
    exact sbl
   ·repeat' first|refine Yz ?_|intro _
    refine reIKm (.sl 1 [] none) [.var g 172 (rdA s1 true)] ?_ ⟨rfl,rfl⟩ ?_
    focus
     exact Imp.nilN
    repeat (first|exact List.nil_sublist _|exact List.Sublist.refl _|apply List.Sublist.cons_cons|apply List.Sublist.cons)⟩

def leafH (x:Ent):Hsh:=ofH [[76],tlvT 107 x.key,tlvT 118 x.val]
def nodeH (a b:Hsh):Hsh:=ofH [[78],a.l,b.l]
def topH (n:Int)(h:Hsh):Hsh:=ofH [[84],tlvI 110 n,h.l]
instance fnLeaf {a b:Bs}:Ans Tryz.prog GL 208 [.agg 2 [str a,str b]] True (hA (leafH ⟨a,b⟩)):=⟨fun _=>by
 refine qE Tryz.func208 rfl Tryz.ntmps208 rfl (fun _ hs=>?_)
 repeat' first|refine Wz ?_|intro _
 refine reE ?_
 rfl⟩
instance fnNode {a b:Hsh}:Ans Tryz.prog GL 206 [hA a,hA b] True (hA (nodeH a b)):=⟨fun _=>by
 refine qE Tryz.func206 rfl Tryz.ntmps206 rfl (fun _ hs=>?_)
 repeat' first|refine Wz ?_|intro _
 refine reE ?_
 rfl⟩
instance fnTop {n:Int}{h:Hsh}:Ans Tryz.prog GL 140 [int n,hA h] (n<=9223372036854775807) (hA (topH n h)):=⟨fun hn=>by
 refine qE Tryz.func140 rfl Tryz.ntmps140 rfl (fun _ hs=>?_)
 repeat' first|refine Wz ?_|intro _
 refine reE ?_
 rfl⟩

theorem u8ofInt (n:Nat):UInt8.ofNat (IntKind.u8.wrap (n:Int)).toNat=UInt8.ofNat n:=by
 rw [IntKind.wrap_u8]
 apply UInt8.toNat_inj.1
 simp
 omega
theorem tlvT_eq (c:Int)(s:Bs)(n:Nat)(hn:n=(s.take bodyLen).length):[UInt8.ofNat c.toNat,UInt8.ofNat (IntKind.u8.wrap ((n:Int) / 65536)).toNat,UInt8.ofNat (IntKind.u8.wrap ((n:Int) / 256)).toNat,UInt8.ofNat (IntKind.u8.wrap (n:Int)).toNat]++s.take bodyLen=tlvT c s:=by
 subst hn
 have e1:=u8ofInt ((s.take bodyLen).length / 65536)
 have e2:=u8ofInt ((s.take bodyLen).length / 256)
 have e3:=u8ofInt (s.take bodyLen).length
 simp only [Int.natCast_ediv,Int.cast_ofNat_Int] at e1 e2
 rw [e1,e2,e3]
 rfl
instance {s:Bs}:LenLe (s.take bodyLen) 16777215:=⟨by simp [bodyLen,List.length_take];omega⟩
instance fnRText {c:Int}{s:Bs}:Ans Tryz.prog GL 78 [.lit (.int .u8 c),str s] True (str (tlvT c s)):=⟨fun _=>by
 refine qE Tryz.func78 rfl Tryz.ntmps78 rfl (fun _ hs=>?_)
 repeat' first|refine Wz ?_|intro _
 refine ac_cond (fun hl=>?_) (fun hl=>?_)
 ·repeat' first|refine Wz ?_|intro _
  have hb:(s.take 16777215).drop 0=s.take bodyLen:=rfl
  have hlen:(s.take bodyLen).length=16777215:=by simp [bodyLen];omega
  refine al_sliceS 0 16777215 ?_
  rw [hb]
  repeat' first|refine Wz ?_|intro _
  refine reE ?_
  exact congrArg str (tlvT_eq c s _ rfl)
 ·repeat' first|refine Wz ?_|intro _
  refine reE ?_
  have hb:s.take bodyLen=s:=List.take_of_length_le (by simp [bodyLen];omega)
  have:=tlvT_eq c s s.length (by rw [hb])
  rw [hb] at this
  exact congrArg str this⟩

instance fnRDigits {n:Nat}:Ans Tryz.prog GL 187 [.lit (.int .u64 n)] (n < 18446744073709551616) (str (Tw.digits n)):=⟨fun hn=>by
 refine qE Tryz.func187 rfl Tryz.ntmps187 rfl (fun _ hs=>?_)
 repeat' first|refine Wz ?_|intro _
 refine ac_loop (α:=Nat × Nat × Bs) (fun q=>[(0,.lit (.int .u64 q.2.1)),(3,str q.2.2)]) (fun _=>[]) (fun q=>q.2.1 < 256 ^ q.1/\q.2.2.length + q.1<=8/\digitsF q.1 q.2.1++q.2.2=Tw.digits n) (fun q=>q.1) (8,n,[]) ⟨rfl,rfl,trivial⟩ slr ⟨by simpa using hn,by simp,by simp [Tw.digits]⟩ ?_
 rintro⟨f,k,s⟩ ⟨g1,g2,g3⟩
 dsimp only at g1 g2 g3 ⊢
 repeat' first|refine Wz ?_|intro _
 refine ac_cond (fun hlt=>?_) (fun hlt=>?_)
 ·obtain⟨f,rfl⟩:∃ f',f=f' + 1:=⟨f - 1,by
   rcases Nat.eq_zero_or_pos f with h|h
   ·subst h;simp at g1;omega
   ·omega⟩
  have h0:k≠0:=by omega
  rw [digitsF,if_neg h0,laa] at g3
  have hk:k < 18446744073709551616:=by
   have:256 ^ (f + 1)<=256 ^ 8:=Nat.pow_le_pow_right (by omega) (by omega)
   omega
  repeat' first|refine Wz ?_|intro _
  rw [u8ofInt k]
  refine al_div (h2:=by intro c _ _;rw [IntKind.wrap_u64];omega) ?_
  repeat' first|refine Wz ?_|intro _
  have hq:(k:Int) / 256=((k / 256:Nat):Int):=by omega
  rw [hq]
  exact ae_round (f,k / 256,[UInt8.ofNat k]++s) ⟨rfl,rfl,trivial⟩ slr ⟨by simp only;rw [Nat.pow_succ] at g1;omega,by simp only [List.length_append,List.length_singleton];omega,by simpa using g3⟩ (Nat.lt_succ_self f)
 ·have h0:k=0:=by omega
  subst h0
  have:digitsF f 0=[]:=by cases f <;> simp [digitsF]
  rw [this,List.nil_append] at g3
  subst g3
  repeat' first|refine Wz ?_|intro _
  refine reE ?_
  rfl⟩
instance fnRNum {c:Int}{n:Nat}:Ans Tryz.prog GL 119 [.lit (.int .u8 c),.lit (.int .u64 n)] (n < 18446744073709551616) (str (tlvT c (Tw.digits n))):=⟨fun hn=>by
 refine qE Tryz.func119 rfl Tryz.ntmps119 rfl (fun _ hs=>?_)
 repeat' first|refine Wz ?_|intro _
 refine reE ?_
 rfl⟩
instance fnRInt {c:Int}{n:Int}:Ans Tryz.prog GL 77 [.lit (.int .u8 c),int n] (n<=9223372036854775807) (str (tlvI c n)):=⟨fun hn=>by
 refine qE Tryz.func77 rfl Tryz.ntmps77 rfl (fun _ hs=>?_)
 repeat' first|refine Wz ?_|intro _
 refine ac_cond (fun hlt=>?_) (fun hlt=>?_)
 ·repeat' first|refine Wz ?_|intro _
  refine al_callP (show (0:Nat) < 18446744073709551616 by omega) ?_ (hc:=fnRNum (n:=0))
  repeat' first|refine Wz ?_|intro _
  refine reE ?_
  have:n.toNat=0:=by omega
  rw [tlvI,tlvInt,this]
  rfl
 ·repeat' first|refine Wz ?_|intro _
  obtain⟨k,rfl⟩:∃ k:Nat,n=k:=⟨n.toNat,by omega⟩
  refine al_callP (show k < 18446744073709551616 by omega) ?_ (hc:=fnRNum (n:=k))
  repeat' first|refine Wz ?_|intro _
  refine reE ?_
  rfl⟩
instance fnRHText {h:Hsh}:Ans Tryz.prog GL 79 [hA h] True (str h.l):=⟨fun _=>by
 refine qE Tryz.func79 rfl Tryz.ntmps79 rfl (fun _ hs=>?_)
 repeat' first|refine Wz ?_|intro _
 rename_i g
 have hlen:=h.len
 refine ac_as 3 (Imp.nil (k:=1)) ?_
 refine ac_st (fun ok w h=>h.full 5 1 none 0) ?_
 refine ac_loop (α:=Nat × Value) (fun q=>[(1,ptr g),(3,.sl 1 ((h.l.take q.1).map u8A) (some q.2)),(4,int q.1)]) (fun q=>[.tail 5 1 q.2,.var g 42 (.agg 32 (h.l.map u8A))]) (fun q=>q.1<=32) (fun q=>32 - q.1) (0,.slice none 0 0) ⟨rfl,rfl,rfl,trivial⟩ slr (Nat.zero_le _) ?_
 rintro⟨i,v⟩ g1
 dsimp only at g1 ⊢
 repeat' first|refine Wz ?_|intro _
 refine ac_cond (fun hlt=>?_) (fun hlt=>?_)
 ·have hlt':i < h.l.length:=by omega
  repeat' first|refine Wz ?_|intro _
  refine al_idxA i ?_
  repeat' first|refine Wz ?_|intro _
  refine al_loadM i hlt' ?_
  repeat' first|refine Wz ?_|intro _
  refine al_append (fun v'=>?_)
  repeat' first|refine Wz ?_|intro _
  have e:(h.l.take i).map u8A++[u8A h.l[i]]=(h.l.take (i + 1)).map u8A:=by rw [List.take_succ_eq_append_getElem hlt',List.map_append];rfl
  rw [e]
  exact ae_round (i + 1,v') ⟨rfl,rfl,rfl,trivial⟩ slr (by simp only;omega) (by simp only;omega)
 ·repeat' first|refine Wz ?_|intro _
  rw [List.take_of_length_le (by omega)]
  repeat' first|refine Wz ?_|intro _
  refine reE ?_
  rfl⟩

attribute [local irreducible] Av.Obl
end Go.Proofs.YtndhpgclmgpmoaaGreatDoor

namespace Go.Proofs.YtndhpgclmgpmoaaGreatDoor
open Go Go.RowKit Tw Av

theorem tUB:Tryz.prog.underlying 122=some (.pointer 125):=by kernel_rfl
theorem tUU:Tryz.prog.underlying 198=some .unsafePointer:=by kernel_rfl
theorem tUS:(Tryz.prog.info? 125).map (·.size)=some 2:=by kernel_rfl
theorem tUL:liesAt Tryz.prog Tryz.prog.depth 125 (2 / Tryz.prog.cellsOf 125) 0 125 1=true:=by kernel_rfl
theorem tUP:Tryz.prog.underlying 164=some (.pointer 5):=by kernel_rfl
theorem tUC:Tryz.prog.cellsOf 5=1:=by kernel_rfl
def Bld (g:Nat)(l:Bs)(m:List Av.Piece):Prop:=∃ p:Option Addr,(p=none\/p=some ⟨g,0,none⟩)/\((l=[]/\m=[.var g 125 (.agg 2 [.lit (.pointer p),nils])]) \/
 ∃ g' c,l≠[]/\l.length<=c/\m=[.var g 125 (.agg 2 [.lit (.pointer p),.lit (.slice (some ⟨g',0,none⟩) l.length c)]),.buf g' 5 1 (bytA l) c])
theorem ccheck {g:Nat}{p:Option Addr}{v:AV}(hp:p=none\/p=some ⟨g,0,none⟩)(_:v.size=1):Av.Spec Tryz.prog GL 85 [ptr g] [.var g 125 (.agg 2 [.lit (.pointer p),v])] fun u m=>u=.tup []/\m=[.var g 125 (.agg 2 [ptr g,v])]:=by
 obtain⟨j,hj,hjs⟩:=Option.map_eq_some_iff.1 tUS
 refine qE Tryz.func85 rfl Tryz.ntmps85 rfl (fun _ hs=>?_)
 rcases hp with rfl|rfl
 ·repeat' first|refine Vz ?_|intro _
  refine al_toUnsafe (n:=2) tUB tUU hj (by rw [hjs];decide) (by decide) ?_
  apply al_ext (v:=ptr g) (en:=Extern.AbiNoEscape.same) Tryz.func123;kernel_rfl;exact rfl;kernel_rfl;kernel_rfl;exact rfl;exact rfl;exact rfl
  focus
   intro ok w cs _ hv
   obtain⟨u1,us,rfl,h1,rfl⟩:=hv
   exact⟨u1,rfl,RV.of0 h1⟩
  refine al_fromUnsafe (n:=2) tUU tUB hj tUL ?_
  repeat' first|refine Vz ?_|intro _
  exact reN _ ⟨rfl,rfl⟩ slr
 ·repeat' first|refine Vz ?_|intro _
  refine al_ptrSame tUB hj ?_
  repeat' first|refine Vz ?_|intro _
  exact reN _ ⟨rfl,rfl⟩ slr
theorem bwrite {g:Nat}{l a:Bs}{m:List Av.Piece}(hb:Bld g l m)(hl:l.length + a.length<=140737488355328):Av.Spec Tryz.prog GL 49 [ptr g,str a] m fun u m=>u=.tup [int a.length,.lit .nilIface]/\Bld g (l++a) m:=by
 obtain⟨p,hp,⟨rfl,rfl⟩|⟨g',c,h0,hc,rfl⟩⟩:=hb
 ·refine qE Tryz.func49 rfl Tryz.ntmps49 rfl (fun _ hs=>?_)
  repeat' first|refine Vz ?_|intro _
  refine al_callK (args:=[ptr g]) [.var g 125 (.agg 2 [.lit (.pointer p),nils])] [] (by rw [hs];exact ccheck hp rfl) (fun u m1 hh=>?_) lpr
  obtain⟨rfl,rfl⟩:=hh
  rcases a with _|⟨x,a⟩
  focus
   repeat' first|refine Vz ?_|intro _
   refine al_appendNE ?_
   repeat' first|refine Vz ?_|intro _
   exact reK _ ⟨rfl,_,.inr rfl,.inl ⟨rfl,rfl⟩⟩ slr
  focus
   have hl2:(x::a).length=a.length + 1:=rfl
   have hl1:([]:Bs).length=0:=rfl
   repeat' first|refine Vz ?_|intro _
   refine al_appendNS (fun g' c' hc'=>?_)
   repeat' first|refine Vz ?_|intro _
   refine ae_st (fun ok w h=>h.perm (List.Perm.swap _ _ _)) ?_
   refine reK _ ⟨rfl,_,.inr rfl,.inr ⟨g',c',by simp,hc',rfl⟩⟩ slr
 ·refine qE Tryz.func49 rfl Tryz.ntmps49 rfl (fun _ hs=>?_)
  repeat' first|refine Vz ?_|intro _
  refine al_callK (args:=[ptr g]) [.var g 125 (.agg 2 [.lit (.pointer p),.lit (.slice (some ⟨g',0,none⟩) l.length c)])] [.buf g' 5 1 (bytA l) c] (by rw [hs];exact ccheck hp rfl) (fun u m1 hh=>?_) lpr
  obtain⟨rfl,rfl⟩:=hh
  have hbl:=bytA_len l
  repeat' first|refine Vz ?_|intro _
  refine al_appendBS (fun g' c' hc'=>?_)
  repeat' first|refine Vz ?_|intro _
  refine reK _ ⟨rfl,_,.inr rfl,.inr ⟨g',c',by simp [h0],by simpa using hc',?_⟩⟩ slr
  rw [lla,show bytA (l++a)=bytA l++bytA a from List.map_append]
theorem bstring {g:Nat}{l:Bs}{m:List Av.Piece}(hb:Bld g l m)(hl:l.length<=140737488355328):Av.Spec Tryz.prog GL 51 [ptr g] m fun u _=>u=str l:=by
 obtain⟨p,hp,⟨rfl,rfl⟩|⟨g',c,h0,hc,rfl⟩⟩:=hb
 ·refine qE Tryz.func51 rfl Tryz.ntmps51 rfl (fun _ hs=>?_)
  repeat' first|refine Vz ?_|intro _
  apply obl_read [];exact rfl;exact rfl;kernel_rfl;intro _ _
  refine al_sliceDataN ?_
  exact al_nil (ae_got rfl rfl)
  repeat' first|refine Vz ?_|intro _
  apply obl_read [];exact rfl;exact rfl;kernel_rfl;intro _ _
  refine al_unsafeStrN ?_
  exact al_nil (ae_got rfl rfl)
  repeat' first|refine Vz ?_|intro _
  exact reK [] rfl (List.nil_sublist _)
 ·refine qE Tryz.func51 rfl Tryz.ntmps51 rfl (fun _ hs=>?_)
  have hc0:c≠0:=by
   have:=List.length_pos_iff.2 h0
   omega
  repeat' first|refine Vz ?_|intro _
  apply obl_read [];exact rfl;exact rfl;kernel_rfl;intro _ _
  refine al_sliceData (c:=c) ?_ hc0
  exact al_nil (ae_got rfl rfl)
  repeat' first|refine Vz ?_|intro _
  apply obl_write [1];exact rfl;exact rfl;kernel_rfl
  focus
   intro _ _
   refine al_unsafeStr (l:=l) (c:=c) tUP tUC h0 ?_
   exact al_nil (ae_got rfl rfl)
  focus
   exact rfl
  focus
   exact rfl
  repeat' first|refine Vz ?_|intro _
  exact reK [] rfl (List.nil_sublist _)
end Go.Proofs.YtndhpgclmgpmoaaGreatDoor

namespace Av
open Go Go.RowKit Tw
end Av
namespace Go.Proofs.YtndhpgclmgpmoaaGreatDoor
open Go Go.RowKit Tw Av
def hOf (x:Bs):Hsh:=if h:x.length=32 then ⟨x,h⟩ else zeroH
theorem hOf_l {x:Bs}(h:x.length=32):(hOf x).l=x:=by unfold hOf;rw [dif_pos h]
instance fnFrom {x:Bs}:Ans Tryz.prog GL 133 [str x] True (.tup [hA (hOf x),int (if x.length=32 then 0 else 10)]):=⟨fun _=>by
 refine qE Tryz.func133 rfl Tryz.ntmps133 rfl (fun _ hs=>?_)
 repeat' first|refine Yz ?_|intro _
 by_cases h:x.length=32
 ·rw [if_pos h]
  repeat' first|refine Yz ?_|intro _
  rename_i g2 g4
  refine al_copyS (l:=zeros 32) (a:=x) rfl ?_
  repeat' first|refine Yz ?_|intro _
  refine reE ?_
  have e:copyB (zeros 32) x=x:=by
   unfold copyB
   rw [List.take_of_length_le (by simp [zeros,h]),List.drop_of_length_le (by simp [zeros,h]),List.append_nil]
  rw [e,hA,hOf_l h]
  rfl
 ·rw [if_neg h]
  repeat' first|refine Yz ?_|intro _
  refine reE ?_
  unfold hOf
  rw [dif_neg h]
  rfl⟩
def tlvA (c:Int)(l:List Bs):Bs:=tlvT c (l.flatMap (tlvT c))
theorem tlvT_len (c:Int)(s:Bs):(tlvT c s).length<=16777219:=by simp [tlvT,tlvText,bodyLen,List.length_take];omega
instance {c:Int}{l:List Bs}:LenLe (tlvA c l) 16777219:=⟨tlvT_len _ _⟩
theorem flat_len (c:Int):∀ l:List Bs,(l.flatMap (tlvT c)).length<=l.length * 16777219
 | []=>by simp
 | s::l=>by
  have h1:=tlvT_len c s
  have h2:=flat_len c l
  rw [List.flatMap_cons,lla,List.length_cons,Nat.add_mul]
  omega
instance fnTAll {c:Int}{l:List Bs}{xs:List AV}{id:Option Value}[hx:Strs xs l]:Ans Tryz.prog GL 74 [.lit (.int .u8 c),.sl 1 xs id] ((0<=c/\c < 256)/\l.length<=8000000) (str (tlvA c l)):=⟨fun hp=>by
 obtain⟨hc,hl⟩:=hp
 have h:=hx.out
 subst h
 have hm:(l.map str).length=l.length:=llm _
 refine qE Tryz.func74 rfl Tryz.ntmps74 rfl (fun _ hs=>?_)
 repeat' first|refine Yz ?_|intro _
 rename_i g5
 refine ac_loop (α:=Nat × {m:List Av.Piece // True}) (fun q=>[(0,.lit (.int .u8 c)),(5,ptr g5),(8,.sl 1 (l.map str) id),(9,int l.length),(10,int q.1)]) (fun q=>q.2.1) (fun q=>q.1<=l.length/\Bld g5 ((l.take q.1).flatMap (tlvT c)) q.2.1) (fun q=>l.length - q.1) (0,⟨[.var g5 125 (.agg 2 [.lit (.pointer none),nils])],trivial⟩) ⟨rfl,rfl,rfl,by rw [<- hm];rfl,rfl,trivial⟩ slr ⟨Nat.zero_le _,none,.inl rfl,.inl ⟨rfl,rfl⟩⟩ ?_
 rintro⟨i,m,_⟩ ⟨h1,h2⟩
 dsimp only at h1 h2 ⊢
 repeat' first|refine Yz ?_|intro _
 refine ac_cond (fun hlt=>?_) (fun hlt=>?_)
 ·have hil:i < l.length:=by omega
  have hfl:=flat_len c (l.take i)
  have hfl2:=tlvT_len c l[i]
  have hti:(l.take i).length<=l.length:=by simp;omega
  repeat' first|refine Yz ?_|intro _
  refine al_callK (args:=[ptr g5,str (tlvT c l[i])]) m [] (by rw [hs];exact bwrite h2 (by omega)) (fun u m1 hh=>?_) (by rw [List.append_nil])
  obtain⟨rfl,hb⟩:=hh
  rw [List.append_nil]
  repeat' first|refine Yz ?_|intro _
  refine ae_round (i + 1,⟨m1,trivial⟩) ⟨rfl,rfl,rfl,rfl,rfl,trivial⟩ slr ⟨hil,?_⟩ (by dsimp only;omega)
  rw [List.take_succ_eq_append_getElem hil,List.flatMap_append]
  simpa using hb
 ·obtain rfl:i=l.length:=by omega
  rw [List.take_length] at h2
  have hfl:=flat_len c l
  repeat' first|refine Yz ?_|intro _
  refine al_callK (args:=[ptr g5]) m [] (by rw [hs];exact bstring h2 (by omega)) (fun u m1 hh=>?_) (by rw [List.append_nil])
  subst hh
  repeat' first|refine Yz ?_|intro _
  refine reE ?_
  rfl⟩
instance fnRAll {c:Int}{l:List Bs}{xs:List AV}{id:Option Value}[hx:Strs xs l]:Ans Tryz.prog GL 121 [.lit (.int .u8 c),.sl 1 xs id] (l.length<=8000000) (str (tlvA c l)):=⟨fun hl=>by
 have h:=hx.out
 subst h
 have hm:(l.map str).length=l.length:=llm _
 refine qE Tryz.func121 rfl Tryz.ntmps121 rfl (fun _ hs=>?_)
 repeat' first|refine Yz ?_|intro _
 refine ac_loop (α:=Nat) (fun i=>[(0,.lit (.int .u8 c)),(1,.sl 1 (l.map str) id),(5,str ((l.take i).flatMap (tlvT c))),(6,int i)]) (fun _=>[]) (fun i=>i<=l.length) (fun i=>l.length - i) 0 ⟨rfl,rfl,rfl,rfl,trivial⟩ slr (Nat.zero_le _) ?_
 intro i hi
 repeat' first|refine Yz ?_|intro _
 refine ac_cond (fun hlt=>?_) (fun hlt=>?_)
 ·have hil:i < l.length:=by omega
  have hfl:=flat_len c (l.take i)
  have hfl2:=tlvT_len c l[i]
  have hti:(l.take i).length<=l.length:=by simp;omega
  repeat' first|refine Yz ?_|intro _
  refine ae_round (i + 1) ⟨rfl,rfl,?_,rfl,trivial⟩ slr hil (by omega)
  rw [List.take_succ_eq_append_getElem hil,List.flatMap_append]
  simp
  rfl
 ·obtain rfl:i=l.length:=by omega
  rw [List.take_length]
  repeat' first|refine Yz ?_|intro _
  refine reE ?_
  rfl⟩
end Go.Proofs.YtndhpgclmgpmoaaGreatDoor
