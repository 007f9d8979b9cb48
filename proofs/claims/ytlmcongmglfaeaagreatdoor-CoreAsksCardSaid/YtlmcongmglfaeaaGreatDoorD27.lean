/- the references' hash (02): a block -/
import Derived.Test.YtlmcongmglfaeaaGreatDoorD14
import Derived.Test.YtlmcongmglfaeaaGreatDoorD22
import Derived.Test.YtlmcongmglfaeaaGreatDoorD25
import Derived.Test.YtlmcongmglfaeaaGreatDoorD26
namespace Go.Proofs.YtlmcongmglfaeaaGreatDoor
open Go Go.RowKit Tw Av
theorem tlvRead {s:Bs}:Av.Spec Tryz.prog GL 81 [str s] [] fun u m=>∃ g,u=ptr g/\m=[.var g 219 (rdA s false)]:=by
 refine qE Tryz.func81 rfl Tryz.ntmps81 rfl (fun _ hs=>?_)
 repeat' first|refine Vz ?_|intro _
 exact reK _ ⟨_,rfl,rfl⟩ slr
instance rdGood {g:Nat}{s:Bs}{b:Bool}:AnsM Tryz.prog GL 174 g [] 219 (rdA s b) True (boo (!b)) (rdA s b):=⟨fun _=>by
 refine qE Tryz.func174 rfl Tryz.ntmps174 rfl (fun _ hs=>?_)
 repeat' first|refine Vz ?_|intro _
 exact reK _ ⟨rfl,rfl⟩ slr⟩
instance rdFails {g:Nat}{s:Bs}{b:Bool}:AnsM Tryz.prog GL 171 g [] 219 (rdA s b) True (.tup []) (rdA s true):=⟨fun _=>by
 refine qE Tryz.func171 rfl Tryz.ntmps171 rfl (fun _ hs=>?_)
 repeat' first|refine Vz ?_|intro _
 exact reN _ ⟨rfl,rfl⟩ slr⟩
def nextC (s:Bs)(b:Bool):UInt8:=if b=true then 0 else s.headD 0
def nextIs (s:Bs)(b:Bool):Bool:=!b && decide (s≠[])
instance rdNext {g:Nat}{s:Bs}{b:Bool}:AnsM Tryz.prog GL 170 g [] 219 (rdA s b) True (.tup [u8A (nextC s b),boo (nextIs s b)]) (rdA s b):=⟨fun _=>by
 refine qE Tryz.func170 rfl Tryz.ntmps170 rfl (fun _ hs=>?_)
 cases b
 ·cases s with
  | nil=>
   repeat' first|refine Yz ?_|intro _
   exact reK _ ⟨rfl,rfl⟩ slr
  | cons c s=>
   repeat' first|refine Yz ?_|intro _
   exact reK _ ⟨rfl,rfl⟩ slr
 ·repeat' first|refine Yz ?_|intro _
  exact reK _ ⟨rfl,rfl⟩ slr⟩
instance rdLeft {g:Nat}{s:Bs}{b:Bool}:AnsM Tryz.prog GL 254 g [] 219 (rdA s b) True (int (if b=true then 0 else s.length:Nat)) (rdA s b):=⟨fun _=>by
 refine qE Tryz.func254 rfl Tryz.ntmps254 rfl (fun _ hs=>?_)
 cases b
 ·repeat' first|refine Yz ?_|intro _
  exact reK _ ⟨rfl,rfl⟩ slr
 ·repeat' first|refine Yz ?_|intro _
  exact reK _ ⟨rfl,rfl⟩ slr⟩
instance rdEnd {g:Nat}{s:Bs}{b:Bool}:AnsM Tryz.prog GL 91 g [] 219 (rdA s b) True (int (reE' s b)) (rdA s b):=⟨fun _=>by
 refine qE Tryz.func91 rfl Tryz.ntmps91 rfl (fun _ hs=>?_)
 cases b
 ·cases s with
  | nil=>
   repeat' first|refine Yz ?_|intro _
   exact reK _ ⟨rfl,rfl⟩ slr
  | cons c s=>
   repeat' first|refine Yz ?_|intro _
   exact reK _ ⟨rfl,rfl⟩ slr
 ·repeat' first|refine Yz ?_|intro _
  exact reK _ ⟨rfl,rfl⟩ slr⟩
def val3 (a b c:UInt8):Nat->Nat
 | 0=>0
 | 1=>0 * 256 + a.toNat
 | 2=>(0 * 256 + a.toNat) * 256 + b.toNat
 | _=>((0 * 256 + a.toNat) * 256 + b.toNat) * 256 + c.toNat
instance rdText {g:Nat}{s:Bs}{b:Bool}{c most:Int}:AnsM Tryz.prog GL 83 g [.lit (.int .u8 c),int most] 219 (rdA s b) (s.length<=4611686018427387904) (str (rtT c most s b)) (rdA (rsT c most s b) (rbT c most s b)):=⟨fun hl=>by
 refine qE Tryz.func83 rfl Tryz.ntmps83 rfl (fun _ hs=>?_)
 cases b
 rotate_left
 ·repeat' first|refine Yz ?_|intro _
  refine reK [.var g 219 (rdA s true)] ⟨?_,?_⟩ slr
  ·rw [rtT,rbT_bad];rfl
  ·rw [rsT,rbT,rbT_bad];rfl
 rcases s with _|⟨s0,s⟩
 ·repeat' first|refine Yz ?_|intro _
  exact reK [.var g 219 (rdA [] true)] ⟨rfl,rfl⟩ slr
 have hn:(nextC (s0::s) false).toNat=s0.toNat:=rfl
 by_cases hc:(s0.toNat:Int)=c
 rotate_left
 ·have e:cutT c most false (s0::s)=none:=by
   rcases s with _|⟨s1,_|⟨s2,_|⟨s3,r⟩⟩⟩
   ·rfl
   ·rfl
   ·rfl
   ·rw [cutT,if_neg (fun h=>hc h.2.1)]
  repeat' first|refine Yz ?_|intro _
  refine reK [.var g 219 (rdA (s0::s) true)] ⟨?_,?_⟩ slr
  ·rw [rtT,e];rfl
  ·rw [rsT,rbT,e];rfl
 rcases s with _|⟨s1,_|⟨s2,_|⟨s3,r⟩⟩⟩
 ·repeat' first|refine Yz ?_|intro _
  exact reK [.var g 219 (rdA [s0] true)] ⟨rfl,rfl⟩ slr
 ·repeat' first|refine Yz ?_|intro _
  exact reK [.var g 219 (rdA [s0,s1] true)] ⟨rfl,rfl⟩ slr
 ·repeat' first|refine Yz ?_|intro _
  exact reK [.var g 219 (rdA [s0,s1,s2] true)] ⟨rfl,rfl⟩ slr
 have hlen:(s0::s1::s2::s3::r).length=r.length + 4:=rfl
 have q1:=s1.toNat_lt
 have q2:=s2.toNat_lt
 have q3:=s3.toNat_lt
 repeat' first|refine Yz ?_|intro _
 refine al_sliceS 1 4 ?_
 repeat' first|refine Yz ?_|intro _
 refine ac_loop (α:=Nat) (fun i=>[(0,ptr g),(2,int most),(9,int (val3 s1 s2 s3 i:Nat)),(40,.sl 1 [.lit (u8v s1),.lit (u8v s2),.lit (u8v s3)] none),(41,int 3),(42,int i)]) (fun _=>[.var g 219 (rdA (s0::s1::s2::s3::r) false)])
  (fun i=>i<=3) (fun i=>3 - i) 0 ⟨rfl,rfl,rfl,rfl,rfl,rfl,trivial⟩ slr (by omega) ?_
 intro i hi
 rcases i with _|_|_|_|i
 ·have v0:val3 s1 s2 s3 0=0:=rfl
  repeat' first|refine Yz ?_|intro _
  exact ae_round 1 ⟨rfl,rfl,rfl,rfl,rfl,rfl,trivial⟩ slr (by omega) (by omega)
 ·have v1:val3 s1 s2 s3 (0 + 1)=0 * 256 + s1.toNat:=rfl
  repeat' first|refine Yz ?_|intro _
  exact ae_round 2 ⟨rfl,rfl,rfl,rfl,rfl,rfl,trivial⟩ slr (by omega) (by omega)
 ·have v1:val3 s1 s2 s3 (0 + 1 + 1)=(0 * 256 + s1.toNat) * 256 + s2.toNat:=rfl
  repeat' first|refine Yz ?_|intro _
  exact ae_round 3 ⟨rfl,rfl,rfl,rfl,rfl,rfl,trivial⟩ slr (by omega) (by omega)
 rotate_left
 ·exact absurd hi (by omega)
 have hv:val3 s1 s2 s3 (0 + 1 + 1 + 1)=len3 s1 s2 s3:=by simp [val3,len3]
 have hlt:=len3_lt s1 s2 s3
 have hct:cutT c most false (s0::s1::s2::s3::r)=if (len3 s1 s2 s3:Int)<=most/\len3 s1 s2 s3<=r.length then some (r.take (len3 s1 s2 s3),r.drop (len3 s1 s2 s3)) else none:=by
  rw [cutT]
  simp [hc]
 rw [hv]
 generalize len3 s1 s2 s3=n at *
 by_cases h1:(n:Int)<=most
 rotate_left
 ·have e:cutT c most false (s0::s1::s2::s3::r)=none:=by rw [hct,if_neg (fun h=>h1 h.1)]
  repeat' first|refine Yz ?_|intro _
  refine reK [.var g 219 (rdA (s0::s1::s2::s3::r) true)] ⟨?_,?_⟩ slr
  ·rw [rtT,e];rfl
  ·rw [rsT,rbT,e];rfl
 by_cases h2:n<=r.length
 rotate_left
 ·have e:cutT c most false (s0::s1::s2::s3::r)=none:=by rw [hct,if_neg (fun h=>h2 h.2)]
  repeat' first|refine Yz ?_|intro _
  refine reK [.var g 219 (rdA (s0::s1::s2::s3::r) true)] ⟨?_,?_⟩ slr
  ·rw [rtT,e];rfl
  ·rw [rsT,rbT,e];rfl
 have e:cutT c most false (s0::s1::s2::s3::r)=some (r.take n,r.drop n):=by rw [hct,if_pos ⟨h1,h2⟩]
 repeat' first|refine Yz ?_|intro _
 refine al_sliceS 4 (4 + n) ?_
 repeat' first|refine Yz ?_|intro _
 refine al_sliceS (4 + n) (r.length + 4) ?_
 repeat' first|refine Yz ?_|intro _
 refine reK [.var g 219 (rdA (r.drop n) false)] ⟨?_,?_⟩ ?_
 ·rw [rtT,e]
  simp [outOf,Nat.add_comm]
 ·rw [rsT,rbT,e];rfl
 ·have e2:List.drop (4 + n) (List.take (r.length + 4) (s0::s1::s2::s3::r))=r.drop n:=by
   rw [List.take_of_length_le (by simp),Nat.add_comm 4 n]
   simp
  rw [e2]
  exact List.Sublist.refl _⟩

theorem rnN_eq {c:Int}{s:Bs}{b:Bool}:rnN c s b=if lead0 (rtT c 8 s b)=true then 0 else numOf (rtT c 8 s b):=rfl
theorem rnN_lt (c:Int)(s:Bs)(b:Bool):rnN c s b < 18446744073709551616:=by
 rw [rnN_eq]
 have h:=(rtT_len c 8 s b).2 (by decide)
 have:=numOf_small (l:=rtT c 8 s b) (by omega)
 split <;> omega
instance rdNum {g:Nat}{s:Bs}{b:Bool}{c:Int}:AnsM Tryz.prog GL 172 g [.lit (.int .u8 c)] 219 (rdA s b) (s.length<=4611686018427387904) (.lit (.int .u64 (rnN c s b))) (rdA (rsT c 8 s b) (rnB c s b)):=⟨fun hl=>by
 refine qE Tryz.func172 rfl Tryz.ntmps172 rfl (fun _ hs=>?_)
 repeat' first|refine Yz ?_|intro _
 have hx:=(rtT_len c 8 s b).2 (by decide)
 rw [rnB,rnN_eq]
 generalize rtT c 8 s b=x at *
 refine ac_loop (α:=Nat) (fun i=>[(0,ptr g),(5,str x),(6,.lit (.int .u64 (numOf (x.take i):Nat))),(12,int x.length),(13,int i)]) (fun _=>[.var g 219 (rdA (rsT c 8 s b) (rbT c 8 s b))])
  (fun i=>i<=x.length) (fun i=>x.length - i) 0 ⟨rfl,rfl,rfl,rfl,rfl,trivial⟩ slr (by omega) ?_
 intro i hi
 repeat' first|refine Yz ?_|intro _
 refine ac_cond (fun hlt=>?_) (fun hlt=>?_)
 ·have hil:i < x.length:=by omega
  have h1:=numOf_take hil
  have h2:=x[i].toNat_lt
  have h3:=numOf_small (l:=x.take (i + 1)) (by simp;omega)
  repeat' first|refine Yz ?_|intro _
  refine al_idxS i ?_ (List.getElem?_eq_getElem hil)
  repeat' first|refine Yz ?_|intro _
  refine ae_round (i + 1) ⟨rfl,rfl,?_,rfl,rfl,trivial⟩ slr hil (by omega)
  rw [h1]
  rfl
 ·obtain rfl:i=x.length:=by omega
  rw [List.take_length]
  cases x with
  | nil=>
   repeat' first|refine Yz ?_|intro _
   refine reK [.var g 219 (rdA (rsT c 8 s b) (rbT c 8 s b))] ⟨rfl,?_⟩ slr
   simp [lead0]
  | cons a x=>
   have ha:lead0 (a::x)=decide ((a.toNat:Int)=0):=by
    rw [lead0_cons]
    refine decide_eq_decide.2 ⟨fun h=>by rw [h];rfl,fun h=>UInt8.toNat.inj (by simpa using h)⟩
   rw [ha]
   by_cases h0:(a.toNat:Int)=0
   ·rw [dT h0]
    repeat' first|refine Yz ?_|intro _
    refine reK [.var g 219 (rdA (rsT c 8 s b) true)] ⟨rfl,?_⟩ slr
    simp
   ·rw [dZ h0]
    repeat' first|refine Yz ?_|intro _
    refine reK [.var g 219 (rdA (rsT c 8 s b) (rbT c 8 s b))] ⟨rfl,?_⟩ slr
    simp⟩
instance rdInt {g:Nat}{s:Bs}{b:Bool}{c most:Int}:AnsM Tryz.prog GL 85 g [.lit (.int .u8 c),int most] 219 (rdA s b) (s.length<=4611686018427387904/\0<=most/\most<=9223372036854775807) (int (riI c most s b)) (rdA (rsT c 8 s b) (riB c most s b)):=⟨fun hp=>by
 obtain⟨hl,h0,h1⟩:=hp
 refine qE Tryz.func85 rfl Tryz.ntmps85 rfl (fun _ hs=>?_)
 repeat' first|refine Yz ?_|intro _
 have hx:=rnN_lt c s b
 rw [riI,riB]
 generalize rnN c s b=n at *
 by_cases h:most < (n:Int)
 ·rw [if_pos h,dT h]
  repeat' first|refine Yz ?_|intro _
  refine reK [.var g 219 (rdA (rsT c 8 s b) true)] ⟨rfl,?_⟩ slr
  simp
 ·rw [if_neg h,dZ h]
  repeat' first|refine Yz ?_|intro _
  refine reK [.var g 219 (rdA (rsT c 8 s b) (rnB c s b))] ⟨rfl,?_⟩ slr
  simp⟩

theorem all1 {go gi gr gl gm:Nat}{acc:List Bs}{v:Value}{s:Bs}{b:Bool}{c most:Int}(hl:s.length<=4611686018427387904)(hn:acc.length<=1000000000):Av.Spec Tryz.prog GL 253 [ptr go,ptr gi,ptr gl,ptr gm]
  [.tail 9 1 v,.var go 28 (.sl 1 (acc.map str) (some v)),.var gi 151 (ptr gr),.var gr 219 (rdA s b),.var gm 3 (int most),.var gl 5 (.lit (.int .u8 c))]
  fun u m=>∃ v',u=boo (!rbT c most s b)/\m=[.tail 9 1 v',.var go 28 (.sl 1 ((acc++[rtT c most s b]).map str) (some v')),.var gi 151 (ptr gr),.var gr 219 (rdA (rsT c most s b) (rbT c most s b)),.var gm 3 (int most),.var gl 5 (.lit (.int .u8 c))]:=by
 refine qE Tryz.func253 rfl Tryz.ntmps253 rfl (fun _ hs=>?_)
 repeat' first|refine Yz ?_|intro _
 apply obl_fresh [0];exact rfl;exact rfl;exact rfl;kernel_rfl;intro _ _
 refine al_append (fun v'=>?_)
 refine al_nil (ae_fresh [.tail 9 1 v'] [] rfl rfl lpr rfl ?_)
 repeat' first|refine Yz ?_|intro _
 refine reK _ ⟨v',rfl,rfl⟩ ?_
 rw [List.map_append]
 exact List.Sublist.refl _
theorem bods_nil {c most:Int}{f:Nat}:bods c most (f + 1) [] false=([],false):=by rw [bods,if_pos (.inr rfl)]
theorem bods_bad {c most:Int}:∀ {f:Nat} {s:Bs},bods c most f s true=([],true)
 | 0,_=>rfl
 | f + 1,s=>by rw [bods,if_pos (.inl rfl)]
theorem bods_cons {c most:Int}{f:Nat}{a:UInt8}{s:Bs}:bods c most (f + 1) (a::s) false=(rtT c most (a::s) false::(bods c most f (rsT c most (a::s) false) (rbT c most (a::s) false)).1,(bods c most f (rsT c most (a::s) false) (rbT c most (a::s) false)).2):=by rw [bods,if_neg (by simp)]
instance rdAll {g:Nat}{s:Bs}{b:Bool}{c many most:Int}:AnsM Tryz.prog GL 144 g [.lit (.int .u8 c),int many,int most] 219 (rdA s b) (s.length<=1000000000) (.sl 1 ((raL c many most s b).map str) none) (rdA (rsT c 16777215 s b) (raB c many most s b)):=⟨fun hl=>by
 refine qE Tryz.func144 rfl Tryz.ntmps144 rfl (fun _ hs=>?_)
 repeat' first|refine Yz ?_|intro _
 have hx:=(rtT_len c 16777215 s b).1
 have hx2:=(rsT_len c 16777215 s b).1
 rw [raL,raB]
 generalize rtT c 16777215 s b=x at *
 generalize rsT c 16777215 s b=s1 at *
 generalize rbT c 16777215 s b=b1 at *
 refine al_callK (args:=[str x]) [] _ (by rw [hs];exact tlvRead) (fun u m1 hh=>?_) lpr
 obtain⟨gr,rfl,rfl⟩:=hh
 repeat' first|refine Yz ?_|intro _
 rename_i gl gm gi go
 refine al_makeFunc (vs:=[.pointer (some ⟨go,0,none⟩),.pointer (some ⟨gi,0,none⟩),.pointer (some ⟨gl,0,none⟩),.pointer (some ⟨gm,0,none⟩)]) ?_
 repeat' first|refine Yz ?_|intro _
 generalize hX:allX c most x=X at *
 refine ac_asV (g:=go) (v':=.sl 1 [] (some (.slice none 0 0))) ImpC.nilT ?_
 refine ac_st (fun ok w h=>h.full 9 1 none 0) ?_
 refine ac_midB (α:=Value) (fun _=>[(0,ptr g),(2,int many),(10,ptr go)]) (fun v=>[.tail 9 1 v,.var go 28 (.sl 1 (X.1.map str) (some v)),.var g 219 (rdA s1 (b1 || X.2))]) ?_ (fun v=>?_)
 focus
  refine ac_loop (α:=List Bs × Value × Bs × Nat) (fun _=>[(0,ptr g),(2,int many),(9,ptr gi),(10,ptr go),(11,fnv 253 [.pointer (some ⟨go,0,none⟩),.pointer (some ⟨gi,0,none⟩),.pointer (some ⟨gl,0,none⟩),.pointer (some ⟨gm,0,none⟩)])])
   (fun q=>[.tail 9 1 q.2.1,.var go 28 (.sl 1 (q.1.map str) (some q.2.1)),.var gi 151 (ptr gr),.var gr 219 (rdA q.2.2.1 false),.var gm 3 (int most),.var gl 5 (.lit (.int .u8 c)),.var g 219 (rdA s1 b1)])
   (fun q=>X=(q.1++(bods c most q.2.2.2 q.2.2.1 false).1,(bods c most q.2.2.2 q.2.2.1 false).2)/\q.2.2.1.length < q.2.2.2/\q.1.length + q.2.2.1.length<=x.length) (fun q=>q.2.2.2) ([],.slice none 0 0,x,x.length + 1) ⟨rfl,rfl,rfl,rfl,rfl,trivial⟩ slr ⟨hX.symm,by dsimp only;omega,by simp⟩ ?_
  rintro⟨acc,v,s2,f⟩ ⟨e1,e2,e3⟩
  dsimp only at e1 e2 e3 ⊢
  rcases f with _|f
  focus
   omega
  cases s2 with
  | nil=>
   rw [bods_nil,List.append_nil] at e1
   subst e1
   repeat' first|refine Yz ?_|intro _
   refine ae_cut v ⟨rfl,rfl,rfl,trivial⟩ ?_
   rw [Bool.or_false]
   exact sbl
  | cons a s2=>
   have hl2:(if false=true then 0 else (a::s2).length)=s2.length + 1:=rfl
   repeat' first|refine Yz ?_|intro _
   refine al_callV (args:=[]) (cs:=[.pointer (some ⟨go,0,none⟩),.pointer (some ⟨gi,0,none⟩),.pointer (some ⟨gl,0,none⟩),.pointer (some ⟨gm,0,none⟩)])
    [.tail 9 1 v,.var go 28 (.sl 1 (acc.map str) (some v)),.var gi 151 (ptr gr),.var gr 219 (rdA (a::s2) false),.var gm 3 (int most),.var gl 5 (.lit (.int .u8 c))] [.var g 219 (rdA s1 b1)]
    (by rw [hs];exact all1 (by omega) (by omega)) (fun u m1 hh=>?_) lpr
   obtain⟨v',rfl,rfl⟩:=hh
   rw [bods_cons] at e1
   have hle:=(rsT_len c most (a::s2) false).1
   have hlt:=rsT_dec (c:=c) (most:=most) (s:=a::s2) (b:=false)
   generalize rtT c most (a::s2) false=x' at *
   generalize rsT c most (a::s2) false=s3 at *
   cases hb:rbT c most (a::s2) false
   ·have hlt:=hlt hb
    rw [hb] at e1
    repeat' first|refine Yz ?_|intro _
    refine ae_round (acc++[x'],v',s3,f) ⟨rfl,rfl,rfl,rfl,rfl,trivial⟩ slr ⟨?_,by dsimp only;omega,by simp only [List.length_append,List.length_cons,List.length_nil];omega⟩ (by dsimp only;omega)
    simpa using e1
   ·rw [hb,bods_bad] at e1
    subst e1
    repeat' first|refine Yz ?_|intro _
    refine ae_cut v' ⟨rfl,rfl,rfl,trivial⟩ ?_
    rw [Bool.or_true]
    exact sbl
 focus
  have hml:(X.1.map str).length=X.1.length:=llm _
  unfold outA badA
  by_cases hm:many < (X.1.length:Int)
  ·rw [dT hm,Bool.or_true,Bool.or_true,if_pos rfl]
   repeat' first|refine Yz ?_|intro _
   refine reIKm (.sl 1 [] none) [.var g 219 (rdA s1 true)] ?_ ⟨rfl,rfl⟩ ?_
   focus
    exact Imp.nilN
   exact sbl
  ·rw [dZ hm,Bool.or_false]
   cases hb:(b1 || X.2)
   ·repeat' first|refine Yz ?_|intro _
    refine reIKm (.sl 1 (X.1.map str) none) [.var g 219 (rdA s1 false)] ?_ ⟨rfl,rfl⟩ ?_
    focus
     exact Imp.sl
    exact sbl
   ·repeat' first|refine Yz ?_|intro _
    refine reIKm (.sl 1 [] none) [.var g 219 (rdA s1 true)] ?_ ⟨rfl,rfl⟩ ?_
    focus
     exact Imp.nilN
    repeat (first|exact List.nil_sublist _|exact List.Sublist.refl _|apply List.Sublist.cons_cons|apply List.Sublist.cons)⟩

theorem u8ofInt (n:Nat):UInt8.ofNat (IntKind.u8.wrap (n:Int)).toNat=UInt8.ofNat n:=by
 rw [IntKind.wrap_u8]
 apply UInt8.toNat_inj.1
 simp
 omega
theorem tlvT_eq (c:Int)(s:Bs)(n:Nat)(hn:n=(s.take bodyLen).length):[UInt8.ofNat c.toNat,UInt8.ofNat (IntKind.u8.wrap ((n:Int) / 65536)).toNat,UInt8.ofNat (IntKind.u8.wrap ((n:Int) / 256)).toNat,UInt8.ofNat (IntKind.u8.wrap (n:Int)).toNat]++s.take bodyLen=tlvT c s:=by
 subst hn
 have e1:=u8ofInt ((s.take bodyLen).length / 65536)
 have e2:=u8ofInt ((s.take bodyLen).length / 256)
 have e3:=u8ofInt (s.take bodyLen).length
 simp only [Int.natCast_ediv,Int.cast_ofNat_Int] at e1 e2
 rw [e1,e2,e3]
 rfl
instance {s:Bs}:LenLe (s.take bodyLen) 16777215:=⟨by simp [bodyLen,List.length_take];omega⟩
instance fnRText {c:Int}{s:Bs}:Ans Tryz.prog GL 107 [.lit (.int .u8 c),str s] True (str (tlvT c s)):=⟨fun _=>by
 refine qE Tryz.func107 rfl Tryz.ntmps107 rfl (fun _ hs=>?_)
 repeat' first|refine Wz ?_|intro _
 refine ac_cond (fun hl=>?_) (fun hl=>?_)
 ·repeat' first|refine Wz ?_|intro _
  have hb:(s.take 16777215).drop 0=s.take bodyLen:=rfl
  have hlen:(s.take bodyLen).length=16777215:=by simp [bodyLen];omega
  refine al_sliceS 0 16777215 ?_
  rw [hb]
  repeat' first|refine Wz ?_|intro _
  refine reE ?_
  exact congrArg str (tlvT_eq c s _ rfl)
 ·repeat' first|refine Wz ?_|intro _
  refine reE ?_
  have hb:s.take bodyLen=s:=List.take_of_length_le (by simp [bodyLen];omega)
  have:=tlvT_eq c s s.length (by rw [hb])
  rw [hb] at this
  exact congrArg str this⟩

instance fnRDigits {n:Nat}:Ans Tryz.prog GL 271 [.lit (.int .u64 n)] (n < 18446744073709551616) (str (Tw.digits n)):=⟨fun hn=>by
 refine qE Tryz.func271 rfl Tryz.ntmps271 rfl (fun _ hs=>?_)
 repeat' first|refine Wz ?_|intro _
 refine ac_loop (α:=Nat × Nat × Bs) (fun q=>[(0,.lit (.int .u64 q.2.1)),(3,str q.2.2)]) (fun _=>[]) (fun q=>q.2.1 < 256 ^ q.1/\q.2.2.length + q.1<=8/\digitsF q.1 q.2.1++q.2.2=Tw.digits n) (fun q=>q.1) (8,n,[]) ⟨rfl,rfl,trivial⟩ slr ⟨by simpa using hn,by simp,by simp [Tw.digits]⟩ ?_
 rintro⟨f,k,s⟩ ⟨g1,g2,g3⟩
 dsimp only at g1 g2 g3 ⊢
 repeat' first|refine Wz ?_|intro _
 refine ac_cond (fun hlt=>?_) (fun hlt=>?_)
 ·obtain⟨f,rfl⟩:∃ f',f=f' + 1:=⟨f - 1,by
   rcases Nat.eq_zero_or_pos f with h|h
   ·subst h;simp at g1;omega
   ·omega⟩
  have h0:k≠0:=by omega
  rw [digitsF,if_neg h0,laa] at g3
  have hk:k < 18446744073709551616:=by
   have:256 ^ (f + 1)<=256 ^ 8:=Nat.pow_le_pow_right (by omega) (by omega)
   omega
  repeat' first|refine Wz ?_|intro _
  rw [u8ofInt k]
  refine al_div (h2:=by intro c _ _;rw [IntKind.wrap_u64];omega) ?_
  repeat' first|refine Wz ?_|intro _
  have hq:(k:Int) / 256=((k / 256:Nat):Int):=by omega
  rw [hq]
  exact ae_round (f,k / 256,[UInt8.ofNat k]++s) ⟨rfl,rfl,trivial⟩ slr ⟨by simp only;rw [Nat.pow_succ] at g1;omega,by simp only [List.length_append,List.length_singleton];omega,by simpa using g3⟩ (Nat.lt_succ_self f)
 ·have h0:k=0:=by omega
  subst h0
  have:digitsF f 0=[]:=by cases f <;> simp [digitsF]
  rw [this,List.nil_append] at g3
  subst g3
  repeat' first|refine Wz ?_|intro _
  refine reE ?_
  rfl⟩
instance fnRNum {c:Int}{n:Nat}:Ans Tryz.prog GL 169 [.lit (.int .u8 c),.lit (.int .u64 n)] (n < 18446744073709551616) (str (tlvT c (Tw.digits n))):=⟨fun hn=>by
 refine qE Tryz.func169 rfl Tryz.ntmps169 rfl (fun _ hs=>?_)
 repeat' first|refine Wz ?_|intro _
 refine reE ?_
 rfl⟩
instance fnRInt {c:Int}{n:Int}:Ans Tryz.prog GL 78 [.lit (.int .u8 c),int n] (n<=9223372036854775807) (str (tlvI c n)):=⟨fun hn=>by
 refine qE Tryz.func78 rfl Tryz.ntmps78 rfl (fun _ hs=>?_)
 repeat' first|refine Wz ?_|intro _
 refine ac_cond (fun hlt=>?_) (fun hlt=>?_)
 ·repeat' first|refine Wz ?_|intro _
  refine al_callP (show (0:Nat) < 18446744073709551616 by omega) ?_ (hc:=fnRNum (n:=0))
  repeat' first|refine Wz ?_|intro _
  refine reE ?_
  have:n.toNat=0:=by omega
  rw [tlvI,tlvInt,this]
  rfl
 ·repeat' first|refine Wz ?_|intro _
  obtain⟨k,rfl⟩:∃ k:Nat,n=k:=⟨n.toNat,by omega⟩
  refine al_callP (show k < 18446744073709551616 by omega) ?_ (hc:=fnRNum (n:=k))
  repeat' first|refine Wz ?_|intro _
  refine reE ?_
  rfl⟩
instance fnTurned {x:W32}{c:Int}:Ans Tryz.prog GL 364 [w32A x,.lit (.int .u64 c)] (0 < c/\c < 32) (w32A (rotr x c.toNat)):=⟨fun hc=>by
 obtain⟨n,rfl⟩:∃ n:Nat,c=n:=⟨c.toNat,by omega⟩
 refine qE Tryz.func364 rfl Tryz.ntmps364 rfl (fun _ hs=>?_)
 repeat' first|refine Wz ?_|intro _
 refine al_shr32 n ?_
 repeat' first|refine Wz ?_|intro _
 refine al_arith ?_
 have hw:IntKind.u64.wrap ((32:Int) - (n:Int))=((32 - n:Nat):Int):=by rw [IntKind.wrap_u64];omega
 rw [hw]
 repeat' first|refine Wz ?_|intro _
 refine al_shl32 (32 - n) ?_
 repeat' (first|refine opW ?_|refine obW ?_|refine W ?_|refine ob2 (fun _=>?_)|intro _)
 refine reE ?_
 rfl⟩
instance fnRHText {h:Hsh}:Ans Tryz.prog GL 108 [hA h] True (str h.l):=⟨fun _=>by
 refine qE Tryz.func108 rfl Tryz.ntmps108 rfl (fun _ hs=>?_)
 repeat' first|refine Wz ?_|intro _
 rename_i g
 have hlen:=h.len
 refine ac_as 3 (Imp.nil (k:=1)) ?_
 refine ac_st (fun ok w h=>h.full 5 1 none 0) ?_
 refine ac_loop (α:=Nat × Value) (fun q=>[(1,ptr g),(3,.sl 1 ((h.l.take q.1).map u8A) (some q.2)),(4,int q.1)]) (fun q=>[.tail 5 1 q.2,.var g 38 (.agg 32 (h.l.map u8A))]) (fun q=>q.1<=32) (fun q=>32 - q.1) (0,.slice none 0 0) ⟨rfl,rfl,rfl,trivial⟩ slr (Nat.zero_le _) ?_
 rintro⟨i,v⟩ g1
 dsimp only at g1 ⊢
 repeat' first|refine Wz ?_|intro _
 refine ac_cond (fun hlt=>?_) (fun hlt=>?_)
 ·have hlt':i < h.l.length:=by omega
  repeat' first|refine Wz ?_|intro _
  refine al_idxA i ?_
  repeat' first|refine Wz ?_|intro _
  refine al_loadM i hlt' ?_
  repeat' first|refine Wz ?_|intro _
  refine al_append (fun v'=>?_)
  repeat' first|refine Wz ?_|intro _
  have e:(h.l.take i).map u8A++[u8A h.l[i]]=(h.l.take (i + 1)).map u8A:=by rw [List.take_succ_eq_append_getElem hlt',List.map_append];rfl
  rw [e]
  exact ae_round (i + 1,v') ⟨rfl,rfl,rfl,trivial⟩ slr (by simp only;omega) (by simp only;omega)
 ·repeat' first|refine Wz ?_|intro _
  rw [List.take_of_length_le (by omega)]
  repeat' first|refine Wz ?_|intro _
  refine reE ?_
  rfl⟩

theorem wsl (blk:Bs):∀ k,(ws blk k).length=k
 | 0=>rfl
 | k + 1=>by simp [ws,wsl blk k]
def wA (blk:Bs)(k:Nat):List AV:=(ws blk k).map (fun x=>.lit (w32v x))++List.replicate (64 - k) (.lit (w32v 0))
instance {blk:Bs}{k:Nat}:Siz (wA blk k) 1:=by unfold wA;infer_instance
theorem wA_len (blk:Bs)(k:Nat)(h:k<=64):(wA blk k).length=64:=by simp [wA,wsl];omega
theorem wA_get (blk:Bs)(k j:Nat)(h:j < k):(wA blk k)[j]?=some (w32A ((ws blk k).getD j 0)):=by
 have hl:=wsl blk k
 simp [wA,List.getElem?_append,hl,h]
def nxt (blk:Bs)(k:Nat):W32:=if k < 16 then wordAt blk k else nextW (ws blk k) k
theorem wA_next (blk:Bs)(k:Nat)(h:k < 64):(wA blk k).set k (w32A (nxt blk k))=wA blk (k + 1):=by
 have hl:=wsl blk k
 have hx:ws blk (k + 1)=ws blk k++[nxt blk k]:=rfl
 unfold wA
 rw [hx,List.set_append,if_neg (by simp [hl]),List.map_append,List.length_map,hl,Nat.sub_self,show 64 - k=(64 - (k + 1)) + 1 by omega,List.replicate_succ]
 simp
abbrev hwA (x:H8):AV:=.agg 8 (x.words.map fun x=>.lit (w32v x))
abbrev tabA:AV:=.agg 2 [.sl 1 (h0.words.map fun x=>.lit (w32v x)) none,.sl 1 (kTab.map fun x=>.lit (w32v x)) none]
theorem gd {l:Bs}{i:Nat}(h:i < l.length):l.getD i 0=l[i]:=by simp [List.getD,h]
theorem gdk {l:List W32}{i:Nat}(h:i < l.length):l.getD i 0=l[i]:=by simp [List.getD,h]
theorem ch_eq (e f g:W32):(e &&& f) ^^^ (~~~ e &&& g)=g ^^^ e &&& (f ^^^ g):=by
 apply BitVec.eq_of_getLsbD_eq
 intro i hi
 simp only [BitVec.getLsbD_xor,BitVec.getLsbD_and,BitVec.getLsbD_not,hi,decide_true,Bool.true_and]
 cases e.getLsbD i <;> cases f.getLsbD i <;> cases g.getLsbD i <;> rfl
theorem maj_eq (a b c:W32):(a &&& b) ^^^ (a &&& c) ^^^ (b &&& c)=a &&& b ||| c &&& (a ||| b):=by
 apply BitVec.eq_of_getLsbD_eq
 intro i hi
 simp only [BitVec.getLsbD_xor,BitVec.getLsbD_and,BitVec.getLsbD_or]
 cases a.getLsbD i <;> cases b.getLsbD i <;> cases c.getLsbD i <;> rfl
def roundR (k w:W32)(y:H8):H8:=
 ⟨y.h + (rotr y.e 6 ^^^ rotr y.e 11 ^^^ rotr y.e 25) + ((y.e &&& y.f) ^^^ (~~~ y.e &&& y.g)) + k + w + ((rotr y.a 2 ^^^ rotr y.a 13 ^^^ rotr y.a 22) + ((y.a &&& y.b) ^^^ (y.a &&& y.c) ^^^ (y.b &&& y.c))),y.a,y.b,y.c,
  y.d + (y.h + (rotr y.e 6 ^^^ rotr y.e 11 ^^^ rotr y.e 25) + ((y.e &&& y.f) ^^^ (~~~ y.e &&& y.g)) + k + w),y.e,y.f,y.g⟩
theorem roundR_eq (k w:W32)(y:H8):round k w y=roundR k w y:=by
 unfold round roundR
 simp only [ch_eq,maj_eq,BitVec.add_assoc]
theorem addTo_map (x y:H8)(i:Nat)(h:i < 8):((addTo x y i).map fun x=>AV.lit (w32v x)).set i (w32A (x.words.getD i 0 + y.words.getD i 0))=(addTo x y (i + 1)).map fun x=>AV.lit (w32v x):=by
 rw [<- addTo_next x y i h,List.map_set]
attribute [local irreducible] Av.Obl
set_option maxHeartbeats 4000000 in
instance fnRBlock {x:H8}{blk:Bs}{id:Option Value}:Ans Tryz.prog GL 336 [tabA,hwA x,.sl 1 (blk.map u8A) id] (blk.length=64) (hwA (compress x blk)):=⟨fun hbl=>by
 refine qE Tryz.func336 rfl Tryz.ntmps336 rfl (fun _ hs=>?_)
 repeat' first|refine Wz ?_|intro _
 rename_i g3 g4 g6 g7
 refine ac_asV (g:=g7) (v':=.agg 64 (wA blk 0)) (fun ok w cs h=>h) ?_
 refine ac_loop (α:=Nat) (fun i=>[(2,.sl 1 (blk.map u8A) id),(3,ptr g3),(4,ptr g4),(6,ptr g6),(7,ptr g7),(8,int i)])
   (fun i=>[.var g7 360 (.agg 64 (wA blk i)),.var g6 339 (hwA ⟨0,0,0,0,0,0,0,0⟩),.var g4 339 (hwA x),.var g3 299 tabA]) (fun i=>i<=64) (fun i=>64 - i) 0 ⟨rfl,rfl,rfl,rfl,rfl,rfl,trivial⟩ slr (Nat.zero_le _) ?_
 intro i hi
 repeat' first|refine Wz ?_|intro _
 refine ac_cond (fun hlt=>?_) (fun hlt=>?_)
 ·repeat' first|refine Wz ?_|intro _
  have hn:=wA_next blk i (by omega)
  have hl64:=wA_len blk i (by omega)
  refine ac_cond (fun h16=>?_) (fun h16=>?_)
  ·repeat' (first|refine opW ?_|refine obW ?_|refine W ?_|refine ob2 (fun _=>?_)|intro _)
   apply obl_read [];exact rfl;exact rfl;kernel_rfl;intro _ _
   refine al_idxM (l:=blk) (f:=u8A) (4 * i) (by omega) ?_
   exact al_nil (ae_got rfl rfl)
   repeat' (first|refine opW ?_|refine obW ?_|refine W ?_|refine ob2 (fun _=>?_)|intro _)
   apply obl_read [];exact rfl;exact rfl;kernel_rfl;intro _ _
   refine al_idxM (l:=blk) (f:=u8A) (4 * i + 1) (by omega) ?_
   exact al_nil (ae_got rfl rfl)
   repeat' (first|refine opW ?_|refine obW ?_|refine W ?_|refine ob2 (fun _=>?_)|intro _)
   apply obl_read [];exact rfl;exact rfl;kernel_rfl;intro _ _
   refine al_idxM (l:=blk) (f:=u8A) (4 * i + 2) (by omega) ?_
   exact al_nil (ae_got rfl rfl)
   repeat' (first|refine opW ?_|refine obW ?_|refine W ?_|refine ob2 (fun _=>?_)|intro _)
   apply obl_read [];exact rfl;exact rfl;kernel_rfl;intro _ _
   refine al_idxM (l:=blk) (f:=u8A) (4 * i + 3) (by omega) ?_
   exact al_nil (ae_got rfl rfl)
   repeat' (first|refine opW ?_|refine obW ?_|refine W ?_|refine ob2 (fun _=>?_)|intro _)
   apply obl_read [];exact rfl;exact rfl;kernel_rfl;intro _ _
   refine al_idxA i ?_
   exact al_nil (ae_got rfl rfl)
   apply obl_writeN [0];exact rfl;exact rfl;kernel_rfl
   ·intro _ _
    refine al_storeE (j:=i) (ps:=wA blk i) (by omega) ?_
    exact al_nil (ae_gotN rfl)
   ·exact rfl
   ·exact rfl
   have e:b32 blk[4 * i] <<< 24 ||| b32 blk[4 * i + 1] <<< 16 ||| b32 blk[4 * i + 2] <<< 8 ||| b32 blk[4 * i + 3]=nxt blk i:=by
    rw [nxt,if_pos (by omega),wordAt,gd,gd,gd,gd]
   rw [e,hn]
   repeat' first|refine Wz ?_|intro _
   refine ae_round (i + 1) ⟨rfl,rfl,rfl,rfl,rfl,rfl,trivial⟩ slr (by omega) (by omega)
  ·repeat' (first|refine opW ?_|refine obW ?_|refine W ?_|refine ob2 (fun _=>?_)|intro _)
   apply obl_read [];exact rfl;exact rfl;kernel_rfl;intro _ _
   refine al_idxA (i - 15) ?_
   exact al_nil (ae_got rfl rfl)
   repeat' (first|refine opW ?_|refine obW ?_|refine W ?_|refine ob2 (fun _=>?_)|intro _)
   apply obl_read [0];exact rfl;exact rfl;kernel_rfl;intro _ _
   refine al_loadE (j:=i - 15) (ps:=wA blk i) (wA_get blk i (i - 15) (by omega)) ?_
   exact al_nil (ae_got rfl rfl)
   repeat' (first|refine opW ?_|refine obW ?_|refine W ?_|refine ob2 (fun _=>?_)|intro _)
   apply obl_read [];exact rfl;exact rfl;kernel_rfl;intro _ _
   refine al_idxA (i - 15) ?_
   exact al_nil (ae_got rfl rfl)
   repeat' (first|refine opW ?_|refine obW ?_|refine W ?_|refine ob2 (fun _=>?_)|intro _)
   apply obl_read [0];exact rfl;exact rfl;kernel_rfl;intro _ _
   refine al_loadE (j:=i - 15) (ps:=wA blk i) (wA_get blk i (i - 15) (by omega)) ?_
   exact al_nil (ae_got rfl rfl)
   repeat' (first|refine opW ?_|refine obW ?_|refine W ?_|refine ob2 (fun _=>?_)|intro _)
   apply obl_read [];exact rfl;exact rfl;kernel_rfl;intro _ _
   refine al_idxA (i - 15) ?_
   exact al_nil (ae_got rfl rfl)
   repeat' (first|refine opW ?_|refine obW ?_|refine W ?_|refine ob2 (fun _=>?_)|intro _)
   apply obl_read [0];exact rfl;exact rfl;kernel_rfl;intro _ _
   refine al_loadE (j:=i - 15) (ps:=wA blk i) (wA_get blk i (i - 15) (by omega)) ?_
   exact al_nil (ae_got rfl rfl)
   repeat' (first|refine opW ?_|refine obW ?_|refine W ?_|refine ob2 (fun _=>?_)|intro _)
   apply obl_read [];exact rfl;exact rfl;kernel_rfl;intro _ _
   refine al_idxA (i - 2) ?_
   exact al_nil (ae_got rfl rfl)
   repeat' (first|refine opW ?_|refine obW ?_|refine W ?_|refine ob2 (fun _=>?_)|intro _)
   apply obl_read [0];exact rfl;exact rfl;kernel_rfl;intro _ _
   refine al_loadE (j:=i - 2) (ps:=wA blk i) (wA_get blk i (i - 2) (by omega)) ?_
   exact al_nil (ae_got rfl rfl)
   repeat' (first|refine opW ?_|refine obW ?_|refine W ?_|refine ob2 (fun _=>?_)|intro _)
   apply obl_read [];exact rfl;exact rfl;kernel_rfl;intro _ _
   refine al_idxA (i - 2) ?_
   exact al_nil (ae_got rfl rfl)
   repeat' (first|refine opW ?_|refine obW ?_|refine W ?_|refine ob2 (fun _=>?_)|intro _)
   apply obl_read [0];exact rfl;exact rfl;kernel_rfl;intro _ _
   refine al_loadE (j:=i - 2) (ps:=wA blk i) (wA_get blk i (i - 2) (by omega)) ?_
   exact al_nil (ae_got rfl rfl)
   repeat' (first|refine opW ?_|refine obW ?_|refine W ?_|refine ob2 (fun _=>?_)|intro _)
   apply obl_read [];exact rfl;exact rfl;kernel_rfl;intro _ _
   refine al_idxA (i - 2) ?_
   exact al_nil (ae_got rfl rfl)
   repeat' (first|refine opW ?_|refine obW ?_|refine W ?_|refine ob2 (fun _=>?_)|intro _)
   apply obl_read [0];exact rfl;exact rfl;kernel_rfl;intro _ _
   refine al_loadE (j:=i - 2) (ps:=wA blk i) (wA_get blk i (i - 2) (by omega)) ?_
   exact al_nil (ae_got rfl rfl)
   repeat' (first|refine opW ?_|refine obW ?_|refine W ?_|refine ob2 (fun _=>?_)|intro _)
   apply obl_read [];exact rfl;exact rfl;kernel_rfl;intro _ _
   refine al_idxA (i - 7) ?_
   exact al_nil (ae_got rfl rfl)
   repeat' (first|refine opW ?_|refine obW ?_|refine W ?_|refine ob2 (fun _=>?_)|intro _)
   apply obl_read [0];exact rfl;exact rfl;kernel_rfl;intro _ _
   refine al_loadE (j:=i - 7) (ps:=wA blk i) (wA_get blk i (i - 7) (by omega)) ?_
   exact al_nil (ae_got rfl rfl)
   repeat' (first|refine opW ?_|refine obW ?_|refine W ?_|refine ob2 (fun _=>?_)|intro _)
   apply obl_read [];exact rfl;exact rfl;kernel_rfl;intro _ _
   refine al_idxA (i - 16) ?_
   exact al_nil (ae_got rfl rfl)
   repeat' (first|refine opW ?_|refine obW ?_|refine W ?_|refine ob2 (fun _=>?_)|intro _)
   apply obl_read [0];exact rfl;exact rfl;kernel_rfl;intro _ _
   refine al_loadE (j:=i - 16) (ps:=wA blk i) (wA_get blk i (i - 16) (by omega)) ?_
   exact al_nil (ae_got rfl rfl)
   repeat' (first|refine opW ?_|refine obW ?_|refine W ?_|refine ob2 (fun _=>?_)|intro _)
   apply obl_read [];exact rfl;exact rfl;kernel_rfl;intro _ _
   refine al_idxA i ?_
   exact al_nil (ae_got rfl rfl)
   apply obl_writeN [0];exact rfl;exact rfl;kernel_rfl
   ·intro _ _
    refine al_storeE (j:=i) (ps:=wA blk i) (by omega) ?_
    exact al_nil (ae_gotN rfl)
   ·exact rfl
   ·exact rfl
   have e:(rotr ((ws blk i).getD (i - 2) 0) (17:Int).toNat ^^^ rotr ((ws blk i).getD (i - 2) 0) (19:Int).toNat ^^^ (ws blk i).getD (i - 2) 0 >>> 10) + (ws blk i).getD (i - 7) 0 + (rotr ((ws blk i).getD (i - 15) 0) (7:Int).toNat ^^^ rotr ((ws blk i).getD (i - 15) 0) (18:Int).toNat ^^^ (ws blk i).getD (i - 15) 0 >>> 3) + (ws blk i).getD (i - 16) 0=nxt blk i:=by
    rw [nxt,if_neg (by omega),nextW]
    show sig1 ((ws blk i).getD (i - 2) 0) + (ws blk i).getD (i - 7) 0 + sig0 ((ws blk i).getD (i - 15) 0) + (ws blk i).getD (i - 16) 0=_
    ac_rfl
   repeat' (first|refine opW ?_|refine obW ?_|refine W ?_|refine ob2 (fun _=>?_)|intro _)
   rw [e,hn]
   exact ae_round (i + 1) ⟨rfl,rfl,rfl,rfl,rfl,rfl,trivial⟩ slr (by omega) (by omega)
 ·obtain rfl:i=64:=by omega
  repeat' (first|refine opW ?_|refine obW ?_|refine W ?_|refine ob2 (fun _=>?_)|intro _)
  rename_i g11
  refine ac_loop (α:=Nat) (fun i=>[(3,ptr g3),(4,ptr g4),(6,ptr g6),(7,ptr g7),(11,ptr g11),(12,int i)])
   (fun i=>[.var g11 339 (hwA (roundsTo blk x i)),.var g7 360 (.agg 64 (wA blk 64)),.var g6 339 (hwA ⟨0,0,0,0,0,0,0,0⟩),.var g4 339 (hwA x),.var g3 299 tabA]) (fun i=>i<=64) (fun i=>64 - i) 0 ⟨rfl,rfl,rfl,rfl,rfl,rfl,trivial⟩ slr (Nat.zero_le _) ?_
  intro i hi
  repeat' first|refine Wz ?_|intro _
  refine ac_cond (fun hlt=>?_) (fun hlt=>?_)
  ·have hk:i < kTab.length:=by
    have:kTab.length=64:=rfl
    omega
   have hr:roundsTo blk x (i + 1)=roundR kTab[i] ((ws blk 64).getD i 0) (roundsTo blk x i):=by rw [roundsTo,roundR_eq,gdk hk]
   generalize roundsTo blk x i=y at *
   repeat' (first|refine opW ?_|refine obW ?_|refine W ?_|refine ob2 (fun _=>?_)|intro _)
   apply obl_read [];exact rfl;exact rfl;kernel_rfl;intro _ _
   refine al_idxM (l:=kTab) (f:=fun x=>.lit (w32v x)) i hk ?_
   exact al_nil (ae_got rfl rfl)
   repeat' (first|refine opW ?_|refine obW ?_|refine W ?_|refine ob2 (fun _=>?_)|intro _)
   apply obl_read [];exact rfl;exact rfl;kernel_rfl;intro _ _
   refine al_idxA i ?_
   exact al_nil (ae_got rfl rfl)
   apply obl_read [1];exact rfl;exact rfl;kernel_rfl
   ·intro _ _
    refine al_loadE (j:=i) (ps:=wA blk 64) (wA_get blk 64 i (by omega)) ?_
    exact al_nil (ae_got rfl rfl)
   repeat' (first|refine opW ?_|refine obW ?_|refine W ?_|refine ob2 (fun _=>?_)|intro _)
   refine ae_round (i + 1) ⟨rfl,rfl,rfl,rfl,rfl,rfl,trivial⟩ ?_ (by omega) (by omega)
   dsimp only
   rw [hr]
   exact List.Sublist.refl _
  ·obtain rfl:i=64:=by omega
   have hcm:compress x blk=x.add (roundsTo blk x 64):=rfl
   rw [hcm]
   generalize roundsTo blk x 64=y at *
   repeat' (first|refine opW ?_|refine obW ?_|refine W ?_|refine ob2 (fun _=>?_)|intro _)
   refine ac_loop (α:=Nat) (fun i=>[(4,ptr g4),(6,ptr g6),(11,ptr g11),(19,int i)])
    (fun i=>[.var g11 339 (hwA y),.var g6 339 (hwA ⟨0,0,0,0,0,0,0,0⟩),.var g4 339 (.agg 8 ((addTo x y i).map fun x=>.lit (w32v x)))]) (fun i=>i<=8) (fun i=>8 - i) 0 ⟨rfl,rfl,rfl,rfl,trivial⟩ (by repeat (first|exact List.nil_sublist _|exact List.Sublist.refl _|apply List.Sublist.cons_cons|apply List.Sublist.cons)) (Nat.zero_le _) ?_
   intro i hi
   repeat' first|refine Wz ?_|intro _
   refine ac_cond (fun hlt=>?_) (fun hlt=>?_)
   ·have hi8:i < 8:=by omega
    repeat' (first|refine opW ?_|refine obW ?_|refine W ?_|refine ob2 (fun _=>?_)|intro _)
    apply obl_read [];exact rfl;exact rfl;kernel_rfl;intro _ _
    refine al_idxA i ?_
    exact al_nil (ae_got rfl rfl)
    apply obl_read [2];exact rfl;exact rfl;kernel_rfl
    ·intro _ _
     refine al_loadE (j:=i) (ps:=(addTo x y i).map fun x=>.lit (w32v x)) (u:=w32A (x.words.getD i 0)) (by rw [List.getElem?_map,addTo_get x y i hi8];rfl) ?_
     exact al_nil (ae_got rfl rfl)
    repeat' (first|refine opW ?_|refine obW ?_|refine W ?_|refine ob2 (fun _=>?_)|intro _)
    apply obl_read [];exact rfl;exact rfl;kernel_rfl;intro _ _
    refine al_idxA i ?_
    exact al_nil (ae_got rfl rfl)
    apply obl_read [0];exact rfl;exact rfl;kernel_rfl;intro _ _
    refine al_loadE (j:=i) (ps:=y.words.map fun x=>.lit (w32v x)) (u:=w32A (y.words.getD i 0)) (by rw [List.getElem?_map,words_get y i hi8];rfl) ?_
    exact al_nil (ae_got rfl rfl)
    repeat' (first|refine opW ?_|refine obW ?_|refine W ?_|refine ob2 (fun _=>?_)|intro _)
    apply obl_read [];exact rfl;exact rfl;kernel_rfl;intro _ _
    refine al_idxA i ?_
    exact al_nil (ae_got rfl rfl)
    apply obl_writeN [2];exact rfl;exact rfl;kernel_rfl
    ·intro _ _
     refine al_storeE (j:=i) (ps:=(addTo x y i).map fun x=>.lit (w32v x)) (by simp [addTo_len x y i hi];omega) ?_
     exact al_nil (ae_gotN rfl)
    ·exact rfl
    ·exact rfl
    repeat' (first|refine opW ?_|refine obW ?_|refine W ?_|refine ob2 (fun _=>?_)|intro _)
    rw [addTo_map x y i hi8]
    exact ae_round (i + 1) ⟨rfl,rfl,rfl,rfl,trivial⟩ slr (by omega) (by omega)
   ·obtain rfl:i=8:=by omega
    repeat' (first|refine opW ?_|refine obW ?_|refine W ?_|refine ob2 (fun _=>?_)|intro _)
    refine reE ?_
    rfl⟩
end Go.Proofs.YtlmcongmglfaeaaGreatDoor
