/- coins: the two ways are one. Plain. -/
import Derived.Test.YtlmcongmglfaeaaGreatDoorD20
import Derived.Test.YtlmcongmglfaeaaGreatDoorD25
import Derived.Test.YtlmcongmglfaeaaGreatDoorD26
import Derived.Test.YtlmcongmglfaeaaGreatDoorD27
namespace Go.Proofs.YtlmcongmglfaeaaGreatDoor
open Go Go.RowKit Tw Av
instance rrEnd {g:Nat}{s:Bs}{b:Bool}:AnsM Tryz.prog GL 98 g [] 169 (rdA s b) True (int (reE' s b)) (rdA s b):=⟨fun _=>by
 refine qE Tryz.func98 rfl Tryz.ntmps98 rfl (fun _ hs=>?_)
 cases b
 ·cases s with
  | nil=>
   repeat' first|refine Yz ?_|intro _
   exact reK _ ⟨rfl,rfl⟩ slr
  | cons c s=>
   repeat' first|refine Yz ?_|intro _
   exact reK _ ⟨rfl,rfl⟩ slr
 ·repeat' first|refine Yz ?_|intro _
  exact reK _ ⟨rfl,rfl⟩ slr⟩
instance rrText {g:Nat}{s:Bs}{b:Bool}{c most:Int}:AnsM Tryz.prog GL 93 g [.lit (.int .u8 c),int most] 169 (rdA s b) (s.length<=4611686018427387904) (str (rtT c most s b)) (rdA (rsT c most s b) (rbT c most s b)):=⟨fun hl=>by
 refine qE Tryz.func93 rfl Tryz.ntmps93 rfl (fun _ hs=>?_)
 cases b
 rotate_left
 ·repeat' first|refine Yz ?_|intro _
  refine reK [.var g 169 (rdA s true)] ⟨?_,?_⟩ slr
  ·rw [rtT,rbT_bad];rfl
  ·rw [rsT,rbT,rbT_bad];rfl
 rcases s with _|⟨s0,_|⟨s1,_|⟨s2,_|⟨s3,r⟩⟩⟩⟩
 ·repeat' first|refine Yz ?_|intro _
  exact reK [.var g 169 (rdA [] true)] ⟨rfl,rfl⟩ slr
 ·repeat' first|refine Yz ?_|intro _
  exact reK [.var g 169 (rdA [s0] true)] ⟨rfl,rfl⟩ slr
 ·repeat' first|refine Yz ?_|intro _
  exact reK [.var g 169 (rdA [s0,s1] true)] ⟨rfl,rfl⟩ slr
 ·repeat' first|refine Yz ?_|intro _
  exact reK [.var g 169 (rdA [s0,s1,s2] true)] ⟨rfl,rfl⟩ slr
 have hlen:(s0::s1::s2::s3::r).length=r.length + 4:=rfl
 have q1:=s1.toNat_lt
 have q2:=s2.toNat_lt
 have q3:=s3.toNat_lt
 by_cases hc:(s0.toNat:Int)=c
 rotate_left
 ·have e:cutT c most false (s0::s1::s2::s3::r)=none:=by rw [cutT,if_neg (fun h=>hc h.2.1)]
  repeat' first|refine Yz ?_|intro _
  refine reK [.var g 169 (rdA (s0::s1::s2::s3::r) true)] ⟨?_,?_⟩ slr
  ·rw [rtT,e];rfl
  ·rw [rsT,rbT,e];rfl
 have hv:(s1.toNat:Int) * 65536 + (s2.toNat:Int) * 256 + (s3.toNat:Int)=(len3 s1 s2 s3:Nat):=by simp [len3];omega
 have hlt:=len3_lt s1 s2 s3
 have hct:cutT c most false (s0::s1::s2::s3::r)=if (len3 s1 s2 s3:Int)<=most/\len3 s1 s2 s3<=r.length then some (r.take (len3 s1 s2 s3),r.drop (len3 s1 s2 s3)) else none:=by
  rw [cutT]
  simp [hc]
 repeat' first|refine Yz ?_|intro _
 rw [hv]
 generalize len3 s1 s2 s3=n at *
 by_cases h1:(n:Int)<=most
 rotate_left
 ·have e:cutT c most false (s0::s1::s2::s3::r)=none:=by rw [hct,if_neg (fun h=>h1 h.1)]
  repeat' first|refine Yz ?_|intro _
  refine reK [.var g 169 (rdA (s0::s1::s2::s3::r) true)] ⟨?_,?_⟩ slr
  ·rw [rtT,e];rfl
  ·rw [rsT,rbT,e];rfl
 by_cases h2:n<=r.length
 rotate_left
 ·have e:cutT c most false (s0::s1::s2::s3::r)=none:=by rw [hct,if_neg (fun h=>h2 h.2)]
  repeat' first|refine Yz ?_|intro _
  refine reK [.var g 169 (rdA (s0::s1::s2::s3::r) true)] ⟨?_,?_⟩ slr
  ·rw [rtT,e];rfl
  ·rw [rsT,rbT,e];rfl
 have e:cutT c most false (s0::s1::s2::s3::r)=some (r.take n,r.drop n):=by rw [hct,if_pos ⟨h1,h2⟩]
 repeat' first|refine Yz ?_|intro _
 refine al_sliceS 4 (4 + n) ?_
 repeat' first|refine Yz ?_|intro _
 refine al_sliceS (4 + n) (r.length + 4) ?_
 repeat' first|refine Yz ?_|intro _
 refine reK [.var g 169 (rdA (r.drop n) false)] ⟨?_,?_⟩ ?_
 ·rw [rtT,e]
  simp [outOf,Nat.add_comm]
 ·rw [rsT,rbT,e];rfl
 ·have e2:List.drop (4 + n) (List.take (r.length + 4) (s0::s1::s2::s3::r))=r.drop n:=by
   rw [List.take_of_length_le (by simp),Nat.add_comm 4 n]
   simp
  rw [e2]
  exact List.Sublist.refl _⟩
instance rrNum {g:Nat}{s:Bs}{b:Bool}{c:Int}:AnsM Tryz.prog GL 175 g [.lit (.int .u8 c)] 169 (rdA s b) (s.length<=4611686018427387904) (.lit (.int .u64 (rnN c s b))) (rdA (rsT c 8 s b) (rnB c s b)):=⟨fun hl=>by
 refine qE Tryz.func175 rfl Tryz.ntmps175 rfl (fun _ hs=>?_)
 repeat' first|refine Yz ?_|intro _
 have hx:=(rtT_len c 8 s b).2 (by decide)
 rw [rnB,rnN_eq]
 generalize rtT c 8 s b=x at *
 refine ac_loop (α:=Nat) (fun i=>[(0,ptr g),(5,str x),(6,.lit (.int .u64 (numOf (x.take i):Nat))),(7,int i)]) (fun _=>[.var g 169 (rdA (rsT c 8 s b) (rbT c 8 s b))])
  (fun i=>i<=x.length) (fun i=>x.length - i) 0 ⟨rfl,rfl,rfl,rfl,trivial⟩ slr (by omega) ?_
 intro i hi
 repeat' first|refine Yz ?_|intro _
 refine ac_cond (fun hlt=>?_) (fun hlt=>?_)
 ·have hil:i < x.length:=by omega
  have h1:=numOf_take hil
  have h2:=x[i].toNat_lt
  have h3:=numOf_small (l:=x.take (i + 1)) (by simp;omega)
  repeat' first|refine Yz ?_|intro _
  refine al_idxS i ?_ (List.getElem?_eq_getElem hil)
  repeat' first|refine Yz ?_|intro _
  refine ae_round (i + 1) ⟨rfl,rfl,?_,rfl,trivial⟩ slr hil (by omega)
  rw [h1]
  rfl
 ·obtain rfl:i=x.length:=by omega
  rw [List.take_length]
  have hdg:=digits_num (l:=x) (by omega)
  have hns:=numOf_small (l:=x) (by omega)
  repeat' first|refine Yz ?_|intro _
  cases h0:lead0 x
  ·have e:=hdg.2 h0
   refine ac_cond (fun h=>absurd e h) (fun _=>?_)
   repeat' first|refine Yz ?_|intro _
   refine reK [.var g 169 (rdA (rsT c 8 s b) (rbT c 8 s b))] ⟨rfl,?_⟩ slr
   simp
  ·refine ac_cond (fun _=>?_) (fun h=>?_)
   rotate_left
   ·exact absurd (hdg.1 (Classical.not_not.1 h)) (by rw [h0];simp)
   repeat' first|refine Yz ?_|intro _
   refine reK [.var g 169 (rdA (rsT c 8 s b) true)] ⟨rfl,?_⟩ slr
   simp⟩
theorem rnB_zero {c:Int}{s:Bs}{b:Bool}(h:rnB c s b=true):rnN c s b=0:=by
 rw [rnN_eq]
 unfold rnB at h
 rcases Bool.or_eq_true_iff.1 h with h|h
 ·have:rtT c 8 s b=[]:=by
   unfold rbT at h
   rw [rtT,Option.isNone_iff_eq_none.1 h]
   rfl
  rw [this]
  rfl
 ·rw [if_pos h]
instance rrInt {g:Nat}{s:Bs}{b:Bool}{c most:Int}:AnsM Tryz.prog GL 92 g [.lit (.int .u8 c),int most] 169 (rdA s b) (s.length<=4611686018427387904/\0<=most/\most<=9223372036854775807) (int (riI c most s b)) (rdA (rsT c 8 s b) (riB c most s b)):=⟨fun hp=>by
 obtain⟨hl,h0,h1⟩:=hp
 refine qE Tryz.func92 rfl Tryz.ntmps92 rfl (fun _ hs=>?_)
 repeat' first|refine Yz ?_|intro _
 have hx:=rnN_lt c s b
 have hz:=rnB_zero (c:=c) (s:=s) (b:=b)
 rw [riI,riB]
 generalize rnN c s b=n at *
 by_cases h:most < (n:Int)
 ·rw [if_pos h,dT h]
  repeat' first|refine Yz ?_|intro _
  refine reK [.var g 169 (rdA (rsT c 8 s b) true)] ⟨rfl,?_⟩ slr
  simp
 ·rw [if_neg h,dZ h]
  cases hb:rnB c s b
  ·repeat' first|refine Yz ?_|intro _
   refine reK [.var g 169 (rdA (rsT c 8 s b) false)] ⟨rfl,?_⟩ slr
   simp
  ·obtain rfl:=hz hb
   repeat' first|refine Yz ?_|intro _
   refine reK [.var g 169 (rdA (rsT c 8 s b) true)] ⟨rfl,?_⟩ slr
   simp⟩
theorem rtT_most {c:Int}{s:Bs}{b:Bool}:rtT c 16777216 s b=rtT c 16777215 s b/\rsT c 16777216 s b=rsT c 16777215 s b/\rbT c 16777216 s b=rbT c 16777215 s b:=by
 have h:cutT c 16777216 b s=cutT c 16777215 b s:=by
  unfold cutT
  split
  ·rename_i s0 s1 s2 s3 r
   have:=len3_lt s1 s2 s3
   by_cases h1:b=false/\(s0.toNat:Int)=c/\len3 s1 s2 s3<=r.length
   ·rw [if_pos ⟨h1.1,h1.2.1,by omega,h1.2.2⟩,if_pos ⟨h1.1,h1.2.1,by omega,h1.2.2⟩]
   ·rw [if_neg (fun h=>h1 ⟨h.1,h.2.1,h.2.2.2⟩),if_neg (fun h=>h1 ⟨h.1,h.2.1,h.2.2.2⟩)]
  ·rfl
 unfold rtT rsT rbT
 rw [h]
 exact⟨rfl,rfl,rfl⟩
instance rrAll {g:Nat}{s:Bs}{b:Bool}{c many most:Int}:AnsM Tryz.prog GL 148 g [.lit (.int .u8 c),int many,int most] 169 (rdA s b) (s.length<=1000000000) (.sl 1 ((raL c many most s b).map str) none) (rdA (rsT c 16777215 s b) (raB c many most s b)):=⟨fun hl=>by
 refine qE Tryz.func148 rfl Tryz.ntmps148 rfl (fun _ hs=>?_)
 repeat' first|refine Yz ?_|intro _
 rw [rtT_most.1,rtT_most.2.1,rtT_most.2.2]
 have hx:=(rtT_len c 16777215 s b).1
 have hx2:=(rsT_len c 16777215 s b).1
 rw [raL,raB]
 generalize rtT c 16777215 s b=x at *
 generalize rsT c 16777215 s b=s1 at *
 generalize rbT c 16777215 s b=b1 at *
 generalize hX:allX c most x=X at *
 rename_i gr
 refine ac_as 10 (Imp.nil (k:=1)) ?_
 refine ac_st (fun ok w h=>h.full 9 1 none 0) ?_
 refine ac_midB (α:=Value × Bs) (fun q=>[(0,ptr g),(2,int many),(9,ptr gr),(10,.sl 1 (X.1.map str) (some q.1))]) (fun q=>[.tail 9 1 q.1,.var gr 169 (rdA q.2 X.2),.var g 169 (rdA s1 b1)]) ?_ (fun q=>?_)
 rotate_left
 ·rcases q with⟨v,s2⟩
  dsimp only
  have hml:(X.1.map str).length=X.1.length:=llm _
  unfold outA badA
  cases hq:X.2
  ·by_cases hm:many < (X.1.length:Int)
   ·rw [dT hm,Bool.or_true,Bool.or_true,if_pos rfl]
    repeat' first|refine Yz ?_|intro _
    refine reIKm (.sl 1 [] none) [.var g 169 (rdA s1 true)] ?_ ⟨rfl,rfl⟩ ?_
    focus
     exact Imp.nilN
    exact sbl
   ·rw [dZ hm,Bool.or_false,Bool.or_false]
    cases b1
    ·repeat' first|refine Yz ?_|intro _
     refine reIKm (.sl 1 (X.1.map str) none) [.var g 169 (rdA s1 false)] ?_ ⟨rfl,rfl⟩ ?_
     focus
      exact Imp.sl
     exact sbl
    ·repeat' first|refine Yz ?_|intro _
     refine reIKm (.sl 1 [] none) [.var g 169 (rdA s1 true)] ?_ ⟨rfl,rfl⟩ ?_
     focus
      exact Imp.nilN
     exact sbl
  ·rw [Bool.true_or,Bool.or_true,if_pos rfl]
   repeat' first|refine Yz ?_|intro _
   refine reIKm (.sl 1 [] none) [.var g 169 (rdA s1 true)] ?_ ⟨rfl,rfl⟩ ?_
   focus
    exact Imp.nilN
   exact sbl
 refine ac_loop (α:=List Bs × Value × Bs × Bool × Nat) (fun q=>[(0,ptr g),(1,.lit (.int .u8 c)),(2,int many),(3,int most),(9,ptr gr),(10,.sl 1 (q.1.map str) (some q.2.1))])
   (fun q=>[.tail 9 1 q.2.1,.var gr 169 (rdA q.2.2.1 q.2.2.2.1),.var g 169 (rdA s1 b1)])
   (fun q=>X=(q.1++(bods c most q.2.2.2.2 q.2.2.1 q.2.2.2.1).1,(bods c most q.2.2.2.2 q.2.2.1 q.2.2.2.1).2)/\(q.2.2.2.1=false->q.2.2.1.length < q.2.2.2.2)/\(q.2.2.2.1=false->q.1.length + q.2.2.1.length<=x.length)/\q.1.length<=x.length) (fun q=>q.2.2.2.2) ([],.slice none 0 0,x,false,x.length + 1) ⟨rfl,rfl,rfl,rfl,rfl,rfl,trivial⟩ slr ⟨hX.symm,fun _=>by dsimp only;omega,fun _=>by simp,by simp⟩ ?_
 rintro⟨acc,v,s2,b2,f⟩ ⟨e1,e2,e3,e4⟩
 dsimp only at e1 e2 e3 e4 ⊢
 cases b2
 rotate_left
 ·rw [bods_bad,List.append_nil] at e1
  subst e1
  cases s2 with
  | nil=>
   repeat' first|refine Yz ?_|intro _
   refine ae_cut (v,[]) ⟨rfl,rfl,rfl,rfl,trivial⟩ ?_
   exact sbl
  | cons a s2=>
   repeat' first|refine Yz ?_|intro _
   refine ae_cut (v,a::s2) ⟨rfl,rfl,rfl,rfl,trivial⟩ ?_
   exact sbl
 have e2:=e2 rfl
 have e3:=e3 rfl
 rcases f with _|f
 ·omega
 cases s2 with
 | nil=>
  rw [bods_nil,List.append_nil] at e1
  subst e1
  repeat' first|refine Yz ?_|intro _
  refine ae_cut (v,[]) ⟨rfl,rfl,rfl,rfl,trivial⟩ ?_
  exact sbl
 | cons a s2=>
  rw [bods_cons] at e1
  have hle:=(rsT_len c most (a::s2) false).1
  have hlt:=rsT_dec (c:=c) (most:=most) (s:=a::s2) (b:=false)
  have hl3:(a::s2).length=s2.length + 1:=rfl
  have hma:(acc.map str).length=acc.length:=llm _
  repeat' first|refine Yz ?_|intro _
  refine al_append (fun v'=>?_)
  repeat' first|refine Yz ?_|intro _
  refine ae_round (acc++[rtT c most (a::s2) false],v',rsT c most (a::s2) false,rbT c most (a::s2) false,f) ⟨rfl,rfl,rfl,rfl,rfl,?_,trivial⟩ slr ⟨by simpa using e1,fun h=>?_,fun h=>?_,?_⟩ (by dsimp only;omega)
  ·rw [List.map_append];rfl
  ·have:=hlt h
   dsimp only
   omega
  ·have:=hlt h
   simp only [List.length_append,List.length_cons,List.length_nil] at *
   omega
  ·simp only [List.length_append,List.length_cons,List.length_nil] at *
   omega⟩

theorem tUB:Tryz.prog.underlying 289=some (.pointer 291):=by kernel_rfl
theorem tUU:Tryz.prog.underlying 358=some .unsafePointer:=by kernel_rfl
theorem tUS:(Tryz.prog.info? 291).map (·.size)=some 2:=by kernel_rfl
theorem tUL:liesAt Tryz.prog Tryz.prog.depth 291 (2 / Tryz.prog.cellsOf 291) 0 291 1=true:=by kernel_rfl
theorem tUP:Tryz.prog.underlying 338=some (.pointer 5):=by kernel_rfl
theorem tUC:Tryz.prog.cellsOf 5=1:=by kernel_rfl
def Bld (g:Nat)(l:Bs)(m:List Av.Piece):Prop:=∃ p:Option Addr,(p=none\/p=some ⟨g,0,none⟩)/\((l=[]/\m=[.var g 291 (.agg 2 [.lit (.pointer p),nils])]) \/
 ∃ g' c,l≠[]/\l.length<=c/\m=[.var g 291 (.agg 2 [.lit (.pointer p),.lit (.slice (some ⟨g',0,none⟩) l.length c)]),.buf g' 5 1 (bytA l) c])
theorem ccheck {g:Nat}{p:Option Addr}{v:AV}(hp:p=none\/p=some ⟨g,0,none⟩)(_:v.size=1):Av.Spec Tryz.prog GL 335 [ptr g] [.var g 291 (.agg 2 [.lit (.pointer p),v])] fun u m=>u=.tup []/\m=[.var g 291 (.agg 2 [ptr g,v])]:=by
 obtain⟨j,hj,hjs⟩:=Option.map_eq_some_iff.1 tUS
 refine qE Tryz.func335 rfl Tryz.ntmps335 rfl (fun _ hs=>?_)
 rcases hp with rfl|rfl
 ·repeat' first|refine Vz ?_|intro _
  refine al_toUnsafe (n:=2) tUB tUU hj (by rw [hjs];decide) (by decide) ?_
  apply al_ext (v:=ptr g) (en:=Extern.AbiNoEscape.same) Tryz.func363;kernel_rfl;exact rfl;kernel_rfl;kernel_rfl;exact rfl;exact rfl;exact rfl
  focus
   intro ok w cs _ hv
   obtain⟨u1,us,rfl,h1,rfl⟩:=hv
   exact⟨u1,rfl,RV.of0 h1⟩
  refine al_fromUnsafe (n:=2) tUU tUB hj tUL ?_
  repeat' first|refine Vz ?_|intro _
  exact reN _ ⟨rfl,rfl⟩ slr
 ·repeat' first|refine Vz ?_|intro _
  refine al_ptrSame tUB hj ?_
  repeat' first|refine Vz ?_|intro _
  exact reN _ ⟨rfl,rfl⟩ slr
theorem bwrite {g:Nat}{l a:Bs}{m:List Av.Piece}(hb:Bld g l m)(hl:l.length + a.length<=140737488355328):Av.Spec Tryz.prog GL 273 [ptr g,str a] m fun u m=>u=.tup [int a.length,.lit .nilIface]/\Bld g (l++a) m:=by
 obtain⟨p,hp,⟨rfl,rfl⟩|⟨g',c,h0,hc,rfl⟩⟩:=hb
 ·refine qE Tryz.func273 rfl Tryz.ntmps273 rfl (fun _ hs=>?_)
  repeat' first|refine Vz ?_|intro _
  refine al_callK (args:=[ptr g]) [.var g 291 (.agg 2 [.lit (.pointer p),nils])] [] (by rw [hs];exact ccheck hp rfl) (fun u m1 hh=>?_) lpr
  obtain⟨rfl,rfl⟩:=hh
  rcases a with _|⟨x,a⟩
  focus
   repeat' first|refine Vz ?_|intro _
   refine al_appendNE ?_
   repeat' first|refine Vz ?_|intro _
   exact reK _ ⟨rfl,_,.inr rfl,.inl ⟨rfl,rfl⟩⟩ slr
  focus
   have hl2:(x::a).length=a.length + 1:=rfl
   have hl1:([]:Bs).length=0:=rfl
   repeat' first|refine Vz ?_|intro _
   refine al_appendNS (fun g' c' hc'=>?_)
   repeat' first|refine Vz ?_|intro _
   refine ae_st (fun ok w h=>h.perm (List.Perm.swap _ _ _)) ?_
   refine reK _ ⟨rfl,_,.inr rfl,.inr ⟨g',c',by simp,hc',rfl⟩⟩ slr
 ·refine qE Tryz.func273 rfl Tryz.ntmps273 rfl (fun _ hs=>?_)
  repeat' first|refine Vz ?_|intro _
  refine al_callK (args:=[ptr g]) [.var g 291 (.agg 2 [.lit (.pointer p),.lit (.slice (some ⟨g',0,none⟩) l.length c)])] [.buf g' 5 1 (bytA l) c] (by rw [hs];exact ccheck hp rfl) (fun u m1 hh=>?_) lpr
  obtain⟨rfl,rfl⟩:=hh
  have hbl:=bytA_len l
  repeat' first|refine Vz ?_|intro _
  refine al_appendBS (fun g' c' hc'=>?_)
  repeat' first|refine Vz ?_|intro _
  refine reK _ ⟨rfl,_,.inr rfl,.inr ⟨g',c',by simp [h0],by simpa using hc',?_⟩⟩ slr
  rw [lla,show bytA (l++a)=bytA l++bytA a from List.map_append]
theorem bstring {g:Nat}{l:Bs}{m:List Av.Piece}(hb:Bld g l m)(hl:l.length<=140737488355328):Av.Spec Tryz.prog GL 274 [ptr g] m fun u _=>u=str l:=by
 obtain⟨p,hp,⟨rfl,rfl⟩|⟨g',c,h0,hc,rfl⟩⟩:=hb
 ·refine qE Tryz.func274 rfl Tryz.ntmps274 rfl (fun _ hs=>?_)
  repeat' first|refine Vz ?_|intro _
  apply obl_read [];exact rfl;exact rfl;kernel_rfl;intro _ _
  refine al_sliceDataN ?_
  exact al_nil (ae_got rfl rfl)
  repeat' first|refine Vz ?_|intro _
  apply obl_read [];exact rfl;exact rfl;kernel_rfl;intro _ _
  refine al_unsafeStrN ?_
  exact al_nil (ae_got rfl rfl)
  repeat' first|refine Vz ?_|intro _
  exact reK [] rfl (List.nil_sublist _)
 ·refine qE Tryz.func274 rfl Tryz.ntmps274 rfl (fun _ hs=>?_)
  have hc0:c≠0:=by
   have:=List.length_pos_iff.2 h0
   omega
  repeat' first|refine Vz ?_|intro _
  apply obl_read [];exact rfl;exact rfl;kernel_rfl;intro _ _
  refine al_sliceData (c:=c) ?_ hc0
  exact al_nil (ae_got rfl rfl)
  repeat' first|refine Vz ?_|intro _
  apply obl_write [1];exact rfl;exact rfl;kernel_rfl
  focus
   intro _ _
   refine al_unsafeStr (l:=l) (c:=c) tUP tUC h0 ?_
   exact al_nil (ae_got rfl rfl)
  focus
   exact rfl
  focus
   exact rfl
  repeat' first|refine Vz ?_|intro _
  exact reK [] rfl (List.nil_sublist _)
end Go.Proofs.YtlmcongmglfaeaaGreatDoor

namespace Av
open Go Go.RowKit Tw
theorem findP_at:∀ (pre:List AV) (i:Nat) (p:AV) (post:List AV) (j:Nat),j < p.size->findP (pre++p::post) i ((pre.map AV.size).sum + j)=some (i + pre.length,p,j)
 | [],i,p,post,j,h=>by
  have hb:Nat.ble p.size j=false:=by
   cases hh:Nat.ble p.size j with
   | false=>rfl
   | true=>have:=nlb hh;omega
  simp [findP,hb]
 | q::pre,i,p,post,j,h=>by
  have hb:Nat.ble q.size (((q::pre).map AV.size).sum + j)=true:=Nat.ble_eq_true_of_le (by simp;omega)
  rw [List.cons_append,findP,hb,cond_true]
  have e:((q::pre).map AV.size).sum + j - q.size=(pre.map AV.size).sum + j:=by simp;omega
  rw [e,findP_at pre (i + 1) p post j h]
  simp
  omega
theorem sum_u8:∀ l:Bs,((l.map u8A).map AV.size).sum=l.length
 | []=>rfl
 | c::l=>by simp only [List.map_cons,List.sum_cons,List.length_cons,sum_u8 l];show 1 + _=_;omega
theorem set_mid {α:Type}(pre post:List α)(a b:α):(pre++a::post).set pre.length b=pre++b::post:=by simp
theorem putV_arr {n:Nat}{pre post:List AV}{l:Bs}{j o:Nat}{c:UInt8}(hj:j < l.length)(ho:o=(pre.map AV.size).sum + j):putV (u8A c) 8 (.agg n (pre++.agg l.length (l.map u8A)::post)) o=some (.agg n (pre++.agg l.length ((l.set j c).map u8A)::post)):=by
 subst ho
 have h1:findP (pre++.agg l.length (l.map u8A)::post) 0 ((pre.map AV.size).sum + j)=some (0 + pre.length,.agg l.length (l.map u8A),j):=findP_at pre 0 _ post j hj
 have hm:j < (l.map u8A).length:=by simpa using hj
 have h2:findP (l.map u8A) 0 j=some (j,u8A l[j],0):=by
  have h:=findP_at ((l.take j).map u8A) 0 (u8A l[j]) ((l.drop (j + 1)).map u8A) 0 (by show 0 < 1;omega)
  rw [sum_u8] at h
  have e:(l.take j).map u8A++u8A l[j]::(l.drop (j + 1)).map u8A=l.map u8A:=by
   rw [<- List.map_cons,<- List.map_append,<- List.drop_eq_getElem_cons hj,List.take_append_drop]
  rw [e] at h
  simpa [Nat.min_eq_left (Nat.le_of_lt hj)] using h
 have h3:putV (u8A c) 6 (u8A l[j]) 0=some (u8A c):=rfl
 have h4:putV (u8A c) 7 (.agg l.length (l.map u8A)) j=some (.agg l.length ((l.set j c).map u8A)):=by
  unfold putV
  rw [show ((AV.agg l.length (l.map u8A)).isAgg == (u8A c).isAgg)=false from rfl,Bool.and_false,cond_false]
  dsimp only
  rw [h2]
  dsimp only
  rw [h3]
  dsimp only
  rw [List.map_set]
 unfold putV
 rw [show ((AV.agg n (pre++AV.agg l.length (l.map u8A)::post)).isAgg == (u8A c).isAgg)=false from rfl,Bool.and_false,cond_false]
 dsimp only
 rw [h1]
 dsimp only
 rw [h4]
 dsimp only
 rw [Nat.zero_add,set_mid]
theorem putV_arrK {n k:Nat}{pre post:List AV}{l:Bs}{j o:Nat}{c:UInt8}(hk:l.length=k)(hj:j < l.length)(ho:o=(pre.map AV.size).sum + j):putV (u8A c) 8 (.agg n (pre++.agg k (l.map u8A)::post)) o=some (.agg n (pre++.agg k ((l.set j c).map u8A)::post)):=by
 subst hk
 exact putV_arr hj ho
end Av
namespace Go.Proofs.YtlmcongmglfaeaaGreatDoor
open Go Go.RowKit Tw Av
def hOf (x:Bs):Hsh:=if h:x.length=32 then ⟨x,h⟩ else zeroH
theorem hOf_l {x:Bs}(h:x.length=32):(hOf x).l=x:=by unfold hOf;rw [dif_pos h]
instance fnFrom {x:Bs}:Ans Tryz.prog GL 87 [str x] True (.tup [hA (hOf x),int (if x.length=32 then 0 else 10)]):=⟨fun _=>by
 refine qE Tryz.func87 rfl Tryz.ntmps87 rfl (fun _ hs=>?_)
 repeat' first|refine Yz ?_|intro _
 by_cases h:x.length=32
 ·rw [if_pos h]
  repeat' first|refine Yz ?_|intro _
  rename_i g2 g4
  refine al_copyS (l:=zeros 32) (a:=x) rfl ?_
  repeat' first|refine Yz ?_|intro _
  refine reE ?_
  have e:copyB (zeros 32) x=x:=by
   unfold copyB
   rw [List.take_of_length_le (by simp [zeros,h]),List.drop_of_length_le (by simp [zeros,h]),List.append_nil]
  rw [e,hA,hOf_l h]
  rfl
 ·rw [if_neg h]
  repeat' first|refine Yz ?_|intro _
  refine reE ?_
  unfold hOf
  rw [dif_neg h]
  rfl⟩
def tlvA (c:Int)(l:List Bs):Bs:=tlvT c (l.flatMap (tlvT c))
theorem tlvT_len (c:Int)(s:Bs):(tlvT c s).length<=16777219:=by simp [tlvT,tlvText,bodyLen,List.length_take];omega
instance {c:Int}{l:List Bs}:LenLe (tlvA c l) 16777219:=⟨tlvT_len _ _⟩
theorem flat_len (c:Int):∀ l:List Bs,(l.flatMap (tlvT c)).length<=l.length * 16777219
 | []=>by simp
 | s::l=>by
  have h1:=tlvT_len c s
  have h2:=flat_len c l
  rw [List.flatMap_cons,lla,List.length_cons,Nat.add_mul]
  omega
instance fnTAll {c:Int}{l:List Bs}{xs:List AV}{id:Option Value}[hx:Strs xs l]:Ans Tryz.prog GL 181 [.lit (.int .u8 c),.sl 1 xs id] ((0<=c/\c < 256)/\l.length<=8000000) (str (tlvA c l)):=⟨fun hp=>by
 obtain⟨hc,hl⟩:=hp
 have h:=hx.out
 subst h
 have hm:(l.map str).length=l.length:=llm _
 refine qE Tryz.func181 rfl Tryz.ntmps181 rfl (fun _ hs=>?_)
 repeat' first|refine Yz ?_|intro _
 rename_i g5
 refine ac_loop (α:=Nat × {m:List Av.Piece // True}) (fun q=>[(0,.lit (.int .u8 c)),(5,ptr g5),(8,.sl 1 (l.map str) id),(9,int l.length),(10,int q.1)]) (fun q=>q.2.1) (fun q=>q.1<=l.length/\Bld g5 ((l.take q.1).flatMap (tlvT c)) q.2.1) (fun q=>l.length - q.1) (0,⟨[.var g5 291 (.agg 2 [.lit (.pointer none),nils])],trivial⟩) ⟨rfl,rfl,rfl,by rw [<- hm];rfl,rfl,trivial⟩ slr ⟨Nat.zero_le _,none,.inl rfl,.inl ⟨rfl,rfl⟩⟩ ?_
 rintro⟨i,m,_⟩ ⟨h1,h2⟩
 dsimp only at h1 h2 ⊢
 repeat' first|refine Yz ?_|intro _
 refine ac_cond (fun hlt=>?_) (fun hlt=>?_)
 ·have hil:i < l.length:=by omega
  have hfl:=flat_len c (l.take i)
  have hfl2:=tlvT_len c l[i]
  have hti:(l.take i).length<=l.length:=by simp;omega
  repeat' first|refine Yz ?_|intro _
  refine al_callK (args:=[ptr g5,str (tlvT c l[i])]) m [] (by rw [hs];exact bwrite h2 (by omega)) (fun u m1 hh=>?_) (by rw [List.append_nil])
  obtain⟨rfl,hb⟩:=hh
  rw [List.append_nil]
  repeat' first|refine Yz ?_|intro _
  refine ae_round (i + 1,⟨m1,trivial⟩) ⟨rfl,rfl,rfl,rfl,rfl,trivial⟩ slr ⟨hil,?_⟩ (by dsimp only;omega)
  rw [List.take_succ_eq_append_getElem hil,List.flatMap_append]
  simpa using hb
 ·obtain rfl:i=l.length:=by omega
  rw [List.take_length] at h2
  have hfl:=flat_len c l
  repeat' first|refine Yz ?_|intro _
  refine al_callK (args:=[ptr g5]) m [] (by rw [hs];exact bstring h2 (by omega)) (fun u m1 hh=>?_) (by rw [List.append_nil])
  subst hh
  repeat' first|refine Yz ?_|intro _
  refine reE ?_
  rfl⟩
instance fnRAll {c:Int}{l:List Bs}{xs:List AV}{id:Option Value}[hx:Strs xs l]:Ans Tryz.prog GL 183 [.lit (.int .u8 c),.sl 1 xs id] (l.length<=8000000) (str (tlvA c l)):=⟨fun hl=>by
 have h:=hx.out
 subst h
 have hm:(l.map str).length=l.length:=llm _
 refine qE Tryz.func183 rfl Tryz.ntmps183 rfl (fun _ hs=>?_)
 repeat' first|refine Yz ?_|intro _
 refine ac_loop (α:=Nat) (fun i=>[(0,.lit (.int .u8 c)),(1,.sl 1 (l.map str) id),(5,str ((l.take i).flatMap (tlvT c))),(6,int i)]) (fun _=>[]) (fun i=>i<=l.length) (fun i=>l.length - i) 0 ⟨rfl,rfl,rfl,rfl,trivial⟩ slr (Nat.zero_le _) ?_
 intro i hi
 repeat' first|refine Yz ?_|intro _
 refine ac_cond (fun hlt=>?_) (fun hlt=>?_)
 ·have hil:i < l.length:=by omega
  have hfl:=flat_len c (l.take i)
  have hfl2:=tlvT_len c l[i]
  have hti:(l.take i).length<=l.length:=by simp;omega
  repeat' first|refine Yz ?_|intro _
  refine ae_round (i + 1) ⟨rfl,rfl,?_,rfl,trivial⟩ slr hil (by omega)
  rw [List.take_succ_eq_append_getElem hil,List.flatMap_append]
  simp
  rfl
 ·obtain rfl:i=l.length:=by omega
  rw [List.take_length]
  repeat' first|refine Yz ?_|intro _
  refine reE ?_
  rfl⟩
def layB (x:Bs)(i:Nat):Bs:=x.take i++zeros (32 - i)
theorem layB_len {x:Bs}{i:Nat}(hx:x.length=32)(hi:i<=32):(layB x i).length=32:=by simp [layB,zeros,hx];omega
theorem layB_next {x:Bs}{i:Nat}(hx:x.length=32)(hi:i < 32):(layB x i).set i (x[i]'(by omega))=layB x (i + 1):=by
 unfold layB
 have h1:(x.take i).length=i:=by simp [hx];omega
 have h2:∀ (a b:List UInt8) (j:Nat) (c:UInt8),a.length=j->(a++b).set j c=a++b.set 0 c:=fun a b j c h=>by
  subst h
  simp
 rw [h2 _ _ _ _ h1,List.take_succ_eq_append_getElem (by omega),laa]
 congr 1
 rw [show 32 - i=(32 - (i + 1)) + 1 by omega]
 rfl
theorem layB_all {x:Bs}(hx:x.length=32):layB x 32=x:=by
 unfold layB
 rw [List.take_of_length_le (by omega),Nat.sub_self]
 simp [zeros]
end Go.Proofs.YtlmcongmglfaeaaGreatDoor

namespace Go.Proofs.YtlmcongmglfaeaaGreatDoor
open Go Go.RowKit Tw Av
theorem tlvT_cons {c:Int}{s:Bs}(h:s.length<=16777215):tlvT c s=UInt8.ofNat c.toNat::UInt8.ofNat (s.length / 65536)::UInt8.ofNat (s.length / 256)::UInt8.ofNat s.length::s:=by
 unfold tlvT tlvText
 rw [List.take_of_length_le (by simp [bodyLen];omega)]
theorem len3_of {n:Nat}(h:n<=16777215):len3 (UInt8.ofNat (n / 65536)) (UInt8.ofNat (n / 256)) (UInt8.ofNat n)=n:=by
 unfold len3
 rw [UInt8.toNat_ofNat',UInt8.toNat_ofNat',UInt8.toNat_ofNat']
 omega
theorem cut_tlvT {c most:Int}{s r:Bs}(h0:0<=c)(h1:c < 256)(h2:(s.length:Int)<=most)(h3:s.length<=16777215):cutT c most false (tlvT c s++r)=some (s,r):=by
 rw [tlvT_cons h3]
 simp only [List.cons_append]
 rw [cutT,len3_of h3,if_pos]
 ·simp
 ·refine⟨rfl,?_,h2,by simp⟩
  rw [UInt8.toNat_ofNat']
  omega

def setR (k:Bs)(n:Nat)(d:List Ent):List Ent × Int:=if n=0 then (drpL d k,0) else putR d k (beB n)
def mintQ (d:List Ent)(a c:Bs)(n:Wd):List Ent × Int:=if nameB a=false\/dnmB c=false\/n.n=0 then ([],1)
 else if wIs ((getW d (totK c)).n + n.n)=false\/wIs ((getW d (balK a c)).n + n.n)=false then ([],17)
 else thenR (setR (totK c) ((getW d (totK c)).n + n.n)) (setR (balK a c) ((getW d (balK a c)).n + n.n)) d
def burnQ (d:List Ent)(a c:Bs)(n:Wd):List Ent × Int:=if nameB a=false\/dnmB c=false\/n.n=0 then ([],1)
 else if (getW d (totK c)).n < n.n\/(getW d (balK a c)).n < n.n then ([],16)
 else thenR (setR (totK c) ((getW d (totK c)).n - n.n)) (setR (balK a c) ((getW d (balK a c)).n - n.n)) d
def moveQ (d:List Ent)(a b c:Bs)(n:Wd):List Ent × Int:=if nameB a=false\/nameB b=false\/dnmB c=false\/n.n=0 then ([],1)
 else if (getW d (balK a c)).n < n.n then ([],16)
 else if a=b then (d,0)
 else if wIs ((getW d (balK b c)).n + n.n)=false then ([],17)
 else thenR (setR (balK a c) ((getW d (balK a c)).n - n.n)) (setR (balK b c) ((getW d (balK b c)).n + n.n)) d
theorem tlvT_len' {c:Int}{s:Bs}(h:s.length<=16777215):(tlvT c s).length=s.length + 4:=by
 rw [tlvT_cons h]
 simp
theorem tlvT_inj {c:Int}{a b r t:Bs}(h0:0<=c)(h1:c < 256)(ha:a.length<=1000)(hb:b.length<=1000)(h:tlvT c a++r=tlvT c b++t):a=b/\r=t:=by
 have e1:=cut_tlvT (c:=c) (most:=1000) (s:=a) (r:=r) h0 h1 (by omega) (by omega)
 have e2:=cut_tlvT (c:=c) (most:=1000) (s:=b) (r:=t) h0 h1 (by omega) (by omega)
 rw [h,e2] at e1
 injection e1 with e1
 injection e1 with e1 e3
 exact⟨e1.symm,e3.symm⟩
theorem nameB_len {s:Bs}(h:nameB s=true):1<=s.length/\s.length<=64:=of_decide_eq_true h
theorem dnmB_len {s:Bs}(h:dnmB s=true):1<=s.length/\s.length<=200:=of_decide_eq_true h
theorem balK_ne {a b c:Bs}(ha:nameB a=true)(hb:nameB b=true)(h:a≠b):balK a c≠balK b c:=fun e=>by
 have:=nameB_len ha
 have:=nameB_len hb
 unfold balK at e
 rw [laa,laa] at e
 exact h (tlvT_inj (by decide) (by decide) (by omega) (by omega) (List.append_cancel_left e)).1
theorem balK_tot {a c t:Bs}:balK a c≠totK t:=fun e=>by
 unfold balK totK at e
 rw [laa] at e
 injection e with e
 cases e
theorem balK_len {a c:Bs}(ha:nameB a=true)(hc:dnmB c=true):(balK a c).length<=400:=by
 have:=nameB_len ha
 have:=dnmB_len hc
 unfold balK
 rw [lla,lla,tlvT_len' (by omega),tlvT_len' (by omega)]
 simp
 omega
theorem totK_len {c:Bs}(hc:dnmB c=true):(totK c).length<=400:=by
 have:=dnmB_len hc
 unfold totK
 rw [lla,tlvT_len' (by omega)]
 simp
 omega
theorem getW_put {d:List Ent}{k v q:Bs}(h:Srt d)(hq:q≠k):getW (putL d k v) q=getW d q:=by
 unfold getW
 rw [valE_put h,if_neg hq]
theorem getW_drp {d:List Ent}{k q:Bs}(h:Srt d)(hq:q≠k):getW (drpL d k) q=getW d q:=by
 unfold getW
 rw [valE_drp h,if_neg hq]
theorem putR_ne {d:List Ent}{k v q:Bs}(h:Srt d)(hq:q≠k)(he:(putR d k v).2=0):getW (putR d k v).1 q=getW d q:=by
 unfold putR at he ⊢
 split
 ·exact getW_put h hq
 ·rename_i h1
  rw [if_neg h1] at he
  exact absurd he h1
theorem setR_ne {d:List Ent}{k q:Bs}{n:Nat}(h:Srt d)(hq:q≠k)(he:(setR k n d).2=0):getW (setR k n d).1 q=getW d q:=by
 unfold setR at he ⊢
 split
 ·exact getW_drp h hq
 ·rename_i h1
  rw [if_neg h1] at he
  exact putR_ne h hq he
theorem getW_pos {d:List Ent}{k:Bs}(h:Srt d)(hp:0 < (getW d k).n):bsIs d k=true:=by
 rw [is_bs h]
 unfold getW valE at hp
 cases e:gO d k with
 | none=>
  rw [e] at hp
  exact absurd hp (by decide)
 | some v=>rfl
theorem less_ok {d:List Ent}{k:Bs}{n:Wd}(h:DOk d)(hk:k.length<=400)(hn:n.n≠0)(hle:n.n<=(getW d k).n):lessR k n d=setR k ((getW d k).n - n.n) d/\(lessR k n d).2=0:=by
 have hb:bsIs d k=true:=getW_pos h.s (by omega)
 have he:∀ v:Bs,v.length<=4000->putE d k v=0:=fun v hv=>putE_eq0.2 ⟨hk,hv,.inl hb⟩
 unfold lessR setR
 rw [if_neg (by omega)]
 by_cases h1:(getW d k).n=n.n
 ·rw [if_pos h1,if_pos (by omega)]
  exact⟨rfl,rfl⟩
 ·rw [if_neg h1,if_neg (by omega)]
  refine⟨rfl,?_⟩
  rw [putR_e]
  exact he _ (by rw [beB_len];omega)
theorem more_set {d:List Ent}{k:Bs}{n:Wd}(hn:n.n≠0):moreR k n d=if wIs ((getW d k).n + n.n)=true then setR k ((getW d k).n + n.n) d else ([],17):=by
 unfold moreR setR
 split
 ·rw [if_neg (by omega)]
 ·rfl
theorem moreR_16 {d:List Ent}{k:Bs}{n:Wd}:(moreR k n d).2≠16:=by
 unfold moreR
 split
 ·rw [putR_e]
  unfold putE
  split
  ·decide
  ·split
   ·decide
   ·split <;> decide
 ·decide
theorem mint_eq {d:List Ent}(h:DOk d)(a c:Bs)(n:Wd):mintR d a c n=mintQ d a c n:=by
 unfold mintR mintQ
 split
 ·rfl
 ·rename_i h1
  simp only [not_or,Bool.not_eq_false] at h1
  obtain⟨h2,h3,h4⟩:=h1
  by_cases h5:wIs ((getW d (balK a c)).n + n.n)=false
  ·rw [if_pos h5,if_pos (.inr h5)]
  ·rw [if_neg h5]
   have h5':wIs ((getW d (balK a c)).n + n.n)=true:=by simpa using h5
   unfold thenR
   by_cases h6:wIs ((getW d (totK c)).n + n.n)=false
   ·have m1:moreR (totK c) n d=([],17):=by rw [more_set h4,if_neg (by simp [h6])]
    have n0:¬ (([],17):List Ent × Int).2=0:=by decide
    rw [m1,if_neg n0,if_pos (.inl h6)]
   ·have h6':wIs ((getW d (totK c)).n + n.n)=true:=by simpa using h6
    have m1:moreR (totK c) n d=setR (totK c) ((getW d (totK c)).n + n.n) d:=by rw [more_set h4,if_pos h6']
    have hc:¬ (wIs ((getW d (totK c)).n + n.n)=false\/wIs ((getW d (balK a c)).n + n.n)=false):=by rw [h5',h6'];decide
    rw [m1,if_neg hc]
    by_cases h7:(setR (totK c) ((getW d (totK c)).n + n.n) d).2=0
    ·rw [if_pos h7,if_pos h7,more_set h4,setR_ne h.s balK_tot h7,if_pos h5']
    ·rw [if_neg h7,if_neg h7]
theorem burn_eq {d:List Ent}(h:DOk d)(a c:Bs)(n:Wd):burnR d a c n=burnQ d a c n:=by
 unfold burnR burnQ
 split
 ·rfl
 ·rename_i h1
  simp only [not_or,Bool.not_eq_false] at h1
  obtain⟨h2,h3,h4⟩:=h1
  unfold thenR
  by_cases h5:(getW d (totK c)).n < n.n
  ·have n0:¬ (([],16):List Ent × Int).2=0:=by decide
   have:lessR (totK c) n d=([],16):=by rw [lessR,if_pos h5]
   rw [this,if_neg n0,if_pos (.inl h5)]
  ·obtain⟨e1,e2⟩:=less_ok h (totK_len h3) h4 (by omega:n.n<=(getW d (totK c)).n)
   have e3:=e2
   rw [e1] at e3
   rw [if_pos e2,e1]
   have hd:DOk (setR (totK c) ((getW d (totK c)).n - n.n) d).1:=by
    unfold setR at e3 ⊢
    split
    ·exact h.drp _
    ·rename_i h8
     rw [if_neg h8] at e3
     exact putR_ok h e3
   by_cases h6:(getW d (balK a c)).n < n.n
   ·rw [if_pos (show (getW d (totK c)).n < n.n\/(getW d (balK a c)).n < n.n from .inr h6),lessR,setR_ne h.s balK_tot e3,if_pos h6]
   ·rw [if_neg (show ¬ ((getW d (totK c)).n < n.n\/(getW d (balK a c)).n < n.n) by omega),if_pos e3,(less_ok hd (balK_len h2 h3) h4 (by rw [setR_ne h.s balK_tot e3];omega)).1,setR_ne h.s balK_tot e3]
theorem move_eq {d:List Ent}(h:DOk d)(a b c:Bs)(n:Wd):moveR d a b c n=moveQ d a b c n:=by
 unfold moveR moveQ
 split
 ·rfl
 ·rename_i h1
  simp only [not_or,Bool.not_eq_false] at h1
  obtain⟨h2,h2',h3,h4⟩:=h1
  by_cases h5:(getW d (balK a c)).n < n.n
  ·have e1:thenR (lessR (balK a c) n) (moreR (balK b c) n) d=([],16):=by
    unfold thenR
    have:lessR (balK a c) n d=([],16):=by rw [lessR,if_pos h5]
    rw [this,if_neg (show ¬ (([],16):List Ent × Int).2=0 by decide)]
   rw [e1,if_neg (show ¬ (a=b/\(([],16):List Ent × Int).2≠16) from fun hh=>hh.2 rfl),if_pos h5]
  ·obtain⟨e1,e2⟩:=less_ok h (balK_len h2 h3) h4 (by omega:n.n<=(getW d (balK a c)).n)
   have e3:=e2
   rw [e1] at e3
   have e4:thenR (lessR (balK a c) n) (moreR (balK b c) n) d=moreR (balK b c) n (setR (balK a c) ((getW d (balK a c)).n - n.n) d).1:=by
    unfold thenR
    rw [if_pos e2,e1]
   rw [if_neg h5,e4]
   by_cases h6:a=b
   ·rw [if_pos ⟨h6,moreR_16⟩,if_pos h6]
   ·rw [if_neg (fun hh=>h6 hh.1),if_neg h6,more_set h4,setR_ne h.s (balK_ne h2' h2 (fun e=>h6 e.symm)) e3]
    unfold thenR
    rw [if_pos e3]
    by_cases h7:wIs ((getW d (balK b c)).n + n.n)=true
    ·rw [if_pos h7,if_neg (by simp [h7])]
    ·rw [if_neg h7,if_pos (by simpa using h7)]
theorem putR_dok {d:List Ent}{k v:Bs}(h:DOk d):DOk (putR d k v).1:=by
 unfold putR
 split
 ·rename_i h1;exact h.put h1
 ·exact .nil
theorem moreR_dok {d:List Ent}{k:Bs}{n:Wd}(h:DOk d):DOk (moreR k n d).1:=by
 unfold moreR
 split
 ·exact putR_dok h
 ·exact .nil
theorem lessR_dok {d:List Ent}{k:Bs}{n:Wd}(h:DOk d):DOk (lessR k n d).1:=by
 unfold lessR
 split
 ·exact .nil
 ·split
  ·exact h.drp _
  ·exact putR_dok h
theorem thenR_dok {d:List Ent}{a b:List Ent->List Ent × Int}(h:DOk d)(ha:∀ d,DOk d->DOk (a d).1)(hb:∀ d,DOk d->DOk (b d).1):DOk (thenR a b d).1:=by
 unfold thenR
 split
 ·exact hb _ (ha _ h)
 ·exact ha _ h
theorem mintR_dok {d:List Ent}{a c:Bs}{n:Wd}(h:DOk d):DOk (mintR d a c n).1:=by
 unfold mintR
 split
 ·exact .nil
 ·split
  ·exact .nil
  ·exact thenR_dok h (fun _ h=>moreR_dok h) (fun _ h=>moreR_dok h)
theorem burnR_dok {d:List Ent}{a c:Bs}{n:Wd}(h:DOk d):DOk (burnR d a c n).1:=by
 unfold burnR
 split
 ·exact .nil
 ·exact thenR_dok h (fun _ h=>lessR_dok h) (fun _ h=>lessR_dok h)
theorem moveR_dok {d:List Ent}{a b c:Bs}{n:Wd}(h:DOk d):DOk (moveR d a b c n).1:=by
 unfold moveR
 split
 ·exact .nil
 ·split
  ·exact h
  ·exact thenR_dok h (fun _ h=>lessR_dok h) (fun _ h=>moreR_dok h)
theorem sendR_dok {d:List Ent}{x:Pkt}(h:DOk d):DOk (sendR d x).1:=by
 unfold sendR
 split
 ·exact .nil
 ·split
  ·exact burnR_dok h
  ·exact moveR_dok h
theorem recvR_dok {d:List Ent}{x:Pkt}(h:DOk d):DOk (recvR d x).1:=by
 unfold recvR
 split
 ·exact .nil
 ·split
  ·exact moveR_dok h
  ·exact mintR_dok h
theorem backR_dok {d:List Ent}{x:Pkt}(h:DOk d):DOk (backR d x).1:=by
 unfold backR
 split
 ·exact .nil
 ·split
  ·exact mintR_dok h
  ·exact moveR_dok h
end Go.Proofs.YtlmcongmglfaeaaGreatDoor
