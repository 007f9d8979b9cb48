/- chapter 19 in plain words: blocks, what they make of a map; a block of transactions that all fail -/
import Derived.Test.YtlmcongmglfaeaaGreatDoorA16
import Derived.Test.YtlmcongmglfaeaaGreatDoorA23
import Derived.Test.YtlmcongmglfaeaaGreatDoorA25
import Derived.Test.YtlmcongmglfaeaaGreatDoorA28
import Derived.Test.YtlmcongmglfaeaaGreatDoorA30
import Derived.Test.YtlmcongmglfaeaaGreatDoorA31
import Derived.Test.YtlmcongmglfaeaaGreatDoorA32
import Derived.Test.YtlmcongmglfaeaaGreatDoorA33
import Derived.Test.YtlmcongmglfaeaaGreatDoorA35
import Derived.Test.YtlmcongmglfaeaaGreatDoorA37
import Derived.Test.YtlmcongmglfaeaaGreatDoorA38
import Derived.Test.YtlmcongmglfaeaaGreatDoorA41
namespace Go.Proofs.YtlmcongmglfaeaaGreatDoor
open Go Go.RowKit Tw Av
instance fnShort18 {s:Bs}{n:Int}:Ans Tryz.prog GL 16 [str s,int n] (0<=n) (str (s.take n.toNat)):=⟨fun hn=>by
 refine qE Tryz.func16 rfl Tryz.ntmps16 rfl (fun _ hs=>?_)
 repeat' first|refine Vz ?_|intro _
 refine ac_cond (fun h1=>?_) (fun h1=>?_)
 ·repeat' first|refine Vz ?_|intro _
  refine al_sliceS 0 n.toNat ?_
  repeat' first|refine Vz ?_|intro _
  refine reE ?_
  rfl
 ·repeat' first|refine Vz ?_|intro _
  refine reE ?_
  rw [List.take_of_length_le (by omega)]
  rfl⟩
def cut40 (x:Ent):Ent:=⟨x.key.take 40,x.val.take 40⟩
def oneE (l:List Ent):List Ent:=(l.take 1).map cut40
def pathP (p:Prf):Prf:=⟨p.a,p.m,p.p.take 6⟩
instance fnPath18 {a m:Int}{p:List Hsh}{xs:List AV}{id:Option Value}[hx:Hshs xs p]:Ans Tryz.prog GL 79 [.agg 3 [int a,int m,.sl 32 xs id]] True (prfA (pathP ⟨a,m,p⟩)):=⟨fun _=>by
 have h:=hx.out
 subst h
 have hm:(p.map hA).length=p.length:=llm _
 refine qE Tryz.func79 rfl Tryz.ntmps79 rfl (fun _ hs=>?_)
 repeat' first|refine Vz ?_|intro _
 refine ac_cond (fun h1=>?_) (fun h1=>?_)
 ·repeat' first|refine Vz ?_|intro _
  refine al_sliceD 0 6 ?_
  repeat' first|refine Vz ?_|intro _
  refine reE ?_
  simp [outOf,pathP,List.map_take]
 ·repeat' first|refine Vz ?_|intro _
  refine reI ?_
  have e:pathP ⟨a,m,p⟩=⟨a,m,p⟩:=by
   unfold pathP
   rw [List.take_of_length_le (show p.length<=6 by rw [hm] at h1;omega)]
  rw [e]
  show Imp (.agg 3 [int a,int m,.sl 32 (p.map hA) id]) (.agg 3 [int a,int m,.sl 32 (p.map hA) none])
  exact ImpR.imp⟩
instance fnOne18 {l:List Ent}{xs:List AV}{id:Option Value}[hx:Ents xs l]:Ans Tryz.prog GL 80 [.sl 2 xs id] True (.sl 2 ((oneE l).map entA) none):=⟨fun _=>by
 have h:=hx.out
 subst h
 refine qE Tryz.func80 rfl Tryz.ntmps80 rfl (fun _ hs=>?_)
 rcases l with _|⟨e,l⟩
 ·have hm:(([]:List Ent).map entA).length=0:=rfl
  repeat' first|refine Zz ?_|intro _
  refine reI ?_
  exact Imp.nilN
 ·have hm:((e::l).map entA).length=l.length + 1:=by simp
  repeat' first|refine Zz ?_|intro _
  refine reE ?_
  rfl⟩
def smallX (x:TxX):TxX:=⟨x.k,x.i.take 40,x.o.take 40,x.p.take 40,x.q.take 40,x.y.take 40,x.e,⟨x.h.c.take 40,x.h.h,x.h.t,x.h.r⟩,x.m,⟨x.x.q,x.x.s.take 40,x.x.k.take 40,x.x.d.take 40,x.x.a,x.x.f.take 40,x.x.g.take 40,x.x.h,x.x.t⟩,x.a.take 40,x.t,pathP x.f,⟨x.g.n,oneE x.g.l,oneE x.g.r,pathP x.g.a,pathP x.g.b⟩⟩
set_option maxRecDepth 100000 in
set_option maxHeartbeats 4000000 in
instance fnSmall18 {x:TxX}:Ans Tryz.prog GL 35 [txA x] True (txA (smallX x)):=⟨fun _=>by
 refine qE Tryz.func35 rfl Tryz.ntmps35 rfl (fun _ hs=>?_)
 repeat' first|refine Zz ?_|intro _
 refine reE ?_
 rfl⟩

abbrev EntZ:=Bs × Bs × Unit
def ents (l:List EntZ):List Ent:=l.map fun z=>⟨z.1,z.2.1⟩
theorem ents_eq (l:List EntZ):l.map (fun z=>AV.agg 2 [str z.fst,str z.snd.fst])=(ents l).map entA:=by
 rw [ents,List.map_map]
 rfl
theorem amount {w:List Nat}(hl:w.length=4)(hb:∀ x ∈ w,x < 18446744073709551616):∃ a:Wd,(AV.agg 4 (w.map fun n:Nat=>AV.lit (.int .u64 (n:Int))))=widA a:=by
 match w,hl,hb with
 | [a,b,c,d],_,hb=>
  obtain⟨h1,h2,h3,h4,h5⟩:=wj_lm (hb a (by simp)) (hb b (by simp)) (hb c (by simp)) (hb d (by simp))
  refine⟨⟨wj a b c d,h1⟩,?_⟩
  show _=widN (wj a b c d)
  rw [widN,h2,h3,h4,h5]
  rfl

structure TxW (x:TxX):Prop where
 k:x.k<=9223372036854775807
 e:x.e<=9223372036854775807
 hh:x.h.h<=9223372036854775807
 ht:x.h.t<=9223372036854775807
 xq:x.x.q<=9223372036854775807
 xh:x.x.h<=9223372036854775807
 xt:x.x.t<=9223372036854775807
 t:x.t<=9223372036854775807
 f:x.f.p.length<=1000000/\x.f.a<=9223372036854775807/\x.f.m<=9223372036854775807
 g:GapW x.g
set_option maxRecDepth 100000 in
set_option maxHeartbeats 4000000 in
instance fnTxBytes {x:TxX}:Ans Tryz.prog GL 39 [txA x] (TxW x) (str (txB x)):=⟨fun hp=>by
 obtain⟨h1,h2,h3,h4,h5,h6,h7,h8,h9,h10⟩:=hp
 refine qE Tryz.func39 rfl Tryz.ntmps39 rfl (fun _ hs=>?_)
 repeat' (first|refine ct1 ?_|refine op1 ?_|refine opL ?_|refine op2 ?_|intro _)
 refine dr1 hs ?_
 iterate 4 refine ob1 ?_
 apply obl_float [47,40];kernel_rfl;kernel_rfl;kernel_rfl;exact⟨⟨_,inferInstance⟩,⟨_,inferInstance⟩,trivial⟩;intro g3
 apply obl_float [47,40];kernel_rfl;kernel_rfl;kernel_rfl;exact⟨⟨_,inferInstance⟩,⟨_,inferInstance⟩,trivial⟩;intro g4
 repeat' first|refine Yz ?_|intro _
 refine reE ?_
 rfl⟩
set_option maxRecDepth 100000 in
set_option maxHeartbeats 4000000 in
instance fnR18Bytes {x:TxX}:Ans Tryz.prog GL 40 [txA x] (TxW x) (str (txB x)):=⟨fun hp=>by
 obtain⟨h1,h2,h3,h4,h5,h6,h7,h8,h9,h10⟩:=hp
 refine qE Tryz.func40 rfl Tryz.ntmps40 rfl (fun _ hs=>?_)
 repeat' first|refine Yz ?_|intro _
 refine reE ?_
 rfl⟩

instance rdTextS {g:Nat}{σ:RS}{c most:Int}:AnsM Tryz.prog GL 83 g [.lit (.int .u8 c),int most] 219 (rdS σ) True (str (gT c most σ)) (rdS (sT c most σ)):=⟨fun _=>(rdText (g:=g) (s:=σ.1.1) (b:=σ.1.2) (c:=c) (most:=most)).spec (by have:=σ.2;omega)⟩
instance rdIntS {g:Nat}{σ:RS}{c most:Int}:AnsM Tryz.prog GL 85 g [.lit (.int .u8 c),int most] 219 (rdS σ) (0<=most/\most<=9223372036854775807) (int (gI c most σ)) (rdS (sI c most σ)):=⟨fun h=>(rdInt (g:=g) (s:=σ.1.1) (b:=σ.1.2) (c:=c) (most:=most)).spec ⟨by have:=σ.2;omega,h⟩⟩
instance rdEndS {g:Nat}{σ:RS}:AnsM Tryz.prog GL 91 g [] 219 (rdS σ) True (int (gZ σ)) (rdS σ):=⟨fun h=>(rdEnd (g:=g) (s:=σ.1.1) (b:=σ.1.2)).spec h⟩
instance rrTextS {g:Nat}{σ:RS}{c most:Int}:AnsM Tryz.prog GL 93 g [.lit (.int .u8 c),int most] 169 (rdS σ) True (str (gT c most σ)) (rdS (sT c most σ)):=⟨fun _=>(rrText (g:=g) (s:=σ.1.1) (b:=σ.1.2) (c:=c) (most:=most)).spec (by have:=σ.2;omega)⟩
instance rrIntS {g:Nat}{σ:RS}{c most:Int}:AnsM Tryz.prog GL 92 g [.lit (.int .u8 c),int most] 169 (rdS σ) (0<=most/\most<=9223372036854775807) (int (gI c most σ)) (rdS (sI c most σ)):=⟨fun h=>(rrInt (g:=g) (s:=σ.1.1) (b:=σ.1.2) (c:=c) (most:=most)).spec ⟨by have:=σ.2;omega,h⟩⟩
instance rrEndS {g:Nat}{σ:RS}:AnsM Tryz.prog GL 98 g [] 169 (rdS σ) True (int (gZ σ)) (rdS σ):=⟨fun h=>(rrEnd (g:=g) (s:=σ.1.1) (b:=σ.1.2)).spec h⟩

section
variable {P:Program} {N:Nat} {ops:Array Oper} {Q:Exit->Act->World->Prop} {rest:List Oper} {s:Av.Base} {e:Av.Env} {m:List Av.Piece} {d:Nat} {ty:TypeId} {pos:String} {af:Array Edge} {gl:List (Nat × AV)}
class AnsL (P:Program)(gl:List (Nat × AV))(f:FuncId)(args:List AV)(g:Nat)(T:TypeId)(v:AV)(pre:outParam Prop)(out:outParam AV)(v':outParam AV):Prop where
 spec:pre->Av.Spec P gl f (args++[ptr g]) [.var g T v] fun u m=>u=out/\m=[.var g T v']
class AnsL2 (P:Program)(gl:List (Nat × AV))(f:FuncId)(args:List AV)(g:Nat)(T:TypeId)(r:Nat)(R:TypeId)(v:AV)(pre:outParam Prop)(out:outParam AV)(v':outParam AV):Prop where
 spec:pre->Av.Spec P gl f (args++[ptr g]) [.var r R v,.var g T (ptr r)] fun u m=>u=out/\m=[.var r R v',.var g T (ptr r)]
theorem al_callL {f:FuncId}[hf:FnB P f]{x:Operand}{xs:List Operand}{ts:Array TypeId}{args:List AV}{g:Nat}{T:TypeId}{v v' out:AV}{pre:Prop}{m':List Av.Piece}(h:AL P N ops Q s rest ((d,out)::e) m')(h0:Av.ev e x=some (fnv f [.pointer (some ⟨g,0,none⟩)]):=by exact rfl)(hx:Av.evs e xs=some args:=by exact rfl)
  (hu:Av.Upd m (.var g T v) (.var g T v') m':=by (repeat (first|apply Av.Upd.here|apply Av.Upd.there))) (hg:s.gl=gl:=by assumption) (hc:AnsL P gl f args g T v pre out v':=by infer_instance) (hp:pre:=by first|exact True.intro|assumption|omega) (hn:args.all noTup=true:=by exact rfl) (hd:Nat.blt d N=true:=by exact rfl) :
  AL P N ops Q s (⟨some d,.call ⟨.value x,xs.toArray,ts⟩,ty,pos,af,none⟩::rest) e m:=by
 obtain⟨fr,h1,h2⟩:=hu.perm
 refine al_callV (args:=args) (cs:=[.pointer (some ⟨g,0,none⟩)]) [.var g T v] fr (K:=fun u m=>u=out/\m=[.var g T v']) (by rw [hg];exact hc.spec hp) (fun u m1 hh=>?_) h1 h0 hx hn (by simp [Value.oneCell']) hd
 obtain⟨rfl,rfl⟩:=hh
 exact al_st (fun ok w hS=>hS.perm h2) h
theorem al_callL2 {f:FuncId}[hf:FnB P f]{x:Operand}{xs:List Operand}{ts:Array TypeId}{args:List AV}{g r:Nat}{T R:TypeId}{v v' out:AV}{pre:Prop}{m':List Av.Piece}(h:AL P N ops Q s rest ((d,out)::e) m')(h0:Av.ev e x=some (fnv f [.pointer (some ⟨g,0,none⟩)]):=by exact rfl)(hx:Av.evs e xs=some args:=by exact rfl)
  (hq:Av.Has m (.var g T (ptr r)):=by (repeat (first|exact Av.Has.here|apply Av.Has.there))) (hu:Av.Upd m (.var r R v) (.var r R v') m':=by (repeat (first|apply Av.Upd.here|apply Av.Upd.there))) (hg:s.gl=gl:=by assumption) (hc:AnsL2 P gl f args g T r R v pre out v':=by infer_instance)
  (hp:pre:=by first|exact True.intro|assumption|omega) (hne:Nat.beq T R=false:=by exact rfl) (hn:args.all noTup=true:=by exact rfl) (hd:Nat.blt d N=true:=by exact rfl) :
  AL P N ops Q s (⟨some d,.call ⟨.value x,xs.toArray,ts⟩,ty,pos,af,none⟩::rest) e m:=by
 obtain⟨fr,h1,h2⟩:=hu.perm
 have hTR:T≠R:=fun e=>by rw [e,Nat.beq_refl] at hne;cases hne
 have hq':Av.Piece.var g T (ptr r) ∈ fr:=by
  have:=h1.mem_iff.1 hq.mem
  rcases List.mem_cons.1 this with h|h
  ·injection h with _ h
   exact absurd h hTR
  ·exact h
 obtain⟨fr2,hf2⟩:∃ fr2,fr.Perm (.var g T (ptr r)::fr2):=by
  obtain⟨a,b,rfl⟩:=List.append_of_mem hq'
  exact⟨a++b,List.perm_middle⟩
 refine al_callV (args:=args) (cs:=[.pointer (some ⟨g,0,none⟩)]) [.var r R v,.var g T (ptr r)] fr2 (K:=fun u m=>u=out/\m=[.var r R v',.var g T (ptr r)]) (by rw [hg];exact hc.spec hp) (fun u m1 hh=>?_) (h1.trans (hf2.cons _)) h0 hx hn (by simp [Value.oneCell']) hd
 obtain⟨rfl,rfl⟩:=hh
 exact al_st (fun ok w hS=>hS.perm (h2.trans (hf2.cons _))) h
end
instance crText {g r:Nat}{σ:RS}{c:Int}:AnsL2 Tryz.prog GL 82 [.lit (.int .u8 c)] g 151 r 219 (rdS σ) True (str (gT c 4000 σ)) (rdS (sT c 4000 σ)):=⟨fun _=>by
 show Av.Spec _ _ _ [.lit (.int .u8 c),ptr g] _ _
 refine qE Tryz.func82 rfl Tryz.ntmps82 rfl (fun _ hs=>?_)
 repeat' first|refine Zz ?_|intro _
 refine reK _ ⟨rfl,rfl⟩ ?_
 repeat (first|exact List.nil_sublist _|exact List.Sublist.refl _|apply List.Sublist.cons_cons|apply List.Sublist.cons)⟩
instance crInt {g r:Nat}{σ:RS}{c:Int}:AnsL2 Tryz.prog GL 84 [.lit (.int .u8 c)] g 151 r 219 (rdS σ) True (int (gI c 1099511627776 σ)) (rdS (sI c 1099511627776 σ)):=⟨fun _=>by
 show Av.Spec _ _ _ [.lit (.int .u8 c),ptr g] _ _
 refine qE Tryz.func84 rfl Tryz.ntmps84 rfl (fun _ hs=>?_)
 repeat' first|refine Zz ?_|intro _
 refine reK _ ⟨rfl,rfl⟩ ?_
 repeat (first|exact List.nil_sublist _|exact List.Sublist.refl _|apply List.Sublist.cons_cons|apply List.Sublist.cons)⟩
instance crChk {g:Nat}{b:Bool}{c:Int}:AnsL Tryz.prog GL 86 [int c] g 4 (boo b) True (.tup []) (boo (b && decide (c=0))):=⟨fun _=>by
 show Av.Spec _ _ _ [int c,ptr g] _ _
 refine qE Tryz.func86 rfl Tryz.ntmps86 rfl (fun _ hs=>?_)
 repeat' first|refine Zz ?_|intro _
 cases b
 ·repeat' first|refine Zz ?_|intro _
  refine reN _ ⟨rfl,rfl⟩ ?_
  exact sbl
 ·repeat' first|refine Zz ?_|intro _
  refine reN _ ⟨rfl,rfl⟩ ?_
  repeat (first|exact List.nil_sublist _|exact List.Sublist.refl _|apply List.Sublist.cons_cons|apply List.Sublist.cons)⟩
instance fnWFromS {c m:Int}{σ:RS}:Ans Tryz.prog GL 88 [str (gT c m σ)] True (.tup [widA (wV (gT c m σ)),int (if (gT c m σ).length=32 then 0 else 10)]):=⟨fun _=>fnWFrom.spec (gT_len _ _ _)⟩
instance fnPReadS {c m:Int}{σ:RS}:Ans Tryz.prog GL 89 [str (gT c m σ)] True (.tup [prfA (rpdV (gT c m σ)),int (rpdE (gT c m σ))]):=⟨fun _=>fnPRead.spec (gT_len _ _ _)⟩
instance fnReadGapS {c m:Int}{σ:RS}:Ans Tryz.prog GL 90 [str (gT c m σ)] True (.tup [gpA (rgdV (gT c m σ)),int (rgdE (gT c m σ))]):=⟨fun _=>fnReadGap.spec (gT_len _ _ _)⟩
/- each reading by its place: the reader's states have names,so that the terms stay small -/
instance mS1 {g:Nat}{σ:RS}:AnsM Tryz.prog GL 85 g [.lit (.int .u8 75),int 16] 219 (rdS σ) True (int (gI 75 16 σ)) (rdS (xs1 σ)):=⟨fun _=>(rdIntS (c:=75) (most:=16)).spec (by decide)⟩
instance cS2 {g r:Nat}{σ:RS}:AnsL2 Tryz.prog GL 82 [.lit (.int .u8 73)] g 151 r 219 (rdS (xs1 σ)) True (str (gT 73 4000 (xs1 σ))) (rdS (xs2 σ)):=⟨fun _=>(crText (c:=73)).spec True.intro⟩
instance cS3 {g r:Nat}{σ:RS}:AnsL2 Tryz.prog GL 82 [.lit (.int .u8 79)] g 151 r 219 (rdS (xs2 σ)) True (str (gT 79 4000 (xs2 σ))) (rdS (xs3 σ)):=⟨fun _=>(crText (c:=79)).spec True.intro⟩
instance cS4 {g r:Nat}{σ:RS}:AnsL2 Tryz.prog GL 82 [.lit (.int .u8 81)] g 151 r 219 (rdS (xs3 σ)) True (str (gT 81 4000 (xs3 σ))) (rdS (xs4 σ)):=⟨fun _=>(crText (c:=81)).spec True.intro⟩
instance cS5 {g r:Nat}{σ:RS}:AnsL2 Tryz.prog GL 82 [.lit (.int .u8 82)] g 151 r 219 (rdS (xs4 σ)) True (str (gT 82 4000 (xs4 σ))) (rdS (xs5 σ)):=⟨fun _=>(crText (c:=82)).spec True.intro⟩
instance cS6 {g r:Nat}{σ:RS}:AnsL2 Tryz.prog GL 82 [.lit (.int .u8 89)] g 151 r 219 (rdS (xs5 σ)) True (str (gT 89 4000 (xs5 σ))) (rdS (xs6 σ)):=⟨fun _=>(crText (c:=89)).spec True.intro⟩
instance cS7 {g r:Nat}{σ:RS}:AnsL2 Tryz.prog GL 84 [.lit (.int .u8 69)] g 151 r 219 (rdS (xs6 σ)) True (int (gI 69 1099511627776 (xs6 σ))) (rdS (xs7 σ)):=⟨fun _=>(crInt (c:=69)).spec True.intro⟩
instance cS8 {g r:Nat}{σ:RS}:AnsL2 Tryz.prog GL 82 [.lit (.int .u8 99)] g 151 r 219 (rdS (xs7 σ)) True (str (gT 99 4000 (xs7 σ))) (rdS (xs8 σ)):=⟨fun _=>(crText (c:=99)).spec True.intro⟩
instance cS9 {g r:Nat}{σ:RS}:AnsL2 Tryz.prog GL 84 [.lit (.int .u8 104)] g 151 r 219 (rdS (xs8 σ)) True (int (gI 104 1099511627776 (xs8 σ))) (rdS (xs9 σ)):=⟨fun _=>(crInt (c:=104)).spec True.intro⟩
instance cS10 {g r:Nat}{σ:RS}:AnsL2 Tryz.prog GL 84 [.lit (.int .u8 116)] g 151 r 219 (rdS (xs9 σ)) True (int (gI 116 1099511627776 (xs9 σ))) (rdS (xs10 σ)):=⟨fun _=>(crInt (c:=116)).spec True.intro⟩
instance mS11 {g:Nat}{σ:RS}:AnsM Tryz.prog GL 83 g [.lit (.int .u8 114),int 32] 219 (rdS (xs10 σ)) True (str (gT 114 32 (xs10 σ))) (rdS (xs11 σ)):=⟨fun _=>(rdTextS (c:=114) (most:=32)).spec True.intro⟩
instance mS12 {g:Nat}{σ:RS}:AnsM Tryz.prog GL 83 g [.lit (.int .u8 77),int 32] 219 (rdS (xs11 σ)) True (str (gT 77 32 (xs11 σ))) (rdS (xs12 σ)):=⟨fun _=>(rdTextS (c:=77) (most:=32)).spec True.intro⟩
instance cS13 {g r:Nat}{σ:RS}:AnsL2 Tryz.prog GL 84 [.lit (.int .u8 113)] g 151 r 219 (rdS (xs12 σ)) True (int (gI 113 1099511627776 (xs12 σ))) (rdS (xs13 σ)):=⟨fun _=>(crInt (c:=113)).spec True.intro⟩
instance cS14 {g r:Nat}{σ:RS}:AnsL2 Tryz.prog GL 82 [.lit (.int .u8 115)] g 151 r 219 (rdS (xs13 σ)) True (str (gT 115 4000 (xs13 σ))) (rdS (xs14 σ)):=⟨fun _=>(crText (c:=115)).spec True.intro⟩
instance cS15 {g r:Nat}{σ:RS}:AnsL2 Tryz.prog GL 82 [.lit (.int .u8 107)] g 151 r 219 (rdS (xs14 σ)) True (str (gT 107 4000 (xs14 σ))) (rdS (xs15 σ)):=⟨fun _=>(crText (c:=107)).spec True.intro⟩
instance cS16 {g r:Nat}{σ:RS}:AnsL2 Tryz.prog GL 82 [.lit (.int .u8 100)] g 151 r 219 (rdS (xs15 σ)) True (str (gT 100 4000 (xs15 σ))) (rdS (xs16 σ)):=⟨fun _=>(crText (c:=100)).spec True.intro⟩
instance mS17 {g:Nat}{σ:RS}:AnsM Tryz.prog GL 83 g [.lit (.int .u8 97),int 32] 219 (rdS (xs16 σ)) True (str (gT 97 32 (xs16 σ))) (rdS (xs17 σ)):=⟨fun _=>(rdTextS (c:=97) (most:=32)).spec True.intro⟩
instance cS18 {g r:Nat}{σ:RS}:AnsL2 Tryz.prog GL 82 [.lit (.int .u8 102)] g 151 r 219 (rdS (xs17 σ)) True (str (gT 102 4000 (xs17 σ))) (rdS (xs18 σ)):=⟨fun _=>(crText (c:=102)).spec True.intro⟩
instance cS19 {g r:Nat}{σ:RS}:AnsL2 Tryz.prog GL 82 [.lit (.int .u8 103)] g 151 r 219 (rdS (xs18 σ)) True (str (gT 103 4000 (xs18 σ))) (rdS (xs19 σ)):=⟨fun _=>(crText (c:=103)).spec True.intro⟩
instance cS20 {g r:Nat}{σ:RS}:AnsL2 Tryz.prog GL 84 [.lit (.int .u8 117)] g 151 r 219 (rdS (xs19 σ)) True (int (gI 117 1099511627776 (xs19 σ))) (rdS (xs20 σ)):=⟨fun _=>(crInt (c:=117)).spec True.intro⟩
instance cS21 {g r:Nat}{σ:RS}:AnsL2 Tryz.prog GL 84 [.lit (.int .u8 118)] g 151 r 219 (rdS (xs20 σ)) True (int (gI 118 1099511627776 (xs20 σ))) (rdS (xs21 σ)):=⟨fun _=>(crInt (c:=118)).spec True.intro⟩
instance cS22 {g r:Nat}{σ:RS}:AnsL2 Tryz.prog GL 82 [.lit (.int .u8 65)] g 151 r 219 (rdS (xs21 σ)) True (str (gT 65 4000 (xs21 σ))) (rdS (xs22 σ)):=⟨fun _=>(crText (c:=65)).spec True.intro⟩
instance cS23 {g r:Nat}{σ:RS}:AnsL2 Tryz.prog GL 84 [.lit (.int .u8 84)] g 151 r 219 (rdS (xs22 σ)) True (int (gI 84 1099511627776 (xs22 σ))) (rdS (xs23 σ)):=⟨fun _=>(crInt (c:=84)).spec True.intro⟩
instance cS24 {g r:Nat}{σ:RS}:AnsL2 Tryz.prog GL 82 [.lit (.int .u8 70)] g 151 r 219 (rdS (xs23 σ)) True (str (gT 70 4000 (xs23 σ))) (rdS (xs24 σ)):=⟨fun _=>(crText (c:=70)).spec True.intro⟩
instance cS25 {g r:Nat}{σ:RS}:AnsL2 Tryz.prog GL 82 [.lit (.int .u8 71)] g 151 r 219 (rdS (xs24 σ)) True (str (gT 71 4000 (xs24 σ))) (rdS (xs25 σ)):=⟨fun _=>(crText (c:=71)).spec True.intro⟩
theorem if32 (n:Nat):decide ((if n=32 then (0:Int) else 10)=0)=decide (n=32):=by by_cases h:n=32 <;> simp [h]
theorem txOk_eq (σ:RS):txOk σ=((true && decide ((if (gT 114 32 (xs10 σ)).length=32 then (0:Int) else 10)=0) && decide ((if (gT 77 32 (xs11 σ)).length=32 then (0:Int) else 10)=0) && decide ((if (gT 97 32 (xs16 σ)).length=32 then (0:Int) else 10)=0) && decide (rpdE (gT 70 4000 (xs23 σ))=0) && decide (rgdE (gT 71 4000 (xs24 σ))=0)) && decide (gZ (xs25 σ)=0)):=by
 simp only [if32,Bool.true_and,Bool.and_assoc]
 rfl
theorem zeroX_imp:Imp (.tup [.agg 100 [int 0,str [],str [],str [],str [],str [],int 0,.agg 35 [str [],int 0,int 0,hA zeroH],hA zeroH,.agg 12 [int 0,str [],str [],.agg 7 [str [],.agg 4 [.lit (.int .u64 0),.lit (.int .u64 0),.lit (.int .u64 0),.lit (.int .u64 0)],str [],str []],int 0,int 0],str [],int 0,.agg 3 [int 0,int 0,.lit (.slice none 0 0)],.agg 9 [int 0,.lit (.slice none 0 0),.lit (.slice none 0 0),.agg 3 [int 0,int 0,.lit (.slice none 0 0)],.agg 3 [int 0,int 0,.lit (.slice none 0 0)]]],int 10]) (.tup [txA zeroX,int 10]):=by
 show Imp _ (.tup [.agg 100 [int 0,str [],str [],str [],str [],str [],int 0,.agg 35 [str [],int 0,int 0,hA zeroH],hA zeroH,.agg 12 [int 0,str [],str [],.agg 7 [str [],.agg 4 [.lit (.int .u64 0),.lit (.int .u64 0),.lit (.int .u64 0),.lit (.int .u64 0)],str [],str []],int 0,int 0],str [],int 0,.agg 3 [int 0,int 0,.sl 32 [] none],.agg 9 [int 0,.sl 2 [] none,.sl 2 [] none,.agg 3 [int 0,int 0,.sl 32 [] none],.agg 3 [int 0,int 0,.sl 32 [] none]]],int 10])
 exact ImpR.imp
attribute [local irreducible] wV gT gI gZ sT sI hOf rpdV rgdV rpdE rgdE rdS xs1 xs2 xs3 xs4 xs5 xs6 xs7 xs8 xs9 xs10 xs11 xs12 xs13 xs14 xs15 xs16 xs17 xs18 xs19 xs20 xs21 xs22 xs23 xs24 xs25
theorem Xa {G G':Prop}(h:G')(i:Wr G'->G:=by intro h;first|exact Av.W h.o|exact op2 h.o|exact ob4 h.o|exact al_callL2 h.o|exact al_callL h.o|exact gdT h.o|exact gdF h.o|exact cdT h.o|exact cdF h.o):G:=i ⟨h⟩
set_option maxRecDepth 100000 in
set_option maxHeartbeats 40000000 in
instance fnTxRead {s:Bs}:Ans Tryz.prog GL 36 [str s] (s.length<=1000000000) (.tup [txA (rtxV (xs0 s)),int (rtxE (xs0 s))]):=⟨fun hl=>by
 refine qE Tryz.func36 rfl Tryz.ntmps36 rfl (fun _ hs=>?_)
 repeat' (first|refine Xa ?_|refine ob2 (fun _=>?_)|intro _|simp only [List.set]|fail)
 refine al_callK (args:=[str s]) [] _ (by rw [hs];exact tlvRead) (fun u m1 hh=>?_) lpr
 obtain⟨gr,rfl,rfl⟩:=hh
 rw [xs0_eq hl]
 generalize xs0 s=σ
 repeat' (first|refine Xa ?_|refine ob2 (fun _=>?_)|intro _|simp only [List.set]|fail)
 rename_i g4 g5
 refine al_makeFunc (vs:=[.pointer (some ⟨g4,0,none⟩)]) ?_
 repeat' (first|refine Xa ?_|refine ob2 (fun _=>?_)|intro _|simp only [List.set]|fail)
 refine al_makeFunc (vs:=[.pointer (some ⟨g4,0,none⟩)]) ?_
 repeat' (first|refine Xa ?_|refine ob2 (fun _=>?_)|intro _|simp only [List.set]|fail)
 refine al_makeFunc (vs:=[.pointer (some ⟨g5,0,none⟩)]) ?_
 iterate 20 ((iterate 20 (try first|refine Xa ?_|refine ob2 (fun _=>?_)|intro _));try simp only [List.set])
 have hk:=txOk_eq σ
 generalize (true && decide ((if (gT 114 32 (xs10 σ)).length=32 then (0:Int) else 10)=0) && decide ((if (gT 77 32 (xs11 σ)).length=32 then (0:Int) else 10)=0) && decide ((if (gT 97 32 (xs16 σ)).length=32 then (0:Int) else 10)=0) && decide (rpdE (gT 70 4000 (xs23 σ))=0) && decide (rgdE (gT 71 4000 (xs24 σ))=0))=b at hk ⊢
 cases b
 ·repeat' (first|refine Xa ?_|refine ob2 (fun _=>?_)|intro _|simp only [List.set]|fail)
  have h0:rtxV σ=zeroX/\rtxE σ=10:=by unfold rtxV rtxE;rw [hk];exact⟨rfl,rfl⟩
  rw [h0.1,h0.2]
  (refine reIKm (.tup [txA zeroX,int 10]) [] ?_ ⟨rfl,rfl⟩ (List.nil_sublist _);exact zeroX_imp)
 ·repeat' (first|refine Xa ?_|refine ob2 (fun _=>?_)|intro _|simp only [List.set]|fail)
  by_cases hq:gZ (xs25 σ)=0
  ·have h0:rtxV σ=txV σ/\rtxE σ=0:=by unfold rtxV rtxE;rw [hk,dT hq];exact⟨rfl,rfl⟩
   rw [h0.1,h0.2]
   repeat' (first|refine Xa ?_|refine ob2 (fun _=>?_)|intro _|simp only [List.set]|fail)
   refine reK _ ⟨rfl,rfl⟩ ?_
   exact sbl
  ·have h0:rtxV σ=zeroX/\rtxE σ=10:=by unfold rtxV rtxE;rw [hk,dZ hq];exact⟨rfl,rfl⟩
   rw [h0.1,h0.2]
   repeat' (first|refine Xa ?_|refine ob2 (fun _=>?_)|intro _|simp only [List.set]|fail)
   (refine reIKm (.tup [txA zeroX,int 10]) [] ?_ ⟨rfl,rfl⟩ (List.nil_sublist _);exact zeroX_imp)⟩
end Go.Proofs.YtlmcongmglfaeaaGreatDoor

namespace Go.Proofs.YtlmcongmglfaeaaGreatDoor
open Go Go.RowKit Tw Av
instance fnR18Hash {x:Bs}:Ans Tryz.prog GL 94 [str x] True (.tup [hA (hOf x),boo (decide (x.length=32))]):=⟨fun _=>by
 refine qE Tryz.func94 rfl Tryz.ntmps94 rfl (fun _ hs=>?_)
 repeat' first|refine Yz ?_|intro _
 by_cases hx:x.length=32
 rotate_left
 ·rw [dZ hx]
  repeat' first|refine Yz ?_|intro _
  refine reE ?_
  unfold hOf
  rw [dif_neg hx]
  rfl
 rw [dT hx]
 repeat' first|refine Yz ?_|intro _
 rename_i g1 g2
 refine ac_loop (α:=Nat) (fun i=>[(0,str x),(2,ptr g1),(3,.lit (.bool false)),(4,ptr g2),(5,int i)]) (fun i=>[.var g2 38 (.agg 32 ((layB x i).map u8A)),.var g1 38 (hA zeroH)]) (fun i=>i<=32) (fun i=>32 - i) 0 ⟨rfl,rfl,rfl,rfl,rfl,trivial⟩ ?_ (Nat.zero_le _) ?_
 focus
  exact sbl
 intro i hi
 repeat' first|refine Yz ?_|intro _
 refine ac_cond (fun hlt=>?_) (fun hlt=>?_)
 ·have hil:i < 32:=by omega
  have hix:i < x.length:=by omega
  repeat' first|refine Yz ?_|intro _
  refine al_idxS i ?_ (List.getElem?_eq_getElem hix)
  repeat' first|refine Yz ?_|intro _
  refine al_idxA i ?_
  refine al_storeE (j:=i) (ps:=(layB x i).map u8A) (by simp only [List.length_map];rw [layB_len hx hi];exact hil) ?_
  repeat' first|refine Yz ?_|intro _
  rw [show ((layB x i).map u8A).set i (u8A x[i])=((layB x i).set i x[i]).map u8A by rw [List.map_set],layB_next hx hil]
  exact ae_round (i + 1) ⟨rfl,rfl,rfl,rfl,rfl,trivial⟩ slr hil (by omega)
 ·obtain rfl:i=32:=by omega
  have hA1:AV.agg 32 ((layB x 32).map u8A)=hA (hOf x):=by rw [layB_all hx,hA,hOf_l hx]
  rw [hA1]
  repeat' first|refine Yz ?_|intro _
  refine reE ?_
  rfl⟩
instance fnRWFromS {c m:Int}{σ:RS}:Ans Tryz.prog GL 95 [str (gT c m σ)] True (.tup [widA (wV (gT c m σ)),int (if (gT c m σ).length=32 then 0 else 10)]):=⟨fun _=>fnRWFrom.spec (gT_len _ _ _)⟩
instance fnRPReadS {c m:Int}{σ:RS}:Ans Tryz.prog GL 96 [str (gT c m σ)] True (.tup [prfA (rpdV (gT c m σ)),int (rpdE (gT c m σ))]):=⟨fun _=>fnRPRead.spec (gT_len _ _ _)⟩
instance fnRReadGapS {c m:Int}{σ:RS}:Ans Tryz.prog GL 97 [str (gT c m σ)] True (.tup [gpA (rgdV (gT c m σ)),int (rgdE (gT c m σ))]):=⟨fun _=>fnRReadGap.spec (gT_len _ _ _)⟩
instance rS1 {g:Nat}{σ:RS}:AnsM Tryz.prog GL 92 g [.lit (.int .u8 75),int 16] 169 (rdS σ) True (int (gI 75 16 σ)) (rdS (xs1 σ)):=⟨fun _=>(rrIntS (c:=75) (most:=16)).spec (by decide)⟩
instance rS2 {g:Nat}{σ:RS}:AnsM Tryz.prog GL 93 g [.lit (.int .u8 73),int 4000] 169 (rdS (xs1 σ)) True (str (gT 73 4000 (xs1 σ))) (rdS (xs2 σ)):=⟨fun _=>(rrTextS (c:=73) (most:=4000)).spec True.intro⟩
instance rS3 {g:Nat}{σ:RS}:AnsM Tryz.prog GL 93 g [.lit (.int .u8 79),int 4000] 169 (rdS (xs2 σ)) True (str (gT 79 4000 (xs2 σ))) (rdS (xs3 σ)):=⟨fun _=>(rrTextS (c:=79) (most:=4000)).spec True.intro⟩
instance rS4 {g:Nat}{σ:RS}:AnsM Tryz.prog GL 93 g [.lit (.int .u8 81),int 4000] 169 (rdS (xs3 σ)) True (str (gT 81 4000 (xs3 σ))) (rdS (xs4 σ)):=⟨fun _=>(rrTextS (c:=81) (most:=4000)).spec True.intro⟩
instance rS5 {g:Nat}{σ:RS}:AnsM Tryz.prog GL 93 g [.lit (.int .u8 82),int 4000] 169 (rdS (xs4 σ)) True (str (gT 82 4000 (xs4 σ))) (rdS (xs5 σ)):=⟨fun _=>(rrTextS (c:=82) (most:=4000)).spec True.intro⟩
instance rS6 {g:Nat}{σ:RS}:AnsM Tryz.prog GL 93 g [.lit (.int .u8 89),int 4000] 169 (rdS (xs5 σ)) True (str (gT 89 4000 (xs5 σ))) (rdS (xs6 σ)):=⟨fun _=>(rrTextS (c:=89) (most:=4000)).spec True.intro⟩
instance rS7 {g:Nat}{σ:RS}:AnsM Tryz.prog GL 92 g [.lit (.int .u8 69),int 1099511627776] 169 (rdS (xs6 σ)) True (int (gI 69 1099511627776 (xs6 σ))) (rdS (xs7 σ)):=⟨fun _=>(rrIntS (c:=69) (most:=1099511627776)).spec (by decide)⟩
instance rS8 {g:Nat}{σ:RS}:AnsM Tryz.prog GL 93 g [.lit (.int .u8 99),int 4000] 169 (rdS (xs7 σ)) True (str (gT 99 4000 (xs7 σ))) (rdS (xs8 σ)):=⟨fun _=>(rrTextS (c:=99) (most:=4000)).spec True.intro⟩
instance rS9 {g:Nat}{σ:RS}:AnsM Tryz.prog GL 92 g [.lit (.int .u8 104),int 1099511627776] 169 (rdS (xs8 σ)) True (int (gI 104 1099511627776 (xs8 σ))) (rdS (xs9 σ)):=⟨fun _=>(rrIntS (c:=104) (most:=1099511627776)).spec (by decide)⟩
instance rS10 {g:Nat}{σ:RS}:AnsM Tryz.prog GL 92 g [.lit (.int .u8 116),int 1099511627776] 169 (rdS (xs9 σ)) True (int (gI 116 1099511627776 (xs9 σ))) (rdS (xs10 σ)):=⟨fun _=>(rrIntS (c:=116) (most:=1099511627776)).spec (by decide)⟩
instance rS11 {g:Nat}{σ:RS}:AnsM Tryz.prog GL 93 g [.lit (.int .u8 114),int 32] 169 (rdS (xs10 σ)) True (str (gT 114 32 (xs10 σ))) (rdS (xs11 σ)):=⟨fun _=>(rrTextS (c:=114) (most:=32)).spec True.intro⟩
instance rS12 {g:Nat}{σ:RS}:AnsM Tryz.prog GL 93 g [.lit (.int .u8 77),int 32] 169 (rdS (xs11 σ)) True (str (gT 77 32 (xs11 σ))) (rdS (xs12 σ)):=⟨fun _=>(rrTextS (c:=77) (most:=32)).spec True.intro⟩
instance rS13 {g:Nat}{σ:RS}:AnsM Tryz.prog GL 92 g [.lit (.int .u8 113),int 1099511627776] 169 (rdS (xs12 σ)) True (int (gI 113 1099511627776 (xs12 σ))) (rdS (xs13 σ)):=⟨fun _=>(rrIntS (c:=113) (most:=1099511627776)).spec (by decide)⟩
instance rS14 {g:Nat}{σ:RS}:AnsM Tryz.prog GL 93 g [.lit (.int .u8 115),int 4000] 169 (rdS (xs13 σ)) True (str (gT 115 4000 (xs13 σ))) (rdS (xs14 σ)):=⟨fun _=>(rrTextS (c:=115) (most:=4000)).spec True.intro⟩
instance rS15 {g:Nat}{σ:RS}:AnsM Tryz.prog GL 93 g [.lit (.int .u8 107),int 4000] 169 (rdS (xs14 σ)) True (str (gT 107 4000 (xs14 σ))) (rdS (xs15 σ)):=⟨fun _=>(rrTextS (c:=107) (most:=4000)).spec True.intro⟩
instance rS16 {g:Nat}{σ:RS}:AnsM Tryz.prog GL 93 g [.lit (.int .u8 100),int 4000] 169 (rdS (xs15 σ)) True (str (gT 100 4000 (xs15 σ))) (rdS (xs16 σ)):=⟨fun _=>(rrTextS (c:=100) (most:=4000)).spec True.intro⟩
instance rS17 {g:Nat}{σ:RS}:AnsM Tryz.prog GL 93 g [.lit (.int .u8 97),int 32] 169 (rdS (xs16 σ)) True (str (gT 97 32 (xs16 σ))) (rdS (xs17 σ)):=⟨fun _=>(rrTextS (c:=97) (most:=32)).spec True.intro⟩
instance rS18 {g:Nat}{σ:RS}:AnsM Tryz.prog GL 93 g [.lit (.int .u8 102),int 4000] 169 (rdS (xs17 σ)) True (str (gT 102 4000 (xs17 σ))) (rdS (xs18 σ)):=⟨fun _=>(rrTextS (c:=102) (most:=4000)).spec True.intro⟩
instance rS19 {g:Nat}{σ:RS}:AnsM Tryz.prog GL 93 g [.lit (.int .u8 103),int 4000] 169 (rdS (xs18 σ)) True (str (gT 103 4000 (xs18 σ))) (rdS (xs19 σ)):=⟨fun _=>(rrTextS (c:=103) (most:=4000)).spec True.intro⟩
instance rS20 {g:Nat}{σ:RS}:AnsM Tryz.prog GL 92 g [.lit (.int .u8 117),int 1099511627776] 169 (rdS (xs19 σ)) True (int (gI 117 1099511627776 (xs19 σ))) (rdS (xs20 σ)):=⟨fun _=>(rrIntS (c:=117) (most:=1099511627776)).spec (by decide)⟩
instance rS21 {g:Nat}{σ:RS}:AnsM Tryz.prog GL 92 g [.lit (.int .u8 118),int 1099511627776] 169 (rdS (xs20 σ)) True (int (gI 118 1099511627776 (xs20 σ))) (rdS (xs21 σ)):=⟨fun _=>(rrIntS (c:=118) (most:=1099511627776)).spec (by decide)⟩
instance rS22 {g:Nat}{σ:RS}:AnsM Tryz.prog GL 93 g [.lit (.int .u8 65),int 4000] 169 (rdS (xs21 σ)) True (str (gT 65 4000 (xs21 σ))) (rdS (xs22 σ)):=⟨fun _=>(rrTextS (c:=65) (most:=4000)).spec True.intro⟩
instance rS23 {g:Nat}{σ:RS}:AnsM Tryz.prog GL 92 g [.lit (.int .u8 84),int 1099511627776] 169 (rdS (xs22 σ)) True (int (gI 84 1099511627776 (xs22 σ))) (rdS (xs23 σ)):=⟨fun _=>(rrIntS (c:=84) (most:=1099511627776)).spec (by decide)⟩
instance rS24 {g:Nat}{σ:RS}:AnsM Tryz.prog GL 93 g [.lit (.int .u8 70),int 4000] 169 (rdS (xs23 σ)) True (str (gT 70 4000 (xs23 σ))) (rdS (xs24 σ)):=⟨fun _=>(rrTextS (c:=70) (most:=4000)).spec True.intro⟩
instance rS25 {g:Nat}{σ:RS}:AnsM Tryz.prog GL 93 g [.lit (.int .u8 71),int 4000] 169 (rdS (xs24 σ)) True (str (gT 71 4000 (xs24 σ))) (rdS (xs25 σ)):=⟨fun _=>(rrTextS (c:=71) (most:=4000)).spec True.intro⟩
instance rS1' {g:Nat}{s:Bs}:AnsM Tryz.prog GL 92 g [.lit (.int .u8 75),int 16] 169 (rdA s false) (s.length<=1000000000) (int (gI 75 16 (xs0 s))) (rdS (xs1 (xs0 s))):=⟨fun hl=>by
 have h:=(rS1 (g:=g) (σ:=xs0 s)).spec True.intro
 rw [<- xs0_eq hl] at h
 exact h⟩
theorem txOk_no {σ:RS}(h:gZ (xs25 σ)≠0\/(gT 114 32 (xs10 σ)).length≠32\/(gT 77 32 (xs11 σ)).length≠32\/(gT 97 32 (xs16 σ)).length≠32\/rpdE (gT 70 4000 (xs23 σ))≠0\/rgdE (gT 71 4000 (xs24 σ))≠0):rtxV σ=zeroX/\rtxE σ=10:=by
 have hk:txOk σ=false:=by
  cases e:txOk σ
  ·rfl
  ·exfalso
   unfold txOk xRoot xMac xAmt xPrf xGap at e
   simp only [Bool.and_eq_true,decide_eq_true_eq] at e
   obtain⟨e1,e2,e3,e4,e5,e6⟩:=e
   rcases h with h|h|h|h|h|h
   ·exact h e6
   ·exact h e1
   ·exact h e2
   ·exact h e3
   ·exact h e4
   ·exact h e5
 unfold rtxV rtxE
 rw [hk]
 exact⟨rfl,rfl⟩
theorem txOk_yes {σ:RS}(h6:gZ (xs25 σ)=0)(h1:(gT 114 32 (xs10 σ)).length=32)(h2:(gT 77 32 (xs11 σ)).length=32)(h3:(gT 97 32 (xs16 σ)).length=32)(h4:rpdE (gT 70 4000 (xs23 σ))=0)(h5:rgdE (gT 71 4000 (xs24 σ))=0):rtxV σ=txV σ/\rtxE σ=0:=by
 have hk:txOk σ=true:=by
  unfold txOk xRoot xMac xAmt xPrf xGap
  rw [dT h1,dT h2,dT h3,dT h4,dT h5,dT h6]
  rfl
 unfold rtxV rtxE
 rw [hk]
 exact⟨rfl,rfl⟩
attribute [local irreducible] wV gT gI gZ sT sI hOf rpdV rgdV rpdE rgdE rdS xs1 xs2 xs3 xs4 xs5 xs6 xs7 xs8 xs9 xs10 xs11 xs12 xs13 xs14 xs15 xs16 xs17 xs18 xs19 xs20 xs21 xs22 xs23 xs24 xs25
set_option maxRecDepth 100000 in
set_option maxHeartbeats 40000000 in
instance fnR18Read {s:Bs}:Ans Tryz.prog GL 37 [str s] (s.length<=1000000000) (.tup [txA (rtxV (xs0 s)),int (rtxE (xs0 s))]):=⟨fun hl=>by
 refine qE Tryz.func37 rfl Tryz.ntmps37 rfl (fun _ hs=>?_)
 iterate 24 ((iterate 20 (try first|refine Xa ?_|refine ob2 (fun _=>?_)|intro _));try simp only [List.set])
 generalize xs0 s=σ
 by_cases h6:gZ (xs25 σ)=0
 rotate_left
 ·rw [(txOk_no (.inl h6)).1,(txOk_no (.inl h6)).2]
  repeat' (first|refine Xa ?_|refine ob2 (fun _=>?_)|intro _|simp only [List.set]|fail)
  (refine reIKm (.tup [txA zeroX,int 10]) [] ?_ ⟨rfl,rfl⟩ (List.nil_sublist _);exact zeroX_imp)
 by_cases h1:(gT 114 32 (xs10 σ)).length=32
 rotate_left
 ·rw [(txOk_no (.inr (.inl h1))).1,(txOk_no (.inr (.inl h1))).2]
  repeat' (first|refine Xa ?_|refine ob2 (fun _=>?_)|intro _|simp only [List.set]|fail)
  (refine reIKm (.tup [txA zeroX,int 10]) [] ?_ ⟨rfl,rfl⟩ (List.nil_sublist _);exact zeroX_imp)
 by_cases h2:(gT 77 32 (xs11 σ)).length=32
 rotate_left
 ·rw [(txOk_no (.inr (.inr (.inl h2)))).1,(txOk_no (.inr (.inr (.inl h2)))).2]
  repeat' (first|refine Xa ?_|refine ob2 (fun _=>?_)|intro _|simp only [List.set]|fail)
  (refine reIKm (.tup [txA zeroX,int 10]) [] ?_ ⟨rfl,rfl⟩ (List.nil_sublist _);exact zeroX_imp)
 by_cases h3:(gT 97 32 (xs16 σ)).length=32
 rotate_left
 ·rw [(txOk_no (.inr (.inr (.inr (.inl h3))))).1,(txOk_no (.inr (.inr (.inr (.inl h3))))).2]
  repeat' (first|refine Xa ?_|refine ob2 (fun _=>?_)|intro _|simp only [List.set]|fail)
  (refine reIKm (.tup [txA zeroX,int 10]) [] ?_ ⟨rfl,rfl⟩ (List.nil_sublist _);exact zeroX_imp)
 by_cases h4:rpdE (gT 70 4000 (xs23 σ))=0
 rotate_left
 ·rw [(txOk_no (.inr (.inr (.inr (.inr (.inl h4)))))).1,(txOk_no (.inr (.inr (.inr (.inr (.inl h4)))))).2]
  repeat' (first|refine Xa ?_|refine ob2 (fun _=>?_)|intro _|simp only [List.set]|fail)
  (refine reIKm (.tup [txA zeroX,int 10]) [] ?_ ⟨rfl,rfl⟩ (List.nil_sublist _);exact zeroX_imp)
 by_cases h5:rgdE (gT 71 4000 (xs24 σ))=0
 rotate_left
 ·rw [(txOk_no (.inr (.inr (.inr (.inr (.inr h5)))))).1,(txOk_no (.inr (.inr (.inr (.inr (.inr h5)))))).2]
  repeat' (first|refine Xa ?_|refine ob2 (fun _=>?_)|intro _|simp only [List.set]|fail)
  (refine reIKm (.tup [txA zeroX,int 10]) [] ?_ ⟨rfl,rfl⟩ (List.nil_sublist _);exact zeroX_imp)
 rw [(txOk_yes h6 h1 h2 h3 h4 h5).1,(txOk_yes h6 h1 h2 h3 h4 h5).2]
 repeat' (first|refine Xa ?_|refine ob2 (fun _=>?_)|intro _|simp only [List.set]|fail)
 refine reE ?_
 rfl⟩
end Go.Proofs.YtlmcongmglfaeaaGreatDoor

namespace Go.Proofs.YtlmcongmglfaeaaGreatDoor
open Go Go.RowKit Tw Av
theorem rpdV_l18 (s:Bs):(rpdV s).p.length<=1073741823:=by
 unfold rpdV
 split
 ·have hn:=raL_len' (c:=112) (many:=16) (most:=32) (s:=rpS2 s) (b:=rpB2 s) (by decide)
  rw [ri5] at hn
  simp only [rpV,List.length_map]
  omega
 ·decide
theorem sdP_l18 (s:Bs)(b:Bool):(sdP s b).p.length<=1073741823:=by
 unfold sdP
 split
 ·exact rpdV_l18 _
 ·decide
theorem rgdV_l18 (s:Bs):(rgdV s).a.p.length<=1073741823/\(rgdV s).b.p.length<=1073741823:=by
 unfold rgdV
 split
 ·exact⟨sdP_l18 _ _,sdP_l18 _ _⟩
 ·decide
abbrev TxP (x:TxX):Prop:=x.f.p.length<=1073741823/\x.g.a.p.length<=1073741823/\x.g.b.p.length<=1073741823
theorem rtxV_l (σ:RS):TxP (rtxV σ):=by
 unfold rtxV
 split
 ·exact⟨rpdV_l18 _,rgdV_l18 _⟩
 ·decide
set_option maxHeartbeats 4000000 in
instance fnPSameR {xs ys:List AV}{i m:Int}{p:List Hsh}[hx:Hshs xs p][hy:Hshs ys p]:Ans Tryz.prog GL 99 [.agg 3 [int i,int m,.sl 32 xs none],.agg 3 [int i,int m,.sl 32 ys none]] (p.length<=1073741823) (boo true):=⟨fun hl=>by
 have h:=(fnPSame (xs:=xs) (ys:=ys) (id:=none) (id2:=none) (i:=i) (m:=m) (i2:=i) (m2:=m) (p:=p) (q:=p)).spec hl
 simpa using h⟩
set_option maxHeartbeats 4000000 in
instance fnR18Same {x:TxX}:Ans Tryz.prog GL 38 [txA x,txA x] (TxP x) (boo true):=⟨fun hp=>by
 obtain⟨h1,h2,h3⟩:=hp
 refine qE Tryz.func38 rfl Tryz.ntmps38 rfl (fun _ hs=>?_)
 repeat' first|refine Vz ?_|intro _
 refine reE ?_
 rfl⟩

theorem txB_len (x:TxX):(txB x).length<=1000000000:=by
 unfold txB
 refine Nat.le_trans LenLe.out ?_
 decide
end Go.Proofs.YtlmcongmglfaeaaGreatDoor
