/- chapter 18, transactions read the document's way, walked -/
import Derived.Test.YtndhpgclmgpmoaaGreatDoorA26
import Derived.Test.YtndhpgclmgpmoaaGreatDoorA28
import Derived.Test.YtndhpgclmgpmoaaGreatDoorA35
import Derived.Test.YtndhpgclmgpmoaaGreatDoorA37
import Derived.Test.YtndhpgclmgpmoaaGreatDoorA38
import Derived.Test.YtndhpgclmgpmoaaGreatDoorA40
import Derived.Test.YtndhpgclmgpmoaaGreatDoorA42
namespace Go.Proofs.YtndhpgclmgpmoaaGreatDoor
open Go Go.RowKit Tw Av
structure BlkX where
 h:Int
 t:Int
 x:List Bs
structure EvX where
 h:Int
 k:Int
 x:Pkt
 a:Bs
deriving DecidableEq
abbrev evA (v:EvX):AV:=.agg 15 [int v.h,int v.k,pktA v.x,str v.a]
def evR (d:List Ent)(h:Int)(x:TxX)(r:Rep):EvX:=
 ⟨h,x.k,if x.k=13 then { x.x with q:=r.q,k:=(enR d [72] x.x.s).p } else x.x,if x.k=14 then r.a else if x.k=15 then x.a else []⟩
abbrev Run3:=List Ent × List Rep × List EvX
def runD (h t:Int)(q:Run3)(x:TxX):Run3:=
 ((doR q.1 x h t).1,q.2.1++[(doR q.1 x h t).2],if (doR q.1 x h t).2.e=0/\13<=x.k then q.2.2++[evR (doR q.1 x h t).1 h x (doR q.1 x h t).2] else q.2.2)
def runS (h t:Int)(q:Run3)(s:Bs):Run3:=if rtxE (xs0 s)=0 then runD h t q (rtxV (xs0 s)) else (q.1,q.2.1++[repE 10],q.2.2)
def runL (h t:Int)(q:Run3)(l:List Bs):Run3:=l.foldl (runS h t) q
def runR (d:List Ent)(b:BlkX):Run3:=runL b.h b.t (d,[],[]) b.x
theorem runL_cons (h t:Int)(q:Run3)(s:Bs)(l:List Bs):runL h t q (s::l)=runL h t (runS h t q s) l:=by
 unfold runL
 exact List.foldl_cons ..
theorem runL_app (h t:Int)(q:Run3)(l r:List Bs):runL h t q (l++r)=runL h t (runL h t q l) r:=List.foldl_append
theorem runS_dok {h t:Int}{q:Run3}{s:Bs}(hd:DOk q.1):DOk (runS h t q s).1:=by
 unfold runS runD
 split
 ·exact doR_dok hd
 ·exact hd
theorem runL_dok {h t:Int}:∀ {l:List Bs} {q:Run3},DOk q.1->DOk (runL h t q l).1
 | [],_,hd=>hd
 | s::l,q,hd=>by rw [runL_cons];exact runL_dok (runS_dok hd)
theorem runS_len {h t:Int}{q:Run3}{s:Bs}:(runS h t q s).2.1.length=q.2.1.length + 1/\(runS h t q s).2.2.length<=q.2.2.length + 1:=by
 unfold runS runD
 split
 ·refine⟨by simp,?_⟩
  dsimp only
  split
  ·simp
  ·omega
 ·simp
theorem runL_len {h t:Int}:∀ {l:List Bs} {q:Run3},(runL h t q l).2.1.length=q.2.1.length + l.length/\(runL h t q l).2.2.length<=q.2.2.length + l.length
 | [],_=>⟨rfl,Nat.le_refl _⟩
 | s::l,q=>by
  have h1:=runS_len (h:=h) (t:=t) (q:=q) (s:=s)
  have h2:=runL_len (h:=h) (t:=t) (l:=l) (q:=runS h t q s)
  rw [runL_cons,List.length_cons]
  omega
def specK (k a:Int):TxX:=
 ⟨if k=2 then 2 else if k=3 then 3 else if k=5 then 13 else if k=6 then 4 else if k=7 then 14 else 1,
  [107],[],[],[],[107,101,121],9,⟨[98],1 + a,0,zeroH⟩,zeroH,
  ⟨if k=7 then 1 else 0,if k=5\/k=7 then [99] else [],if k=7 then [99] else [],[120],wOf a.toNat,[97,110,110],if k=0\/k=1 then [97,110,110] else [98,111,98],if k=5\/k=7 then 100 else 0,0⟩,
  [],0,zeroP,zeroG⟩
theorem zeroG_gg:GG zeroG:=⟨by decide,⟨by decide,by simp [zeroG],zeroP_pg⟩,⟨by decide,by simp [zeroG],zeroP_pg⟩⟩
theorem txB_len (x:TxX):(txB x).length<=1000000000:=by
 unfold txB
 refine Nat.le_trans LenLe.out ?_
 decide

instance rdTextS {g:Nat}{σ:RS}{c most:Int}:AnsM Tryz.prog GL 92 g [.lit (.int .u8 c),int most] 172 (rdS σ) True (str (gT c most σ)) (rdS (sT c most σ)):=⟨fun _=>(rdText (g:=g) (s:=σ.1.1) (b:=σ.1.2) (c:=c) (most:=most)).spec (by have:=σ.2;omega)⟩
instance rdIntS {g:Nat}{σ:RS}{c most:Int}:AnsM Tryz.prog GL 55 g [.lit (.int .u8 c),int most] 172 (rdS σ) (0<=most/\most<=9223372036854775807) (int (gI c most σ)) (rdS (sI c most σ)):=⟨fun h=>(rdInt (g:=g) (s:=σ.1.1) (b:=σ.1.2) (c:=c) (most:=most)).spec ⟨by have:=σ.2;omega,h⟩⟩
instance rdEndS {g:Nat}{σ:RS}:AnsM Tryz.prog GL 57 g [] 172 (rdS σ) True (int (gZ σ)) (rdS σ):=⟨fun h=>(rdEnd (g:=g) (s:=σ.1.1) (b:=σ.1.2)).spec h⟩

section
variable {P:Program} {N:Nat} {ops:Array Oper} {Q:Exit->Act->World->Prop} {rest:List Oper} {s:Av.Base} {e:Av.Env} {m:List Av.Piece} {d:Nat} {ty:TypeId} {pos:String} {af:Array Edge} {gl:List (Nat × AV)}
class AnsL (P:Program)(gl:List (Nat × AV))(f:FuncId)(args:List AV)(g:Nat)(T:TypeId)(v:AV)(pre:outParam Prop)(out:outParam AV)(v':outParam AV):Prop where
 spec:pre->Av.Spec P gl f (args++[ptr g]) [.var g T v] fun u m=>u=out/\m=[.var g T v']
class AnsL2 (P:Program)(gl:List (Nat × AV))(f:FuncId)(args:List AV)(g:Nat)(T:TypeId)(r:Nat)(R:TypeId)(v:AV)(pre:outParam Prop)(out:outParam AV)(v':outParam AV):Prop where
 spec:pre->Av.Spec P gl f (args++[ptr g]) [.var r R v,.var g T (ptr r)] fun u m=>u=out/\m=[.var r R v',.var g T (ptr r)]
theorem al_callL {f:FuncId}[hf:FnB P f]{x:Operand}{xs:List Operand}{ts:Array TypeId}{args:List AV}{g:Nat}{T:TypeId}{v v' out:AV}{pre:Prop}{m':List Av.Piece}(h:AL P N ops Q s rest ((d,out)::e) m')(h0:Av.ev e x=some (fnv f [.pointer (some ⟨g,0,none⟩)]):=by exact rfl)(hx:Av.evs e xs=some args:=by exact rfl)
  (hu:Av.Upd m (.var g T v) (.var g T v') m':=by (repeat (first|apply Av.Upd.here|apply Av.Upd.there))) (hg:s.gl=gl:=by assumption) (hc:AnsL P gl f args g T v pre out v':=by infer_instance) (hp:pre:=by first|exact True.intro|assumption|omega) (hn:args.all noTup=true:=by exact rfl) (hd:Nat.blt d N=true:=by exact rfl) :
  AL P N ops Q s (⟨some d,.call ⟨.value x,xs.toArray,ts⟩,ty,pos,af,none⟩::rest) e m:=by
 obtain⟨fr,h1,h2⟩:=hu.perm
 refine al_callV (args:=args) (cs:=[.pointer (some ⟨g,0,none⟩)]) [.var g T v] fr (K:=fun u m=>u=out/\m=[.var g T v']) (by rw [hg];exact hc.spec hp) (fun u m1 hh=>?_) h1 h0 hx hn (by simp [Value.oneCell']) hd
 obtain⟨rfl,rfl⟩:=hh
 exact al_st (fun ok w hS=>hS.perm h2) h
theorem al_callL2 {f:FuncId}[hf:FnB P f]{x:Operand}{xs:List Operand}{ts:Array TypeId}{args:List AV}{g r:Nat}{T R:TypeId}{v v' out:AV}{pre:Prop}{m':List Av.Piece}(h:AL P N ops Q s rest ((d,out)::e) m')(h0:Av.ev e x=some (fnv f [.pointer (some ⟨g,0,none⟩)]):=by exact rfl)(hx:Av.evs e xs=some args:=by exact rfl)
  (hq:Av.Has m (.var g T (ptr r)):=by (repeat (first|exact Av.Has.here|apply Av.Has.there))) (hu:Av.Upd m (.var r R v) (.var r R v') m':=by (repeat (first|apply Av.Upd.here|apply Av.Upd.there))) (hg:s.gl=gl:=by assumption) (hc:AnsL2 P gl f args g T r R v pre out v':=by infer_instance)
  (hp:pre:=by first|exact True.intro|assumption|omega) (hne:Nat.beq T R=false:=by exact rfl) (hn:args.all noTup=true:=by exact rfl) (hd:Nat.blt d N=true:=by exact rfl) :
  AL P N ops Q s (⟨some d,.call ⟨.value x,xs.toArray,ts⟩,ty,pos,af,none⟩::rest) e m:=by
 obtain⟨fr,h1,h2⟩:=hu.perm
 have hTR:T≠R:=fun e=>by rw [e,Nat.beq_refl] at hne;cases hne
 have hq':Av.Piece.var g T (ptr r) ∈ fr:=by
  have:=h1.mem_iff.1 hq.mem
  rcases List.mem_cons.1 this with h|h
  ·injection h with _ h
   exact absurd h hTR
  ·exact h
 obtain⟨fr2,hf2⟩:∃ fr2,fr.Perm (.var g T (ptr r)::fr2):=by
  obtain⟨a,b,rfl⟩:=List.append_of_mem hq'
  exact⟨a++b,List.perm_middle⟩
 refine al_callV (args:=args) (cs:=[.pointer (some ⟨g,0,none⟩)]) [.var r R v,.var g T (ptr r)] fr2 (K:=fun u m=>u=out/\m=[.var r R v',.var g T (ptr r)]) (by rw [hg];exact hc.spec hp) (fun u m1 hh=>?_) (h1.trans (hf2.cons _)) h0 hx hn (by simp [Value.oneCell']) hd
 obtain⟨rfl,rfl⟩:=hh
 exact al_st (fun ok w hS=>hS.perm (h2.trans (hf2.cons _))) h
end
instance crText {g r:Nat}{σ:RS}{c:Int}:AnsL2 Tryz.prog GL 130 [.lit (.int .u8 c)] g 136 r 172 (rdS σ) True (str (gT c 4000 σ)) (rdS (sT c 4000 σ)):=⟨fun _=>by
 show Av.Spec _ _ _ [.lit (.int .u8 c),ptr g] _ _
 refine qE Tryz.func130 rfl Tryz.ntmps130 rfl (fun _ hs=>?_)
 repeat' first|refine Zz ?_|intro _
 refine reK _ ⟨rfl,rfl⟩ ?_
 repeat (first|exact List.nil_sublist _|exact List.Sublist.refl _|apply List.Sublist.cons_cons|apply List.Sublist.cons)⟩
instance crInt {g r:Nat}{σ:RS}{c:Int}:AnsL2 Tryz.prog GL 131 [.lit (.int .u8 c)] g 136 r 172 (rdS σ) True (int (gI c 1099511627776 σ)) (rdS (sI c 1099511627776 σ)):=⟨fun _=>by
 show Av.Spec _ _ _ [.lit (.int .u8 c),ptr g] _ _
 refine qE Tryz.func131 rfl Tryz.ntmps131 rfl (fun _ hs=>?_)
 repeat' first|refine Zz ?_|intro _
 refine reK _ ⟨rfl,rfl⟩ ?_
 repeat (first|exact List.nil_sublist _|exact List.Sublist.refl _|apply List.Sublist.cons_cons|apply List.Sublist.cons)⟩
instance crChk {g:Nat}{b:Bool}{c:Int}:AnsL Tryz.prog GL 132 [int c] g 4 (boo b) True (.tup []) (boo (b && decide (c=0))):=⟨fun _=>by
 show Av.Spec _ _ _ [int c,ptr g] _ _
 refine qE Tryz.func132 rfl Tryz.ntmps132 rfl (fun _ hs=>?_)
 repeat' first|refine Zz ?_|intro _
 cases b
 ·repeat' first|refine Zz ?_|intro _
  refine reN _ ⟨rfl,rfl⟩ ?_
  exact sbl
 ·repeat' first|refine Zz ?_|intro _
  refine reN _ ⟨rfl,rfl⟩ ?_
  repeat (first|exact List.nil_sublist _|exact List.Sublist.refl _|apply List.Sublist.cons_cons|apply List.Sublist.cons)⟩
instance fnWFromS {c m:Int}{σ:RS}:Ans Tryz.prog GL 134 [str (gT c m σ)] True (.tup [widA (wV (gT c m σ)),int (if (gT c m σ).length=32 then 0 else 10)]):=⟨fun _=>fnWFrom.spec (gT_len _ _ _)⟩
instance fnPReadS {c m:Int}{σ:RS}:Ans Tryz.prog GL 135 [str (gT c m σ)] True (.tup [prfA (rpdV (gT c m σ)),int (rpdE (gT c m σ))]):=⟨fun _=>fnPRead.spec (gT_len _ _ _)⟩
instance fnReadGapS {c m:Int}{σ:RS}:Ans Tryz.prog GL 136 [str (gT c m σ)] True (.tup [gpA (rgdV (gT c m σ)),int (rgdE (gT c m σ))]):=⟨fun _=>fnReadGap.spec (gT_len _ _ _)⟩
/- each reading by its place: the reader's states have names,so that the terms stay small -/
instance mS1 {g:Nat}{σ:RS}:AnsM Tryz.prog GL 55 g [.lit (.int .u8 75),int 16] 172 (rdS σ) True (int (gI 75 16 σ)) (rdS (xs1 σ)):=⟨fun _=>(rdIntS (c:=75) (most:=16)).spec (by decide)⟩
instance cS2 {g r:Nat}{σ:RS}:AnsL2 Tryz.prog GL 130 [.lit (.int .u8 73)] g 136 r 172 (rdS (xs1 σ)) True (str (gT 73 4000 (xs1 σ))) (rdS (xs2 σ)):=⟨fun _=>(crText (c:=73)).spec True.intro⟩
instance cS3 {g r:Nat}{σ:RS}:AnsL2 Tryz.prog GL 130 [.lit (.int .u8 79)] g 136 r 172 (rdS (xs2 σ)) True (str (gT 79 4000 (xs2 σ))) (rdS (xs3 σ)):=⟨fun _=>(crText (c:=79)).spec True.intro⟩
instance cS4 {g r:Nat}{σ:RS}:AnsL2 Tryz.prog GL 130 [.lit (.int .u8 81)] g 136 r 172 (rdS (xs3 σ)) True (str (gT 81 4000 (xs3 σ))) (rdS (xs4 σ)):=⟨fun _=>(crText (c:=81)).spec True.intro⟩
instance cS5 {g r:Nat}{σ:RS}:AnsL2 Tryz.prog GL 130 [.lit (.int .u8 82)] g 136 r 172 (rdS (xs4 σ)) True (str (gT 82 4000 (xs4 σ))) (rdS (xs5 σ)):=⟨fun _=>(crText (c:=82)).spec True.intro⟩
instance cS6 {g r:Nat}{σ:RS}:AnsL2 Tryz.prog GL 130 [.lit (.int .u8 89)] g 136 r 172 (rdS (xs5 σ)) True (str (gT 89 4000 (xs5 σ))) (rdS (xs6 σ)):=⟨fun _=>(crText (c:=89)).spec True.intro⟩
instance cS7 {g r:Nat}{σ:RS}:AnsL2 Tryz.prog GL 131 [.lit (.int .u8 69)] g 136 r 172 (rdS (xs6 σ)) True (int (gI 69 1099511627776 (xs6 σ))) (rdS (xs7 σ)):=⟨fun _=>(crInt (c:=69)).spec True.intro⟩
instance cS8 {g r:Nat}{σ:RS}:AnsL2 Tryz.prog GL 130 [.lit (.int .u8 99)] g 136 r 172 (rdS (xs7 σ)) True (str (gT 99 4000 (xs7 σ))) (rdS (xs8 σ)):=⟨fun _=>(crText (c:=99)).spec True.intro⟩
instance cS9 {g r:Nat}{σ:RS}:AnsL2 Tryz.prog GL 131 [.lit (.int .u8 104)] g 136 r 172 (rdS (xs8 σ)) True (int (gI 104 1099511627776 (xs8 σ))) (rdS (xs9 σ)):=⟨fun _=>(crInt (c:=104)).spec True.intro⟩
instance cS10 {g r:Nat}{σ:RS}:AnsL2 Tryz.prog GL 131 [.lit (.int .u8 116)] g 136 r 172 (rdS (xs9 σ)) True (int (gI 116 1099511627776 (xs9 σ))) (rdS (xs10 σ)):=⟨fun _=>(crInt (c:=116)).spec True.intro⟩
instance mS11 {g:Nat}{σ:RS}:AnsM Tryz.prog GL 92 g [.lit (.int .u8 114),int 32] 172 (rdS (xs10 σ)) True (str (gT 114 32 (xs10 σ))) (rdS (xs11 σ)):=⟨fun _=>(rdTextS (c:=114) (most:=32)).spec True.intro⟩
instance mS12 {g:Nat}{σ:RS}:AnsM Tryz.prog GL 92 g [.lit (.int .u8 77),int 32] 172 (rdS (xs11 σ)) True (str (gT 77 32 (xs11 σ))) (rdS (xs12 σ)):=⟨fun _=>(rdTextS (c:=77) (most:=32)).spec True.intro⟩
instance cS13 {g r:Nat}{σ:RS}:AnsL2 Tryz.prog GL 131 [.lit (.int .u8 113)] g 136 r 172 (rdS (xs12 σ)) True (int (gI 113 1099511627776 (xs12 σ))) (rdS (xs13 σ)):=⟨fun _=>(crInt (c:=113)).spec True.intro⟩
instance cS14 {g r:Nat}{σ:RS}:AnsL2 Tryz.prog GL 130 [.lit (.int .u8 115)] g 136 r 172 (rdS (xs13 σ)) True (str (gT 115 4000 (xs13 σ))) (rdS (xs14 σ)):=⟨fun _=>(crText (c:=115)).spec True.intro⟩
instance cS15 {g r:Nat}{σ:RS}:AnsL2 Tryz.prog GL 130 [.lit (.int .u8 107)] g 136 r 172 (rdS (xs14 σ)) True (str (gT 107 4000 (xs14 σ))) (rdS (xs15 σ)):=⟨fun _=>(crText (c:=107)).spec True.intro⟩
instance cS16 {g r:Nat}{σ:RS}:AnsL2 Tryz.prog GL 130 [.lit (.int .u8 100)] g 136 r 172 (rdS (xs15 σ)) True (str (gT 100 4000 (xs15 σ))) (rdS (xs16 σ)):=⟨fun _=>(crText (c:=100)).spec True.intro⟩
instance mS17 {g:Nat}{σ:RS}:AnsM Tryz.prog GL 92 g [.lit (.int .u8 97),int 32] 172 (rdS (xs16 σ)) True (str (gT 97 32 (xs16 σ))) (rdS (xs17 σ)):=⟨fun _=>(rdTextS (c:=97) (most:=32)).spec True.intro⟩
instance cS18 {g r:Nat}{σ:RS}:AnsL2 Tryz.prog GL 130 [.lit (.int .u8 102)] g 136 r 172 (rdS (xs17 σ)) True (str (gT 102 4000 (xs17 σ))) (rdS (xs18 σ)):=⟨fun _=>(crText (c:=102)).spec True.intro⟩
instance cS19 {g r:Nat}{σ:RS}:AnsL2 Tryz.prog GL 130 [.lit (.int .u8 103)] g 136 r 172 (rdS (xs18 σ)) True (str (gT 103 4000 (xs18 σ))) (rdS (xs19 σ)):=⟨fun _=>(crText (c:=103)).spec True.intro⟩
instance cS20 {g r:Nat}{σ:RS}:AnsL2 Tryz.prog GL 131 [.lit (.int .u8 117)] g 136 r 172 (rdS (xs19 σ)) True (int (gI 117 1099511627776 (xs19 σ))) (rdS (xs20 σ)):=⟨fun _=>(crInt (c:=117)).spec True.intro⟩
instance cS21 {g r:Nat}{σ:RS}:AnsL2 Tryz.prog GL 131 [.lit (.int .u8 118)] g 136 r 172 (rdS (xs20 σ)) True (int (gI 118 1099511627776 (xs20 σ))) (rdS (xs21 σ)):=⟨fun _=>(crInt (c:=118)).spec True.intro⟩
instance cS22 {g r:Nat}{σ:RS}:AnsL2 Tryz.prog GL 130 [.lit (.int .u8 65)] g 136 r 172 (rdS (xs21 σ)) True (str (gT 65 4000 (xs21 σ))) (rdS (xs22 σ)):=⟨fun _=>(crText (c:=65)).spec True.intro⟩
instance cS23 {g r:Nat}{σ:RS}:AnsL2 Tryz.prog GL 131 [.lit (.int .u8 84)] g 136 r 172 (rdS (xs22 σ)) True (int (gI 84 1099511627776 (xs22 σ))) (rdS (xs23 σ)):=⟨fun _=>(crInt (c:=84)).spec True.intro⟩
instance cS24 {g r:Nat}{σ:RS}:AnsL2 Tryz.prog GL 130 [.lit (.int .u8 70)] g 136 r 172 (rdS (xs23 σ)) True (str (gT 70 4000 (xs23 σ))) (rdS (xs24 σ)):=⟨fun _=>(crText (c:=70)).spec True.intro⟩
instance cS25 {g r:Nat}{σ:RS}:AnsL2 Tryz.prog GL 130 [.lit (.int .u8 71)] g 136 r 172 (rdS (xs24 σ)) True (str (gT 71 4000 (xs24 σ))) (rdS (xs25 σ)):=⟨fun _=>(crText (c:=71)).spec True.intro⟩
theorem if32 (n:Nat):decide ((if n=32 then (0:Int) else 10)=0)=decide (n=32):=by by_cases h:n=32 <;> simp [h]
theorem txOk_eq (σ:RS):txOk σ=((true && decide ((if (gT 114 32 (xs10 σ)).length=32 then (0:Int) else 10)=0) && decide ((if (gT 77 32 (xs11 σ)).length=32 then (0:Int) else 10)=0) && decide ((if (gT 97 32 (xs16 σ)).length=32 then (0:Int) else 10)=0) && decide (rpdE (gT 70 4000 (xs23 σ))=0) && decide (rgdE (gT 71 4000 (xs24 σ))=0)) && decide (gZ (xs25 σ)=0)):=by
 simp only [if32,Bool.true_and,Bool.and_assoc]
 rfl
theorem zeroX_imp:Imp (.tup [.agg 100 [int 0,str [],str [],str [],str [],str [],int 0,.agg 35 [str [],int 0,int 0,hA zeroH],hA zeroH,.agg 12 [int 0,str [],str [],.agg 7 [str [],.agg 4 [.lit (.int .u64 0),.lit (.int .u64 0),.lit (.int .u64 0),.lit (.int .u64 0)],str [],str []],int 0,int 0],str [],int 0,.agg 3 [int 0,int 0,.lit (.slice none 0 0)],.agg 9 [int 0,.lit (.slice none 0 0),.lit (.slice none 0 0),.agg 3 [int 0,int 0,.lit (.slice none 0 0)],.agg 3 [int 0,int 0,.lit (.slice none 0 0)]]],int 10]) (.tup [txA zeroX,int 10]):=by
 show Imp _ (.tup [.agg 100 [int 0,str [],str [],str [],str [],str [],int 0,.agg 35 [str [],int 0,int 0,hA zeroH],hA zeroH,.agg 12 [int 0,str [],str [],.agg 7 [str [],.agg 4 [.lit (.int .u64 0),.lit (.int .u64 0),.lit (.int .u64 0),.lit (.int .u64 0)],str [],str []],int 0,int 0],str [],int 0,.agg 3 [int 0,int 0,.sl 32 [] none],.agg 9 [int 0,.sl 2 [] none,.sl 2 [] none,.agg 3 [int 0,int 0,.sl 32 [] none],.agg 3 [int 0,int 0,.sl 32 [] none]]],int 10])
 exact ImpR.imp
attribute [local irreducible] wV gT gI gZ sT sI hOf rpdV rgdV rpdE rgdE rdS xs1 xs2 xs3 xs4 xs5 xs6 xs7 xs8 xs9 xs10 xs11 xs12 xs13 xs14 xs15 xs16 xs17 xs18 xs19 xs20 xs21 xs22 xs23 xs24 xs25
theorem Xa {G G':Prop}(h:G')(i:Wr G'->G:=by intro h;first|exact Av.W h.o|exact op2 h.o|exact ob4 h.o|exact al_callL2 h.o|exact al_callL h.o|exact gdT h.o|exact gdF h.o|exact cdT h.o|exact cdF h.o):G:=i ⟨h⟩
set_option maxRecDepth 100000 in
set_option maxHeartbeats 40000000 in
instance fnTxRead {s:Bs}:Ans Tryz.prog GL 97 [str s] (s.length<=1000000000) (.tup [txA (rtxV (xs0 s)),int (rtxE (xs0 s))]):=⟨fun hl=>by
 refine qE Tryz.func97 rfl Tryz.ntmps97 rfl (fun _ hs=>?_)
 repeat' (first|refine Xa ?_|refine ob2 (fun _=>?_)|intro _|simp only [List.set]|fail)
 refine al_callK (args:=[str s]) [] _ (by rw [hs];exact tlvRead) (fun u m1 hh=>?_) lpr
 obtain⟨gr,rfl,rfl⟩:=hh
 rw [xs0_eq hl]
 generalize xs0 s=σ
 repeat' (first|refine Xa ?_|refine ob2 (fun _=>?_)|intro _|simp only [List.set]|fail)
 rename_i g4 g5
 refine al_makeFunc (vs:=[.pointer (some ⟨g4,0,none⟩)]) ?_
 repeat' (first|refine Xa ?_|refine ob2 (fun _=>?_)|intro _|simp only [List.set]|fail)
 refine al_makeFunc (vs:=[.pointer (some ⟨g4,0,none⟩)]) ?_
 repeat' (first|refine Xa ?_|refine ob2 (fun _=>?_)|intro _|simp only [List.set]|fail)
 refine al_makeFunc (vs:=[.pointer (some ⟨g5,0,none⟩)]) ?_
 iterate 20 ((iterate 20 (try first|refine Xa ?_|refine ob2 (fun _=>?_)|intro _));try simp only [List.set])
 have hk:=txOk_eq σ
 generalize (true && decide ((if (gT 114 32 (xs10 σ)).length=32 then (0:Int) else 10)=0) && decide ((if (gT 77 32 (xs11 σ)).length=32 then (0:Int) else 10)=0) && decide ((if (gT 97 32 (xs16 σ)).length=32 then (0:Int) else 10)=0) && decide (rpdE (gT 70 4000 (xs23 σ))=0) && decide (rgdE (gT 71 4000 (xs24 σ))=0))=b at hk ⊢
 cases b
 ·repeat' (first|refine Xa ?_|refine ob2 (fun _=>?_)|intro _|simp only [List.set]|fail)
  have h0:rtxV σ=zeroX/\rtxE σ=10:=by unfold rtxV rtxE;rw [hk];exact⟨rfl,rfl⟩
  rw [h0.1,h0.2]
  (refine reIKm (.tup [txA zeroX,int 10]) [] ?_ ⟨rfl,rfl⟩ (List.nil_sublist _);exact zeroX_imp)
 ·repeat' (first|refine Xa ?_|refine ob2 (fun _=>?_)|intro _|simp only [List.set]|fail)
  by_cases hq:gZ (xs25 σ)=0
  ·have h0:rtxV σ=txV σ/\rtxE σ=0:=by unfold rtxV rtxE;rw [hk,dT hq];exact⟨rfl,rfl⟩
   rw [h0.1,h0.2]
   repeat' (first|refine Xa ?_|refine ob2 (fun _=>?_)|intro _|simp only [List.set]|fail)
   refine reK _ ⟨rfl,rfl⟩ ?_
   exact sbl
  ·have h0:rtxV σ=zeroX/\rtxE σ=10:=by unfold rtxV rtxE;rw [hk,dZ hq];exact⟨rfl,rfl⟩
   rw [h0.1,h0.2]
   repeat' (first|refine Xa ?_|refine ob2 (fun _=>?_)|intro _|simp only [List.set]|fail)
   (refine reIKm (.tup [txA zeroX,int 10]) [] ?_ ⟨rfl,rfl⟩ (List.nil_sublist _);exact zeroX_imp)⟩
end Go.Proofs.YtndhpgclmgpmoaaGreatDoor

namespace Go.Proofs.YtndhpgclmgpmoaaGreatDoor
open Go Go.RowKit Tw Av
attribute [local irreducible] doR rtxV rtxE xs0 enR enB
instance fnBlEvent {d:List Ent}{h:Int}{x:TxX}{r:Rep}{xs:List AV}[hx:Ents xs d]:Ans Tryz.prog GL 99 [.agg 1 [.sl 2 xs none],int h,txA x,repA r] (DOk d) (evA (evR d h x r)):=⟨fun hd=>by
 have h':=hx.out
 subst h'
 refine qE Tryz.func99 rfl Tryz.ntmps99 rfl (fun _ hs=>?_)
 unfold evR
 by_cases h1:x.k=13
 ·rw [if_pos h1,if_neg (show ¬ x.k=14 by omega),if_neg (show ¬ x.k=15 by omega)]
  repeat' first|refine Zz ?_|intro _
  refine reE ?_
  rfl
 by_cases h2:x.k=14
 ·rw [if_neg h1,if_pos h2]
  repeat' first|refine Zz ?_|intro _
  refine reE ?_
  rfl
 by_cases h3:x.k=15
 ·rw [if_neg h1,if_neg h2,if_pos h3]
  repeat' first|refine Zz ?_|intro _
  refine reE ?_
  rfl
 rw [if_neg h1,if_neg h2,if_neg h3]
 repeat' first|refine Zz ?_|intro _
 refine reE ?_
 rfl⟩
theorem perm3 {α:Type}{a b c:α}{l:List α}:(a::b::c::l).Perm (c::a::b::l):=List.perm_middle (l₁:=[a,b])
theorem run1 {go:Nat}{acc:List Rep}{v:Value}{r:Rep}(hn:acc.length<=1000000000):Av.Spec Tryz.prog GL 96 [repA r,ptr go]
  [.tail 99 3 v,.var go 38 (.sl 3 (acc.map repA) (some v))]
  fun u m=>∃ v',u=.tup []/\m=[.tail 99 3 v',.var go 38 (.sl 3 ((acc++[r]).map repA) (some v'))]:=by
 have hm:(acc.map repA).length=acc.length:=llm _
 refine qE Tryz.func96 rfl Tryz.ntmps96 rfl (fun _ hs=>?_)
 repeat' first|refine Zz ?_|intro _
 refine al_append (fun v'=>?_)
 repeat' first|refine Zz ?_|intro _
 refine reN [.tail 99 3 v',.var go 38 (.sl 3 (acc.map repA++[repA r]) (some v'))] ⟨v',rfl,by rw [List.map_append];rfl⟩ ?_
 exact sbl
theorem runL_succ {h t:Int}{q:Run3}{l:List Bs}{i:Nat}(hi:i < l.length):runL h t q (l.take (i + 1))=runS h t (runL h t q (l.take i)) l[i]:=by
 rw [List.take_succ_eq_append_getElem hi,runL_app]
 rfl
theorem runS_no {h t:Int}{q:Run3}{s:Bs}(hE:rtxE (xs0 s)≠0):runS h t q s=(q.1,q.2.1++[repE 10],q.2.2):=by rw [runS,if_neg hE]
theorem runS_yes {h t:Int}{q:Run3}{s:Bs}(hE:rtxE (xs0 s)=0)(h0:(doR q.1 (rtxV (xs0 s)) h t).2.e=0)(h1:13<=(rtxV (xs0 s)).k):runS h t q s=((doR q.1 (rtxV (xs0 s)) h t).1,q.2.1++[(doR q.1 (rtxV (xs0 s)) h t).2],q.2.2++[evR (doR q.1 (rtxV (xs0 s)) h t).1 h (rtxV (xs0 s)) (doR q.1 (rtxV (xs0 s)) h t).2]):=by rw [runS,if_pos hE,runD,if_pos ⟨h0,h1⟩]
theorem runS_mid {h t:Int}{q:Run3}{s:Bs}(hE:rtxE (xs0 s)=0)(h0:¬ ((doR q.1 (rtxV (xs0 s)) h t).2.e=0/\13<=(rtxV (xs0 s)).k)):runS h t q s=((doR q.1 (rtxV (xs0 s)) h t).1,q.2.1++[(doR q.1 (rtxV (xs0 s)) h t).2],q.2.2):=by rw [runS,if_pos hE,runD,if_neg h0]
set_option maxRecDepth 100000 in
set_option maxHeartbeats 4000000 in
theorem fnBlRunK {K:Int->Prop}(hDo:∀ {d:List Ent} {h t:Int} {x:TxX},Ans Tryz.prog GL 98 [.agg 1 [.sl 2 (d.map entA) none],txA x,int h,int t] (DOk d/\TxB x/\K x.k) (.tup [dA (doR d x h t).1,repA (doR d x h t).2]))
  {d:List Ent} {l:List Bs} {h t:Int} {xs ys:List AV} {id:Option Value} [hx:Ents xs d] [hy:Strs ys l]:Ans Tryz.prog GL 59 [.agg 1 [.sl 2 xs none],.agg 3 [int h,int t,.sl 1 ys id]] (DOk d/\l.length<=1000000/\∀ s ∈ l,s.length<=1000000000/\(rtxE (xs0 s)=0->K (rtxV (xs0 s)).k))
   (.tup [dA (runR d ⟨h,t,l⟩).1,.sl 3 ((runR d ⟨h,t,l⟩).2.1.map repA) none,.sl 15 ((runR d ⟨h,t,l⟩).2.2.map evA) none]):=⟨fun hp=>by
 obtain⟨hd,hl,hk⟩:=hp
 have h':=hx.out
 subst h'
 have h':=hy.out
 subst h'
 have hm:(l.map str).length=l.length:=llm _
 refine qE Tryz.func59 rfl Tryz.ntmps59 rfl (fun _ hs=>?_)
 repeat' first|refine Zz ?_|intro _
 rename_i g2 g3 g4 g7
 refine al_makeFunc (vs:=[.pointer (some ⟨g7,0,none⟩)]) ?_
 repeat' first|refine Zz ?_|intro _
 refine ac_asV (g:=g7) (v':=.sl 3 [] (some (.slice none 0 0))) ImpC.nilT ?_
 refine ac_st (fun ok w h=>h.full 99 3 none 0) ?_
 refine ac_as 8 (Imp.nil (k:=15)) ?_
 refine ac_st (fun ok w h=>h.full 112 15 none 0) ?_
 refine ac_st (fun ok w hh=>hh.perm (m':=[.tail 99 3 (.slice none 0 0),.var g7 38 (.sl 3 [] (some (.slice none 0 0))),.tail 112 15 (.slice none 0 0),.var g4 33 (.agg 1 [.lit (.slice none 0 0)]),.var g3 76 (.agg 3 [int h,int t,.sl 1 (l.map str) id]),.var g2 33 (dA d)]) perm3) ?_
 haveI hDoI:∀ {d:List Ent} {h t:Int} {x:TxX},Ans Tryz.prog GL 98 [.agg 1 [.sl 2 (d.map entA) none],txA x,int h,int t] (DOk d/\TxB x/\K x.k) (.tup [dA (doR d x h t).1,repA (doR d x h t).2]):=hDo
 refine ac_loop (α:=Nat × Value × Value) (fun z=>[(2,ptr g2),(3,ptr g3),(4,ptr g4),(5,.lit (.slice none 0 0)),(6,.lit (.slice none 0 0)),(7,ptr g7),(8,.sl 15 ((runL h t (d,[],[]) (l.take z.1)).2.2.map evA) (some z.2.2)),(9,fnv 96 [.pointer (some ⟨g7,0,none⟩)]),(17,.sl 1 (l.map str) id),(18,int l.length),(19,int z.1)])
  (fun z=>[.tail 99 3 z.2.1,.var g7 38 (.sl 3 ((runL h t (d,[],[]) (l.take z.1)).2.1.map repA) (some z.2.1)),.tail 112 15 z.2.2,.var g4 33 (.agg 1 [.lit (.slice none 0 0)]),.var g3 76 (.agg 3 [int h,int t,.sl 1 (l.map str) id]),.var g2 33 (dA (runL h t (d,[],[]) (l.take z.1)).1)])
  (fun z=>z.1<=l.length) (fun z=>l.length - z.1) (0,.slice none 0 0,.slice none 0 0) ⟨rfl,rfl,rfl,rfl,rfl,rfl,rfl,rfl,rfl,by rw [<- hm];rfl,rfl,trivial⟩ ?_ (Nat.zero_le _) ?_
 ·exact List.Sublist.refl _
 rintro⟨i,v7,v8⟩ hi
 dsimp only at hi ⊢
 repeat' first|refine Zz ?_|intro _
 refine ac_cond (fun h1=>?_) (fun h1=>?_)
 ·have hil:i < l.length:=by omega
  have hq:=runL_succ (h:=h) (t:=t) (q:=(d,[],[])) hil
  have hdq:DOk (runL h t (d,[],[]) (l.take i)).1:=runL_dok hd
  have hlq:=runL_len (h:=h) (t:=t) (l:=l.take i) (q:=(d,[],[]))
  have hls:l[i].length<=1000000000:=(hk _ (List.getElem_mem hil)).1
  have hkk:=(hk _ (List.getElem_mem hil)).2
  generalize runL h t (d,[],[]) (l.take i)=q at *
  have hl1:q.2.1.length<=1000000:=by
   have:=hlq.1
   simp only [List.length_take,List.length_nil] at this
   omega
  have hl2:q.2.2.length<=1000000:=by
   have:=hlq.2
   simp only [List.length_take,List.length_nil] at this
   omega
  have hm2:(q.2.2.map evA).length=q.2.2.length:=llm _
  repeat' first|refine Zz ?_|intro _
  by_cases hE:rtxE (xs0 l[i])=0
  rotate_left
  ·have hq':=hq.trans (runS_no hE)
   repeat' first|refine Zz ?_|intro _
   refine al_callV (args:=[repA (repE 10)]) (cs:=[.pointer (some ⟨g7,0,none⟩)]) [.tail 99 3 v7,.var g7 38 (.sl 3 (q.2.1.map repA) (some v7))] _ (by rw [hs];exact run1 (by omega)) (fun u m1 hh=>?_) perm3.symm
   obtain⟨v',rfl,rfl⟩:=hh
   repeat' first|refine Zz ?_|intro _
   refine ae_round (i + 1,v',v8) ?_ ?_ hil (by dsimp only;omega)
   ·dsimp only
    rw [hq']
    exact⟨rfl,rfl,rfl,rfl,rfl,rfl,rfl,rfl,rfl,rfl,rfl,trivial⟩
   ·dsimp only
    rw [hq']
    exact sbl
  ·rw [hE]
   have hx3:DOk q.1/\TxB (rtxV (xs0 l[i]))/\K (rtxV (xs0 l[i])).k:=⟨hdq,rtxV_b _,hkk hE⟩
   have hdo:DOk (doR q.1 (rtxV (xs0 l[i])) h t).1:=doR_dok hdq
   repeat' first|refine Zz ?_|intro _
   refine al_callV (args:=[repA (doR q.1 (rtxV (xs0 l[i])) h t).2]) (cs:=[.pointer (some ⟨g7,0,none⟩)]) [.tail 99 3 v7,.var g7 38 (.sl 3 (q.2.1.map repA) (some v7))] _ (by rw [hs];exact run1 (by omega)) (fun u m1 hh=>?_) (List.perm_append_comm_assoc [_,_] [_,_] _)
   obtain⟨v',rfl,rfl⟩:=hh
   by_cases h0:(doR q.1 (rtxV (xs0 l[i])) h t).2.e=0
   ·by_cases h1:13<=(rtxV (xs0 l[i])).k
    ·have hq':=hq.trans (runS_yes hE h0 h1)
     repeat' first|refine Zz ?_|intro _
     refine al_append (fun v''=>?_)
     repeat' first|refine Zz ?_|intro _
     refine ae_round (i + 1,v',v'') ?_ ?_ hil (by dsimp only;omega)
     ·dsimp only
      rw [hq',List.map_append]
      exact⟨rfl,rfl,rfl,rfl,rfl,rfl,rfl,rfl,rfl,rfl,rfl,trivial⟩
     ·dsimp only
      rw [hq']
      exact sbl
    ·have hq':=hq.trans (runS_mid hE (fun hh=>h1 hh.2))
     repeat' first|refine Zz ?_|intro _
     refine ae_round (i + 1,v',v8) ?_ ?_ hil (by dsimp only;omega)
     ·dsimp only
      rw [hq']
      exact⟨rfl,rfl,rfl,rfl,rfl,rfl,rfl,rfl,rfl,rfl,rfl,trivial⟩
     ·dsimp only
      rw [hq']
      exact sbl
   ·have hq':=hq.trans (runS_mid hE (fun hh=>h0 hh.1))
    repeat' first|refine Zz ?_|intro _
    refine ae_round (i + 1,v',v8) ?_ ?_ hil (by dsimp only;omega)
    ·dsimp only
     rw [hq']
     exact⟨rfl,rfl,rfl,rfl,rfl,rfl,rfl,rfl,rfl,rfl,rfl,trivial⟩
    ·dsimp only
     rw [hq']
     exact sbl
 ·have hi':i=l.length:=by omega
  subst hi'
  rw [List.take_length]
  repeat' first|refine Zz ?_|intro _
  refine reI ?_
  show Imp (.tup [dA (runL h t (d,[],[]) l).1,.sl 3 ((runL h t (d,[],[]) l).2.1.map repA) (some v7),.sl 15 ((runL h t (d,[],[]) l).2.2.map evA) (some v8)]) (.tup [dA (runL h t (d,[],[]) l).1,.sl 3 ((runL h t (d,[],[]) l).2.1.map repA) none,.sl 15 ((runL h t (d,[],[]) l).2.2.map evA) none])
  exact ImpR.imp⟩
end Go.Proofs.YtndhpgclmgpmoaaGreatDoor

namespace Go.Proofs.YtndhpgclmgpmoaaGreatDoor
open Go Go.RowKit Tw Av
structure TxW (x:TxX):Prop where
 k:x.k<=9223372036854775807
 e:x.e<=9223372036854775807
 hh:x.h.h<=9223372036854775807
 ht:x.h.t<=9223372036854775807
 xq:x.x.q<=9223372036854775807
 xh:x.x.h<=9223372036854775807
 xt:x.x.t<=9223372036854775807
 t:x.t<=9223372036854775807
 f:x.f.p.length<=1000000/\x.f.a<=9223372036854775807/\x.f.m<=9223372036854775807
 g:GapW x.g
set_option maxRecDepth 100000 in
set_option maxHeartbeats 4000000 in
instance fnR18Bytes {x:TxX}:Ans Tryz.prog GL 39 [txA x] (TxW x) (str (txB x)):=⟨fun hp=>by
 obtain⟨h1,h2,h3,h4,h5,h6,h7,h8,h9,h10⟩:=hp
 refine qE Tryz.func39 rfl Tryz.ntmps39 rfl (fun _ hs=>?_)
 repeat' first|refine Yz ?_|intro _
 refine reE ?_
 rfl⟩

section
variable {P:Program} {N:Nat} {ops:Array Oper} {Q:Exit->Act->World->Prop} {rest:List Oper} {s:Av.Base} {e:Av.Env} {m:List Av.Piece} {d:Nat} {ty:TypeId} {pos:String} {af:Array Edge}
theorem al_mask7 {T yT:TypeId}{x y:Operand}{n b:Int}(h:AL P N ops Q s rest ((d,int (n % 8))::e) m)(hx:Av.ev e x=some (int n):=by exact rfl)(hy:Av.ev e y=some (int b):=by exact rfl)(hb:b=7:=by exact rfl)(hd:Nat.blt d N=true:=by exact rfl):AL P N ops Q s (⟨some d,.binOp .and T x y yT,ty,pos,af,none⟩::rest) e m:=al_mask 3 h hx hy hb (by decide) hd
end
theorem wid_0:widA (wOf 0)=.agg 4 [.lit (.int .u64 0),.lit (.int .u64 0),.lit (.int .u64 0),.lit (.int .u64 0)]:=by kernel_rfl
theorem wid_1:widA (wOf 1)=.agg 4 [.lit (.int .u64 1),.lit (.int .u64 0),.lit (.int .u64 0),.lit (.int .u64 0)]:=by kernel_rfl
theorem wid_2:widA (wOf 2)=.agg 4 [.lit (.int .u64 2),.lit (.int .u64 0),.lit (.int .u64 0),.lit (.int .u64 0)]:=by kernel_rfl
theorem wid_3:widA (wOf 3)=.agg 4 [.lit (.int .u64 3),.lit (.int .u64 0),.lit (.int .u64 0),.lit (.int .u64 0)]:=by kernel_rfl
theorem wid_4:widA (wOf 4)=.agg 4 [.lit (.int .u64 4),.lit (.int .u64 0),.lit (.int .u64 0),.lit (.int .u64 0)]:=by kernel_rfl
theorem wid_5:widA (wOf 5)=.agg 4 [.lit (.int .u64 5),.lit (.int .u64 0),.lit (.int .u64 0),.lit (.int .u64 0)]:=by kernel_rfl
theorem wid_6:widA (wOf 6)=.agg 4 [.lit (.int .u64 6),.lit (.int .u64 0),.lit (.int .u64 0),.lit (.int .u64 0)]:=by kernel_rfl
theorem wid_7:widA (wOf 7)=.agg 4 [.lit (.int .u64 7),.lit (.int .u64 0),.lit (.int .u64 0),.lit (.int .u64 0)]:=by kernel_rfl
theorem wid_small {a:Int}(h0:0<=a)(h1:a < 8):widA (wOf a.toNat)=.agg 4 [.lit (.int .u64 a),.lit (.int .u64 0),.lit (.int .u64 0),.lit (.int .u64 0)]:=by
 have:a=0\/a=1\/a=2\/a=3\/a=4\/a=5\/a=6\/a=7:=by omega
 rcases this with rfl|rfl|rfl|rfl|rfl|rfl|rfl|rfl
 ·exact wid_0
 ·exact wid_1
 ·exact wid_2
 ·exact wid_3
 ·exact wid_4
 ·exact wid_5
 ·exact wid_6
 ·exact wid_7
attribute [local irreducible] txB specK
end Go.Proofs.YtndhpgclmgpmoaaGreatDoor

namespace Go.Proofs.YtndhpgclmgpmoaaGreatDoor
open Go Go.RowKit Tw Av
attribute [local irreducible] wV gT gI gZ sT sI hOf rpdV rgdV rpdE rgdE rdS xs1 xs2 xs3 xs4 xs5 xs6 xs7 xs8 xs9 xs10 xs11 xs12 xs13 xs14 xs15 xs16 xs17 xs18 xs19 xs20 xs21 xs22 xs23 xs24 xs25
end Go.Proofs.YtndhpgclmgpmoaaGreatDoor
