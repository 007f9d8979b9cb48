/- . -/
import Derived.Test.YtjhnaegpchadiaaGreatDoorN30
set_option maxHeartbeats 64000000
namespace Go.Proofs.YtjhnaegpchadiaaGreatDoor
open Go Go.RowKit Tw Av Go.Proofs.Tryz
section
variable {P:Program} {N:Nat} {ops:Array Oper} {Q:Exit->Act->World->Prop} {rest:List Oper} {s:Av.Base} {e:Av.Env} {m:List Av.Piece} {d:Nat} {ty:TypeId} {pos:String} {af:Array Edge} {gl:List (Nat × AV)}
class AnsL (P:Program)(gl:List (Nat × AV))(f:FuncId)(args:List AV)(g:Nat)(T:TypeId)(v:AV)(pre:outParam Prop)(out:outParam AV)(v':outParam AV):Prop where
 spec:pre->Av.Spec P gl f (args++[ptr g]) [.var g T v] fun u m=>u=out/\m=[.var g T v']
class AnsL2 (P:Program)(gl:List (Nat × AV))(f:FuncId)(args:List AV)(g:Nat)(T:TypeId)(r:Nat)(R:TypeId)(v:AV)(pre:outParam Prop)(out:outParam AV)(v':outParam AV):Prop where
 spec:pre->Av.Spec P gl f (args++[ptr g]) [.var r R v,.var g T (ptr r)] fun u m=>u=out/\m=[.var r R v',.var g T (ptr r)]
theorem a5D {f:FuncId}[hf:FnB P f]{x:Operand}{xs:List Operand}{ts:Array TypeId}{args:List AV}{g:Nat}{T:TypeId}{v v' out:AV}{pre:Prop}{m':List Av.Piece}(h:AL P N ops Q s rest ((d,out)::e) m')(h0:Av.ev e x=some (F4 f [.pointer (some ⟨g,0,none⟩)]):=by exact rfl)(hx:Av.N9 e xs=some args:=by exact rfl)
  (hu:Av.Upd m (.var g T v) (.var g T v') m':=by (repeat (first|apply Av.Upd.here|apply Av.Upd.there))) (hg:s.gl=gl:=by assumption) (hc:AnsL P gl f args g T v pre out v':=by infer_instance) (hp:pre:=by first|exact True.intro|assumption|omega) (hn:args.all R5=true:=by exact rfl) (hd:Nat.blt d N=true:=by exact rfl) :
  AL P N ops Q s (⟨some d,.call ⟨.value x,xs.toArray,ts⟩,ty,pos,af,none⟩::rest) e m:=by
 obtain⟨fr,h1,h2⟩:=hu.perm;refine nT (args:=args) (cs:=[.pointer (some ⟨g,0,none⟩)]) [.var g T v] fr (K:=fun u m=>u=out/\m=[.var g T v']) (by rw[hg];exact hc.spec hp) (fun u m1 hh=>?_) h1 h0 hx hn (by simp[Value.oneCell']) hd;obtain⟨rfl,rfl⟩:=hh;exact gG (fun ok w hS=>hS.perm h2) h
theorem a5C {f:FuncId}[hf:FnB P f]{x:Operand}{xs:List Operand}{ts:Array TypeId}{args:List AV}{g r:Nat}{T R:TypeId}{v v' out:AV}{pre:Prop}{m':List Av.Piece}(h:AL P N ops Q s rest ((d,out)::e) m')(h0:Av.ev e x=some (F4 f [.pointer (some ⟨g,0,none⟩)]):=by exact rfl)(hx:Av.N9 e xs=some args:=by exact rfl)
  (hq:Av.Has m (.var g T (ptr r)):=by (repeat (first|exact Av.Has.here|apply Av.Has.there))) (hu:Av.Upd m (.var r R v) (.var r R v') m':=by (repeat (first|apply Av.Upd.here|apply Av.Upd.there))) (hg:s.gl=gl:=by assumption) (hc:AnsL2 P gl f args g T r R v pre out v':=by infer_instance)
  (hp:pre:=by first|exact True.intro|assumption|omega) (hne:Nat.beq T R=false:=by exact rfl) (hn:args.all R5=true:=by exact rfl) (hd:Nat.blt d N=true:=by exact rfl) :
  AL P N ops Q s (⟨some d,.call ⟨.value x,xs.toArray,ts⟩,ty,pos,af,none⟩::rest) e m:=by
 obtain⟨fr,h1,h2⟩:=hu.perm;have hTR:T≠R:=fun e=>by rw[e,Nat.beq_refl] at hne;cases hne
 have hq':Av.Piece.var g T (ptr r)∈fr:=by
  have:=h1.mem_iff.1 hq.mem;rcases List.mem_cons.1 this with h|h
  ·injection h with _ h
   exact absurd h hTR
  ·exact h
 obtain⟨fr2,hf2⟩:∃ fr2,fr.Perm (.var g T (ptr r)::fr2):=by
  obtain⟨a,b,rfl⟩:=List.append_of_mem hq';exact⟨a++b,List.perm_middle⟩
 refine nT (args:=args) (cs:=[.pointer (some ⟨g,0,none⟩)]) [.var r R v,.var g T (ptr r)] fr2 (K:=fun u m=>u=out/\m=[.var r R v',.var g T (ptr r)]) (by rw[hg];exact hc.spec hp) (fun u m1 hh=>?_) (h1.trans (hf2.cons _)) h0 hx hn (by simp[Value.oneCell']) hd;obtain⟨rfl,rfl⟩:=hh;exact gG (fun ok w hS=>hS.perm (h2.trans (hf2.cons _))) h
end
instance mD {g r:Nat}{σ:RS}{c:Int}:AnsL2 prog GL 304 [.lit (.int .u8 c)] g 201 r 286 (r9 σ) True (str (gT c 4000 σ)) (r9 (sT c 4000 σ)):=⟨fun _=>by
 show Av.Spec _ _ _ [.lit (.int .u8 c),ptr g] _ _;refine qF func304 ntmps304 fun _ hs=>?_;repeat' first|refine Zz ?_|intro _
 refine l9 _ ⟨rfl,rfl⟩ ?_;repeat (first|exact List.nil_sublist _|exact List.Sublist.refl _|apply List.Sublist.cons_cons|apply List.Sublist.cons)⟩
instance yJ {g r:Nat}{σ:RS}{c:Int}:AnsL2 prog GL 305 [.lit (.int .u8 c)] g 201 r 286 (r9 σ) True (int (gI c 1099511627776 σ)) (r9 (sI c 1099511627776 σ)):=⟨fun _=>by
 show Av.Spec _ _ _ [.lit (.int .u8 c),ptr g] _ _;refine qF func305 ntmps305 fun _ hs=>?_;repeat' first|refine Zz ?_|intro _
 refine l9 _ ⟨rfl,rfl⟩ ?_;repeat (first|exact List.nil_sublist _|exact List.Sublist.refl _|apply List.Sublist.cons_cons|apply List.Sublist.cons)⟩
instance c2e {g:Nat}{b:Bool}{c:Int}:AnsL prog GL 306 [int c] g 4 (j3 b) True (.tup []) (j3 (b&&decide (c=0))):=⟨fun _=>by
 show Av.Spec _ _ _ [int c,ptr g] _ _;refine qF func306 ntmps306 fun _ hs=>?_;repeat' first|refine Zz ?_|intro _
 cases b
 ·repeat' first|refine Zz ?_|intro _
  refine iW _ ⟨rfl,rfl⟩ ?_;exact x9
 ·repeat' first|refine Zz ?_|intro _
  refine iW _ ⟨rfl,rfl⟩ ?_;repeat (first|exact List.nil_sublist _|exact List.Sublist.refl _|apply List.Sublist.cons_cons|apply List.Sublist.cons)⟩
instance b1v {c m:Int}{σ:RS}:Ans prog GL 307 [str (gT c m σ)] True (.tup [O0 (wV (gT c m σ)),int (if (gT c m σ).length=32 then 0 else 10)]):=⟨fun _=>a0W.spec (AO _ _ _)⟩
instance b4d {c m:Int}{σ:RS}:Ans prog GL 308 [str (gT c m σ)] True (.tup [jA (fK (gT c m σ)),int (bY (gT c m σ))]):=⟨fun _=>a1B.spec (AO _ _ _)⟩
instance b2a {c m:Int}{σ:RS}:Ans prog GL 309 [str (gT c m σ)] True (.tup [AJ (kT (gT c m σ)),int (jU (gT c m σ))]):=⟨fun _=>a1h.spec (AO _ _ _)⟩
/- each reading by its place: the reader's states have names,so that the terms stay small -/
instance mS1 {g:Nat}{σ:RS}:AnsM prog GL 109 g [.lit (.int .u8 75),int 16] 286 (r9 σ) True (int (gI 75 16 σ)) (r9 (mO σ)):=⟨fun _=>(Ub (c:=75) (most:=16)).spec dc⟩
instance cS2 {g r:Nat}{σ:RS}:AnsL2 prog GL 304 [.lit (.int .u8 73)] g 201 r 286 (r9 (mO σ)) True (str (gT 73 4000 (mO σ))) (r9 (oJ σ)):=⟨fun _=>(mD (c:=73)).spec True.intro⟩
instance cS3 {g r:Nat}{σ:RS}:AnsL2 prog GL 304 [.lit (.int .u8 79)] g 201 r 286 (r9 (oJ σ)) True (str (gT 79 4000 (oJ σ))) (r9 (oD σ)):=⟨fun _=>(mD (c:=79)).spec True.intro⟩
instance cS4 {g r:Nat}{σ:RS}:AnsL2 prog GL 304 [.lit (.int .u8 81)] g 201 r 286 (r9 (oD σ)) True (str (gT 81 4000 (oD σ))) (r9 (oC σ)):=⟨fun _=>(mD (c:=81)).spec True.intro⟩
instance cS5 {g r:Nat}{σ:RS}:AnsL2 prog GL 304 [.lit (.int .u8 82)] g 201 r 286 (r9 (oC σ)) True (str (gT 82 4000 (oC σ))) (r9 (nZ σ)):=⟨fun _=>(mD (c:=82)).spec True.intro⟩
instance cS6 {g r:Nat}{σ:RS}:AnsL2 prog GL 304 [.lit (.int .u8 89)] g 201 r 286 (r9 (nZ σ)) True (str (gT 89 4000 (nZ σ))) (r9 (nY σ)):=⟨fun _=>(mD (c:=89)).spec True.intro⟩
instance cS7 {g r:Nat}{σ:RS}:AnsL2 prog GL 305 [.lit (.int .u8 69)] g 201 r 286 (r9 (nY σ)) True (int (gI 69 1099511627776 (nY σ))) (r9 (nX σ)):=⟨fun _=>(yJ (c:=69)).spec True.intro⟩
instance cS8 {g r:Nat}{σ:RS}:AnsL2 prog GL 304 [.lit (.int .u8 99)] g 201 r 286 (r9 (nX σ)) True (str (gT 99 4000 (nX σ))) (r9 (nW σ)):=⟨fun _=>(mD (c:=99)).spec True.intro⟩
instance cS9 {g r:Nat}{σ:RS}:AnsL2 prog GL 305 [.lit (.int .u8 104)] g 201 r 286 (r9 (nW σ)) True (int (gI 104 1099511627776 (nW σ))) (r9 (nV σ)):=⟨fun _=>(yJ (c:=104)).spec True.intro⟩
instance c2A {g r:Nat}{σ:RS}:AnsL2 prog GL 305 [.lit (.int .u8 116)] g 201 r 286 (r9 (nV σ)) True (int (gI 116 1099511627776 (nV σ))) (r9 (iK σ)):=⟨fun _=>(yJ (c:=116)).spec True.intro⟩
instance b1r {g:Nat}{σ:RS}:AnsM prog GL 157 g [.lit (.int .u8 114),int 32] 286 (r9 (iK σ)) True (str (gT 114 32 (iK σ))) (r9 (iJ σ)):=⟨fun _=>(PQ (c:=114) (most:=32)).spec True.intro⟩
instance b1q {g:Nat}{σ:RS}:AnsM prog GL 157 g [.lit (.int .u8 77),int 32] 286 (r9 (iJ σ)) True (str (gT 77 32 (iJ σ))) (r9 (oQ σ)):=⟨fun _=>(PQ (c:=77) (most:=32)).spec True.intro⟩
instance c2z {g r:Nat}{σ:RS}:AnsL2 prog GL 305 [.lit (.int .u8 113)] g 201 r 286 (r9 (oQ σ)) True (int (gI 113 1099511627776 (oQ σ))) (r9 (oP σ)):=⟨fun _=>(yJ (c:=113)).spec True.intro⟩
instance c2y {g r:Nat}{σ:RS}:AnsL2 prog GL 304 [.lit (.int .u8 115)] g 201 r 286 (r9 (oP σ)) True (str (gT 115 4000 (oP σ))) (r9 (oO σ)):=⟨fun _=>(mD (c:=115)).spec True.intro⟩
instance c2x {g r:Nat}{σ:RS}:AnsL2 prog GL 304 [.lit (.int .u8 107)] g 201 r 286 (r9 (oO σ)) True (str (gT 107 4000 (oO σ))) (r9 (oN σ)):=⟨fun _=>(mD (c:=107)).spec True.intro⟩
instance c2w {g r:Nat}{σ:RS}:AnsL2 prog GL 304 [.lit (.int .u8 100)] g 201 r 286 (r9 (oN σ)) True (str (gT 100 4000 (oN σ))) (r9 (iI σ)):=⟨fun _=>(mD (c:=100)).spec True.intro⟩
instance b1p {g:Nat}{σ:RS}:AnsM prog GL 157 g [.lit (.int .u8 97),int 32] 286 (r9 (iI σ)) True (str (gT 97 32 (iI σ))) (r9 (oM σ)):=⟨fun _=>(PQ (c:=97) (most:=32)).spec True.intro⟩
instance c2v {g r:Nat}{σ:RS}:AnsL2 prog GL 304 [.lit (.int .u8 102)] g 201 r 286 (r9 (oM σ)) True (str (gT 102 4000 (oM σ))) (r9 (oL σ)):=⟨fun _=>(mD (c:=102)).spec True.intro⟩
instance c2u {g r:Nat}{σ:RS}:AnsL2 prog GL 304 [.lit (.int .u8 103)] g 201 r 286 (r9 (oL σ)) True (str (gT 103 4000 (oL σ))) (r9 (oK σ)):=⟨fun _=>(mD (c:=103)).spec True.intro⟩
instance c2s {g r:Nat}{σ:RS}:AnsL2 prog GL 305 [.lit (.int .u8 117)] g 201 r 286 (r9 (oK σ)) True (int (gI 117 1099511627776 (oK σ))) (r9 (oI σ)):=⟨fun _=>(yJ (c:=117)).spec True.intro⟩
instance c2r {g r:Nat}{σ:RS}:AnsL2 prog GL 305 [.lit (.int .u8 118)] g 201 r 286 (r9 (oI σ)) True (int (gI 118 1099511627776 (oI σ))) (r9 (oH σ)):=⟨fun _=>(yJ (c:=118)).spec True.intro⟩
instance c2q {g r:Nat}{σ:RS}:AnsL2 prog GL 304 [.lit (.int .u8 65)] g 201 r 286 (r9 (oH σ)) True (str (gT 65 4000 (oH σ))) (r9 (oG σ)):=⟨fun _=>(mD (c:=65)).spec True.intro⟩
instance c2p {g r:Nat}{σ:RS}:AnsL2 prog GL 305 [.lit (.int .u8 84)] g 201 r 286 (r9 (oG σ)) True (int (gI 84 1099511627776 (oG σ))) (r9 (iH σ)):=⟨fun _=>(yJ (c:=84)).spec True.intro⟩
instance c2o {g r:Nat}{σ:RS}:AnsL2 prog GL 304 [.lit (.int .u8 70)] g 201 r 286 (r9 (iH σ)) True (str (gT 70 4000 (iH σ))) (r9 (iG σ)):=⟨fun _=>(mD (c:=70)).spec True.intro⟩
instance c2n {g r:Nat}{σ:RS}:AnsL2 prog GL 304 [.lit (.int .u8 71)] g 201 r 286 (r9 (iG σ)) True (str (gT 71 4000 (iG σ))) (r9 (oF σ)):=⟨fun _=>(mD (c:=71)).spec True.intro⟩
theorem a0u (n:Nat):decide ((if n=32 then (0:Int) else 10)=0)=decide (n=32):=by by_cases h:n=32 <;> simp[h]
theorem Pz (σ:RS):sM σ=((true&&decide ((if (gT 114 32 (iK σ)).length=32 then (0:Int) else 10)=0)&&decide ((if (gT 77 32 (iJ σ)).length=32 then (0:Int) else 10)=0)&&decide ((if (gT 97 32 (iI σ)).length=32 then (0:Int) else 10)=0)&&decide (bY (gT 70 4000 (iH σ))=0)&&decide (jU (gT 71 4000 (iG σ))=0))&&decide (gZ (oF σ)=0)):=by
 simp only[a0u,Bool.true_and,Bool.and_assoc];rfl
theorem vM:Imp (.tup [.agg 100 [int 0,str [],str [],str [],str [],str [],int 0,.agg 35 [str [],int 0,int 0,hA F3],hA F3,.agg 12 [int 0,str [],str [],.agg 7 [str [],.agg 4 [.lit (.int .u64 0),.lit (.int .u64 0),.lit (.int .u64 0),.lit (.int .u64 0)],str [],str []],int 0,int 0],str [],int 0,.agg 3 [int 0,int 0,.lit (.slice none 0 0)],.agg 9 [int 0,.lit (.slice none 0 0),.lit (.slice none 0 0),.agg 3 [int 0,int 0,.lit (.slice none 0 0)],.agg 3 [int 0,int 0,.lit (.slice none 0 0)]]],int 10]) (.tup [N7 iF,int 10]):=by
 show Imp _ (.tup [.agg 100 [int 0,str [],str [],str [],str [],str [],int 0,.agg 35 [str [],int 0,int 0,hA F3],hA F3,.agg 12 [int 0,str [],str [],.agg 7 [str [],.agg 4 [.lit (.int .u64 0),.lit (.int .u64 0),.lit (.int .u64 0),.lit (.int .u64 0)],str [],str []],int 0,int 0],str [],int 0,.agg 3 [int 0,int 0,.sl 32 [] none],.agg 9 [int 0,.sl 2 [] none,.sl 2 [] none,.agg 3 [int 0,int 0,.sl 32 [] none],.agg 3 [int 0,int 0,.sl 32 [] none]]],int 10]);exact ImpR.imp
attribute [local irreducible] wV gT gI gZ sT sI R9 fK kT bY jU r9 mO oJ oD oC nZ nY nX nW nV iK iJ oQ oP oO oN iI oM oL oK oI oH oG iH iG oF
theorem Xa {G G':Prop}(h:G')(i:Wr G'->G:=by intro h;first|exact Av.W h.o|exact M7 h.o|exact lV h.o|exact a5C h.o|exact a5D h.o|exact xY h.o|exact xZ h.o|exact sD h.o|exact vE h.o):G:=i ⟨h⟩
set_option maxRecDepth 100000 in
instance b1y {s:Bs}:Ans prog GL 218 [str s] (s.length<=1000000000) (.tup [N7 (J9 (I4 s)),int (Y1 (I4 s))]):=⟨fun hl=>by
 refine qF func218 ntmps218 fun _ hs=>?_;repeat' (first|refine Xa ?_|refine y7 (fun _=>?_)|intro _|simp only[List.set]|fail)
 refine I8 (args:=[str s]) [] _ (by rw[hs];exact sP) (fun u m1 hh=>?_) lpr;obtain⟨gr,rfl,rfl⟩:=hh;rw[VZ hl];generalize I4 s=σ;repeat' (first|refine Xa ?_|refine y7 (fun _=>?_)|intro _|simp only[List.set]|fail)
 rename_i g4 g5;refine gH (vs:=[.pointer (some ⟨g4,0,none⟩)]) ?_;repeat' (first|refine Xa ?_|refine y7 (fun _=>?_)|intro _|simp only[List.set]|fail)
 refine gH (vs:=[.pointer (some ⟨g4,0,none⟩)]) ?_;repeat' (first|refine Xa ?_|refine y7 (fun _=>?_)|intro _|simp only[List.set]|fail)
 refine gH (vs:=[.pointer (some ⟨g5,0,none⟩)]) ?_
 iterate 20 ((iterate 20 (try first|refine Xa ?_|refine y7 (fun _=>?_)|intro _));try simp only[List.set])
 have hk:=Pz σ;generalize (true&&decide ((if (gT 114 32 (iK σ)).length=32 then (0:Int) else 10)=0)&&decide ((if (gT 77 32 (iJ σ)).length=32 then (0:Int) else 10)=0)&&decide ((if (gT 97 32 (iI σ)).length=32 then (0:Int) else 10)=0)&&decide (bY (gT 70 4000 (iH σ))=0)&&decide (jU (gT 71 4000 (iG σ))=0))=b at hk ⊢;cases b
 ·repeat' (first|refine Xa ?_|refine y7 (fun _=>?_)|intro _|simp only[List.set]|fail)
  have h0:J9 σ=iF/\Y1 σ=10:=by unfold J9 Y1;rw[hk];exact⟨rfl,rfl⟩
  rw[h0.1,h0.2]
  (refine Y6 (.tup [N7 iF,int 10]) [] ?_ ⟨rfl,rfl⟩ (List.nil_sublist _);exact vM)
 ·repeat' (first|refine Xa ?_|refine y7 (fun _=>?_)|intro _|simp only[List.set]|fail)
  by_cases hq:gZ (oF σ)=0
  ·have h0:J9 σ=CY σ/\Y1 σ=0:=by unfold J9 Y1;rw[hk,dT hq];exact⟨rfl,rfl⟩
   rw[h0.1,h0.2];repeat' (first|refine Xa ?_|refine y7 (fun _=>?_)|intro _|simp only[List.set]|fail)
   refine l9 _ ⟨rfl,rfl⟩ ?_;exact x9
  ·have h0:J9 σ=iF/\Y1 σ=10:=by unfold J9 Y1;rw[hk,dZ hq];exact⟨rfl,rfl⟩
   rw[h0.1,h0.2];repeat' (first|refine Xa ?_|refine y7 (fun _=>?_)|intro _|simp only[List.set]|fail)
   (refine Y6 (.tup [N7 iF,int 10]) [] ?_ ⟨rfl,rfl⟩ (List.nil_sublist _);exact vM)⟩
end Go.Proofs.YtjhnaegpchadiaaGreatDoor

namespace Go.Proofs.YtjhnaegpchadiaaGreatDoor
open Go Go.RowKit Tw Av Go.Proofs.Tryz
attribute [local irreducible] E8 J9 Y1 I4 H9 P7
instance b5L {d:List Ent}{h:Int}{x:TxX}{r:Rep}{xs:List AV}[hx:Ents xs d]:Ans prog GL 219 [.agg 1 [.sl 2 xs none],int h,N7 x,N8 r] (DOk d) (U3 (qH d h x r)):=⟨fun hd=>by
 have h':=hx.out;subst h';refine qF func219 ntmps219 fun _ hs=>?_;unfold qH;by_cases h1:x.k=13
 ·rw[if_pos h1,if_neg (show ¬ x.k=14 by omega),if_neg (show ¬ x.k=15 by omega)];repeat' first|refine Zz ?_|intro _
  exact d9 rfl
 by_cases h2:x.k=14
 ·rw[if_neg h1,if_pos h2];repeat' first|refine Zz ?_|intro _
  exact d9 rfl
 by_cases h3:x.k=15
 ·rw[if_neg h1,if_neg h2,if_pos h3];repeat' first|refine Zz ?_|intro _
  exact d9 rfl
 rw[if_neg h1,if_neg h2,if_neg h3];repeat' first|refine Zz ?_|intro _
 exact d9 rfl⟩
theorem Bo {α:Type}{a b c:α}{l:List α}:(a::b::c::l).Perm (c::a::b::l):=List.perm_middle (l₁:=[a,b])
theorem YR {go:Nat}{acc:List Rep}{v:Value}{r:Rep}(hn:acc.length<=1000000000):Av.Spec prog GL 217 [N8 r,ptr go]
  [.tail 59 3 v,.var go 81 (.sl 3 (acc.map N8) (some v))]
  fun u m=>∃ v',u=.tup []/\m=[.tail 59 3 v',.var go 81 (.sl 3 ((acc++[r]).map N8) (some v'))]:=by
 have hm:(acc.map N8).length=acc.length:=llm _;refine qF func217 ntmps217 fun _ hs=>?_;repeat' first|refine Zz ?_|intro _
 refine I1 (fun v'=>?_);repeat' first|refine Zz ?_|intro _
 refine iW [.tail 59 3 v',.var go 81 (.sl 3 (acc.map N8++[N8 r]) (some v'))] ⟨v',rfl,by rw[List.map_append];rfl⟩ ?_;exact x9
theorem YP {h t:Int}{q:Run3}{l:List Bs}{i:Nat}(hi:i<l.length):U4 h t q (l.take (i+1))=fJ h t (U4 h t q (l.take i)) l[i]:=by
 rw[List.take_succ_eq_append_getElem hi,Sr];rfl
theorem YO {h t:Int}{q:Run3}{s:Bs}(hE:Y1 (I4 s)≠0):fJ h t q s=(q.1,q.2.1++[vY 10],q.2.2):=by rw[fJ,if_neg hE]
theorem YN {h t:Int}{q:Run3}{s:Bs}(hE:Y1 (I4 s)=0)(h0:(E8 q.1 (J9 (I4 s)) h t).2.e=0)(h1:13<=(J9 (I4 s)).k):fJ h t q s=((E8 q.1 (J9 (I4 s)) h t).1,q.2.1++[(E8 q.1 (J9 (I4 s)) h t).2],q.2.2++[qH (E8 q.1 (J9 (I4 s)) h t).1 h (J9 (I4 s)) (E8 q.1 (J9 (I4 s)) h t).2]):=by rw[fJ,if_pos hE,xF,if_pos ⟨h0,h1⟩]
theorem JG {h t:Int}{q:Run3}{s:Bs}(hE:Y1 (I4 s)=0)(h0:¬ ((E8 q.1 (J9 (I4 s)) h t).2.e=0/\13<=(J9 (I4 s)).k)):fJ h t q s=((E8 q.1 (J9 (I4 s)) h t).1,q.2.1++[(E8 q.1 (J9 (I4 s)) h t).2],q.2.2):=by rw[fJ,if_pos hE,xF,if_neg h0]
set_option maxRecDepth 100000 in
theorem a1N {K:Int->Prop}(hDo:∀ {d:List Ent} {h t:Int} {x:TxX},Ans prog GL 10 [.agg 1 [.sl 2 (d.map D5) none],N7 x,int h,int t] (DOk d/\TxB x/\K x.k) (.tup [dA (E8 d x h t).1,N8 (E8 d x h t).2]))
  {d:List Ent} {l:List Bs} {h t:Int} {xs ys:List AV} {id:Option Value} [hx:Ents xs d] [hy:Strs ys l]:Ans prog GL 113 [.agg 1 [.sl 2 xs none],.agg 3 [int h,int t,.sl 1 ys id]] (DOk d/\l.length<=1000000/\∀ s∈l,s.length<=1000000000/\(Y1 (I4 s)=0->K (J9 (I4 s)).k))
   (.tup [dA (L8 d ⟨h,t,l⟩).1,.sl 3 ((L8 d ⟨h,t,l⟩).2.1.map N8) none,.sl 15 ((L8 d ⟨h,t,l⟩).2.2.map U3) none]):=⟨fun hp=>by
 obtain⟨hd,hl,hk⟩:=hp;have h':=hx.out;subst h';have h':=hy.out;subst h';have hm:(l.map str).length=l.length:=llm _;refine qF func113 ntmps113 fun _ hs=>?_;repeat' first|refine Zz ?_|intro _
 rename_i g2 g3 g4 g7;refine gH (vs:=[.pointer (some ⟨g7,0,none⟩)]) ?_;repeat' first|refine Zz ?_|intro _
 refine gK (g:=g7) (v':=.sl 3 [] (some (.slice none 0 0))) ImpC.nilT ?_;refine Q6 (fun ok w h=>h.full 59 3 none 0) ?_;refine aT 8 (Imp.nil (k:=15)) ?_;refine Q6 (fun ok w h=>h.full 172 15 none 0) ?_;refine Q6 (fun ok w hh=>hh.perm (m':=[.tail 59 3 (.slice none 0 0),.var g7 81 (.sl 3 [] (some (.slice none 0 0))),.tail 172 15 (.slice none 0 0),.var g4 56 (.agg 1 [.lit (.slice none 0 0)]),.var g3 130 (.agg 3 [int h,int t,.sl 1 (l.map str) id]),.var g2 56 (dA d)]) Bo) ?_
 haveI hDoI:∀ {d:List Ent} {h t:Int} {x:TxX},Ans prog GL 10 [.agg 1 [.sl 2 (d.map D5) none],N7 x,int h,int t] (DOk d/\TxB x/\K x.k) (.tup [dA (E8 d x h t).1,N8 (E8 d x h t).2]):=hDo
 refine y5 (α:=Nat × Value × Value) (fun z=>[(2,ptr g2),(3,ptr g3),(4,ptr g4),(5,.lit (.slice none 0 0)),(6,.lit (.slice none 0 0)),(7,ptr g7),(8,.sl 15 ((U4 h t (d,[],[]) (l.take z.1)).2.2.map U3) (some z.2.2)),(9,F4 217 [.pointer (some ⟨g7,0,none⟩)]),(17,.sl 1 (l.map str) id),(18,int l.length),(19,int z.1)])
  (fun z=>[.tail 59 3 z.2.1,.var g7 81 (.sl 3 ((U4 h t (d,[],[]) (l.take z.1)).2.1.map N8) (some z.2.1)),.tail 172 15 z.2.2,.var g4 56 (.agg 1 [.lit (.slice none 0 0)]),.var g3 130 (.agg 3 [int h,int t,.sl 1 (l.map str) id]),.var g2 56 (dA (U4 h t (d,[],[]) (l.take z.1)).1)])
  (fun z=>z.1<=l.length) (fun z=>l.length-z.1) (0,.slice none 0 0,.slice none 0 0) ⟨rfl,rfl,rfl,rfl,rfl,rfl,rfl,rfl,rfl,by rw[<- hm];rfl,rfl,trivial⟩ ?_ (Nat.zero_le _) ?_
 ·exact List.Sublist.refl _
 rintro⟨i,v7,v8⟩ hi;dsimp only at hi ⊢;repeat' first|refine Zz ?_|intro _
 refine o8 (fun h1=>?_) (fun h1=>?_)
 ·have hil:i<l.length:=om
  have hq:=YP (h:=h) (t:=t) (q:=(d,[],[])) hil;have hdq:DOk (U4 h t (d,[],[]) (l.take i)).1:=JH hd;have hlq:=zK (h:=h) (t:=t) (l:=l.take i) (q:=(d,[],[]));have hls:l[i].length<=1000000000:=(hk _ (List.getElem_mem hil)).1;have hkk:=(hk _ (List.getElem_mem hil)).2;generalize U4 h t (d,[],[]) (l.take i)=q at *;have hl1:q.2.1.length<=1000000:=by
   have:=hlq.1;simp only[List.length_take,List.length_nil] at this;omega
  have hl2:q.2.2.length<=1000000:=by
   have:=hlq.2;simp only[List.length_take,List.length_nil] at this;omega
  have hm2:(q.2.2.map U3).length=q.2.2.length:=llm _;repeat' first|refine Zz ?_|intro _
  by_cases hE:Y1 (I4 l[i])=0
  rotate_left
  ·have hq':=hq.trans (YO hE);repeat' first|refine Zz ?_|intro _
   refine nT (args:=[N8 (vY 10)]) (cs:=[.pointer (some ⟨g7,0,none⟩)]) [.tail 59 3 v7,.var g7 81 (.sl 3 (q.2.1.map N8) (some v7))] _ (by rw[hs];exact YR om) (fun u m1 hh=>?_) Bo.symm;obtain⟨v',rfl,rfl⟩:=hh;repeat' first|refine Zz ?_|intro _
   refine o6 (i+1,v',v8) ?_ ?_ hil (by dsimp only;omega)
   ·dsimp only;rw[hq'];exact⟨rfl,rfl,rfl,rfl,rfl,rfl,rfl,rfl,rfl,rfl,rfl,trivial⟩
   ·dsimp only;rw[hq'];exact x9
  ·rw[hE];have hx3:DOk q.1/\TxB (J9 (I4 l[i]))/\K (J9 (I4 l[i])).k:=⟨hdq,YT _,hkk hE⟩;have hdo:DOk (E8 q.1 (J9 (I4 l[i])) h t).1:=TP hdq;repeat' first|refine Zz ?_|intro _
   refine nT (args:=[N8 (E8 q.1 (J9 (I4 l[i])) h t).2]) (cs:=[.pointer (some ⟨g7,0,none⟩)]) [.tail 59 3 v7,.var g7 81 (.sl 3 (q.2.1.map N8) (some v7))] _ (by rw[hs];exact YR om) (fun u m1 hh=>?_) (List.perm_append_comm_assoc [_,_] [_,_] _);obtain⟨v',rfl,rfl⟩:=hh;by_cases h0:(E8 q.1 (J9 (I4 l[i])) h t).2.e=0
   ·by_cases h1:13<=(J9 (I4 l[i])).k
    ·have hq':=hq.trans (YN hE h0 h1);repeat' first|refine Zz ?_|intro _
     refine I1 (fun v''=>?_);repeat' first|refine Zz ?_|intro _
     refine o6 (i+1,v',v'') ?_ ?_ hil (by dsimp only;omega)
     ·dsimp only;rw[hq',List.map_append];exact⟨rfl,rfl,rfl,rfl,rfl,rfl,rfl,rfl,rfl,rfl,rfl,trivial⟩
     ·dsimp only;rw[hq'];exact x9
    ·have hq':=hq.trans (JG hE (fun hh=>h1 hh.2));repeat' first|refine Zz ?_|intro _
     refine o6 (i+1,v',v8) ?_ ?_ hil (by dsimp only;omega)
     ·dsimp only;rw[hq'];exact⟨rfl,rfl,rfl,rfl,rfl,rfl,rfl,rfl,rfl,rfl,rfl,trivial⟩
     ·dsimp only;rw[hq'];exact x9
   ·have hq':=hq.trans (JG hE (fun hh=>h0 hh.1));repeat' first|refine Zz ?_|intro _
    refine o6 (i+1,v',v8) ?_ ?_ hil (by dsimp only;omega)
    ·dsimp only;rw[hq'];exact⟨rfl,rfl,rfl,rfl,rfl,rfl,rfl,rfl,rfl,rfl,rfl,trivial⟩
    ·dsimp only;rw[hq'];exact x9
 ·have hi':i=l.length:=om
  subst hi';rw[List.take_length];repeat' first|refine Zz ?_|intro _
  refine E5 ?_;show Imp (.tup [dA (U4 h t (d,[],[]) l).1,.sl 3 ((U4 h t (d,[],[]) l).2.1.map N8) (some v7),.sl 15 ((U4 h t (d,[],[]) l).2.2.map U3) (some v8)]) (.tup [dA (U4 h t (d,[],[]) l).1,.sl 3 ((U4 h t (d,[],[]) l).2.1.map N8) none,.sl 15 ((U4 h t (d,[],[]) l).2.2.map U3) none]);exact ImpR.imp⟩
end Go.Proofs.YtjhnaegpchadiaaGreatDoor

namespace Go.Proofs.YtjhnaegpchadiaaGreatDoor
open Go Go.RowKit Tw Av Go.Proofs.Tryz
structure TxW (x:TxX):Prop where
 k:x.k<=9223372036854775807
 e:x.e<=9223372036854775807
 hh:x.h.h<=9223372036854775807
 ht:x.h.t<=9223372036854775807
 xq:x.x.q<=9223372036854775807
 xh:x.x.h<=9223372036854775807
 xt:x.x.t<=9223372036854775807
 t:x.t<=9223372036854775807
 f:x.f.p.length<=1000000/\x.f.a<=9223372036854775807/\x.f.m<=9223372036854775807
 g:GapW x.g
set_option maxRecDepth 100000 in
instance b3K {x:TxX}:Ans prog GL 37 [N7 x] (TxW x) (str (G5 x)):=⟨fun hp=>by
 obtain⟨h1,h2,h3,h4,h5,h6,h7,h8,h9,h10⟩:=hp;refine qF func37 ntmps37 fun _ hs=>?_;repeat' first|refine Yz ?_|intro _
 exact d9 rfl⟩
end Go.Proofs.YtjhnaegpchadiaaGreatDoor

namespace Go.Proofs.YtjhnaegpchadiaaGreatDoor
open Go Go.RowKit Tw Av
section
variable {P:Program} {N:Nat} {ops:Array Oper} {Q:Exit->Act->World->Prop} {rest:List Oper} {s:Av.Base} {e:Av.Env} {m:List Av.Piece} {d:Nat} {ty:TypeId} {pos:String} {af:Array Edge}
end
attribute [local irreducible] G5 XK
end Go.Proofs.YtjhnaegpchadiaaGreatDoor

namespace Go.Proofs.YtjhnaegpchadiaaGreatDoor
open Go Go.RowKit Tw Av Go.Proofs.Tryz
instance b3E {x:Bs}:Ans prog GL 314 [str x] True (.tup [hA (R9 x),j3 (decide (x.length=32))]):=⟨fun _=>by
 refine qF func314 ntmps314 fun _ hs=>?_;repeat' first|refine Yz ?_|intro _
 by_cases hx:x.length=32
 rotate_left
 ·rw[dZ hx];repeat' first|refine Yz ?_|intro _
  refine d9 ?_;unfold R9;rw[dif_neg hx];rfl
 rw[dT hx];repeat' first|refine Yz ?_|intro _
 rename_i g1 g2;refine y5 (α:=Nat) (fun i=>[(0,str x),(2,ptr g1),(3,.lit (.bool false)),(4,ptr g2),(5,int i)]) (fun i=>[.var g2 34 (.agg 32 ((eG x i).map w9)),.var g1 34 (hA F3)]) (fun i=>i<=32) (fun i=>32-i) 0 ⟨rfl,rfl,rfl,rfl,rfl,trivial⟩ ?_ (Nat.zero_le _) ?_
 focus
  exact x9
 intro i hi;repeat' first|refine Yz ?_|intro _
 refine o8 (fun hlt=>?_) (fun hlt=>?_)
 ·have hil:i<32:=om
  have hix:i<x.length:=om
  repeat' first|refine Yz ?_|intro _
  refine sH i ?_ (List.getElem?_eq_getElem hix);repeat' first|refine Yz ?_|intro _
  refine O4 i ?_;refine kM (j:=i) (ps:=(eG x i).map w9) (by simp only[List.length_map];rw[KX hx hi];exact hil) ?_;repeat' first|refine Yz ?_|intro _
  rw[show ((eG x i).map w9).set i (w9 x[i])=((eG x i).set i x[i]).map w9 by rw[List.map_set],RU hx hil];exact o6 (i+1) ⟨rfl,rfl,rfl,rfl,rfl,trivial⟩ slr hil om
 ·obtain rfl:i=32:=by omega
  have hA1:AV.agg 32 ((eG x 32).map w9)=hA (R9 x):=by rw[RX hx,hA,LC hx]
  rw[hA1];repeat' first|refine Yz ?_|intro _
  exact d9 rfl⟩
instance b2c {c m:Int}{σ:RS}:Ans prog GL 311 [str (gT c m σ)] True (.tup [O0 (wV (gT c m σ)),int (if (gT c m σ).length=32 then 0 else 10)]):=⟨fun _=>a1i.spec (AO _ _ _)⟩
instance b2s {c m:Int}{σ:RS}:Ans prog GL 315 [str (gT c m σ)] True (.tup [jA (fK (gT c m σ)),int (bY (gT c m σ))]):=⟨fun _=>a1n.spec (AO _ _ _)⟩
instance b2n {c m:Int}{σ:RS}:Ans prog GL 316 [str (gT c m σ)] True (.tup [AJ (kT (gT c m σ)),int (jU (gT c m σ))]):=⟨fun _=>a1l.spec (AO _ _ _)⟩
instance Uh {g:Nat}{σ:RS}:AnsM prog GL 127 g [.lit (.int .u8 75),int 16] 220 (r9 σ) True (int (gI 75 16 σ)) (r9 (mO σ)):=⟨fun _=>(vW (c:=75) (most:=16)).spec dc⟩
instance rS2 {g:Nat}{σ:RS}:AnsM prog GL 227 g [.lit (.int .u8 73),int 4000] 220 (r9 (mO σ)) True (str (gT 73 4000 (mO σ))) (r9 (oJ σ)):=⟨fun _=>(iR (c:=73) (most:=4000)).spec True.intro⟩
instance rS3 {g:Nat}{σ:RS}:AnsM prog GL 227 g [.lit (.int .u8 79),int 4000] 220 (r9 (oJ σ)) True (str (gT 79 4000 (oJ σ))) (r9 (oD σ)):=⟨fun _=>(iR (c:=79) (most:=4000)).spec True.intro⟩
instance rS4 {g:Nat}{σ:RS}:AnsM prog GL 227 g [.lit (.int .u8 81),int 4000] 220 (r9 (oD σ)) True (str (gT 81 4000 (oD σ))) (r9 (oC σ)):=⟨fun _=>(iR (c:=81) (most:=4000)).spec True.intro⟩
instance rS5 {g:Nat}{σ:RS}:AnsM prog GL 227 g [.lit (.int .u8 82),int 4000] 220 (r9 (oC σ)) True (str (gT 82 4000 (oC σ))) (r9 (nZ σ)):=⟨fun _=>(iR (c:=82) (most:=4000)).spec True.intro⟩
instance rS6 {g:Nat}{σ:RS}:AnsM prog GL 227 g [.lit (.int .u8 89),int 4000] 220 (r9 (nZ σ)) True (str (gT 89 4000 (nZ σ))) (r9 (nY σ)):=⟨fun _=>(iR (c:=89) (most:=4000)).spec True.intro⟩
instance rS7 {g:Nat}{σ:RS}:AnsM prog GL 127 g [.lit (.int .u8 69),int 1099511627776] 220 (r9 (nY σ)) True (int (gI 69 1099511627776 (nY σ))) (r9 (nX σ)):=⟨fun _=>(vW (c:=69) (most:=1099511627776)).spec dc⟩
instance rS8 {g:Nat}{σ:RS}:AnsM prog GL 227 g [.lit (.int .u8 99),int 4000] 220 (r9 (nX σ)) True (str (gT 99 4000 (nX σ))) (r9 (nW σ)):=⟨fun _=>(iR (c:=99) (most:=4000)).spec True.intro⟩
instance rS9 {g:Nat}{σ:RS}:AnsM prog GL 127 g [.lit (.int .u8 104),int 1099511627776] 220 (r9 (nW σ)) True (int (gI 104 1099511627776 (nW σ))) (r9 (nV σ)):=⟨fun _=>(vW (c:=104) (most:=1099511627776)).spec dc⟩
instance b0W {g:Nat}{σ:RS}:AnsM prog GL 127 g [.lit (.int .u8 116),int 1099511627776] 220 (r9 (nV σ)) True (int (gI 116 1099511627776 (nV σ))) (r9 (iK σ)):=⟨fun _=>(vW (c:=116) (most:=1099511627776)).spec dc⟩
instance b0V {g:Nat}{σ:RS}:AnsM prog GL 227 g [.lit (.int .u8 114),int 32] 220 (r9 (iK σ)) True (str (gT 114 32 (iK σ))) (r9 (iJ σ)):=⟨fun _=>(iR (c:=114) (most:=32)).spec True.intro⟩
instance b0U {g:Nat}{σ:RS}:AnsM prog GL 227 g [.lit (.int .u8 77),int 32] 220 (r9 (iJ σ)) True (str (gT 77 32 (iJ σ))) (r9 (oQ σ)):=⟨fun _=>(iR (c:=77) (most:=32)).spec True.intro⟩
instance b0T {g:Nat}{σ:RS}:AnsM prog GL 127 g [.lit (.int .u8 113),int 1099511627776] 220 (r9 (oQ σ)) True (int (gI 113 1099511627776 (oQ σ))) (r9 (oP σ)):=⟨fun _=>(vW (c:=113) (most:=1099511627776)).spec dc⟩
instance b0S {g:Nat}{σ:RS}:AnsM prog GL 227 g [.lit (.int .u8 115),int 4000] 220 (r9 (oP σ)) True (str (gT 115 4000 (oP σ))) (r9 (oO σ)):=⟨fun _=>(iR (c:=115) (most:=4000)).spec True.intro⟩
instance b0R {g:Nat}{σ:RS}:AnsM prog GL 227 g [.lit (.int .u8 107),int 4000] 220 (r9 (oO σ)) True (str (gT 107 4000 (oO σ))) (r9 (oN σ)):=⟨fun _=>(iR (c:=107) (most:=4000)).spec True.intro⟩
instance b0Q {g:Nat}{σ:RS}:AnsM prog GL 227 g [.lit (.int .u8 100),int 4000] 220 (r9 (oN σ)) True (str (gT 100 4000 (oN σ))) (r9 (iI σ)):=⟨fun _=>(iR (c:=100) (most:=4000)).spec True.intro⟩
instance b0P {g:Nat}{σ:RS}:AnsM prog GL 227 g [.lit (.int .u8 97),int 32] 220 (r9 (iI σ)) True (str (gT 97 32 (iI σ))) (r9 (oM σ)):=⟨fun _=>(iR (c:=97) (most:=32)).spec True.intro⟩
instance b0O {g:Nat}{σ:RS}:AnsM prog GL 227 g [.lit (.int .u8 102),int 4000] 220 (r9 (oM σ)) True (str (gT 102 4000 (oM σ))) (r9 (oL σ)):=⟨fun _=>(iR (c:=102) (most:=4000)).spec True.intro⟩
instance b0N {g:Nat}{σ:RS}:AnsM prog GL 227 g [.lit (.int .u8 103),int 4000] 220 (r9 (oL σ)) True (str (gT 103 4000 (oL σ))) (r9 (oK σ)):=⟨fun _=>(iR (c:=103) (most:=4000)).spec True.intro⟩
instance b0L {g:Nat}{σ:RS}:AnsM prog GL 127 g [.lit (.int .u8 117),int 1099511627776] 220 (r9 (oK σ)) True (int (gI 117 1099511627776 (oK σ))) (r9 (oI σ)):=⟨fun _=>(vW (c:=117) (most:=1099511627776)).spec dc⟩
instance b0K {g:Nat}{σ:RS}:AnsM prog GL 127 g [.lit (.int .u8 118),int 1099511627776] 220 (r9 (oI σ)) True (int (gI 118 1099511627776 (oI σ))) (r9 (oH σ)):=⟨fun _=>(vW (c:=118) (most:=1099511627776)).spec dc⟩
instance b0J {g:Nat}{σ:RS}:AnsM prog GL 227 g [.lit (.int .u8 65),int 4000] 220 (r9 (oH σ)) True (str (gT 65 4000 (oH σ))) (r9 (oG σ)):=⟨fun _=>(iR (c:=65) (most:=4000)).spec True.intro⟩
instance b0I {g:Nat}{σ:RS}:AnsM prog GL 127 g [.lit (.int .u8 84),int 1099511627776] 220 (r9 (oG σ)) True (int (gI 84 1099511627776 (oG σ))) (r9 (iH σ)):=⟨fun _=>(vW (c:=84) (most:=1099511627776)).spec dc⟩
instance b0H {g:Nat}{σ:RS}:AnsM prog GL 227 g [.lit (.int .u8 70),int 4000] 220 (r9 (iH σ)) True (str (gT 70 4000 (iH σ))) (r9 (iG σ)):=⟨fun _=>(iR (c:=70) (most:=4000)).spec True.intro⟩
instance b0G {g:Nat}{σ:RS}:AnsM prog GL 227 g [.lit (.int .u8 71),int 4000] 220 (r9 (iG σ)) True (str (gT 71 4000 (iG σ))) (r9 (oF σ)):=⟨fun _=>(iR (c:=71) (most:=4000)).spec True.intro⟩
instance b0X {g:Nat}{s:Bs}:AnsM prog GL 127 g [.lit (.int .u8 75),int 16] 220 (C8 s false) (s.length<=1000000000) (int (gI 75 16 (I4 s))) (r9 (mO (I4 s))):=⟨fun hl=>by
 have h:=(Uh (g:=g) (σ:=I4 s)).spec True.intro;rw[<- VZ hl] at h;exact h⟩
theorem oW {σ:RS}(h:gZ (oF σ)≠0\/(gT 114 32 (iK σ)).length≠32\/(gT 77 32 (iJ σ)).length≠32\/(gT 97 32 (iI σ)).length≠32\/bY (gT 70 4000 (iH σ))≠0\/jU (gT 71 4000 (iG σ))≠0):J9 σ=iF/\Y1 σ=10:=by
 have hk:sM σ=false:=by
  cases e:sM σ
  ·rfl
  ·exfalso
   unfold sM CL CP CR CO CQ at e;simp only[Bool.and_eq_true,decide_eq_true_eq] at e;obtain⟨e1,e2,e3,e4,e5,e6⟩:=e;rcases h with h|h|h|h|h|h
   ·exact h e6
   ·exact h e1
   ·exact h e2
   ·exact h e3
   ·exact h e4
   ·exact h e5
 unfold J9 Y1;rw[hk];exact⟨rfl,rfl⟩
theorem WR {σ:RS}(h6:gZ (oF σ)=0)(h1:(gT 114 32 (iK σ)).length=32)(h2:(gT 77 32 (iJ σ)).length=32)(h3:(gT 97 32 (iI σ)).length=32)(h4:bY (gT 70 4000 (iH σ))=0)(h5:jU (gT 71 4000 (iG σ))=0):J9 σ=CY σ/\Y1 σ=0:=by
 have hk:sM σ=true:=by
  unfold sM CL CP CR CO CQ;rw[dT h1,dT h2,dT h3,dT h4,dT h5,dT h6];rfl
 unfold J9 Y1;rw[hk];exact⟨rfl,rfl⟩
attribute [local irreducible] wV gT gI gZ sT sI R9 fK kT bY jU r9 mO oJ oD oC nZ nY nX nW nV iK iJ oQ oP oO oN iI oM oL oK oI oH oG iH iG oF
set_option maxRecDepth 100000 in
instance b3A {s:Bs}:Ans prog GL 228 [str s] (s.length<=1000000000) (.tup [N7 (J9 (I4 s)),int (Y1 (I4 s))]):=⟨fun hl=>by
 refine qF func228 ntmps228 fun _ hs=>?_
 iterate 24 ((iterate 20 (try first|refine Xa ?_|refine y7 (fun _=>?_)|intro _));try simp only[List.set])
 generalize I4 s=σ;by_cases h6:gZ (oF σ)=0
 rotate_left
 ·rw[(oW (.inl h6)).1,(oW (.inl h6)).2];repeat' (first|refine Xa ?_|refine y7 (fun _=>?_)|intro _|simp only[List.set]|fail)
  (refine Y6 (.tup [N7 iF,int 10]) [] ?_ ⟨rfl,rfl⟩ (List.nil_sublist _);exact vM)
 by_cases h1:(gT 114 32 (iK σ)).length=32
 rotate_left
 ·rw[(oW (.inr (.inl h1))).1,(oW (.inr (.inl h1))).2];repeat' (first|refine Xa ?_|refine y7 (fun _=>?_)|intro _|simp only[List.set]|fail)
  (refine Y6 (.tup [N7 iF,int 10]) [] ?_ ⟨rfl,rfl⟩ (List.nil_sublist _);exact vM)
 by_cases h2:(gT 77 32 (iJ σ)).length=32
 rotate_left
 ·rw[(oW (.inr (.inr (.inl h2)))).1,(oW (.inr (.inr (.inl h2)))).2];repeat' (first|refine Xa ?_|refine y7 (fun _=>?_)|intro _|simp only[List.set]|fail)
  (refine Y6 (.tup [N7 iF,int 10]) [] ?_ ⟨rfl,rfl⟩ (List.nil_sublist _);exact vM)
 by_cases h3:(gT 97 32 (iI σ)).length=32
 rotate_left
 ·rw[(oW (.inr (.inr (.inr (.inl h3))))).1,(oW (.inr (.inr (.inr (.inl h3))))).2];repeat' (first|refine Xa ?_|refine y7 (fun _=>?_)|intro _|simp only[List.set]|fail)
  (refine Y6 (.tup [N7 iF,int 10]) [] ?_ ⟨rfl,rfl⟩ (List.nil_sublist _);exact vM)
 by_cases h4:bY (gT 70 4000 (iH σ))=0
 rotate_left
 ·rw[(oW (.inr (.inr (.inr (.inr (.inl h4)))))).1,(oW (.inr (.inr (.inr (.inr (.inl h4)))))).2];repeat' (first|refine Xa ?_|refine y7 (fun _=>?_)|intro _|simp only[List.set]|fail)
  (refine Y6 (.tup [N7 iF,int 10]) [] ?_ ⟨rfl,rfl⟩ (List.nil_sublist _);exact vM)
 by_cases h5:jU (gT 71 4000 (iG σ))=0
 rotate_left
 ·rw[(oW (.inr (.inr (.inr (.inr (.inr h5)))))).1,(oW (.inr (.inr (.inr (.inr (.inr h5)))))).2];repeat' (first|refine Xa ?_|refine y7 (fun _=>?_)|intro _|simp only[List.set]|fail)
  (refine Y6 (.tup [N7 iF,int 10]) [] ?_ ⟨rfl,rfl⟩ (List.nil_sublist _);exact vM)
 rw[(WR h6 h1 h2 h3 h4 h5).1,(WR h6 h1 h2 h3 h4 h5).2];repeat' (first|refine Xa ?_|refine y7 (fun _=>?_)|intro _|simp only[List.set]|fail)
 exact d9 rfl⟩
end Go.Proofs.YtjhnaegpchadiaaGreatDoor

namespace Go.Proofs.YtjhnaegpchadiaaGreatDoor
open Go Go.RowKit Tw Av
abbrev qA (o:Out18):AV:=.agg 4 [Y3 o.1,N8 o.2]
def fQ (e:Int):Out18:=([],vY e)
def pQ (d:List Ent)(k v:Bs):Out18:=if (R4 d k v).2=0 then ((R4 d k v).1,lN) else fQ (R4 d k v).2
def yC (d:List Ent)(q:Out18):Out18:=if q.2.e=0 then q else M4 d q.2.e
theorem AZ {d:List Ent}{e:Int}(h:e≠0):yC d (fQ e)=M4 d e:=by
 unfold yC fQ vY;rw[if_neg h]
theorem Hl {d:List Ent}{k v:Bs}:yC d (pQ d k v)=lT d k v:=by
 unfold pQ lT mR;split
 ·rfl
 ·rename_i h;exact AZ h
def BI (d:List Ent)(x:TxX):Out18:=if bA x.x.d=false\/fA x.x.g=false\/(x.k=1/\0<tQ x.x.d)\/(x.k=2/\fA x.x.f=false) then fQ 1 else if x.k=1 then ((eF d x.x.g x.x.d x.x.a).1,vY (eF d x.x.g x.x.d x.x.a).2) else ((jC d x.x.f x.x.g x.x.d x.x.a).1,vY (jC d x.x.f x.x.g x.x.d x.x.a).2)
def mF (d:List Ent)(x:TxX)(t:Int):Out18:=
 if x.k=4 then (if M8 d x.i=false then fQ 12 else if bM (P8 d x.i) x.h x.m t≠0 then fQ (bM (P8 d x.i) x.h x.m t) else pQ d (H6 [67] x.i) (P5 (gL (P8 d x.i) x.h x.m t)))
 else if I5 x.i=false then fQ 1 else if M8 d x.i=true then fQ 13 else if qB x.y x.e x.h≠0 then fQ (qB x.y x.e x.h) else pQ d (H6 [67] x.i) (P5 (pY x.y x.e x.h))
theorem a1X {d:List Ent}{x:TxX}{t:Int}(h:x.k=4):yC d (mF d x t)=mP d x t:=by
 unfold mF mP;rw[if_pos h];split
 ·exact AZ dc
 ·split
  ·rename_i h1;exact AZ h1
  ·exact Hl
theorem a1Z {d:List Ent}{x:TxX}{t:Int}(h:x.k=3):yC d (mF d x t)=qI d x:=by
 unfold mF qI;rw[if_neg (by rw[h];decide)];split
 ·exact AZ dc
 ·split
  ·exact AZ dc
  ·split
   ·rename_i h1;exact AZ h1
   ·exact Hl
def Ll (d:List Ent)(x:TxX)(i k:Bs)(try':Bool)(t:Int):Out18:=
 if try'=false then (if (AF x.o x.q).2≠0 then fQ (AF x.o x.q).2 else pQ d (H6 k x.i) (jG (AF x.o x.q).1))
 else if dB d i x.t t (H6 k x.p) (jG ⟨1,x.q,x.o,[]⟩) x.f≠0 then fQ (dB d i x.t t (H6 k x.p) (jG ⟨1,x.q,x.o,[]⟩) x.f)
 else if (zC x.o x.p ⟨1,x.q,x.o,[]⟩).2≠0 then fQ (zC x.o x.p ⟨1,x.q,x.o,[]⟩).2
 else pQ d (H6 k x.i) (jG (zC x.o x.p ⟨1,x.q,x.o,[]⟩).1)
def UW (d:List Ent)(x:TxX)(b:Bool)(t:Int):Out18:=if I5 x.i=false then fQ 1 else if P7 d [75] x.i=true then fQ 13 else if M8 d x.o=false then fQ 12 else Ll d x x.o [75] b t
def UX (d:List Ent)(x:TxX)(b:Bool)(t:Int):Out18:=if I5 x.i=false then fQ 1 else if P7 d [72] x.i=true then fQ 13 else if P7 d [75] x.o=false then fQ 12 else if (H9 d [75] x.o).s≠3 then fQ 13 else Ll d x (H9 d [75] x.o).o [72] b t
def Dz (d:List Ent)(x:TxX)(i k pp:Bs)(th:EndX)(r:EndX × Int)(t:Int):Out18:=if dB d i x.t t (H6 k pp) (jG th) x.f≠0 then fQ (dB d i x.t t (H6 k pp) (jG th) x.f) else if r.2≠0 then fQ r.2 else pQ d (H6 k x.i) (jG r.1)
def Ea (d:List Ent)(x:TxX)(own:EndX)(i k:Bs)(ack:Bool)(t:Int):Out18:=if ack=true then Dz d x i k x.p ⟨2,own.q,own.o,x.i⟩ (GR own x.i x.p ⟨2,own.q,own.o,x.i⟩) t else Dz d x i k own.p ⟨3,own.q,own.o,x.i⟩ (FT own x.i ⟨3,own.q,own.o,x.i⟩) t
def QI (d:List Ent)(x:TxX)(b:Bool)(t:Int):Out18:=if P7 d [75] x.i=false then fQ 12 else Ea d x (H9 d [75] x.i) (H9 d [75] x.i).o [75] b t
def QJ (d:List Ent)(x:TxX)(b:Bool)(t:Int):Out18:=if P7 d [72] x.i=false then fQ 12 else if P7 d [75] (H9 d [72] x.i).o=false then fQ 12 else Ea d x (H9 d [72] x.i) (H9 d [75] (H9 d [72] x.i).o).o [72] b t
end Go.Proofs.YtjhnaegpchadiaaGreatDoor
