/- . -/
import Derived.Test.YtocpacdnjbjjmaaGreatDoorS38
set_option maxHeartbeats 64000000
namespace Go.Proofs.YtocpacdnjbjjmaaGreatDoor
open Go Go.RowKit Tw Av Go.Proofs.Tryz
section
variable {P:Program} {N:Nat} {ops:Array Oper} {Q:Exit->Act->World->Prop} {rest:List Oper} {s:Av.Base} {e:Av.Env} {m:List Av.Piece} {d:Nat} {ty:TypeId} {pos:String} {af:Array Edge} {gl:List (Nat × AV)}
class AnsL (P:Program)(gl:List (Nat × AV))(f:FuncId)(args:List AV)(g:Nat)(T:TypeId)(v:AV)(pre:outParam Prop)(out:outParam AV)(v':outParam AV):Prop where
 spec:pre->Av.Spec P gl f (args++[ptr g]) [.var g T v] fun u m=>u=out/\m=[.var g T v']
class AnsL2 (P:Program)(gl:List (Nat × AV))(f:FuncId)(args:List AV)(g:Nat)(T:TypeId)(r:Nat)(R:TypeId)(v:AV)(pre:outParam Prop)(out:outParam AV)(v':outParam AV):Prop where
 spec:pre->Av.Spec P gl f (args++[ptr g]) [.var r R v,.var g T (ptr r)] fun u m=>u=out/\m=[.var r R v',.var g T (ptr r)]
theorem a8v {f:FuncId}[hf:FnB P f]{x:Operand}{xs:List Operand}{ts:Array TypeId}{args:List AV}{g:Nat}{T:TypeId}{v v' out:AV}{pre:Prop}{m':List Av.Piece}(h:AL P N ops Q s rest ((d,out)::e) m')(h0:Av.ev e x=some (D6 f [.pointer (some ⟨g,0,none⟩)]):=by exact rfl)(hx:Av.L8 e xs=some args:=by exact rfl)
  (hu:Av.Upd m (.var g T v) (.var g T v') m':=by (repeat (first|apply Av.Upd.here|apply Av.Upd.there))) (hg:s.gl=gl:=by assumption) (hc:AnsL P gl f args g T v pre out v':=by infer_instance) (hp:pre:=by first|exact True.intro|assumption|omega) (hn:args.all P7=true:=by exact rfl) (hd:Nat.blt d N=true:=by exact rfl) :
  AL P N ops Q s (⟨some d,.call ⟨.value x,xs.toArray,ts⟩,ty,pos,af,none⟩::rest) e m:=by
 obtain⟨fr,h1,h2⟩:=hu.perm;refine kP (args:=args) (cs:=[.pointer (some ⟨g,0,none⟩)]) [.var g T v] fr (K:=fun u m=>u=out/\m=[.var g T v']) (by rw[hg];exact hc.spec hp) (fun u m1 hh=>?_) h1 h0 hx hn (by simp[Value.oneCell']) hd;obtain⟨rfl,rfl⟩:=hh;exact nJ (fun ok w hS=>hS.perm h2) h
theorem a8u {f:FuncId}[hf:FnB P f]{x:Operand}{xs:List Operand}{ts:Array TypeId}{args:List AV}{g r:Nat}{T R:TypeId}{v v' out:AV}{pre:Prop}{m':List Av.Piece}(h:AL P N ops Q s rest ((d,out)::e) m')(h0:Av.ev e x=some (D6 f [.pointer (some ⟨g,0,none⟩)]):=by exact rfl)(hx:Av.L8 e xs=some args:=by exact rfl)
  (hq:Av.Has m (.var g T (ptr r)):=by (repeat (first|exact Av.Has.here|apply Av.Has.there))) (hu:Av.Upd m (.var r R v) (.var r R v') m':=by (repeat (first|apply Av.Upd.here|apply Av.Upd.there))) (hg:s.gl=gl:=by assumption) (hc:AnsL2 P gl f args g T r R v pre out v':=by infer_instance)
  (hp:pre:=by first|exact True.intro|assumption|omega) (hne:Nat.beq T R=false:=by exact rfl) (hn:args.all P7=true:=by exact rfl) (hd:Nat.blt d N=true:=by exact rfl) :
  AL P N ops Q s (⟨some d,.call ⟨.value x,xs.toArray,ts⟩,ty,pos,af,none⟩::rest) e m:=by
 obtain⟨fr,h1,h2⟩:=hu.perm;have hTR:T≠R:=fun e=>by rw[e,Nat.beq_refl] at hne;cases hne
 have hq':Av.Piece.var g T (ptr r)∈fr:=by
  have:=h1.mem_iff.1 hq.mem;rcases List.mem_cons.1 this with h|h
  ·injection h with _ h
   exact absurd h hTR
  ·exact h
 obtain⟨fr2,hf2⟩:∃ fr2,fr.Perm (.var g T (ptr r)::fr2):=by
  obtain⟨a,b,rfl⟩:=List.append_of_mem hq';exact⟨a++b,List.perm_middle⟩
 refine kP (args:=args) (cs:=[.pointer (some ⟨g,0,none⟩)]) [.var r R v,.var g T (ptr r)] fr2 (K:=fun u m=>u=out/\m=[.var r R v',.var g T (ptr r)]) (by rw[hg];exact hc.spec hp) (fun u m1 hh=>?_) (h1.trans (hf2.cons _)) h0 hx hn (by simp[Value.oneCell']) hd;obtain⟨rfl,rfl⟩:=hh;exact nJ (fun ok w hS=>hS.perm (h2.trans (hf2.cons _))) h
end
instance lQ {g r:Nat}{σ:RS}{c:Int}:AnsL2 prog GL 176 [.lit (.int .u8 c)] g 151 r 201 (y5 σ) True (str (gT c 4000 σ)) (y5 (sT c 4000 σ)):=⟨fun _=>by
 show Av.Spec _ _ _ [.lit (.int .u8 c),ptr g] _ _;refine qE func176 rfl ntmps176 rfl (fun _ hs=>?_);repeat' first|refine Zz ?_|intro _
 refine o5 _ ⟨rfl,rfl⟩ ?_;repeat (first|exact List.nil_sublist _|exact List.Sublist.refl _|apply List.Sublist.cons_cons|apply List.Sublist.cons)⟩
instance yJ {g r:Nat}{σ:RS}{c:Int}:AnsL2 prog GL 177 [.lit (.int .u8 c)] g 151 r 201 (y5 σ) True (int (gI c 1099511627776 σ)) (y5 (sI c 1099511627776 σ)):=⟨fun _=>by
 show Av.Spec _ _ _ [.lit (.int .u8 c),ptr g] _ _;refine qE func177 rfl ntmps177 rfl (fun _ hs=>?_);repeat' first|refine Zz ?_|intro _
 refine o5 _ ⟨rfl,rfl⟩ ?_;repeat (first|exact List.nil_sublist _|exact List.Sublist.refl _|apply List.Sublist.cons_cons|apply List.Sublist.cons)⟩
instance c5z {g:Nat}{b:Bool}{c:Int}:AnsL prog GL 178 [int c] g 4 (j3 b) True (.tup []) (j3 (b&&decide (c=0))):=⟨fun _=>by
 show Av.Spec _ _ _ [int c,ptr g] _ _;refine qE func178 rfl ntmps178 rfl (fun _ hs=>?_);repeat' first|refine Zz ?_|intro _
 cases b
 ·repeat' first|refine Zz ?_|intro _
  refine fU _ ⟨rfl,rfl⟩ ?_;exact r9
 ·repeat' first|refine Zz ?_|intro _
  refine fU _ ⟨rfl,rfl⟩ ?_;repeat (first|exact List.nil_sublist _|exact List.Sublist.refl _|apply List.Sublist.cons_cons|apply List.Sublist.cons)⟩
instance b4w {c m:Int}{σ:RS}:Ans prog GL 180 [str (gT c m σ)] True (.tup [C9 (wV (gT c m σ)),int (if (gT c m σ).length=32 then 0 else 10)]):=⟨fun _=>a3W.spec (BX _ _ _)⟩
instance b7f {c m:Int}{σ:RS}:Ans prog GL 181 [str (gT c m σ)] True (.tup [iE (fF (gT c m σ)),int (bT (gT c m σ))]):=⟨fun _=>a4y.spec (BX _ _ _)⟩
instance b5b {c m:Int}{σ:RS}:Ans prog GL 182 [str (gT c m σ)] True (.tup [BU (kC (gT c m σ)),int (jA (gT c m σ))]):=⟨fun _=>a4f.spec (BX _ _ _)⟩
/- each reading by its place: the reader's states have names,so that the terms stay small -/
instance mS1 {g:Nat}{σ:RS}:AnsM prog GL 72 g [.lit (.int .u8 75),int 16] 201 (y5 σ) True (int (gI 75 16 σ)) (y5 (mE σ)):=⟨fun _=>(a0r (c:=75) (most:=16)).spec dc⟩
instance cS2 {g r:Nat}{σ:RS}:AnsL2 prog GL 176 [.lit (.int .u8 73)] g 151 r 201 (y5 (mE σ)) True (str (gT 73 4000 (mE σ))) (y5 (nY σ)):=⟨fun _=>(lQ (c:=73)).spec True.intro⟩
instance cS3 {g r:Nat}{σ:RS}:AnsL2 prog GL 176 [.lit (.int .u8 79)] g 151 r 201 (y5 (nY σ)) True (str (gT 79 4000 (nY σ))) (y5 (nT σ)):=⟨fun _=>(lQ (c:=79)).spec True.intro⟩
instance cS4 {g r:Nat}{σ:RS}:AnsL2 prog GL 176 [.lit (.int .u8 81)] g 151 r 201 (y5 (nT σ)) True (str (gT 81 4000 (nT σ))) (y5 (nS σ)):=⟨fun _=>(lQ (c:=81)).spec True.intro⟩
instance cS5 {g r:Nat}{σ:RS}:AnsL2 prog GL 176 [.lit (.int .u8 82)] g 151 r 201 (y5 (nS σ)) True (str (gT 82 4000 (nS σ))) (y5 (nR σ)):=⟨fun _=>(lQ (c:=82)).spec True.intro⟩
instance cS6 {g r:Nat}{σ:RS}:AnsL2 prog GL 176 [.lit (.int .u8 89)] g 151 r 201 (y5 (nR σ)) True (str (gT 89 4000 (nR σ))) (y5 (nQ σ)):=⟨fun _=>(lQ (c:=89)).spec True.intro⟩
instance cS7 {g r:Nat}{σ:RS}:AnsL2 prog GL 177 [.lit (.int .u8 69)] g 151 r 201 (y5 (nQ σ)) True (int (gI 69 1099511627776 (nQ σ))) (y5 (nP σ)):=⟨fun _=>(yJ (c:=69)).spec True.intro⟩
instance cS8 {g r:Nat}{σ:RS}:AnsL2 prog GL 176 [.lit (.int .u8 99)] g 151 r 201 (y5 (nP σ)) True (str (gT 99 4000 (nP σ))) (y5 (nO σ)):=⟨fun _=>(lQ (c:=99)).spec True.intro⟩
instance cS9 {g r:Nat}{σ:RS}:AnsL2 prog GL 177 [.lit (.int .u8 104)] g 151 r 201 (y5 (nO σ)) True (int (gI 104 1099511627776 (nO σ))) (y5 (nN σ)):=⟨fun _=>(yJ (c:=104)).spec True.intro⟩
instance c5V {g r:Nat}{σ:RS}:AnsL2 prog GL 177 [.lit (.int .u8 116)] g 151 r 201 (y5 (nN σ)) True (int (gI 116 1099511627776 (nN σ))) (y5 (eZ σ)):=⟨fun _=>(yJ (c:=116)).spec True.intro⟩
instance b4p {g:Nat}{σ:RS}:AnsM prog GL 128 g [.lit (.int .u8 114),int 32] 201 (y5 (eZ σ)) True (str (gT 114 32 (eZ σ))) (y5 (gU σ)):=⟨fun _=>(RP (c:=114) (most:=32)).spec True.intro⟩
instance b4o {g:Nat}{σ:RS}:AnsM prog GL 128 g [.lit (.int .u8 77),int 32] 201 (y5 (gU σ)) True (str (gT 77 32 (gU σ))) (y5 (oI σ)):=⟨fun _=>(RP (c:=77) (most:=32)).spec True.intro⟩
instance c5U {g r:Nat}{σ:RS}:AnsL2 prog GL 177 [.lit (.int .u8 113)] g 151 r 201 (y5 (oI σ)) True (int (gI 113 1099511627776 (oI σ))) (y5 (oH σ)):=⟨fun _=>(yJ (c:=113)).spec True.intro⟩
instance c5T {g r:Nat}{σ:RS}:AnsL2 prog GL 176 [.lit (.int .u8 115)] g 151 r 201 (y5 (oH σ)) True (str (gT 115 4000 (oH σ))) (y5 (oG σ)):=⟨fun _=>(lQ (c:=115)).spec True.intro⟩
instance c5S {g r:Nat}{σ:RS}:AnsL2 prog GL 176 [.lit (.int .u8 107)] g 151 r 201 (y5 (oG σ)) True (str (gT 107 4000 (oG σ))) (y5 (oF σ)):=⟨fun _=>(lQ (c:=107)).spec True.intro⟩
instance c5R {g r:Nat}{σ:RS}:AnsL2 prog GL 176 [.lit (.int .u8 100)] g 151 r 201 (y5 (oF σ)) True (str (gT 100 4000 (oF σ))) (y5 (gQ σ)):=⟨fun _=>(lQ (c:=100)).spec True.intro⟩
instance b4n {g:Nat}{σ:RS}:AnsM prog GL 128 g [.lit (.int .u8 97),int 32] 201 (y5 (gQ σ)) True (str (gT 97 32 (gQ σ))) (y5 (oD σ)):=⟨fun _=>(RP (c:=97) (most:=32)).spec True.intro⟩
instance c5Q {g r:Nat}{σ:RS}:AnsL2 prog GL 176 [.lit (.int .u8 102)] g 151 r 201 (y5 (oD σ)) True (str (gT 102 4000 (oD σ))) (y5 (oC σ)):=⟨fun _=>(lQ (c:=102)).spec True.intro⟩
instance c5P {g r:Nat}{σ:RS}:AnsL2 prog GL 176 [.lit (.int .u8 103)] g 151 r 201 (y5 (oC σ)) True (str (gT 103 4000 (oC σ))) (y5 (nZ σ)):=⟨fun _=>(lQ (c:=103)).spec True.intro⟩
instance c5N {g r:Nat}{σ:RS}:AnsL2 prog GL 177 [.lit (.int .u8 117)] g 151 r 201 (y5 (nZ σ)) True (int (gI 117 1099511627776 (nZ σ))) (y5 (nX σ)):=⟨fun _=>(yJ (c:=117)).spec True.intro⟩
instance c5M {g r:Nat}{σ:RS}:AnsL2 prog GL 177 [.lit (.int .u8 118)] g 151 r 201 (y5 (nX σ)) True (int (gI 118 1099511627776 (nX σ))) (y5 (nW σ)):=⟨fun _=>(yJ (c:=118)).spec True.intro⟩
instance c5L {g r:Nat}{σ:RS}:AnsL2 prog GL 176 [.lit (.int .u8 65)] g 151 r 201 (y5 (nW σ)) True (str (gT 65 4000 (nW σ))) (y5 (nV σ)):=⟨fun _=>(lQ (c:=65)).spec True.intro⟩
instance c5K {g r:Nat}{σ:RS}:AnsL2 prog GL 177 [.lit (.int .u8 84)] g 151 r 201 (y5 (nV σ)) True (int (gI 84 1099511627776 (nV σ))) (y5 (gP σ)):=⟨fun _=>(yJ (c:=84)).spec True.intro⟩
instance c5J {g r:Nat}{σ:RS}:AnsL2 prog GL 176 [.lit (.int .u8 70)] g 151 r 201 (y5 (gP σ)) True (str (gT 70 4000 (gP σ))) (y5 (gN σ)):=⟨fun _=>(lQ (c:=70)).spec True.intro⟩
instance c5I {g r:Nat}{σ:RS}:AnsL2 prog GL 176 [.lit (.int .u8 71)] g 151 r 201 (y5 (gN σ)) True (str (gT 71 4000 (gN σ))) (y5 (nU σ)):=⟨fun _=>(lQ (c:=71)).spec True.intro⟩
theorem a3o (n:Nat):decide ((if n=32 then (0:Int) else 10)=0)=decide (n=32):=by by_cases h:n=32 <;> simp[h]
theorem Xb (σ:RS):oM σ=((true&&decide ((if (gT 114 32 (eZ σ)).length=32 then (0:Int) else 10)=0)&&decide ((if (gT 77 32 (gU σ)).length=32 then (0:Int) else 10)=0)&&decide ((if (gT 97 32 (gQ σ)).length=32 then (0:Int) else 10)=0)&&decide (bT (gT 70 4000 (gP σ))=0)&&decide (jA (gT 71 4000 (gN σ))=0))&&decide (gZ (nU σ)=0)):=by
 simp only[a3o,Bool.true_and,Bool.and_assoc];rfl
theorem vB:Imp (.tup [.agg 100 [int 0,str [],str [],str [],str [],str [],int 0,.agg 35 [str [],int 0,int 0,hA J7],hA J7,.agg 12 [int 0,str [],str [],.agg 7 [str [],.agg 4 [.lit (.int .u64 0),.lit (.int .u64 0),.lit (.int .u64 0),.lit (.int .u64 0)],str [],str []],int 0,int 0],str [],int 0,.agg 3 [int 0,int 0,.lit (.slice none 0 0)],.agg 9 [int 0,.lit (.slice none 0 0),.lit (.slice none 0 0),.agg 3 [int 0,int 0,.lit (.slice none 0 0)],.agg 3 [int 0,int 0,.lit (.slice none 0 0)]]],int 10]) (.tup [U0 lY,int 10]):=by
 show Imp _ (.tup [.agg 100 [int 0,str [],str [],str [],str [],str [],int 0,.agg 35 [str [],int 0,int 0,hA J7],hA J7,.agg 12 [int 0,str [],str [],.agg 7 [str [],.agg 4 [.lit (.int .u64 0),.lit (.int .u64 0),.lit (.int .u64 0),.lit (.int .u64 0)],str [],str []],int 0,int 0],str [],int 0,.agg 3 [int 0,int 0,.sl 32 [] none],.agg 9 [int 0,.sl 2 [] none,.sl 2 [] none,.agg 3 [int 0,int 0,.sl 32 [] none],.agg 3 [int 0,int 0,.sl 32 [] none]]],int 10]);exact ImpR.imp
attribute [local irreducible] wV gT gI gZ sT sI R4 fF kC bT jA y5 mE nY nT nS nR nQ nP nO nN eZ gU oI oH oG oF gQ oD oC nZ nX nW nV gP gN nU
theorem Xa {G G':Prop}(h:G')(i:Wr G'->G:=by intro h;first|exact Av.W h.o|exact R9 h.o|exact vR h.o|exact a8u h.o|exact a8v h.o|exact yA h.o|exact yB h.o|exact tH h.o|exact wJ h.o):G:=i ⟨h⟩
set_option maxRecDepth 100000 in
instance b4A {s:Bs}:Ans prog GL 133 [str s] (s.length<=1000000000) (.tup [U0 (J5 (F8 s)),int (U7 (F8 s))]):=⟨fun hl=>by
 refine qE func133 rfl ntmps133 rfl (fun _ hs=>?_);repeat' (first|refine Xa ?_|refine G5 (fun _=>?_)|intro _|simp only[List.set]|fail)
 refine M3 (args:=[str s]) [] _ (by rw[hs];exact rY) (fun u m1 hh=>?_) lpr;obtain⟨gr,rfl,rfl⟩:=hh;rw[XE hl];generalize F8 s=σ;repeat' (first|refine Xa ?_|refine G5 (fun _=>?_)|intro _|simp only[List.set]|fail)
 rename_i g4 g5;refine eY (vs:=[.pointer (some ⟨g4,0,none⟩)]) ?_;repeat' (first|refine Xa ?_|refine G5 (fun _=>?_)|intro _|simp only[List.set]|fail)
 refine eY (vs:=[.pointer (some ⟨g4,0,none⟩)]) ?_;repeat' (first|refine Xa ?_|refine G5 (fun _=>?_)|intro _|simp only[List.set]|fail)
 refine eY (vs:=[.pointer (some ⟨g5,0,none⟩)]) ?_
 iterate 20 ((iterate 20 (try first|refine Xa ?_|refine G5 (fun _=>?_)|intro _));try simp only[List.set])
 have hk:=Xb σ;generalize (true&&decide ((if (gT 114 32 (eZ σ)).length=32 then (0:Int) else 10)=0)&&decide ((if (gT 77 32 (gU σ)).length=32 then (0:Int) else 10)=0)&&decide ((if (gT 97 32 (gQ σ)).length=32 then (0:Int) else 10)=0)&&decide (bT (gT 70 4000 (gP σ))=0)&&decide (jA (gT 71 4000 (gN σ))=0))=b at hk ⊢;cases b
 ·repeat' (first|refine Xa ?_|refine G5 (fun _=>?_)|intro _|simp only[List.set]|fail)
  have h0:J5 σ=lY/\U7 σ=10:=by unfold J5 U7;rw[hk];exact⟨rfl,rfl⟩
  rw[h0.1,h0.2]
  (refine U8 (.tup [U0 lY,int 10]) [] ?_ ⟨rfl,rfl⟩ (List.nil_sublist _);exact vB)
 ·repeat' (first|refine Xa ?_|refine G5 (fun _=>?_)|intro _|simp only[List.set]|fail)
  by_cases hq:gZ (nU σ)=0
  ·have h0:J5 σ=DY σ/\U7 σ=0:=by unfold J5 U7;rw[hk,dT hq];exact⟨rfl,rfl⟩
   rw[h0.1,h0.2];repeat' (first|refine Xa ?_|refine G5 (fun _=>?_)|intro _|simp only[List.set]|fail)
   refine o5 _ ⟨rfl,rfl⟩ ?_;exact r9
  ·have h0:J5 σ=lY/\U7 σ=10:=by unfold J5 U7;rw[hk,dZ hq];exact⟨rfl,rfl⟩
   rw[h0.1,h0.2];repeat' (first|refine Xa ?_|refine G5 (fun _=>?_)|intro _|simp only[List.set]|fail)
   (refine U8 (.tup [U0 lY,int 10]) [] ?_ ⟨rfl,rfl⟩ (List.nil_sublist _);exact vB)⟩
end Go.Proofs.YtocpacdnjbjjmaaGreatDoor

namespace Go.Proofs.YtocpacdnjbjjmaaGreatDoor
open Go Go.RowKit Tw Av Go.Proofs.Tryz
attribute [local irreducible] E5 J5 U7 F8 H5 O0
instance b8H {d:List Ent}{h:Int}{x:TxX}{r:Rep}{xs:List AV}[hx:Ents xs d]:Ans prog GL 135 [.agg 1 [.sl 2 xs none],int h,U0 x,J6 r] (DOk d) (V9 (pY d h x r)):=⟨fun hd=>by
 have h':=hx.out;subst h';refine qE func135 rfl ntmps135 rfl (fun _ hs=>?_);unfold pY;by_cases h1:x.k=13
 ·rw[if_pos h1,if_neg (show ¬ x.k=14 by omega),if_neg (show ¬ x.k=15 by omega)];repeat' first|refine Zz ?_|intro _
  refine d9 ?_;rfl
 by_cases h2:x.k=14
 ·rw[if_neg h1,if_pos h2];repeat' first|refine Zz ?_|intro _
  refine d9 ?_;rfl
 by_cases h3:x.k=15
 ·rw[if_neg h1,if_neg h2,if_pos h3];repeat' first|refine Zz ?_|intro _
  refine d9 ?_;rfl
 rw[if_neg h1,if_neg h2,if_neg h3];repeat' first|refine Zz ?_|intro _
 refine d9 ?_;rfl⟩
theorem Ea {α:Type}{a b c:α}{l:List α}:(a::b::c::l).Perm (c::a::b::l):=List.perm_middle (l₁:=[a,b])
theorem Az {go:Nat}{acc:List Rep}{v:Value}{r:Rep}(hn:acc.length<=1000000000):Av.Spec prog GL 132 [J6 r,ptr go]
  [.tail 107 3 v,.var go 40 (.sl 3 (acc.map J6) (some v))]
  fun u m=>∃ v',u=.tup []/\m=[.tail 107 3 v',.var go 40 (.sl 3 ((acc++[r]).map J6) (some v'))]:=by
 have hm:(acc.map J6).length=acc.length:=llm _;refine qE func132 rfl ntmps132 rfl (fun _ hs=>?_);repeat' first|refine Zz ?_|intro _
 refine I4 (fun v'=>?_);repeat' first|refine Zz ?_|intro _
 refine fU [.tail 107 3 v',.var go 40 (.sl 3 (acc.map J6++[J6 r]) (some v'))] ⟨v',rfl,by rw[List.map_append];rfl⟩ ?_;exact r9
theorem Aw {h t:Int}{q:Run3}{l:List Bs}{i:Nat}(hi:i<l.length):Q8 h t q (l.take (i+1))=jX h t (Q8 h t q (l.take i)) l[i]:=by
 rw[List.take_succ_eq_append_getElem hi,Zn];rfl
theorem Au {h t:Int}{q:Run3}{s:Bs}(hE:U7 (F8 s)≠0):jX h t q s=(q.1,q.2.1++[sJ 10],q.2.2):=by rw[jX,if_neg hE]
theorem Ar {h t:Int}{q:Run3}{s:Bs}(hE:U7 (F8 s)=0)(h0:(E5 q.1 (J5 (F8 s)) h t).2.e=0)(h1:13<=(J5 (F8 s)).k):jX h t q s=((E5 q.1 (J5 (F8 s)) h t).1,q.2.1++[(E5 q.1 (J5 (F8 s)) h t).2],q.2.2++[pY (E5 q.1 (J5 (F8 s)) h t).1 h (J5 (F8 s)) (E5 q.1 (J5 (F8 s)) h t).2]):=by rw[jX,if_pos hE,EQ,if_pos ⟨h0,h1⟩]
theorem KG {h t:Int}{q:Run3}{s:Bs}(hE:U7 (F8 s)=0)(h0:¬ ((E5 q.1 (J5 (F8 s)) h t).2.e=0/\13<=(J5 (F8 s)).k)):jX h t q s=((E5 q.1 (J5 (F8 s)) h t).1,q.2.1++[(E5 q.1 (J5 (F8 s)) h t).2],q.2.2):=by rw[jX,if_pos hE,EQ,if_neg h0]
set_option maxRecDepth 100000 in
theorem a4L {K:Int->Prop}(hDo:∀ {d:List Ent} {h t:Int} {x:TxX},Ans prog GL 134 [.agg 1 [.sl 2 (d.map C8) none],U0 x,int h,int t] (DOk d/\TxB x/\K x.k) (.tup [dA (E5 d x h t).1,J6 (E5 d x h t).2]))
  {d:List Ent} {l:List Bs} {h t:Int} {xs ys:List AV} {id:Option Value} [hx:Ents xs d] [hy:Strs ys l]:Ans prog GL 76 [.agg 1 [.sl 2 xs none],.agg 3 [int h,int t,.sl 1 ys id]] (DOk d/\l.length<=1000000/\∀ s∈l,s.length<=1000000000/\(U7 (F8 s)=0->K (J5 (F8 s)).k))
   (.tup [dA (M7 d ⟨h,t,l⟩).1,.sl 3 ((M7 d ⟨h,t,l⟩).2.1.map J6) none,.sl 15 ((M7 d ⟨h,t,l⟩).2.2.map V9) none]):=⟨fun hp=>by
 obtain⟨hd,hl,hk⟩:=hp;have h':=hx.out;subst h';have h':=hy.out;subst h';have hm:(l.map str).length=l.length:=llm _;refine qE func76 rfl ntmps76 rfl (fun _ hs=>?_);repeat' first|refine Zz ?_|intro _
 rename_i g2 g3 g4 g7;refine eY (vs:=[.pointer (some ⟨g7,0,none⟩)]) ?_;repeat' first|refine Zz ?_|intro _
 refine gM (g:=g7) (v':=.sl 3 [] (some (.slice none 0 0))) ImpC.nilT ?_;refine O5 (fun ok w h=>h.full 107 3 none 0) ?_;refine aM 8 (Imp.nil (k:=15)) ?_;refine O5 (fun ok w h=>h.full 190 15 none 0) ?_;refine O5 (fun ok w hh=>hh.perm (m':=[.tail 107 3 (.slice none 0 0),.var g7 40 (.sl 3 [] (some (.slice none 0 0))),.tail 190 15 (.slice none 0 0),.var g4 44 (.agg 1 [.lit (.slice none 0 0)]),.var g3 63 (.agg 3 [int h,int t,.sl 1 (l.map str) id]),.var g2 44 (dA d)]) Ea) ?_
 haveI hDoI:∀ {d:List Ent} {h t:Int} {x:TxX},Ans prog GL 134 [.agg 1 [.sl 2 (d.map C8) none],U0 x,int h,int t] (DOk d/\TxB x/\K x.k) (.tup [dA (E5 d x h t).1,J6 (E5 d x h t).2]):=hDo
 refine z8 (α:=Nat × Value × Value) (fun z=>[(2,ptr g2),(3,ptr g3),(4,ptr g4),(5,.lit (.slice none 0 0)),(6,.lit (.slice none 0 0)),(7,ptr g7),(8,.sl 15 ((Q8 h t (d,[],[]) (l.take z.1)).2.2.map V9) (some z.2.2)),(9,D6 132 [.pointer (some ⟨g7,0,none⟩)]),(17,.sl 1 (l.map str) id),(18,int l.length),(19,int z.1)])
  (fun z=>[.tail 107 3 z.2.1,.var g7 40 (.sl 3 ((Q8 h t (d,[],[]) (l.take z.1)).2.1.map J6) (some z.2.1)),.tail 190 15 z.2.2,.var g4 44 (.agg 1 [.lit (.slice none 0 0)]),.var g3 63 (.agg 3 [int h,int t,.sl 1 (l.map str) id]),.var g2 44 (dA (Q8 h t (d,[],[]) (l.take z.1)).1)])
  (fun z=>z.1<=l.length) (fun z=>l.length-z.1) (0,.slice none 0 0,.slice none 0 0) ⟨rfl,rfl,rfl,rfl,rfl,rfl,rfl,rfl,rfl,by rw[<- hm];rfl,rfl,trivial⟩ ?_ (Nat.zero_le _) ?_
 ·exact List.Sublist.refl _
 rintro⟨i,v7,v8⟩ hi;dsimp only at hi ⊢;repeat' first|refine Zz ?_|intro _
 refine o9 (fun h1=>?_) (fun h1=>?_)
 ·have hil:i<l.length:=om
  have hq:=Aw (h:=h) (t:=t) (q:=(d,[],[])) hil;have hdq:DOk (Q8 h t (d,[],[]) (l.take i)).1:=KI hd;have hlq:=xD (h:=h) (t:=t) (l:=l.take i) (q:=(d,[],[]));have hls:l[i].length<=1000000000:=(hk _ (List.getElem_mem hil)).1;have hkk:=(hk _ (List.getElem_mem hil)).2;generalize Q8 h t (d,[],[]) (l.take i)=q at *;have hl1:q.2.1.length<=1000000:=by
   have:=hlq.1;simp only[List.length_take,List.length_nil] at this;omega
  have hl2:q.2.2.length<=1000000:=by
   have:=hlq.2;simp only[List.length_take,List.length_nil] at this;omega
  have hm2:(q.2.2.map V9).length=q.2.2.length:=llm _;repeat' first|refine Zz ?_|intro _
  by_cases hE:U7 (F8 l[i])=0
  rotate_left
  ·have hq':=hq.trans (Au hE);repeat' first|refine Zz ?_|intro _
   refine kP (args:=[J6 (sJ 10)]) (cs:=[.pointer (some ⟨g7,0,none⟩)]) [.tail 107 3 v7,.var g7 40 (.sl 3 (q.2.1.map J6) (some v7))] _ (by rw[hs];exact Az om) (fun u m1 hh=>?_) Ea.symm;obtain⟨v',rfl,rfl⟩:=hh;repeat' first|refine Zz ?_|intro _
   refine o6 (i+1,v',v8) ?_ ?_ hil (by dsimp only;omega)
   ·dsimp only;rw[hq'];exact⟨rfl,rfl,rfl,rfl,rfl,rfl,rfl,rfl,rfl,rfl,rfl,trivial⟩
   ·dsimp only;rw[hq'];exact r9
  ·rw[hE];have hx3:DOk q.1/\TxB (J5 (F8 l[i]))/\K (J5 (F8 l[i])).k:=⟨hdq,Ba _,hkk hE⟩;have hdo:DOk (E5 q.1 (J5 (F8 l[i])) h t).1:=VJ hdq;repeat' first|refine Zz ?_|intro _
   refine kP (args:=[J6 (E5 q.1 (J5 (F8 l[i])) h t).2]) (cs:=[.pointer (some ⟨g7,0,none⟩)]) [.tail 107 3 v7,.var g7 40 (.sl 3 (q.2.1.map J6) (some v7))] _ (by rw[hs];exact Az om) (fun u m1 hh=>?_) (List.perm_append_comm_assoc [_,_] [_,_] _);obtain⟨v',rfl,rfl⟩:=hh;by_cases h0:(E5 q.1 (J5 (F8 l[i])) h t).2.e=0
   ·by_cases h1:13<=(J5 (F8 l[i])).k
    ·have hq':=hq.trans (Ar hE h0 h1);repeat' first|refine Zz ?_|intro _
     refine I4 (fun v''=>?_);repeat' first|refine Zz ?_|intro _
     refine o6 (i+1,v',v'') ?_ ?_ hil (by dsimp only;omega)
     ·dsimp only;rw[hq',List.map_append];exact⟨rfl,rfl,rfl,rfl,rfl,rfl,rfl,rfl,rfl,rfl,rfl,trivial⟩
     ·dsimp only;rw[hq'];exact r9
    ·have hq':=hq.trans (KG hE (fun hh=>h1 hh.2));repeat' first|refine Zz ?_|intro _
     refine o6 (i+1,v',v8) ?_ ?_ hil (by dsimp only;omega)
     ·dsimp only;rw[hq'];exact⟨rfl,rfl,rfl,rfl,rfl,rfl,rfl,rfl,rfl,rfl,rfl,trivial⟩
     ·dsimp only;rw[hq'];exact r9
   ·have hq':=hq.trans (KG hE (fun hh=>h0 hh.1));repeat' first|refine Zz ?_|intro _
    refine o6 (i+1,v',v8) ?_ ?_ hil (by dsimp only;omega)
    ·dsimp only;rw[hq'];exact⟨rfl,rfl,rfl,rfl,rfl,rfl,rfl,rfl,rfl,rfl,rfl,trivial⟩
    ·dsimp only;rw[hq'];exact r9
 ·have hi':i=l.length:=om
  subst hi';rw[List.take_length];repeat' first|refine Zz ?_|intro _
  refine E9 ?_;show Imp (.tup [dA (Q8 h t (d,[],[]) l).1,.sl 3 ((Q8 h t (d,[],[]) l).2.1.map J6) (some v7),.sl 15 ((Q8 h t (d,[],[]) l).2.2.map V9) (some v8)]) (.tup [dA (Q8 h t (d,[],[]) l).1,.sl 3 ((Q8 h t (d,[],[]) l).2.1.map J6) none,.sl 15 ((Q8 h t (d,[],[]) l).2.2.map V9) none]);exact ImpR.imp⟩
end Go.Proofs.YtocpacdnjbjjmaaGreatDoor

namespace Go.Proofs.YtocpacdnjbjjmaaGreatDoor
open Go Go.RowKit Tw Av Go.Proofs.Tryz
structure TxW (x:TxX):Prop where
 k:x.k<=9223372036854775807
 e:x.e<=9223372036854775807
 hh:x.h.h<=9223372036854775807
 ht:x.h.t<=9223372036854775807
 xq:x.x.q<=9223372036854775807
 xh:x.x.h<=9223372036854775807
 xt:x.x.t<=9223372036854775807
 t:x.t<=9223372036854775807
 f:x.f.p.length<=1000000/\x.f.a<=9223372036854775807/\x.f.m<=9223372036854775807
 g:GapW x.g
set_option maxRecDepth 100000 in
instance b6M {x:TxX}:Ans prog GL 42 [U0 x] (TxW x) (str (gV x)):=⟨fun hp=>by
 obtain⟨h1,h2,h3,h4,h5,h6,h7,h8,h9,h10⟩:=hp;refine qE func42 rfl ntmps42 rfl (fun _ hs=>?_);repeat' first|refine Yz ?_|intro _
 refine d9 ?_;rfl⟩
end Go.Proofs.YtocpacdnjbjjmaaGreatDoor

namespace Go.Proofs.YtocpacdnjbjjmaaGreatDoor
open Go Go.RowKit Tw Av
section
variable {P:Program} {N:Nat} {ops:Array Oper} {Q:Exit->Act->World->Prop} {rest:List Oper} {s:Av.Base} {e:Av.Env} {m:List Av.Piece} {d:Nat} {ty:TypeId} {pos:String} {af:Array Edge}
theorem IR {T yT:TypeId}{x y:Operand}{n b:Int}(h:AL P N ops Q s rest ((d,int (n%8))::e) m)(hx:Av.ev e x=some (int n):=by exact rfl)(hy:Av.ev e y=some (int b):=by exact rfl)(hb:b=7:=by exact rfl)(hd:Nat.blt d N=true:=by exact rfl):AL P N ops Q s (⟨some d,.binOp .and T x y yT,ty,pos,af,none⟩::rest) e m:=OL 3 h hx hy hb dc hd
end
theorem Vf:C9 (X4 0)=.agg 4 [.lit (.int .u64 0),.lit (.int .u64 0),.lit (.int .u64 0),.lit (.int .u64 0)]:=by kernel_rfl
theorem Ve:C9 (X4 1)=.agg 4 [.lit (.int .u64 1),.lit (.int .u64 0),.lit (.int .u64 0),.lit (.int .u64 0)]:=by kernel_rfl
theorem Vd:C9 (X4 2)=.agg 4 [.lit (.int .u64 2),.lit (.int .u64 0),.lit (.int .u64 0),.lit (.int .u64 0)]:=by kernel_rfl
theorem Vb:C9 (X4 3)=.agg 4 [.lit (.int .u64 3),.lit (.int .u64 0),.lit (.int .u64 0),.lit (.int .u64 0)]:=by kernel_rfl
theorem Uz:C9 (X4 4)=.agg 4 [.lit (.int .u64 4),.lit (.int .u64 0),.lit (.int .u64 0),.lit (.int .u64 0)]:=by kernel_rfl
theorem Uy:C9 (X4 5)=.agg 4 [.lit (.int .u64 5),.lit (.int .u64 0),.lit (.int .u64 0),.lit (.int .u64 0)]:=by kernel_rfl
theorem Ux:C9 (X4 6)=.agg 4 [.lit (.int .u64 6),.lit (.int .u64 0),.lit (.int .u64 0),.lit (.int .u64 0)]:=by kernel_rfl
theorem Uw:C9 (X4 7)=.agg 4 [.lit (.int .u64 7),.lit (.int .u64 0),.lit (.int .u64 0),.lit (.int .u64 0)]:=by kernel_rfl
theorem Uu {a:Int}(h0:0<=a)(h1:a<8):C9 (X4 a.toNat)=.agg 4 [.lit (.int .u64 a),.lit (.int .u64 0),.lit (.int .u64 0),.lit (.int .u64 0)]:=by
 have:a=0\/a=1\/a=2\/a=3\/a=4\/a=5\/a=6\/a=7:=by omega
 rcases this with rfl|rfl|rfl|rfl|rfl|rfl|rfl|rfl
 ·exact Vf
 ·exact Ve
 ·exact Vd
 ·exact Vb
 ·exact Uz
 ·exact Uy
 ·exact Ux
 ·exact Uw
attribute [local irreducible] gV ZM
end Go.Proofs.YtocpacdnjbjjmaaGreatDoor

namespace Go.Proofs.YtocpacdnjbjjmaaGreatDoor
open Go Go.RowKit Tw Av Go.Proofs.Tryz
instance b6G {x:Bs}:Ans prog GL 224 [str x] True (.tup [hA (R4 x),j3 (decide (x.length=32))]):=⟨fun _=>by
 refine qE func224 rfl ntmps224 rfl (fun _ hs=>?_);repeat' first|refine Yz ?_|intro _
 by_cases hx:x.length=32
 rotate_left
 ·rw[dZ hx];repeat' first|refine Yz ?_|intro _
  refine d9 ?_;unfold R4;rw[dif_neg hx];rfl
 rw[dT hx];repeat' first|refine Yz ?_|intro _
 rename_i g1 g2;refine z8 (α:=Nat) (fun i=>[(0,str x),(2,ptr g1),(3,.lit (.bool false)),(4,ptr g2),(5,int i)]) (fun i=>[.var g2 48 (.agg 32 ((dV x i).map p9)),.var g1 48 (hA J7)]) (fun i=>i<=32) (fun i=>32-i) 0 ⟨rfl,rfl,rfl,rfl,rfl,trivial⟩ ?_ (Nat.zero_le _) ?_
 focus
  exact r9
 intro i hi;repeat' first|refine Yz ?_|intro _
 refine o9 (fun hlt=>?_) (fun hlt=>?_)
 ·have hil:i<32:=om
  have hix:i<x.length:=om
  repeat' first|refine Yz ?_|intro _
  refine rQ i ?_ (List.getElem?_eq_getElem hix);repeat' first|refine Yz ?_|intro _
  refine O8 i ?_;refine lU (j:=i) (ps:=(dV x i).map p9) (by simp only[List.length_map];rw[MM hx hi];exact hil) ?_;repeat' first|refine Yz ?_|intro _
  rw[show ((dV x i).map p9).set i (p9 x[i])=((dV x i).set i x[i]).map p9 by rw[List.map_set],TV hx hil];exact o6 (i+1) ⟨rfl,rfl,rfl,rfl,rfl,trivial⟩ slr hil om
 ·obtain rfl:i=32:=by omega
  have hA1:AV.agg 32 ((dV x 32).map p9)=hA (R4 x):=by rw[TW hx,hA,MW hx]
  rw[hA1];repeat' first|refine Yz ?_|intro _
  refine d9 ?_;rfl⟩
instance b5d {c m:Int}{σ:RS}:Ans prog GL 225 [str (gT c m σ)] True (.tup [C9 (wV (gT c m σ)),int (if (gT c m σ).length=32 then 0 else 10)]):=⟨fun _=>a4i.spec (BX _ _ _)⟩
instance b5t {c m:Int}{σ:RS}:Ans prog GL 226 [str (gT c m σ)] True (.tup [iE (fF (gT c m σ)),int (bT (gT c m σ))]):=⟨fun _=>a4n.spec (BX _ _ _)⟩
instance b5o {c m:Int}{σ:RS}:Ans prog GL 227 [str (gT c m σ)] True (.tup [BU (kC (gT c m σ)),int (jA (gT c m σ))]):=⟨fun _=>a4l.spec (BX _ _ _)⟩
instance rS1 {g:Nat}{σ:RS}:AnsM prog GL 83 g [.lit (.int .u8 75),int 16] 169 (y5 σ) True (int (gI 75 16 σ)) (y5 (mE σ)):=⟨fun _=>(vK (c:=75) (most:=16)).spec dc⟩
instance rS2 {g:Nat}{σ:RS}:AnsM prog GL 149 g [.lit (.int .u8 73),int 4000] 169 (y5 (mE σ)) True (str (gT 73 4000 (mE σ))) (y5 (nY σ)):=⟨fun _=>(iB (c:=73) (most:=4000)).spec True.intro⟩
instance rS3 {g:Nat}{σ:RS}:AnsM prog GL 149 g [.lit (.int .u8 79),int 4000] 169 (y5 (nY σ)) True (str (gT 79 4000 (nY σ))) (y5 (nT σ)):=⟨fun _=>(iB (c:=79) (most:=4000)).spec True.intro⟩
instance rS4 {g:Nat}{σ:RS}:AnsM prog GL 149 g [.lit (.int .u8 81),int 4000] 169 (y5 (nT σ)) True (str (gT 81 4000 (nT σ))) (y5 (nS σ)):=⟨fun _=>(iB (c:=81) (most:=4000)).spec True.intro⟩
instance rS5 {g:Nat}{σ:RS}:AnsM prog GL 149 g [.lit (.int .u8 82),int 4000] 169 (y5 (nS σ)) True (str (gT 82 4000 (nS σ))) (y5 (nR σ)):=⟨fun _=>(iB (c:=82) (most:=4000)).spec True.intro⟩
instance rS6 {g:Nat}{σ:RS}:AnsM prog GL 149 g [.lit (.int .u8 89),int 4000] 169 (y5 (nR σ)) True (str (gT 89 4000 (nR σ))) (y5 (nQ σ)):=⟨fun _=>(iB (c:=89) (most:=4000)).spec True.intro⟩
instance rS7 {g:Nat}{σ:RS}:AnsM prog GL 83 g [.lit (.int .u8 69),int 1099511627776] 169 (y5 (nQ σ)) True (int (gI 69 1099511627776 (nQ σ))) (y5 (nP σ)):=⟨fun _=>(vK (c:=69) (most:=1099511627776)).spec dc⟩
instance rS8 {g:Nat}{σ:RS}:AnsM prog GL 149 g [.lit (.int .u8 99),int 4000] 169 (y5 (nP σ)) True (str (gT 99 4000 (nP σ))) (y5 (nO σ)):=⟨fun _=>(iB (c:=99) (most:=4000)).spec True.intro⟩
instance rS9 {g:Nat}{σ:RS}:AnsM prog GL 83 g [.lit (.int .u8 104),int 1099511627776] 169 (y5 (nO σ)) True (int (gI 104 1099511627776 (nO σ))) (y5 (nN σ)):=⟨fun _=>(vK (c:=104) (most:=1099511627776)).spec dc⟩
instance b4c {g:Nat}{σ:RS}:AnsM prog GL 83 g [.lit (.int .u8 116),int 1099511627776] 169 (y5 (nN σ)) True (int (gI 116 1099511627776 (nN σ))) (y5 (eZ σ)):=⟨fun _=>(vK (c:=116) (most:=1099511627776)).spec dc⟩
instance b4b {g:Nat}{σ:RS}:AnsM prog GL 149 g [.lit (.int .u8 114),int 32] 169 (y5 (eZ σ)) True (str (gT 114 32 (eZ σ))) (y5 (gU σ)):=⟨fun _=>(iB (c:=114) (most:=32)).spec True.intro⟩
instance b4a {g:Nat}{σ:RS}:AnsM prog GL 149 g [.lit (.int .u8 77),int 32] 169 (y5 (gU σ)) True (str (gT 77 32 (gU σ))) (y5 (oI σ)):=⟨fun _=>(iB (c:=77) (most:=32)).spec True.intro⟩
instance b3Z {g:Nat}{σ:RS}:AnsM prog GL 83 g [.lit (.int .u8 113),int 1099511627776] 169 (y5 (oI σ)) True (int (gI 113 1099511627776 (oI σ))) (y5 (oH σ)):=⟨fun _=>(vK (c:=113) (most:=1099511627776)).spec dc⟩
instance b3Y {g:Nat}{σ:RS}:AnsM prog GL 149 g [.lit (.int .u8 115),int 4000] 169 (y5 (oH σ)) True (str (gT 115 4000 (oH σ))) (y5 (oG σ)):=⟨fun _=>(iB (c:=115) (most:=4000)).spec True.intro⟩
instance b3X {g:Nat}{σ:RS}:AnsM prog GL 149 g [.lit (.int .u8 107),int 4000] 169 (y5 (oG σ)) True (str (gT 107 4000 (oG σ))) (y5 (oF σ)):=⟨fun _=>(iB (c:=107) (most:=4000)).spec True.intro⟩
instance b3W {g:Nat}{σ:RS}:AnsM prog GL 149 g [.lit (.int .u8 100),int 4000] 169 (y5 (oF σ)) True (str (gT 100 4000 (oF σ))) (y5 (gQ σ)):=⟨fun _=>(iB (c:=100) (most:=4000)).spec True.intro⟩
instance b3V {g:Nat}{σ:RS}:AnsM prog GL 149 g [.lit (.int .u8 97),int 32] 169 (y5 (gQ σ)) True (str (gT 97 32 (gQ σ))) (y5 (oD σ)):=⟨fun _=>(iB (c:=97) (most:=32)).spec True.intro⟩
instance b3U {g:Nat}{σ:RS}:AnsM prog GL 149 g [.lit (.int .u8 102),int 4000] 169 (y5 (oD σ)) True (str (gT 102 4000 (oD σ))) (y5 (oC σ)):=⟨fun _=>(iB (c:=102) (most:=4000)).spec True.intro⟩
instance b3T {g:Nat}{σ:RS}:AnsM prog GL 149 g [.lit (.int .u8 103),int 4000] 169 (y5 (oC σ)) True (str (gT 103 4000 (oC σ))) (y5 (nZ σ)):=⟨fun _=>(iB (c:=103) (most:=4000)).spec True.intro⟩
instance b3R {g:Nat}{σ:RS}:AnsM prog GL 83 g [.lit (.int .u8 117),int 1099511627776] 169 (y5 (nZ σ)) True (int (gI 117 1099511627776 (nZ σ))) (y5 (nX σ)):=⟨fun _=>(vK (c:=117) (most:=1099511627776)).spec dc⟩
instance b3Q {g:Nat}{σ:RS}:AnsM prog GL 83 g [.lit (.int .u8 118),int 1099511627776] 169 (y5 (nX σ)) True (int (gI 118 1099511627776 (nX σ))) (y5 (nW σ)):=⟨fun _=>(vK (c:=118) (most:=1099511627776)).spec dc⟩
instance b3P {g:Nat}{σ:RS}:AnsM prog GL 149 g [.lit (.int .u8 65),int 4000] 169 (y5 (nW σ)) True (str (gT 65 4000 (nW σ))) (y5 (nV σ)):=⟨fun _=>(iB (c:=65) (most:=4000)).spec True.intro⟩
instance b3O {g:Nat}{σ:RS}:AnsM prog GL 83 g [.lit (.int .u8 84),int 1099511627776] 169 (y5 (nV σ)) True (int (gI 84 1099511627776 (nV σ))) (y5 (gP σ)):=⟨fun _=>(vK (c:=84) (most:=1099511627776)).spec dc⟩
instance b3N {g:Nat}{σ:RS}:AnsM prog GL 149 g [.lit (.int .u8 70),int 4000] 169 (y5 (gP σ)) True (str (gT 70 4000 (gP σ))) (y5 (gN σ)):=⟨fun _=>(iB (c:=70) (most:=4000)).spec True.intro⟩
instance b3M {g:Nat}{σ:RS}:AnsM prog GL 149 g [.lit (.int .u8 71),int 4000] 169 (y5 (gN σ)) True (str (gT 71 4000 (gN σ))) (y5 (nU σ)):=⟨fun _=>(iB (c:=71) (most:=4000)).spec True.intro⟩
instance b4d {g:Nat}{s:Bs}:AnsM prog GL 83 g [.lit (.int .u8 75),int 16] 169 (A9 s false) (s.length<=1000000000) (int (gI 75 16 (F8 s))) (y5 (mE (F8 s))):=⟨fun hl=>by
 have h:=(rS1 (g:=g) (σ:=F8 s)).spec True.intro;rw[<- XE hl] at h;exact h⟩
theorem oL {σ:RS}(h:gZ (nU σ)≠0\/(gT 114 32 (eZ σ)).length≠32\/(gT 77 32 (gU σ)).length≠32\/(gT 97 32 (gQ σ)).length≠32\/bT (gT 70 4000 (gP σ))≠0\/jA (gT 71 4000 (gN σ))≠0):J5 σ=lY/\U7 σ=10:=by
 have hk:oM σ=false:=by
  cases e:oM σ
  ·rfl
  ·exfalso
   unfold oM wS DD DI DC DF at e;simp only[Bool.and_eq_true,decide_eq_true_eq] at e;obtain⟨e1,e2,e3,e4,e5,e6⟩:=e;rcases h with h|h|h|h|h|h
   ·exact h e6
   ·exact h e1
   ·exact h e2
   ·exact h e3
   ·exact h e4
   ·exact h e5
 unfold J5 U7;rw[hk];exact⟨rfl,rfl⟩
theorem YN {σ:RS}(h6:gZ (nU σ)=0)(h1:(gT 114 32 (eZ σ)).length=32)(h2:(gT 77 32 (gU σ)).length=32)(h3:(gT 97 32 (gQ σ)).length=32)(h4:bT (gT 70 4000 (gP σ))=0)(h5:jA (gT 71 4000 (gN σ))=0):J5 σ=DY σ/\U7 σ=0:=by
 have hk:oM σ=true:=by
  unfold oM wS DD DI DC DF;rw[dT h1,dT h2,dT h3,dT h4,dT h5,dT h6];rfl
 unfold J5 U7;rw[hk];exact⟨rfl,rfl⟩
attribute [local irreducible] wV gT gI gZ sT sI R4 fF kC bT jA y5 mE nY nT nS nR nQ nP nO nN eZ gU oI oH oG oF gQ oD oC nZ nX nW nV gP gN nU
set_option maxRecDepth 100000 in
instance b6C {s:Bs}:Ans prog GL 150 [str s] (s.length<=1000000000) (.tup [U0 (J5 (F8 s)),int (U7 (F8 s))]):=⟨fun hl=>by
 refine qE func150 rfl ntmps150 rfl (fun _ hs=>?_)
 iterate 24 ((iterate 20 (try first|refine Xa ?_|refine G5 (fun _=>?_)|intro _));try simp only[List.set])
 generalize F8 s=σ;by_cases h6:gZ (nU σ)=0
 rotate_left
 ·rw[(oL (.inl h6)).1,(oL (.inl h6)).2];repeat' (first|refine Xa ?_|refine G5 (fun _=>?_)|intro _|simp only[List.set]|fail)
  (refine U8 (.tup [U0 lY,int 10]) [] ?_ ⟨rfl,rfl⟩ (List.nil_sublist _);exact vB)
 by_cases h1:(gT 114 32 (eZ σ)).length=32
 rotate_left
 ·rw[(oL (.inr (.inl h1))).1,(oL (.inr (.inl h1))).2];repeat' (first|refine Xa ?_|refine G5 (fun _=>?_)|intro _|simp only[List.set]|fail)
  (refine U8 (.tup [U0 lY,int 10]) [] ?_ ⟨rfl,rfl⟩ (List.nil_sublist _);exact vB)
 by_cases h2:(gT 77 32 (gU σ)).length=32
 rotate_left
 ·rw[(oL (.inr (.inr (.inl h2)))).1,(oL (.inr (.inr (.inl h2)))).2];repeat' (first|refine Xa ?_|refine G5 (fun _=>?_)|intro _|simp only[List.set]|fail)
  (refine U8 (.tup [U0 lY,int 10]) [] ?_ ⟨rfl,rfl⟩ (List.nil_sublist _);exact vB)
 by_cases h3:(gT 97 32 (gQ σ)).length=32
 rotate_left
 ·rw[(oL (.inr (.inr (.inr (.inl h3))))).1,(oL (.inr (.inr (.inr (.inl h3))))).2];repeat' (first|refine Xa ?_|refine G5 (fun _=>?_)|intro _|simp only[List.set]|fail)
  (refine U8 (.tup [U0 lY,int 10]) [] ?_ ⟨rfl,rfl⟩ (List.nil_sublist _);exact vB)
 by_cases h4:bT (gT 70 4000 (gP σ))=0
 rotate_left
 ·rw[(oL (.inr (.inr (.inr (.inr (.inl h4)))))).1,(oL (.inr (.inr (.inr (.inr (.inl h4)))))).2];repeat' (first|refine Xa ?_|refine G5 (fun _=>?_)|intro _|simp only[List.set]|fail)
  (refine U8 (.tup [U0 lY,int 10]) [] ?_ ⟨rfl,rfl⟩ (List.nil_sublist _);exact vB)
 by_cases h5:jA (gT 71 4000 (gN σ))=0
 rotate_left
 ·rw[(oL (.inr (.inr (.inr (.inr (.inr h5)))))).1,(oL (.inr (.inr (.inr (.inr (.inr h5)))))).2];repeat' (first|refine Xa ?_|refine G5 (fun _=>?_)|intro _|simp only[List.set]|fail)
  (refine U8 (.tup [U0 lY,int 10]) [] ?_ ⟨rfl,rfl⟩ (List.nil_sublist _);exact vB)
 rw[(YN h6 h1 h2 h3 h4 h5).1,(YN h6 h1 h2 h3 h4 h5).2];repeat' (first|refine Xa ?_|refine G5 (fun _=>?_)|intro _|simp only[List.set]|fail)
 refine d9 ?_;rfl⟩
end Go.Proofs.YtocpacdnjbjjmaaGreatDoor

namespace Go.Proofs.YtocpacdnjbjjmaaGreatDoor
open Go Go.RowKit Tw Av
abbrev qA (o:Out18):AV:=.agg 4 [Z9 o.1,J6 o.2]
def fQ (e:Int):Out18:=([],sJ e)
def pQ (d:List Ent)(k v:Bs):Out18:=if (U2 d k v).2=0 then ((U2 d k v).1,vM) else fQ (U2 d k v).2
def vY (d:List Ent)(q:Out18):Out18:=if q.2.e=0 then q else K8 d q.2.e
theorem Kk {d:List Ent}{e:Int}(h:e≠0):vY d (fQ e)=K8 d e:=by
 unfold vY fQ sJ;rw[if_neg h]
theorem Kj {d:List Ent}{r:List Ent × Int}:vY d (r.1,sJ r.2)=oP d r vM:=by
 unfold vY oP sJ;dsimp only;split
 ·rename_i h;rw[h];rfl
 ·rfl
def lT (d:List Ent)(x:TxX):Out18:=if W9 x.x.d=false\/Y3 x.x.g=false\/(x.k=1/\0<iK x.x.d)\/(x.k=2/\Y3 x.x.f=false) then fQ 1 else if x.k=1 then ((iI d x.x.g x.x.d x.x.a).1,sJ (iI d x.x.g x.x.d x.x.a).2) else ((eQ d x.x.f x.x.g x.x.d x.x.a).1,sJ (eQ d x.x.f x.x.g x.x.d x.x.a).2)
theorem a4W {d:List Ent}{x:TxX}(h:x.k=1):vY d (lT d x)=rF d x.x:=by
 unfold lT rF;by_cases h1:W9 x.x.d=false\/0<iK x.x.d\/Y3 x.x.g=false
 ·rw[if_pos h1,if_pos (by rcases h1 with h1|h1|h1;exact .inl h1;exact .inr (.inr (.inl ⟨h,h1⟩));exact .inr (.inl h1)),Kk dc]
 ·rw[if_neg h1,if_neg (fun e=>h1 (by rcases e with e|e|e|e;exact .inl e;exact .inr (.inr e);exact .inr (.inl e.2);exact absurd (h.symm.trans e.1) dc)),if_pos h,Kj]
theorem a4U {d:List Ent}{x:TxX}(h:x.k=2):vY d (lT d x)=rD d x.x:=by
 have hn:¬ x.k=1:=by rw[h];decide
 unfold lT rD;by_cases h1:W9 x.x.d=false\/Y3 x.x.f=false\/Y3 x.x.g=false
 ·rw[if_pos h1,if_pos (by rcases h1 with h1|h1|h1;exact .inl h1;exact .inr (.inr (.inr ⟨h,h1⟩));exact .inr (.inl h1)),Kk dc]
 ·rw[if_neg h1,if_neg (fun e=>h1 (by rcases e with e|e|e|e;exact .inl e;exact .inr (.inr e);exact absurd e.1 hn;exact .inr (.inl e.2))),if_neg hn,Kj]
def CJ (d:List Ent)(x:TxX)(t:Int):Out18:=
 if x.k=4 then (if V6 d x.i=false then fQ 12 else if fA (aA d x.i) x.h x.m t≠0 then fQ (fA (aA d x.i) x.h x.m t) else pQ d (J3 [67] x.i) (wG (jR (aA d x.i) x.h x.m t)))
 else if H9 x.i=false then fQ 1 else if V6 d x.i=true then fQ 13 else if xO x.y x.e x.h≠0 then fQ (xO x.y x.e x.h) else pQ d (J3 [67] x.i) (wG (BD x.y x.e x.h))
def Ot (d:List Ent)(x:TxX)(i k:Bs)(try':Bool)(t:Int):Out18:=
 if try'=false then (if (BR x.o x.q).2≠0 then fQ (BR x.o x.q).2 else pQ d (J3 k x.i) (iL (BR x.o x.q).1))
 else if bY d i x.t t (J3 k x.p) (iL ⟨1,x.q,x.o,[]⟩) x.f≠0 then fQ (bY d i x.t t (J3 k x.p) (iL ⟨1,x.q,x.o,[]⟩) x.f)
 else if (zM x.o x.p ⟨1,x.q,x.o,[]⟩).2≠0 then fQ (zM x.o x.p ⟨1,x.q,x.o,[]⟩).2
 else pQ d (J3 k x.i) (iL (zM x.o x.p ⟨1,x.q,x.o,[]⟩).1)
def WO (d:List Ent)(x:TxX)(b:Bool)(t:Int):Out18:=if H9 x.i=false then fQ 1 else if O0 d [75] x.i=true then fQ 13 else if V6 d x.o=false then fQ 12 else Ot d x x.o [75] b t
def WP (d:List Ent)(x:TxX)(b:Bool)(t:Int):Out18:=if H9 x.i=false then fQ 1 else if O0 d [72] x.i=true then fQ 13 else if O0 d [75] x.o=false then fQ 12 else if (H5 d [75] x.o).s≠3 then fQ 13 else Ot d x (H5 d [75] x.o).o [72] b t
def Gt (d:List Ent)(x:TxX)(i k pp:Bs)(th:EndX)(r:EndX × Int)(t:Int):Out18:=if bY d i x.t t (J3 k pp) (iL th) x.f≠0 then fQ (bY d i x.t t (J3 k pp) (iL th) x.f) else if r.2≠0 then fQ r.2 else pQ d (J3 k x.i) (iL r.1)
def Gu (d:List Ent)(x:TxX)(own:EndX)(i k:Bs)(ack:Bool)(t:Int):Out18:=if ack=true then Gt d x i k x.p ⟨2,own.q,own.o,x.i⟩ (IW own x.i x.p ⟨2,own.q,own.o,x.i⟩) t else Gt d x i k own.p ⟨3,own.q,own.o,x.i⟩ (IJ own x.i ⟨3,own.q,own.o,x.i⟩) t
def SF (d:List Ent)(x:TxX)(b:Bool)(t:Int):Out18:=if O0 d [75] x.i=false then fQ 12 else Gu d x (H5 d [75] x.i) (H5 d [75] x.i).o [75] b t
def SH (d:List Ent)(x:TxX)(b:Bool)(t:Int):Out18:=if O0 d [72] x.i=false then fQ 12 else if O0 d [75] (H5 d [72] x.i).o=false then fQ 12 else Gu d x (H5 d [72] x.i) (H5 d [75] (H5 d [72] x.i).o).o [72] b t
end Go.Proofs.YtocpacdnjbjjmaaGreatDoor
