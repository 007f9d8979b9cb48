/- . -/
import Derived.Test.YtgcmdlboancepaaGreatDoorQ34
set_option maxHeartbeats 64000000
namespace Go.Proofs.Z
open Go Go.RowKit Tw Av Go.Proofs.Tryz
section
variable {g r:Nat}{c m:Int}
section
variable {σ:RS}
section
variable {P:Program} {N:Nat} {ops:Array Oper} {Q:Exit->Act->World->Prop} {rest:List Oper} {s:Av.Base} {e:Av.Env} {m:List Av.Piece} {d:Nat} {ty:TypeId} {pos:String} {af:Array Edge} {gl:List (Nat × AV)}
class AnsL (P:Program)(gl:List (Nat × AV))(f:FuncId)(args:List AV)(g:Nat)(T:TypeId)(v:AV)(pre:outParam Prop)(out:outParam AV)(v':outParam AV):Prop where
 spec:pre->Av.Spec P gl f (args++[ptr g]) [.var g T v] λu m=>u=out/\m=[.var g T v']
class AnsL2 (P:Program)(gl:List (Nat × AV))(f:FuncId)(args:List AV)(g:Nat)(T:TypeId)(r:Nat)(R:TypeId)(v:AV)(pre:outParam Prop)(out:outParam AV)(v':outParam AV):Prop where
 spec:pre->Av.Spec P gl f (args++[ptr g]) [.var r R v,.var g T (ptr r)] λu m=>u=out/\m=[.var r R v',.var g T (ptr r)]
theorem a9W {f:FuncId}[hf:FnB P f]{x:Operand}{xs:List Operand}{ts:Array TypeId}{args:List AV}{T:TypeId}{v v' out:AV}{pre:Prop}{m':List Av.Piece}(h:AL P N ops Q s rest ((d,out)::e) m')(h0:Av.ev e x=some (E5 f [.pointer (some ⟨g,0,none⟩)]):=by exact rfl)(hx:Av.evs e xs=some args:=by exact rfl)
  (hu:Av.Upd m (.var g T v) (.var g T v') m':=by (repeat (first|apply Av.Upd.here|apply Av.Upd.there))) (hg:s.gl=gl:=by assumption) (hc:AnsL P gl f args g T v pre out v':=by infer_instance) (hp:pre:=by first|exact True.intro|assumption|omega) (hn:args.all U8=true:=by exact rfl) (hd:Nat.blt d N=true:=by exact rfl) :
  AL P N ops Q s (⟨some d,.call ⟨.value x,xs.toArray,ts⟩,ty,pos,af,none⟩::rest) e m:=by
 obtain⟨fr,h1,h2⟩:=hu.perm;refine gU (args:=args) (cs:=[.pointer (some ⟨g,0,none⟩)]) [.var g T v] fr (K:=λu m=>u=out/\m=[.var g T v']) (by rw[hg];exact hc.spec hp) (λu m1 hh=>?_) h1 h0 hx hn (by simp[Value.oneCell']) hd;obtain⟨rfl,rfl⟩:=hh;exact fF (λok w hS=>hS.perm h2) h
theorem a9V {f:FuncId}[hf:FnB P f]{x:Operand}{xs:List Operand}{ts:Array TypeId}{args:List AV}{T R:TypeId}{v v' out:AV}{pre:Prop}{m':List Av.Piece}(h:AL P N ops Q s rest ((d,out)::e) m')(h0:Av.ev e x=some (E5 f [.pointer (some ⟨g,0,none⟩)]):=by exact rfl)(hx:Av.evs e xs=some args:=by exact rfl)
  (hq:Av.Has m (.var g T (ptr r)):=by (repeat (first|exact Av.Has.here|apply Av.Has.there))) (hu:Av.Upd m (.var r R v) (.var r R v') m':=by (repeat (first|apply Av.Upd.here|apply Av.Upd.there))) (hg:s.gl=gl:=by assumption) (hc:AnsL2 P gl f args g T r R v pre out v':=by infer_instance)
  (hp:pre:=by first|exact True.intro|assumption|omega) (hne:Nat.beq T R=false:=by exact rfl) (hn:args.all U8=true:=by exact rfl) (hd:Nat.blt d N=true:=by exact rfl) :
  AL P N ops Q s (⟨some d,.call ⟨.value x,xs.toArray,ts⟩,ty,pos,af,none⟩::rest) e m:=by
 obtain⟨fr,h1,h2⟩:=hu.perm;have hTR:T≠R:=λe=>by rw[e,Nat.beq_refl] at hne;cases hne
 have hq':Av.Piece.var g T (ptr r)∈fr:=by
  have:=h1.mem_iff.1 hq.mem;rcases List.mem_cons.1 this with h|h
  ·injection h with _ h
   exact absurd h hTR
  exact h
 obtain⟨fr2,hf2⟩:∃ fr2,fr.Perm (.var g T (ptr r)::fr2):=by
  obtain⟨a,b,rfl⟩:=List.append_of_mem hq';exact⟨a++b,List.perm_middle⟩
 refine gU (args:=args) (cs:=[.pointer (some ⟨g,0,none⟩)]) [.var r R v,.var g T (ptr r)] fr2 (K:=λu m=>u=out/\m=[.var r R v',.var g T (ptr r)]) (by rw[hg];exact hc.spec hp) (λu m1 hh=>?_) (h1.trans (hf2.cons _)) h0 hx hn (by simp[Value.oneCell']) hd;obtain⟨rfl,rfl⟩:=hh;exact fF (λok w hS=>hS.perm (h2.trans (hf2.cons _))) h
end
instance pJ :AnsL2 prog GL 324 [.lit (.int .u8 c)] g 223 r 311 (A8 σ) True (str (gT c 4000 σ)) (A8 (sT c 4000 σ)):=⟨λ_=>by
 show Av.Spec _ _ _ [.lit (.int .u8 c),ptr g] _ _;refine ze func324 ntmps324 λ_ hs=>?_;repeat' first|refine Z ?_|intro
 refine l9 _ ⟨rfl,rfl⟩ ?_;exact zd⟩
instance DD :AnsL2 prog GL 325 [.lit (.int .u8 c)] g 223 r 311 (A8 σ) True (int (gI c 1099511627776 σ)) (A8 (sI c 1099511627776 σ)):=⟨λ_=>by
 show Av.Spec _ _ _ [.lit (.int .u8 c),ptr g] _ _;refine ze func325 ntmps325 λ_ hs=>?_;repeat' first|refine Z ?_|intro
 refine l9 _ ⟨rfl,rfl⟩ ?_;exact zd⟩
instance d0j {b:Bool}:AnsL prog GL 326 [int c] g 4 (d9 b) True (.tup []) (d9 (b&&decide (c=0))):=⟨λ_=>by
 show Av.Spec _ _ _ [int c,ptr g] _ _;refine ze func326 ntmps326 λ_ hs=>?_;repeat' first|refine Z ?_|intro
 cases b
 ·repeat' first|refine Z ?_|intro
  refine jS _ ⟨rfl,rfl⟩ ?_;exact u7
 repeat' first|refine Z ?_|intro
 refine jS _ ⟨rfl,rfl⟩ ?_;exact zd⟩
instance b6g :Ans prog GL 327 [str (gT c m σ)] True (.tup [z8 (wV (gT c m σ)),int (if (gT c m σ).length=32 then 0 else 10)]):=⟨λ_=>a5t.spec (FZ _ _ _)⟩
instance b9p :Ans prog GL 328 [str (gT c m σ)] True (.tup [Z9 (jH (gT c m σ)),int (fG (gT c m σ))]):=⟨λ_=>a5Z.spec (FZ _ _ _)⟩
instance b6X :Ans prog GL 329 [str (gT c m σ)] True (.tup [eZ (nI (gT c m σ)),int (mG (gT c m σ))]):=⟨λ_=>a5D.spec (FZ _ _ _)⟩
/- each reading by its place: the reader's states have names,so that the terms stay small -/
instance mS1 :AnsM prog GL 140 g [.lit (.int .u8 75),int 16] 311 (A8 σ) True (int (gI 75 16 σ)) (A8 (qB σ)):=⟨λ_=>(a1M (c:=75) (most:=16)).spec dc⟩
instance cS2 :AnsL2 prog GL 324 [.lit (.int .u8 73)] g 223 r 311 (A8 (qB σ)) True (str (gT 73 4000 (qB σ))) (A8 (nC σ)):=⟨λ_=>(pJ (c:=73)).spec True.intro⟩
instance cS3 :AnsL2 prog GL 324 [.lit (.int .u8 79)] g 223 r 311 (A8 (nC σ)) True (str (gT 79 4000 (nC σ))) (A8 (sG σ)):=⟨λ_=>(pJ (c:=79)).spec True.intro⟩
instance cS4 :AnsL2 prog GL 324 [.lit (.int .u8 81)] g 223 r 311 (A8 (sG σ)) True (str (gT 81 4000 (sG σ))) (A8 (sF σ)):=⟨λ_=>(pJ (c:=81)).spec True.intro⟩
instance cS5 :AnsL2 prog GL 324 [.lit (.int .u8 82)] g 223 r 311 (A8 (sF σ)) True (str (gT 82 4000 (sF σ))) (A8 (sD σ)):=⟨λ_=>(pJ (c:=82)).spec True.intro⟩
instance cS6 :AnsL2 prog GL 324 [.lit (.int .u8 89)] g 223 r 311 (A8 (sD σ)) True (str (gT 89 4000 (sD σ))) (A8 (rZ σ)):=⟨λ_=>(pJ (c:=89)).spec True.intro⟩
instance cS7 :AnsL2 prog GL 325 [.lit (.int .u8 69)] g 223 r 311 (A8 (rZ σ)) True (int (gI 69 1099511627776 (rZ σ))) (A8 (rY σ)):=⟨λ_=>(DD (c:=69)).spec True.intro⟩
instance cS8 :AnsL2 prog GL 324 [.lit (.int .u8 99)] g 223 r 311 (A8 (rY σ)) True (str (gT 99 4000 (rY σ))) (A8 (rX σ)):=⟨λ_=>(pJ (c:=99)).spec True.intro⟩
instance cS9 :AnsL2 prog GL 325 [.lit (.int .u8 104)] g 223 r 311 (A8 (rX σ)) True (int (gI 104 1099511627776 (rX σ))) (A8 (rW σ)):=⟨λ_=>(DD (c:=104)).spec True.intro⟩
instance d0F :AnsL2 prog GL 325 [.lit (.int .u8 116)] g 223 r 311 (A8 (rW σ)) True (int (gI 116 1099511627776 (rW σ))) (A8 (kM σ)):=⟨λ_=>(DD (c:=116)).spec True.intro⟩
instance b5Z :AnsM prog GL 181 g [.lit (.int .u8 114),int 32] 311 (A8 (kM σ)) True (str (gT 114 32 (kM σ))) (A8 (kK σ)):=⟨λ_=>(VH (c:=114) (most:=32)).spec True.intro⟩
instance b5Y :AnsM prog GL 181 g [.lit (.int .u8 77),int 32] 311 (A8 (kK σ)) True (str (gT 77 32 (kK σ))) (A8 (sW σ)):=⟨λ_=>(VH (c:=77) (most:=32)).spec True.intro⟩
instance d0E :AnsL2 prog GL 325 [.lit (.int .u8 113)] g 223 r 311 (A8 (sW σ)) True (int (gI 113 1099511627776 (sW σ))) (A8 (sV σ)):=⟨λ_=>(DD (c:=113)).spec True.intro⟩
instance d0D :AnsL2 prog GL 324 [.lit (.int .u8 115)] g 223 r 311 (A8 (sV σ)) True (str (gT 115 4000 (sV σ))) (A8 (sU σ)):=⟨λ_=>(pJ (c:=115)).spec True.intro⟩
instance d0C :AnsL2 prog GL 324 [.lit (.int .u8 107)] g 223 r 311 (A8 (sU σ)) True (str (gT 107 4000 (sU σ))) (A8 (sS σ)):=⟨λ_=>(pJ (c:=107)).spec True.intro⟩
instance d0B :AnsL2 prog GL 324 [.lit (.int .u8 100)] g 223 r 311 (A8 (sS σ)) True (str (gT 100 4000 (sS σ))) (A8 (kJ σ)):=⟨λ_=>(pJ (c:=100)).spec True.intro⟩
instance b5X :AnsM prog GL 181 g [.lit (.int .u8 97),int 32] 311 (A8 (kJ σ)) True (str (gT 97 32 (kJ σ))) (A8 (sP σ)):=⟨λ_=>(VH (c:=97) (most:=32)).spec True.intro⟩
instance d0A :AnsL2 prog GL 324 [.lit (.int .u8 102)] g 223 r 311 (A8 (sP σ)) True (str (gT 102 4000 (sP σ))) (A8 (sO σ)):=⟨λ_=>(pJ (c:=102)).spec True.intro⟩
instance d0z :AnsL2 prog GL 324 [.lit (.int .u8 103)] g 223 r 311 (A8 (sO σ)) True (str (gT 103 4000 (sO σ))) (A8 (sN σ)):=⟨λ_=>(pJ (c:=103)).spec True.intro⟩
instance d0x :AnsL2 prog GL 325 [.lit (.int .u8 117)] g 223 r 311 (A8 (sN σ)) True (int (gI 117 1099511627776 (sN σ))) (A8 (sM σ)):=⟨λ_=>(DD (c:=117)).spec True.intro⟩
instance d0w :AnsL2 prog GL 325 [.lit (.int .u8 118)] g 223 r 311 (A8 (sM σ)) True (int (gI 118 1099511627776 (sM σ))) (A8 (sK σ)):=⟨λ_=>(DD (c:=118)).spec True.intro⟩
instance d0v :AnsL2 prog GL 324 [.lit (.int .u8 65)] g 223 r 311 (A8 (sK σ)) True (str (gT 65 4000 (sK σ))) (A8 (sJ σ)):=⟨λ_=>(pJ (c:=65)).spec True.intro⟩
instance d0u :AnsL2 prog GL 325 [.lit (.int .u8 84)] g 223 r 311 (A8 (sJ σ)) True (int (gI 84 1099511627776 (sJ σ))) (A8 (kI σ)):=⟨λ_=>(DD (c:=84)).spec True.intro⟩
instance d0t :AnsL2 prog GL 324 [.lit (.int .u8 70)] g 223 r 311 (A8 (kI σ)) True (str (gT 70 4000 (kI σ))) (A8 (kH σ)):=⟨λ_=>(pJ (c:=70)).spec True.intro⟩
instance d0s :AnsL2 prog GL 324 [.lit (.int .u8 71)] g 223 r 311 (A8 (kH σ)) True (str (gT 71 4000 (kH σ))) (A8 (sH σ)):=⟨λ_=>(pJ (c:=71)).spec True.intro⟩
theorem a4V (n:Nat):decide ((if n=32 then (0:Int) else 10)=0)=decide (n=32):=by by_cases h:n=32 <;> simp[h]
theorem Zf (σ:RS):uP σ=((true&&decide ((if (gT 114 32 (kM σ)).length=32 then (0:Int) else 10)=0)&&decide ((if (gT 77 32 (kK σ)).length=32 then (0:Int) else 10)=0)&&decide ((if (gT 97 32 (kJ σ)).length=32 then (0:Int) else 10)=0)&&decide (fG (gT 70 4000 (kI σ))=0)&&decide (mG (gT 71 4000 (kH σ))=0))&&decide (gZ (sH σ)=0)):=by
 simp only[a4V,Bool.true_and,Bool.and_assoc];rfl
theorem yQ:Imp (.tup [.agg 100 [int 0,str [],str [],str [],str [],str [],int 0,.agg 35 [str [],int 0,int 0,hA E9],hA E9,.agg 12 [int 0,str [],str [],.agg 7 [str [],.agg 4 [.lit (.int .u64 0),.lit (.int .u64 0),.lit (.int .u64 0),.lit (.int .u64 0)],str [],str []],int 0,int 0],str [],int 0,.agg 3 [int 0,int 0,.lit (.slice none 0 0)],.agg 9 [int 0,.lit (.slice none 0 0),.lit (.slice none 0 0),.agg 3 [int 0,int 0,.lit (.slice none 0 0)],.agg 3 [int 0,int 0,.lit (.slice none 0 0)]]],int 10]) (.tup [x9 Y5,int 10]):=by
 show Imp _ (.tup [.agg 100 [int 0,str [],str [],str [],str [],str [],int 0,.agg 35 [str [],int 0,int 0,hA E9],hA E9,.agg 12 [int 0,str [],str [],.agg 7 [str [],.agg 4 [.lit (.int .u64 0),.lit (.int .u64 0),.lit (.int .u64 0),.lit (.int .u64 0)],str [],str []],int 0,int 0],str [],int 0,.agg 3 [int 0,int 0,.sl 32 [] none],.agg 9 [int 0,.sl 2 [] none,.sl 2 [] none,.agg 3 [int 0,int 0,.sl 32 [] none],.agg 3 [int 0,int 0,.sl 32 [] none]]],int 10]);exact ImpR.imp
end
attribute [local irreducible] wV gT gI gZ sT sI W9 jH nI fG mG A8 qB nC sG sF sD rZ rY rX rW kM kK sW sV sU sS kJ sP sO sN sM sK sJ kI kH sH
theorem Xa {G G':Prop}(h:G')(i:Wr G'->G:=by intro h;first|exact Av.W h.o|exact J8 h.o|exact lG h.o|exact a9V h.o|exact a9W h.o|exact CP h.o|exact CQ h.o|exact uL h.o|exact wW h.o):G:=i ⟨h⟩
set_option maxRecDepth 100000 in
instance b6l {s:Bs}:Ans prog GL 236 [str s] (s.length<=1000000000) (.tup [x9 (K6 (I6 s)),int (aG (I6 s))]):=⟨λhl=>by
 refine ze func236 ntmps236 λ_ hs=>?_;repeat' (first|refine Xa ?_|refine D6 (λ_=>?_)|intro _|simp only[List.set]|fail)
 refine H6 (args:=[str s]) [] _ (by rw[hs];exact wH) (λu m1 hh=>?_) lpr;obtain⟨gr,rfl,rfl⟩:=hh;rw[Cb hl];generalize I6 s=τ;repeat' (first|refine Xa ?_|refine D6 (λ_=>?_)|intro _|simp only[List.set]|fail)
 rename_i g4 g5;refine Y3 (vs:=[.pointer (some ⟨g4,0,none⟩)]) ?_;repeat' (first|refine Xa ?_|refine D6 (λ_=>?_)|intro _|simp only[List.set]|fail)
 refine Y3 (vs:=[.pointer (some ⟨g4,0,none⟩)]) ?_;repeat' (first|refine Xa ?_|refine D6 (λ_=>?_)|intro _|simp only[List.set]|fail)
 refine Y3 (vs:=[.pointer (some ⟨g5,0,none⟩)]) ?_
 iterate 20 ((iterate 20 (try first|refine Xa ?_|refine D6 (λ_=>?_)|intro _));try simp only[List.set])
 have hk:=Zf τ;generalize (true&&decide ((if (gT 114 32 (kM τ)).length=32 then (0:Int) else 10)=0)&&decide ((if (gT 77 32 (kK τ)).length=32 then (0:Int) else 10)=0)&&decide ((if (gT 97 32 (kJ τ)).length=32 then (0:Int) else 10)=0)&&decide (fG (gT 70 4000 (kI τ))=0)&&decide (mG (gT 71 4000 (kH τ))=0))=b at hk ⊢;cases b
 ·repeat' (first|refine Xa ?_|refine D6 (λ_=>?_)|intro _|simp only[List.set]|fail)
  have h0:K6 τ=Y5/\aG τ=10:=by unfold K6 aG;rw[hk];exact⟨rfl,rfl⟩
  rw[h0.1,h0.2]
  (refine U6 (.tup [x9 Y5,int 10]) [] ?_ ⟨rfl,rfl⟩ (List.nil_sublist _);exact yQ)
 repeat' (first|refine Xa ?_|refine D6 (λ_=>?_)|intro _|simp only[List.set]|fail)
 by_cases hq:gZ (sH τ)=0
 ·have h0:K6 τ=EH τ/\aG τ=0:=by unfold K6 aG;rw[hk,dT hq];exact⟨rfl,rfl⟩
  rw[h0.1,h0.2];repeat' (first|refine Xa ?_|refine D6 (λ_=>?_)|intro _|simp only[List.set]|fail)
  refine l9 _ ⟨rfl,rfl⟩ ?_;exact u7
 have h0:K6 τ=Y5/\aG τ=10:=by unfold K6 aG;rw[hk,dZ hq];exact⟨rfl,rfl⟩
 rw[h0.1,h0.2];repeat' (first|refine Xa ?_|refine D6 (λ_=>?_)|intro _|simp only[List.set]|fail)
 (refine U6 (.tup [x9 Y5,int 10]) [] ?_ ⟨rfl,rfl⟩ (List.nil_sublist _);exact yQ)⟩
end

section
variable {h t:Int}{q:Run3}{s:Bs}
attribute [local irreducible] H9 K6 aG I6 C9 M0
instance c1D {d:List Ent}{x:TxX}{r:Rep}{xs:List AV}[hx:Ents xs d]:Ans prog GL 237 [.agg 1 [.sl 2 xs none],int h,x9 x,P5 r] (DOk d) (Q0 (pE d h x r)):=⟨λhd=>by
 have h':=hx.out;subst h';refine ze func237 ntmps237 λ_ hs=>?_;unfold pE;by_cases h1:x.k=13
 ·rw[if_pos h1,if_neg (show ¬ x.k=14 by omega),if_neg (show ¬ x.k=15 by omega)];exact j4
 by_cases h2:x.k=14
 ·rw[if_neg h1,if_pos h2];exact j4
 by_cases h3:x.k=15
 ·rw[if_neg h1,if_neg h2,if_pos h3];exact j4
 rw[if_neg h1,if_neg h2,if_neg h3];exact j4⟩
theorem Jo {α:Type}{a b c:α}{l:List α}:(a::b::c::l).Perm (c::a::b::l):=List.perm_middle (l₁:=[a,b])
theorem Fj {go:Nat}{acc:List Rep}{v:Value}{r:Rep}(hn:acc.length<=1000000000):Av.Spec prog GL 235 [P5 r,ptr go]
  [.tail 67 3 v,.var go 74 (.sl 3 (acc.map P5) (some v))]
  λu m=>∃ v',u=.tup []/\m=[.tail 67 3 v',.var go 74 (.sl 3 ((acc++[r]).map P5) (some v'))]:=by
 have hm:(acc.map P5).length=acc.length:=llm _;refine ze func235 ntmps235 λ_ hs=>?_;repeat' first|refine Z ?_|intro
 refine H7 (λv'=>?_);repeat' first|refine Z ?_|intro
 refine jS [.tail 67 3 v',.var go 74 (.sl 3 (acc.map P5++[P5 r]) (some v'))] ⟨v',rfl,by rw[List.map_append];rfl⟩ ?_;exact u7
theorem Ff {l:List Bs}{i:Nat}(hi:i<l.length):V6 h t q (l.take (i+1))=iC h t (V6 h t q (l.take i)) l[i]:=by
 rw[List.take_succ_eq_append_getElem hi,a1j];rfl
theorem Fe (hE:aG (I6 s)≠0):iC h t q s=(q.1,q.2.1++[xK 10],q.2.2):=by rw[iC,if_neg hE]
theorem Fb (hE:aG (I6 s)=0)(h0:(H9 q.1 (K6 (I6 s)) h t).2.e=0)(h1:13<=(K6 (I6 s)).k):iC h t q s=((H9 q.1 (K6 (I6 s)) h t).1,q.2.1++[(H9 q.1 (K6 (I6 s)) h t).2],q.2.2++[pE (H9 q.1 (K6 (I6 s)) h t).1 h (K6 (I6 s)) (H9 q.1 (K6 (I6 s)) h t).2]):=by rw[iC,if_pos hE,zD,if_pos ⟨h0,h1⟩]
theorem NR (hE:aG (I6 s)=0)(h0:¬ ((H9 q.1 (K6 (I6 s)) h t).2.e=0/\13<=(K6 (I6 s)).k)):iC h t q s=((H9 q.1 (K6 (I6 s)) h t).1,q.2.1++[(H9 q.1 (K6 (I6 s)) h t).2],q.2.2):=by rw[iC,if_pos hE,zD,if_neg h0]
set_option maxRecDepth 100000 in
theorem a6n {K:Int->Prop}(hDo:∀ {d:List Ent} {h t:Int} {x:TxX},Ans prog GL 14 [.agg 1 [.sl 2 (d.map D5) none],x9 x,int h,int t] (DOk d/\TxB x/\K x.k) (.tup [dA (H9 d x h t).1,P5 (H9 d x h t).2]))
  {d:List Ent} {l:List Bs} {h t:Int} {xs ys:List AV} {id:Option Value} [hx:Ents xs d] [hy:Strs ys l]:Ans prog GL 126 [.agg 1 [.sl 2 xs none],.agg 3 [int h,int t,.sl 1 ys id]] (DOk d/\l.length<=1000000/\∀ s∈l,s.length<=1000000000/\(aG (I6 s)=0->K (K6 (I6 s)).k))
   (.tup [dA (M7 d ⟨h,t,l⟩).1,.sl 3 ((M7 d ⟨h,t,l⟩).2.1.map P5) none,.sl 15 ((M7 d ⟨h,t,l⟩).2.2.map Q0) none]):=⟨λhp=>by
 obtain⟨hd,hl,hk⟩:=hp;have h':=hx.out;subst h';have h':=hy.out;subst h';have hm:(l.map str).length=l.length:=llm _;refine ze func126 ntmps126 λ_ hs=>?_;repeat' first|refine Z ?_|intro
 rename_i g2 g3 g4 g7;refine Y3 (vs:=[.pointer (some ⟨g7,0,none⟩)]) ?_;repeat' first|refine Z ?_|intro
 refine dY (g:=g7) (v':=.sl 3 [] (some (.slice none 0 0))) ImpC.nilT ?_;refine P6 (λok w h=>h.full 67 3 none 0) ?_;refine Y4 8 (Imp.nil (k:=15)) ?_;refine P6 (λok w h=>h.full 106 15 none 0) ?_;refine P6 (λok w hh=>hh.perm (m':=[.tail 67 3 (.slice none 0 0),.var g7 74 (.sl 3 [] (some (.slice none 0 0))),.tail 106 15 (.slice none 0 0),.var g4 64 (.agg 1 [.lit (.slice none 0 0)]),.var g3 129 (.agg 3 [int h,int t,.sl 1 (l.map str) id]),.var g2 64 (dA d)]) Jo) ?_
 haveI hDoI:∀ {d:List Ent} {h t:Int} {x:TxX},Ans prog GL 14 [.agg 1 [.sl 2 (d.map D5) none],x9 x,int h,int t] (DOk d/\TxB x/\K x.k) (.tup [dA (H9 d x h t).1,P5 (H9 d x h t).2]):=hDo
 refine y9 (α:=Nat × Value × Value) (λz=>[(2,ptr g2),(3,ptr g3),(4,ptr g4),(5,.lit (.slice none 0 0)),(6,.lit (.slice none 0 0)),(7,ptr g7),(8,.sl 15 ((V6 h t (d,[],[]) (l.take z.1)).2.2.map Q0) (some z.2.2)),(9,E5 235 [.pointer (some ⟨g7,0,none⟩)]),(17,.sl 1 (l.map str) id),(18,int l.length),(19,int z.1)])
  (λz=>[.tail 67 3 z.2.1,.var g7 74 (.sl 3 ((V6 h t (d,[],[]) (l.take z.1)).2.1.map P5) (some z.2.1)),.tail 106 15 z.2.2,.var g4 64 (.agg 1 [.lit (.slice none 0 0)]),.var g3 129 (.agg 3 [int h,int t,.sl 1 (l.map str) id]),.var g2 64 (dA (V6 h t (d,[],[]) (l.take z.1)).1)])
  (λz=>z.1<=l.length) (λz=>l.length-z.1) (0,.slice none 0 0,.slice none 0 0) ⟨rfl,rfl,rfl,rfl,rfl,rfl,rfl,rfl,rfl,by rw[<- hm];rfl,rfl,trivial⟩ ?_ (Nat.zero_le _) ?_
 ·exact List.Sublist.refl _
 rintro⟨i,v7,v8⟩ hi;dsimp only at hi ⊢;repeat' first|refine Z ?_|intro
 refine w9 (λh1=>?_) (λh1=>?_)
 ·have hil:i<l.length:=om
  have hq:=Ff (h:=h) (t:=t) (q:=(d,[],[])) hil;have hdq:DOk (V6 h t (d,[],[]) (l.take i)).1:=NT hd;have hlq:=ET (h:=h) (t:=t) (l:=l.take i) (q:=(d,[],[]));have hls:l[i].length<=1000000000:=(hk _ (List.getElem_mem hil)).1;have hkk:=(hk _ (List.getElem_mem hil)).2;generalize V6 h t (d,[],[]) (l.take i)=q at *;have hl1:q.2.1.length<=1000000:=by
   have:=hlq.1;simp only[List.length_take,List.length_nil] at this;omega
  have hl2:q.2.2.length<=1000000:=by
   have:=hlq.2;simp only[List.length_take,List.length_nil] at this;omega
  have hm2:(q.2.2.map Q0).length=q.2.2.length:=llm _;repeat' first|refine Z ?_|intro
  by_cases hE:aG (I6 l[i])=0
  rotate_left
  ·have hq':=hq.trans (Fe hE);repeat' first|refine Z ?_|intro
   refine gU (args:=[P5 (xK 10)]) (cs:=[.pointer (some ⟨g7,0,none⟩)]) [.tail 67 3 v7,.var g7 74 (.sl 3 (q.2.1.map P5) (some v7))] _ (by rw[hs];exact Fj om) (λu m1 hh=>?_) Jo.symm;obtain⟨v',rfl,rfl⟩:=hh;repeat' first|refine Z ?_|intro
   refine o9 (i+1,v',v8) ?_ ?_ hil (by dsimp only;omega)
   ·dsimp only;rw[hq'];exact zc
   dsimp only;rw[hq'];exact u7
  rw[hE];have hx3:DOk q.1/\TxB (K6 (I6 l[i]))/\K (K6 (I6 l[i])).k:=⟨hdq,Fu _,hkk hE⟩;have hdo:DOk (H9 q.1 (K6 (I6 l[i])) h t).1:=YP hdq;repeat' first|refine Z ?_|intro
  refine gU (args:=[P5 (H9 q.1 (K6 (I6 l[i])) h t).2]) (cs:=[.pointer (some ⟨g7,0,none⟩)]) [.tail 67 3 v7,.var g7 74 (.sl 3 (q.2.1.map P5) (some v7))] _ (by rw[hs];exact Fj om) (λu m1 hh=>?_) (List.perm_append_comm_assoc [_,_] [_,_] _);obtain⟨v',rfl,rfl⟩:=hh;by_cases h0:(H9 q.1 (K6 (I6 l[i])) h t).2.e=0
  ·by_cases h1:13<=(K6 (I6 l[i])).k
   ·have hq':=hq.trans (Fb hE h0 h1);repeat' first|refine Z ?_|intro
    refine H7 (λv''=>?_);repeat' first|refine Z ?_|intro
    refine o9 (i+1,v',v'') ?_ ?_ hil (by dsimp only;omega)
    ·dsimp only;rw[hq',List.map_append];exact zc
    dsimp only;rw[hq'];exact u7
   have hq':=hq.trans (NR hE (λhh=>h1 hh.2));repeat' first|refine Z ?_|intro
   refine o9 (i+1,v',v8) ?_ ?_ hil (by dsimp only;omega)
   ·dsimp only;rw[hq'];exact zc
   dsimp only;rw[hq'];exact u7
  have hq':=hq.trans (NR hE (λhh=>h0 hh.1));repeat' first|refine Z ?_|intro
  refine o9 (i+1,v',v8) ?_ ?_ hil (by dsimp only;omega)
  ·dsimp only;rw[hq'];exact zc
  dsimp only;rw[hq'];exact u7
 have hi':i=l.length:=om
 subst hi';rw[List.take_length];repeat' first|refine Z ?_|intro
 refine F9 ?_;show Imp (.tup [dA (V6 h t (d,[],[]) l).1,.sl 3 ((V6 h t (d,[],[]) l).2.1.map P5) (some v7),.sl 15 ((V6 h t (d,[],[]) l).2.2.map Q0) (some v8)]) (.tup [dA (V6 h t (d,[],[]) l).1,.sl 3 ((V6 h t (d,[],[]) l).2.1.map P5) none,.sl 15 ((V6 h t (d,[],[]) l).2.2.map Q0) none]);exact ImpR.imp⟩
end

structure TxW (x:TxX):Prop where
 k:x.k<=9223372036854775807
 e:x.e<=9223372036854775807
 hh:x.h.h<=9223372036854775807
 ht:x.h.t<=9223372036854775807
 xq:x.x.q<=9223372036854775807
 xh:x.x.h<=9223372036854775807
 xt:x.x.t<=9223372036854775807
 t:x.t<=9223372036854775807
 f:x.f.p.length<=1000000/\x.f.a<=9223372036854775807/\x.f.m<=9223372036854775807
 g:GapW x.g
set_option maxRecDepth 100000 in
instance b8R {x:TxX}:Ans prog GL 72 [x9 x] (TxW x) (str (F8 x)):=⟨λhp=>by
 obtain⟨h1,h2,h3,h4,h5,h6,h7,h8,h9,h10⟩:=hp;refine ze func72 ntmps72 λ_ hs=>?_;exact Z5⟩
end Go.Proofs.Z

namespace Go.Proofs.Z
open Go Go.RowKit Tw Av
section
variable {P:Program} {N:Nat} {ops:Array Oper} {Q:Exit->Act->World->Prop} {rest:List Oper} {s:Av.Base} {e:Av.Env} {m:List Av.Piece} {d:Nat} {ty:TypeId} {pos:String} {af:Array Edge}
theorem RO {T yT:TypeId}{x y:Operand}{n b:Int}(h:AL P N ops Q s rest ((d,int (n%8))::e) m)(hx:Av.ev e x=some (int n):=by exact rfl)(hy:Av.ev e y=some (int b):=by exact rfl)(hb:b=7:=by exact rfl)(hd:Nat.blt d N=true:=by exact rfl):AL P N ops Q s (⟨some d,.binOp .and T x y yT,ty,pos,af,none⟩::rest) e m:=Az 3 h hx hy hb dc hd
end
theorem Ym:z8 (Q5 0)=.agg 4 [.lit (.int .u64 0),.lit (.int .u64 0),.lit (.int .u64 0),.lit (.int .u64 0)]:=by kernel_rfl
theorem Yl:z8 (Q5 1)=.agg 4 [.lit (.int .u64 1),.lit (.int .u64 0),.lit (.int .u64 0),.lit (.int .u64 0)]:=by kernel_rfl
theorem Yk:z8 (Q5 2)=.agg 4 [.lit (.int .u64 2),.lit (.int .u64 0),.lit (.int .u64 0),.lit (.int .u64 0)]:=by kernel_rfl
theorem Yj:z8 (Q5 3)=.agg 4 [.lit (.int .u64 3),.lit (.int .u64 0),.lit (.int .u64 0),.lit (.int .u64 0)]:=by kernel_rfl
theorem Yi:z8 (Q5 4)=.agg 4 [.lit (.int .u64 4),.lit (.int .u64 0),.lit (.int .u64 0),.lit (.int .u64 0)]:=by kernel_rfl
theorem Yh:z8 (Q5 5)=.agg 4 [.lit (.int .u64 5),.lit (.int .u64 0),.lit (.int .u64 0),.lit (.int .u64 0)]:=by kernel_rfl
theorem Yg:z8 (Q5 6)=.agg 4 [.lit (.int .u64 6),.lit (.int .u64 0),.lit (.int .u64 0),.lit (.int .u64 0)]:=by kernel_rfl
theorem Yf:z8 (Q5 7)=.agg 4 [.lit (.int .u64 7),.lit (.int .u64 0),.lit (.int .u64 0),.lit (.int .u64 0)]:=by kernel_rfl
theorem Yd {a:Int}(h0:0<=a)(h1:a<8):z8 (Q5 a.toNat)=.agg 4 [.lit (.int .u64 a),.lit (.int .u64 0),.lit (.int .u64 0),.lit (.int .u64 0)]:=by
 have:a=0\/a=1\/a=2\/a=3\/a=4\/a=5\/a=6\/a=7:=by omega
 rcases this with rfl|rfl|rfl|rfl|rfl|rfl|rfl|rfl
 ·exact Ym
 ·exact Yl
 ·exact Yk
 ·exact Yj
 ·exact Yi
 ·exact Yh
 ·exact Yg
 exact Yf
attribute [local irreducible] F8 Dw
end Go.Proofs.Z

namespace Go.Proofs.Z
open Go Go.RowKit Tw Av Go.Proofs.Tryz
section
variable {c m:Int}{g:Nat}
instance b8J {x:Bs}:Ans prog GL 342 [str x] True (.tup [hA (W9 x),d9 (decide (x.length=32))]):=⟨λ_=>by
 refine ze func342 ntmps342 λ_ hs=>?_;repeat' first|refine Yz ?_|intro
 by_cases hx:x.length=32
 rotate_left
 ·rw[dZ hx];repeat' first|refine Yz ?_|intro
  refine j6 ?_;unfold W9;rw[dif_neg hx];rfl
 rw[dT hx];repeat' first|refine Yz ?_|intro
 rename_i g1 g2;refine y9 (α:=Nat) (λi=>[(0,str x),(2,ptr g1),(3,.lit (.bool false)),(4,ptr g2),(5,int i)]) (λi=>[.var g2 40 (.agg 32 ((iH x i).map A7)),.var g1 40 (hA E9)]) (λi=>i<=32) (λi=>32-i) 0 zc ?_ (Nat.zero_le _) ?_
 focus
  exact u7
 intro i hi;repeat' first|refine Yz ?_|intro
 refine w9 (λhlt=>?_) (λhlt=>?_)
 ·have hil:i<32:=om
  have hix:i<x.length:=om
  repeat' first|refine Yz ?_|intro
  refine vY i ?_ (List.getElem?_eq_getElem hix);repeat' first|refine Yz ?_|intro
  refine O1 i ?_;refine kD (j:=i) (ps:=(iH x i).map A7) (by simp only[List.length_map];rw[PY hx hi];exact hil) ?_;repeat' first|refine Yz ?_|intro
  rw[show ((iH x i).map A7).set i (A7 x[i])=((iH x i).set i x[i]).map A7 by rw[List.map_set],XC hx hil];exact o9 (i+1) zc slr hil om
 obtain rfl:i=32:=by omega
 have hA1:AV.agg 32 ((iH x 32).map A7)=hA (W9 x):=by rw[XD hx,hA,QC hx]
 rw[hA1];exact Z5⟩
section
variable {σ:RS}
instance b6Z :Ans prog GL 338 [str (gT c m σ)] True (.tup [z8 (wV (gT c m σ)),int (if (gT c m σ).length=32 then 0 else 10)]):=⟨λ_=>a5E.spec (FZ _ _ _)⟩
instance b7r :Ans prog GL 343 [str (gT c m σ)] True (.tup [Z9 (jH (gT c m σ)),int (fG (gT c m σ))]):=⟨λ_=>a5I.spec (FZ _ _ _)⟩
instance b7l :Ans prog GL 344 [str (gT c m σ)] True (.tup [eZ (nI (gT c m σ)),int (mG (gT c m σ))]):=⟨λ_=>a5G.spec (FZ _ _ _)⟩
instance rS1 :AnsM prog GL 156 g [.lit (.int .u8 75),int 16] 238 (A8 σ) True (int (gI 75 16 σ)) (A8 (qB σ)):=⟨λ_=>(zF (c:=75) (most:=16)).spec dc⟩
instance rS2 :AnsM prog GL 259 g [.lit (.int .u8 73),int 4000] 238 (A8 (qB σ)) True (str (gT 73 4000 (qB σ))) (A8 (nC σ)):=⟨λ_=>(kW (c:=73) (most:=4000)).spec True.intro⟩
instance rS3 :AnsM prog GL 259 g [.lit (.int .u8 79),int 4000] 238 (A8 (nC σ)) True (str (gT 79 4000 (nC σ))) (A8 (sG σ)):=⟨λ_=>(kW (c:=79) (most:=4000)).spec True.intro⟩
instance rS4 :AnsM prog GL 259 g [.lit (.int .u8 81),int 4000] 238 (A8 (sG σ)) True (str (gT 81 4000 (sG σ))) (A8 (sF σ)):=⟨λ_=>(kW (c:=81) (most:=4000)).spec True.intro⟩
instance rS5 :AnsM prog GL 259 g [.lit (.int .u8 82),int 4000] 238 (A8 (sF σ)) True (str (gT 82 4000 (sF σ))) (A8 (sD σ)):=⟨λ_=>(kW (c:=82) (most:=4000)).spec True.intro⟩
instance rS6 :AnsM prog GL 259 g [.lit (.int .u8 89),int 4000] 238 (A8 (sD σ)) True (str (gT 89 4000 (sD σ))) (A8 (rZ σ)):=⟨λ_=>(kW (c:=89) (most:=4000)).spec True.intro⟩
instance rS7 :AnsM prog GL 156 g [.lit (.int .u8 69),int 1099511627776] 238 (A8 (rZ σ)) True (int (gI 69 1099511627776 (rZ σ))) (A8 (rY σ)):=⟨λ_=>(zF (c:=69) (most:=1099511627776)).spec dc⟩
instance rS8 :AnsM prog GL 259 g [.lit (.int .u8 99),int 4000] 238 (A8 (rY σ)) True (str (gT 99 4000 (rY σ))) (A8 (rX σ)):=⟨λ_=>(kW (c:=99) (most:=4000)).spec True.intro⟩
instance rS9 :AnsM prog GL 156 g [.lit (.int .u8 104),int 1099511627776] 238 (A8 (rX σ)) True (int (gI 104 1099511627776 (rX σ))) (A8 (rW σ)):=⟨λ_=>(zF (c:=104) (most:=1099511627776)).spec dc⟩
instance b5N :AnsM prog GL 156 g [.lit (.int .u8 116),int 1099511627776] 238 (A8 (rW σ)) True (int (gI 116 1099511627776 (rW σ))) (A8 (kM σ)):=⟨λ_=>(zF (c:=116) (most:=1099511627776)).spec dc⟩
instance b5M :AnsM prog GL 259 g [.lit (.int .u8 114),int 32] 238 (A8 (kM σ)) True (str (gT 114 32 (kM σ))) (A8 (kK σ)):=⟨λ_=>(kW (c:=114) (most:=32)).spec True.intro⟩
instance b5L :AnsM prog GL 259 g [.lit (.int .u8 77),int 32] 238 (A8 (kK σ)) True (str (gT 77 32 (kK σ))) (A8 (sW σ)):=⟨λ_=>(kW (c:=77) (most:=32)).spec True.intro⟩
instance b5K :AnsM prog GL 156 g [.lit (.int .u8 113),int 1099511627776] 238 (A8 (sW σ)) True (int (gI 113 1099511627776 (sW σ))) (A8 (sV σ)):=⟨λ_=>(zF (c:=113) (most:=1099511627776)).spec dc⟩
instance b5J :AnsM prog GL 259 g [.lit (.int .u8 115),int 4000] 238 (A8 (sV σ)) True (str (gT 115 4000 (sV σ))) (A8 (sU σ)):=⟨λ_=>(kW (c:=115) (most:=4000)).spec True.intro⟩
instance b5I :AnsM prog GL 259 g [.lit (.int .u8 107),int 4000] 238 (A8 (sU σ)) True (str (gT 107 4000 (sU σ))) (A8 (sS σ)):=⟨λ_=>(kW (c:=107) (most:=4000)).spec True.intro⟩
instance b5H :AnsM prog GL 259 g [.lit (.int .u8 100),int 4000] 238 (A8 (sS σ)) True (str (gT 100 4000 (sS σ))) (A8 (kJ σ)):=⟨λ_=>(kW (c:=100) (most:=4000)).spec True.intro⟩
instance b5G :AnsM prog GL 259 g [.lit (.int .u8 97),int 32] 238 (A8 (kJ σ)) True (str (gT 97 32 (kJ σ))) (A8 (sP σ)):=⟨λ_=>(kW (c:=97) (most:=32)).spec True.intro⟩
instance b5F :AnsM prog GL 259 g [.lit (.int .u8 102),int 4000] 238 (A8 (sP σ)) True (str (gT 102 4000 (sP σ))) (A8 (sO σ)):=⟨λ_=>(kW (c:=102) (most:=4000)).spec True.intro⟩
instance b5E :AnsM prog GL 259 g [.lit (.int .u8 103),int 4000] 238 (A8 (sO σ)) True (str (gT 103 4000 (sO σ))) (A8 (sN σ)):=⟨λ_=>(kW (c:=103) (most:=4000)).spec True.intro⟩
instance b5C :AnsM prog GL 156 g [.lit (.int .u8 117),int 1099511627776] 238 (A8 (sN σ)) True (int (gI 117 1099511627776 (sN σ))) (A8 (sM σ)):=⟨λ_=>(zF (c:=117) (most:=1099511627776)).spec dc⟩
instance b5B :AnsM prog GL 156 g [.lit (.int .u8 118),int 1099511627776] 238 (A8 (sM σ)) True (int (gI 118 1099511627776 (sM σ))) (A8 (sK σ)):=⟨λ_=>(zF (c:=118) (most:=1099511627776)).spec dc⟩
instance b5A :AnsM prog GL 259 g [.lit (.int .u8 65),int 4000] 238 (A8 (sK σ)) True (str (gT 65 4000 (sK σ))) (A8 (sJ σ)):=⟨λ_=>(kW (c:=65) (most:=4000)).spec True.intro⟩
instance b5z :AnsM prog GL 156 g [.lit (.int .u8 84),int 1099511627776] 238 (A8 (sJ σ)) True (int (gI 84 1099511627776 (sJ σ))) (A8 (kI σ)):=⟨λ_=>(zF (c:=84) (most:=1099511627776)).spec dc⟩
instance b5y :AnsM prog GL 259 g [.lit (.int .u8 70),int 4000] 238 (A8 (kI σ)) True (str (gT 70 4000 (kI σ))) (A8 (kH σ)):=⟨λ_=>(kW (c:=70) (most:=4000)).spec True.intro⟩
instance b5x :AnsM prog GL 259 g [.lit (.int .u8 71),int 4000] 238 (A8 (kH σ)) True (str (gT 71 4000 (kH σ))) (A8 (sH σ)):=⟨λ_=>(kW (c:=71) (most:=4000)).spec True.intro⟩
instance b5O {s:Bs}:AnsM prog GL 156 g [.lit (.int .u8 75),int 16] 238 (F7 s false) (s.length<=1000000000) (int (gI 75 16 (I6 s))) (A8 (qB (I6 s))):=⟨λhl=>by
 have h:=(rS1 (g:=g) (σ:=I6 s)).spec True.intro;rw[<- Cb hl] at h;exact h⟩
theorem tF (h:gZ (sH σ)≠0\/(gT 114 32 (kM σ)).length≠32\/(gT 77 32 (kK σ)).length≠32\/(gT 97 32 (kJ σ)).length≠32\/fG (gT 70 4000 (kI σ))≠0\/mG (gT 71 4000 (kH σ))≠0):K6 σ=Y5/\aG σ=10:=by
 have hk:uP σ=false:=by
  cases e:uP σ
  ·rfl
  exfalso
  unfold uP IK IM IQ IL IP at e;simp only[Bool.and_eq_true,decide_eq_true_eq] at e;obtain⟨e1,e2,e3,e4,e5,e6⟩:=e;rcases h with h|h|h|h|h|h
  ·exact h e6
  ·exact h e1
  ·exact h e2
  ·exact h e3
  ·exact h e4
  exact h e5
 unfold K6 aG;rw[hk];exact⟨rfl,rfl⟩
theorem Cx (h6:gZ (sH σ)=0)(h1:(gT 114 32 (kM σ)).length=32)(h2:(gT 77 32 (kK σ)).length=32)(h3:(gT 97 32 (kJ σ)).length=32)(h4:fG (gT 70 4000 (kI σ))=0)(h5:mG (gT 71 4000 (kH σ))=0):K6 σ=EH σ/\aG σ=0:=by
 have hk:uP σ=true:=by
  unfold uP IK IM IQ IL IP;rw[dT h1,dT h2,dT h3,dT h4,dT h5,dT h6];rfl
 unfold K6 aG;rw[hk];exact⟨rfl,rfl⟩
end
attribute [local irreducible] wV gT gI gZ sT sI W9 jH nI fG mG A8 qB nC sG sF sD rZ rY rX rW kM kK sW sV sU sS kJ sP sO sN sM sK sJ kI kH sH
set_option maxRecDepth 100000 in
instance b8F {s:Bs}:Ans prog GL 260 [str s] (s.length<=1000000000) (.tup [x9 (K6 (I6 s)),int (aG (I6 s))]):=⟨λhl=>by
 refine ze func260 ntmps260 λ_ hs=>?_
 iterate 24 ((iterate 20 (try first|refine Xa ?_|refine D6 (λ_=>?_)|intro _));try simp only[List.set])
 generalize I6 s=σ;by_cases h6:gZ (sH σ)=0
 rotate_left
 ·rw[(tF (.inl h6)).1,(tF (.inl h6)).2];repeat' (first|refine Xa ?_|refine D6 (λ_=>?_)|intro _|simp only[List.set]|fail)
  (refine U6 (.tup [x9 Y5,int 10]) [] ?_ ⟨rfl,rfl⟩ (List.nil_sublist _);exact yQ)
 by_cases h1:(gT 114 32 (kM σ)).length=32
 rotate_left
 ·rw[(tF (.inr (.inl h1))).1,(tF (.inr (.inl h1))).2];repeat' (first|refine Xa ?_|refine D6 (λ_=>?_)|intro _|simp only[List.set]|fail)
  (refine U6 (.tup [x9 Y5,int 10]) [] ?_ ⟨rfl,rfl⟩ (List.nil_sublist _);exact yQ)
 by_cases h2:(gT 77 32 (kK σ)).length=32
 rotate_left
 ·rw[(tF (.inr (.inr (.inl h2)))).1,(tF (.inr (.inr (.inl h2)))).2];repeat' (first|refine Xa ?_|refine D6 (λ_=>?_)|intro _|simp only[List.set]|fail)
  (refine U6 (.tup [x9 Y5,int 10]) [] ?_ ⟨rfl,rfl⟩ (List.nil_sublist _);exact yQ)
 by_cases h3:(gT 97 32 (kJ σ)).length=32
 rotate_left
 ·rw[(tF (.inr (.inr (.inr (.inl h3))))).1,(tF (.inr (.inr (.inr (.inl h3))))).2];repeat' (first|refine Xa ?_|refine D6 (λ_=>?_)|intro _|simp only[List.set]|fail)
  (refine U6 (.tup [x9 Y5,int 10]) [] ?_ ⟨rfl,rfl⟩ (List.nil_sublist _);exact yQ)
 by_cases h4:fG (gT 70 4000 (kI σ))=0
 rotate_left
 ·rw[(tF (.inr (.inr (.inr (.inr (.inl h4)))))).1,(tF (.inr (.inr (.inr (.inr (.inl h4)))))).2];repeat' (first|refine Xa ?_|refine D6 (λ_=>?_)|intro _|simp only[List.set]|fail)
  (refine U6 (.tup [x9 Y5,int 10]) [] ?_ ⟨rfl,rfl⟩ (List.nil_sublist _);exact yQ)
 by_cases h5:mG (gT 71 4000 (kH σ))=0
 rotate_left
 ·rw[(tF (.inr (.inr (.inr (.inr (.inr h5)))))).1,(tF (.inr (.inr (.inr (.inr (.inr h5)))))).2];repeat' (first|refine Xa ?_|refine D6 (λ_=>?_)|intro _|simp only[List.set]|fail)
  (refine U6 (.tup [x9 Y5,int 10]) [] ?_ ⟨rfl,rfl⟩ (List.nil_sublist _);exact yQ)
 rw[(Cx h6 h1 h2 h3 h4 h5).1,(Cx h6 h1 h2 h3 h4 h5).2];repeat' (first|refine Xa ?_|refine D6 (λ_=>?_)|intro _|simp only[List.set]|fail)
 exact j6 rfl⟩
end
end Go.Proofs.Z

namespace Go.Proofs.Z
open Go Go.RowKit Tw Av
section
variable {d:List Ent}
abbrev qA (o:Out18):AV:=.agg 4 [U4 o.1,P5 o.2]
def fQ (e:Int):Out18:=([],xK e)
def pQ (d:List Ent)(k v:Bs):Out18:=if (P7 d k v).2=0 then ((P7 d k v).1,oJ) else fQ (P7 d k v).2
def nS (d:List Ent)(q:Out18):Out18:=if q.2.e=0 then q else O6 d q.2.e
theorem aW {e:Int}(h:e≠0):nS d (fQ e)=O6 d e:=by
 unfold nS fQ xK;rw[if_neg h]
theorem Qm {k v:Bs}:nS d (pQ d k v)=rC d k v:=by
 unfold pQ rC iO;split
 ·rfl
 rename_i h;exact aW h
def DF (d:List Ent)(x:TxX):Out18:=if bD x.x.d=false\/eG x.x.g=false\/(x.k=1/\0<wR x.x.d)\/(x.k=2/\eG x.x.f=false) then fQ 1 else if x.k=1 then ((aJ d x.x.g x.x.d x.x.a).1,xK (aJ d x.x.g x.x.d x.x.a).2) else ((bC d x.x.f x.x.g x.x.d x.x.a).1,xK (bC d x.x.f x.x.g x.x.d x.x.a).2)
def uJ (d:List Ent)(x:TxX)(t:Int):Out18:=
 if x.k=4 then (if Q4 d x.i=false then fQ 12 else if gV (U9 d x.i) x.h x.m t≠0 then fQ (gV (U9 d x.i) x.h x.m t) else pQ d (I9 [67] x.i) (Y1 (kN (U9 d x.i) x.h x.m t)))
 else if J6 x.i=false then fQ 1 else if Q4 d x.i=true then fQ 13 else if uE x.y x.e x.h≠0 then fQ (uE x.y x.e x.h) else pQ d (I9 [67] x.i) (Y1 (uD x.y x.e x.h))
theorem a6y {x:TxX}{t:Int}(h:x.k=4):nS d (uJ d x t)=qG d x t:=by
 unfold uJ qG;rw[if_pos h];split
 ·exact aW dc
 split
 ·rename_i h1;exact aW h1
 exact Qm
theorem a6D {x:TxX}{t:Int}(h:x.k=3):nS d (uJ d x t)=pI d x:=by
 unfold uJ pI;rw[if_neg (by rw[h];decide)];split
 ·exact aW dc
 split
 ·exact aW dc
 split
 ·rename_i h1;exact aW h1
 exact Qm
def Ve (d:List Ent)(x:TxX)(i k:Bs)(try':Bool)(t:Int):Out18:=
 if try'=false then (if (FY x.o x.q).2≠0 then fQ (FY x.o x.q).2 else pQ d (I9 k x.i) (lM (FY x.o x.q).1))
 else if bK d i x.t t (I9 k x.p) (lM ⟨1,x.q,x.o,[]⟩) x.f≠0 then fQ (bK d i x.t t (I9 k x.p) (lM ⟨1,x.q,x.o,[]⟩) x.f)
 else if (EJ x.o x.p ⟨1,x.q,x.o,[]⟩).2≠0 then fQ (EJ x.o x.p ⟨1,x.q,x.o,[]⟩).2
 else pQ d (I9 k x.i) (lM (EJ x.o x.p ⟨1,x.q,x.o,[]⟩).1)
def QZ (d:List Ent)(x:TxX)(b:Bool)(t:Int):Out18:=if J6 x.i=false then fQ 1 else if M0 d [75] x.i=true then fQ 13 else if Q4 d x.o=false then fQ 12 else Ve d x x.o [75] b t
def RA (d:List Ent)(x:TxX)(b:Bool)(t:Int):Out18:=if J6 x.i=false then fQ 1 else if M0 d [72] x.i=true then fQ 13 else if M0 d [75] x.o=false then fQ 12 else if (C9 d [75] x.o).s≠3 then fQ 13 else Ve d x (C9 d [75] x.o).o [72] b t
def Ms (d:List Ent)(x:TxX)(i k pp:Bs)(th:EndX)(r:EndX × Int)(t:Int):Out18:=if bK d i x.t t (I9 k pp) (lM th) x.f≠0 then fQ (bK d i x.t t (I9 k pp) (lM th) x.f) else if r.2≠0 then fQ r.2 else pQ d (I9 k x.i) (lM r.1)
def Mt (d:List Ent)(x:TxX)(own:EndX)(i k:Bs)(ack:Bool)(t:Int):Out18:=if ack=true then Ms d x i k x.p ⟨2,own.q,own.o,x.i⟩ (MG own x.i x.p ⟨2,own.q,own.o,x.i⟩) t else Ms d x i k own.p ⟨3,own.q,own.o,x.i⟩ (LF own x.i ⟨3,own.q,own.o,x.i⟩) t
def OV (d:List Ent)(x:TxX)(b:Bool)(t:Int):Out18:=if M0 d [75] x.i=false then fQ 12 else Mt d x (C9 d [75] x.i) (C9 d [75] x.i).o [75] b t
def OW (d:List Ent)(x:TxX)(b:Bool)(t:Int):Out18:=if M0 d [72] x.i=false then fQ 12 else if M0 d [75] (C9 d [72] x.i).o=false then fQ 12 else Mt d x (C9 d [72] x.i) (C9 d [75] (C9 d [72] x.i).o).o [72] b t
end
end Go.Proofs.Z

