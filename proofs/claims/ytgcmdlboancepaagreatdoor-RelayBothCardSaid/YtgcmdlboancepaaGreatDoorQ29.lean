/- . -/
import Derived.Test.YtgcmdlboancepaaGreatDoorQ23
set_option maxHeartbeats 64000000
namespace Av
open Go Go.RowKit Tw
theorem Qv {P:Program}{e:TypeId}{k:IntKind}(he:P.underlying e=some (.int k))(w:World)(d:Nat):∀ (n o:Nat) (la lb:List Int),la.length=o+n->lb.length=o+n ->
  (Op.eqItems (d+1) e 1 (la.map (Value.int k)).toArray (lb.map (Value.int k)).toArray (List.range' o n)).run P w=.ok (decide (la.drop o=lb.drop o)) w
 | 0,o,la,lb,h1,h2=>by
  rw[List.drop_of_length_le (l:=la) om,List.drop_of_length_le (l:=lb) om];simp[Op.eqItems]
 | n+1,o,la,lb,h1,h2=>by
  have hp:P.plainKey e=true:=by simp[Program.plainKey,he]
  have hla:o<la.length:=om
  have hlb:o<lb.length:=om
  have ea:(la.map (Value.int k)).toArray[o*1]?=some (Value.int k la[o]):=by simp[hla]
  have eb:(lb.map (Value.int k)).toArray[o*1]?=some (Value.int k lb[o]):=by simp[hlb]
  have hq:(Op.equalIn (d+1) e (Value.int k la[o]) (Value.int k lb[o])).run P w=.ok (decide (la[o]=lb[o])) w:=by
   rw[run_equalIn_int _ d e _ _ _ _ he];rfl
  rw[List.range'_succ];simp only[Op.eqItems,Sem.run_bind,run_part_plain w hp ea,run_part_plain w hp eb,Result.andThen_ok,hq];rw[List.drop_eq_getElem_cons hla,List.drop_eq_getElem_cons hlb];by_cases h:la[o]=lb[o]
  ·simp only[h,decide_true,Bool.not_true,Bool.false_eq_true,if_false,Qv he w d n (o+1) la lb om om,List.cons.injEq,true_and]
  have hf:decide (la[o]::la.drop (o+1)=lb[o]::lb.drop (o+1))=false:=by
   rw[decide_eq_false_iff_not,List.cons.injEq];exact λe=>h e.1
  rw[hf];simp[h]
theorem Ov {ok:Ok}{w:World}{k:IntKind}{a b c d:Int}{v:Value}(hr:RV0 ok w (.agg 4 [.lit (.int k a),.lit (.int k b),.lit (.int k c),.lit (.int k d)]) v):v=.agg ([a,b,c,d].map (Value.int k)).toArray:=by
 obtain⟨cs,rfl,h⟩:=IG (RV.of0 hr);rw[RC,RCs] at h;obtain⟨_,c1,d1,rfl,g1,h⟩:=h;rw[RCs] at h;obtain⟨c2,d2,rfl,g2,h⟩:=h;rw[RCs] at h;obtain⟨c3,d3,rfl,g3,h⟩:=h;rw[RCs] at h;obtain⟨c4,d4,rfl,g4,h⟩:=h;rw[RCs] at h;subst h;rw[RC] at g1 g2 g3 g4;rw[g1.1,g2.1,g3.1,g4.1];rfl
instance {P:Program}{T e:TypeId}{k:IntKind}[t:TyA P T 4 e 1][te:TyI P e k]{a b c d a' b' c' d':Int}:Eqv P T (.agg 4 [.lit (.int k a),.lit (.int k b),.lit (.int k c),.lit (.int k d)]) (.agg 4 [.lit (.int k a'),.lit (.int k b'),.lit (.int k c'),.lit (.int k d')]) 1 (decide ([a,b,c,d]=[a',b',c',d'])):=⟨fun {ok w va vb} d hd ha hb=>by
 rw[Ov ha,Ov hb];obtain⟨i,hi,hc⟩:=Nf t.sz;obtain⟨d,rfl⟩:∃ d',d=d'+1:=⟨d-1,om⟩;rw[run_equalIn_array w (d+1) _ _ t.out hi,hc,List.range_eq_range',Qv te.out w d 4 0 _ _ rfl rfl];rfl⟩
theorem EE (a:Wd):decide ([((lm a.n 0:Nat):Int),(lm a.n 1:Nat),(lm a.n 2:Nat),(lm a.n 3:Nat)]=[0,0,0,0])=decide (a.n=0):=by
 rw[decide_eq_decide]
 constructor
 ·intro h;simp only[List.cons.injEq] at h;exact VZ a.lt wZ.lt (by rw[zV];omega) (by rw[zV];omega) (by rw[zV];omega) (by rw[zV];omega)
 intro h;rw[h,zV,zV,zV,zV];rfl
def zT (n m i:Nat):List AV:=(List.range 4).map λj=>u6 (lm (if j<i then n else m) j)
instance {n m i:Nat}:Siz (zT n m i) 1:=by unfold zT;infer_instance
theorem a3p (n m i:Nat):(zT n m i).length=4:=rfl
theorem a3q {n m i:Nat}(h:i<4):(zT n m i)[i]?=some (u6 (lm m i)):=by
 rcases i with _|_|_|_|i <;> first|rfl|omega
theorem a3o {n m i:Nat}(h:i<4):(zT n m i).set i (u6 (lm n i))=zT n m (i+1):=by
 rcases i with _|_|_|_|i <;> first|rfl|omega
def fV (X Y:Nat->Nat)(i:Nat):List AV:=(List.range 4).map λj=>u6 (if j<i then X j else Y j)
instance {X Y:Nat->Nat}{i:Nat}:Siz (fV X Y i) 1:=by unfold fV;infer_instance
theorem WR (X Y:Nat->Nat)(i:Nat):(fV X Y i).length=4:=rfl
theorem Ky (X Y:Nat->Nat):fV X Y 0=[u6 (Y 0),u6 (Y 1),u6 (Y 2),u6 (Y 3)]:=rfl
theorem WS (X Y:Nat->Nat):fV X Y 4=[u6 (X 0),u6 (X 1),u6 (X 2),u6 (X 3)]:=rfl
theorem Kw {X Y:Nat->Nat}{i:Nat}(h:i<4):(fV X Y i)[i]?=some (u6 (Y i)):=by
 rcases i with _|_|_|_|i <;> first|rfl|omega
theorem a3u {X Y:Nat->Nat}{i:Nat}(h:i<4):(fV X Y i).set i (u6 (X i))=fV X Y (i+1):=by
 rcases i with _|_|_|_|i <;> first|rfl|omega
theorem a3s {X Y:Nat->Nat}(h:∀ i,X i<18446744073709551616):∃ n:Nat,n<115792089237316195423570985008687907853269984665640564039457584007913129639936/\AV.agg 4 (fV X Y 4)=Y6 n:=by
 obtain⟨h1,h2,h3,h4,h5⟩:=Yc (h 0) (h 1) (h 2) (h 3);refine⟨_,h1,?_⟩;rw[WS];unfold Y6;rw[h2,h3,h4,h5]
theorem IV {n i:Nat}(h:i<4):[u6 (lm n 0),u6 (lm n 1),u6 (lm n 2),u6 (lm n 3)][i]?=some (u6 (lm n i)):=by
 rcases i with _|_|_|_|i <;> first|rfl|omega
def DC (a b:Nat):Nat->Nat
 | 0=>0
 | i+1=>(lm a i+lm b i+DC a b i) / 18446744073709551616
def yJ (a b:Nat):Nat->Nat
 | 0=>0
 | i+1=>rT (lm a i) (lm b i) (yJ a b i)
theorem a7C (a b:Wd):(∀ i,i<4->DC a.n b.n i<=1/\lm (a.n+b.n) i=(lm a.n i+lm b.n i+DC a.n b.n i)%18446744073709551616)/\DC a.n b.n 4<=1/\(DC a.n b.n 4=0↔Z6 (a.n+b.n)=true):=by
 obtain⟨c0,c1,c2,c3,rfl,rfl,rfl,rfl,h0,h1,h2,h3,h4,g0,g1,g2,g3⟩:=b0w a b;refine⟨λi hi=>?_,h3,by rw[Z6,decide_eq_true_iff];exact h4⟩;rcases i with _|_|_|_|i
 ·exact⟨Nat.zero_le _,g0⟩
 ·exact⟨h0,g1⟩
 ·exact⟨h1,g2⟩
 ·exact⟨h2,g3⟩
 omega
theorem a8h (a b:Wd):(∀ i,i<4->yJ a.n b.n i<=1)/\yJ a.n b.n 4<=1/\(yJ a.n b.n 4=0↔b.n<=a.n)/\(b.n<=a.n->∀ i,i<4->lm (a.n-b.n) i=(lm a.n i+18446744073709551616-lm b.n i-yJ a.n b.n i)%18446744073709551616):=by
 obtain⟨c0,c1,c2,c3,rfl,rfl,rfl,rfl,h0,h1,h2,h3,h4,h5⟩:=a0j a b;refine⟨λi hi=>?_,h3,h4,λhle i hi=>?_⟩
 ·rcases i with _|_|_|_|i
  ·exact Nat.zero_le _
  ·exact h0
  ·exact h1
  ·exact h2
  omega
 obtain⟨g0,g1,g2,g3⟩:=h5 hle;rcases i with _|_|_|_|i
 ·exact g0
 ·exact g1
 ·exact g2
 ·exact g3
 omega
end Av
namespace Go.Proofs.Z
open Go Go.RowKit Tw Av
instance b6d {a:Wd}:Ans Tryz.prog GL 304 [z8 a] True (d9 (decide (a.n=0))):=⟨λ_=>by
 refine qE Tryz.func304 rfl Tryz.ntmps304 rfl (λ_ hs=>?_);repeat' (first|refine W ?_|refine nN ?_|refine rH ?_|refine mM ?_|refine oU ?_|refine D6 (λ_=>?_)|intro _)
 refine j6 ?_;show d9 _=_;rw[EE]⟩
instance b6f {n:Nat}{c:Nat}:Ans Tryz.prog GL 360 [Y6 n,u6 c] True (.tup [Y6 (if c=0 then n else 0),d9 (decide (c=0))]):=⟨λ_=>by
 refine qE Tryz.func360 rfl Tryz.ntmps360 rfl (λ_ hs=>?_);repeat' first|refine O ?_|intro
 refine w9 (λh=>?_) (λh=>?_)
 ·repeat' first|refine O ?_|intro
  refine j6 ?_;have h0:¬ c=0:=by omega
  rw[if_neg h0,dZ h0];rfl
 repeat' first|refine O ?_|intro
 refine j6 ?_;have h0:c=0:=by omega
 rw[if_pos h0,dT h0];rfl⟩
section
variable {N:Nat} {ops:Array Oper} {Q:Exit->Act->World->Prop} {rest:List Oper} {s:Av.Base} {e:Av.Env} {m:List Av.Piece} {d:Nat} {ty:TypeId} {pos:String} {af:Array Edge}
theorem b0l {x y c:Nat}{xs:List Operand}{ts:Array TypeId}(hc:c<=1)(h:AL Tryz.prog N ops Q s rest ((d,.tup [u6 ((x+y+c)%18446744073709551616),u6 ((x+y+c) / 18446744073709551616)])::e) m)(hx:evs e xs=some [u6 x,u6 y,u6 c]:=by exact rfl)(hd:Nat.blt d N=true:=by exact rfl):AL Tryz.prog N ops Q s (⟨some d,.call ⟨.value (.func 359),xs.toArray,ts⟩,ty,pos,af,none⟩::rest) e m:=by
 apply DY (en := (Extern.MathBitsCarry.rows.getD 0 ("", fun _ => pure undef)).2) (v := .tup [u6 ((x + y + c) % 18446744073709551616), u6 ((x + y + c) / 18446744073709551616)]) Tryz.func359; kernel_rfl; exact rfl; kernel_rfl; kernel_rfl; exact hx; exact rfl; exact hd
 ·rintro ok w cs _ ⟨u1,us,rfl,h1,u2,us2,rfl,h2,u3,us3,rfl,h3,rfl⟩;rw[RV0.lit h1,RV0.lit h2,RV0.lit h3];rcases (by omega:c=0\/c=1) with rfl|rfl
  ·exact⟨_,rfl,⟨_,rfl,_,_,rfl,RV0.of_lit rfl,_,_,rfl,RV0.of_lit rfl,rfl⟩⟩
  exact⟨_,rfl,⟨_,rfl,_,_,rfl,RV0.of_lit rfl,_,_,rfl,RV0.of_lit rfl,rfl⟩⟩
 exact h
theorem a8O {x y c:Nat}{xs:List Operand}{ts:Array TypeId}(hc:c<=1)(h:AL Tryz.prog N ops Q s rest ((d,.tup [u6 ((x+18446744073709551616-y-c)%18446744073709551616),u6 (rT x y c)])::e) m)(hx:evs e xs=some [u6 x,u6 y,u6 c]:=by exact rfl)(hd:Nat.blt d N=true:=by exact rfl):AL Tryz.prog N ops Q s (⟨some d,.call ⟨.value (.func 409),xs.toArray,ts⟩,ty,pos,af,none⟩::rest) e m:=by
 apply DY (en := (Extern.MathBitsCarry.rows.getD 1 ("", fun _ => pure undef)).2) (v := .tup [u6 ((x + 18446744073709551616 - y - c) % 18446744073709551616), u6 (rT x y c)]) Tryz.func409; kernel_rfl; exact rfl; kernel_rfl; kernel_rfl; exact hx; exact rfl; exact hd
 ·rintro ok w cs _ ⟨u1,us,rfl,h1,u2,us2,rfl,h2,u3,us3,rfl,h3,rfl⟩;rw[RV0.lit h1,RV0.lit h2,RV0.lit h3];rcases (by omega:c=0\/c=1) with rfl|rfl
  ·exact⟨_,rfl,⟨_,rfl,_,_,rfl,RV0.of_lit rfl,_,_,rfl,RV0.of_lit rfl,rfl⟩⟩
  exact⟨_,rfl,⟨_,rfl,_,_,rfl,RV0.of_lit rfl,_,_,rfl,RV0.of_lit rfl,rfl⟩⟩
 exact h
end
instance b6i {a b:Wd}:Ans Tryz.prog GL 287 [z8 a,z8 b] True (.tup [z8 (Q5 (a.n+b.n)),d9 (Z6 (a.n+b.n))]):=⟨λ_=>by
 obtain⟨hcr,h4,h40⟩:=a7C a b;refine qE Tryz.func287 rfl Tryz.ntmps287 rfl (λ_ hs=>?_);repeat' first|refine O ?_|intro
 rename_i g2 g3 g4;refine dY (g:=g2) (v':=.agg 4 (zT (a.n+b.n) a.n 0)) (λok w cs h=>h) ?_;refine y9 (α:=Nat) (λi=>[(2,ptr g2),(3,ptr g3),(4,ptr g4),(6,u6 (DC a.n b.n i)),(8,int i)])
   (λi=>[.var g4 45 (Y6 0),.var g3 45 (z8 b),.var g2 45 (.agg 4 (zT (a.n+b.n) a.n i))]) (λi=>i<=4) (λi=>4-i) 0 zc slr (Nat.zero_le _) ?_
 intro i hi;repeat' first|refine O ?_|intro
 refine w9 (λhlt=>?_) (λhlt=>?_)
 ·have hl:i<4:=om
  obtain⟨c1,c2⟩:=hcr i hl;have hln:=a3p (a.n+b.n) a.n i;repeat' first|refine O ?_|intro
  apply zf [];exact zi;intro _ _;refine O1 i ?_;exact j3 (p9 rfl rfl);apply zf [2];exact zi;intro _ _;refine bV (a3q hl) ?_;exact j3 (p9 rfl rfl);repeat' first|refine O ?_|intro
  apply zf [];exact zi;intro _ _;refine O1 i ?_;exact j3 (p9 rfl rfl);apply zf [1];exact zi;intro _ _;refine bV (IV hl) ?_;exact j3 (p9 rfl rfl);repeat' first|refine O ?_|intro
  apply zf [];exact zi;intro _ _;refine b0l c1 ?_;exact j3 (p9 rfl rfl);repeat' first|refine O ?_|intro
  apply zf [];exact zi;intro _ _;refine O1 i ?_;exact j3 (p9 rfl rfl);apply dH [2];exact rfl;exact rfl;kernel_rfl;intro _ _;refine kD (j:=i) (by rw[hln];exact hl) ?_;exact j3 (dX rfl);exact rfl;exact rfl;rw[<- c2,a3o hl];repeat' first|refine O ?_|intro
  refine o9 (i+1) zc ?_ hl om;exact u7
 obtain rfl:i=4:=by omega
 refine dY (g:=g2) (v':=Y6 (a.n+b.n)) (λok w cs h=>h) ?_;repeat' first|refine O ?_|intro
 refine j6 ?_;by_cases h0:DC a.n b.n 4=0
 ·have h1:=h40.1 h0;rw[if_pos h0,h1,dT h0];show AV.tup [Y6 _,_]=.tup [Y6 _,_];rw[qD (of_decide_eq_true h1)]
 have h1:Z6 (a.n+b.n)=false:=by
  cases h:Z6 (a.n+b.n)
  ·rfl
  exact absurd (h40.2 h) h0
 rw[if_neg h0,h1,dZ h0];show AV.tup [Y6 _,_]=.tup [Y6 _,_];rw[Ci (of_decide_eq_false h1)];rfl⟩
instance b6e {a b:Wd}:Ans Tryz.prog GL 364 [z8 a,z8 b] True (.tup [z8 (Q5 (a.n-b.n)),d9 (decide (b.n<=a.n))]):=⟨λ_=>by
 obtain⟨hbo,h4,h40,hlm⟩:=a8h a b;refine qE Tryz.func364 rfl Tryz.ntmps364 rfl (λ_ hs=>?_);repeat' first|refine O ?_|intro
 rename_i g2 g3 g4;generalize hX:(λi=>(lm a.n i+18446744073709551616-lm b.n i-yJ a.n b.n i)%18446744073709551616)=X at *;refine dY (g:=g2) (v':=.agg 4 (fV X (lm a.n) 0)) (λok w cs h=>by rw[Ky];exact h) ?_;refine y9 (α:=Nat) (λi=>[(2,ptr g2),(3,ptr g3),(4,ptr g4),(6,u6 (yJ a.n b.n i)),(8,int i)])
   (λi=>[.var g4 45 (Y6 0),.var g3 45 (z8 b),.var g2 45 (.agg 4 (fV X (lm a.n) i))]) (λi=>i<=4) (λi=>4-i) 0 zc slr (Nat.zero_le _) ?_
 intro i hi;repeat' first|refine O ?_|intro
 refine w9 (λhlt=>?_) (λhlt=>?_)
 ·have hl:i<4:=om
  have c1:=hbo i hl;have hln:=WR X (lm a.n) i;repeat' first|refine O ?_|intro
  apply zf [];exact zi;intro _ _;refine O1 i ?_;exact j3 (p9 rfl rfl);apply zf [2];exact zi;intro _ _;refine bV (Kw hl) ?_;exact j3 (p9 rfl rfl);repeat' first|refine O ?_|intro
  apply zf [];exact zi;intro _ _;refine O1 i ?_;exact j3 (p9 rfl rfl);apply zf [1];exact zi;intro _ _;refine bV (IV hl) ?_;exact j3 (p9 rfl rfl);repeat' first|refine O ?_|intro
  apply zf [];exact zi;intro _ _;refine a8O c1 ?_;exact j3 (p9 rfl rfl);repeat' first|refine O ?_|intro
  apply zf [];exact zi;intro _ _;refine O1 i ?_;exact j3 (p9 rfl rfl);apply dH [2];exact rfl;exact rfl;kernel_rfl;intro _ _;refine kD (j:=i) (by rw[hln];exact hl) ?_;exact j3 (dX rfl);exact rfl;exact rfl;rw[show (lm a.n i+18446744073709551616-lm b.n i-yJ a.n b.n i)%18446744073709551616=X i by rw[<- hX],a3u hl];repeat' first|refine O ?_|intro
  refine o9 (i+1) zc ?_ hl om;exact u7
 obtain rfl:i=4:=by omega
 by_cases h0:yJ a.n b.n 4=0
 ·have h1:=h40.1 h0;have h2:=hlm h1;have e:AV.agg 4 (fV X (lm a.n) 4)=Y6 (a.n-b.n):=by
   have hX':∀ i,i<4->X i=lm (a.n-b.n) i:=λi hi=>by rw[h2 i hi,<- hX]
   rw[WS,hX' 0 om,hX' 1 om,hX' 2 om,hX' 3 om]
  rw[e];repeat' first|refine O ?_|intro
  refine j6 ?_;rw[if_pos h0,dT h0,dT h1];show AV.tup [Y6 _,_]=.tup [Y6 _,_];rw[qD (Nat.lt_of_le_of_lt (Nat.sub_le _ _) a.lt)]
 have h1:¬ b.n<=a.n:=λh=>h0 (h40.2 h);obtain⟨n,hn,e⟩:=a3s (X:=X) (Y:=lm a.n) (by rw[<- hX];exact λi=>Nat.mod_lt _ dc);rw[e];repeat' first|refine O ?_|intro
 refine j6 ?_;rw[if_neg h0,dZ h0,dZ h1];show AV.tup [Y6 _,_]=.tup [Y6 _,_];rw[show a.n-b.n=0 by omega];rfl⟩
end Go.Proofs.Z

namespace Av
open Go Go.RowKit Tw
section
variable {P:Program} {N:Nat} {ops:Array Oper} {Q:Exit->Act->World->Prop} {rest:List Oper} {s:Av.Base} {e:Av.Env} {m:List Av.Piece} {d:Nat} {ty:TypeId} {pos:String} {af:Array Edge}
theorem OO (k:Nat):2 ^ (8*k)=256 ^ k:=by rw[Nat.pow_mul]
theorem We {T yT:TypeId}{yk:IntKind}{x y:Operand}{a:Nat}{b:Int}(k:Nat)(h:AL P N ops Q s rest ((d,u6 (a / 256 ^ k))::e) m)(hx:ev e x=some (u6 a):=by exact rfl)(hy:ev e y=some (.lit (.int yk b)):=by exact rfl)(hb:b=((8*k:Nat):Int):=by omega)(hk:k<=8:=by omega)(hd:Nat.blt d N=true:=by exact rfl):AL P N ops Q s (⟨some d,.binOp .shr T x y yT,ty,pos,af,none⟩::rest) e m:=by
 refine DX (n:=8*k) ?_ hx hy (by rw[hb];rfl) (Nat.ble_eq_true_of_le (show 8*k<=64 by omega)) hd;rw[OO,<- Int.natCast_ediv];exact h
theorem a8U {T yT:TypeId}{yk:IntKind}{x y:Operand}{a:Nat}{b:Int}(k:Nat)(h:AL P N ops Q s rest ((d,u6 (256 ^ k*a))::e) m)(hx:ev e x=some (u6 a):=by exact rfl)(hy:ev e y=some (.lit (.int yk b)):=by exact rfl)(hb:b=((8*k:Nat):Int):=by omega)(ha:a<256:=by omega)(hk:k<=7:=by omega)(hd:Nat.blt d N=true:=by exact rfl):AL P N ops Q s (⟨some d,.binOp .shl T x y yT,ty,pos,af,none⟩::rest) e m:=
 IA rfl hx hy (λw=>by
  subst hb;have h2:min (8*k) IntKind.u64.bits=8*k:=by show min (8*k) 64=_;omega
  have h3:256 ^ k*a<18446744073709551616:=by
   have h5:256 ^ k<=72057594037927936:=Nat.pow_le_pow_right (n:=256) dc hk;have h6:256 ^ k*a<=72057594037927936*255:=Nat.mul_le_mul h5 om;omega
  have e1:((a:Int)*2 ^ (8*k))=((256 ^ k*a:Nat):Int):=by
   rw[show ((2:Int) ^ (8*k))=((2 ^ (8*k):Nat):Int) by simp,OO,Nat.mul_comm];simp
  have h4:¬ (((8*k:Nat):Int)<0):=om
  simp only[Op.shift,Int.toNat_natCast,h2,e1,h4,if_false];show Result.ok (Value.int .u64 (IntKind.u64.wrap ((256 ^ k*a:Nat):Int))) w=_;rw[wrap_u64 _ h3]) (.inl rfl) hd h
theorem a2I {a c:Nat}(ha:a<18446744073709551616)(hc:c<18446744073709551616)(h:(a ||| c)<18446744073709551616)(P:Program)(w:World):(Op.intBits .or .u64 (a:Int) (c:Int)).run P w=.ok (.int .u64 ((a ||| c:Nat):Int)) w:=by
 have h2:(BitVec.ofInt 64 (a:Int) ||| BitVec.ofInt 64 (c:Int)).toNat=a ||| c:=by
  rw[BitVec.toNat_or,BitVec.ofInt_natCast,BitVec.ofInt_natCast,BitVec.toNat_ofNat,BitVec.toNat_ofNat,Nat.mod_eq_of_lt ha,Nat.mod_eq_of_lt hc]
 show Result.ok (Value.int .u64 (IntKind.u64.wrap ((BitVec.ofInt 64 (a:Int) ||| BitVec.ofInt 64 (c:Int)).toNat:Int))) w=_;rw[h2,wrap_u64 _ h]
theorem a9d {T yT:TypeId}{x y:Operand}{a c r:Nat}(h:AL P N ops Q s rest ((d,u6 (a+256 ^ r*c))::e) m)(hx:ev e x=some (u6 a):=by exact rfl)(hy:ev e y=some (u6 (256 ^ r*c)):=by exact rfl)(ha:a<256 ^ r)(hc:c<256)(hr:r<=7)(hd:Nat.blt d N=true:=by exact rfl):AL P N ops Q s (⟨some d,.binOp .or T x y yT,ty,pos,af,none⟩::rest) e m:=by
 have h0:256 ^ r<=72057594037927936:=Nat.pow_le_pow_right (n:=256) dc hr;have h1:256 ^ r*c+256 ^ r<=72057594037927936*256:=by
  rw[<- Nat.mul_succ];exact Nat.mul_le_mul h0 om
 have h2:=a2K (d:=c) ha;generalize 256 ^ r*c=X at *;generalize 256 ^ r=R at *;rw[<- h2] at h;exact EA rfl hx hy (λw=>a2I om om om P w) (.inr (.inl rfl)) hd h
theorem a8I {a:Nat}(ha:a<18446744073709551616)(P:Program)(w:World):(Op.intBits .and .u64 (a:Int) ((255:Nat):Int)).run P w=.ok (.int .u64 ((a%256:Nat):Int)) w:=by
 have h2:(BitVec.ofInt 64 (a:Int) &&& BitVec.ofInt 64 ((255:Nat):Int)).toNat=a%256:=by
  rw[BitVec.toNat_and,BitVec.ofInt_natCast,BitVec.ofInt_natCast,BitVec.toNat_ofNat,BitVec.toNat_ofNat,Nat.mod_eq_of_lt ha,Nat.mod_eq_of_lt (show 255<2 ^ 64 by decide)];exact Nat.and_two_pow_sub_one_eq_mod a 8
 show Result.ok (Value.int .u64 (IntKind.u64.wrap ((BitVec.ofInt 64 (a:Int) &&& BitVec.ofInt 64 ((255:Nat):Int)).toNat:Int))) w=_;rw[h2,wrap_u64 _ om]
theorem b0k {T yT:TypeId}{x y:Operand}{a:Nat}(ha:a<18446744073709551616)(h:AL P N ops Q s rest ((d,u6 (a%256))::e) m)(hx:ev e x=some (u6 a):=by exact rfl)(hy:ev e y=some (.lit (.int .u64 255)):=by exact rfl)(hd:Nat.blt d N=true:=by exact rfl):AL P N ops Q s (⟨some d,.binOp .and T x y yT,ty,pos,af,none⟩::rest) e m:=
 EA rfl hx hy (λw=>a8I ha P w) (.inl rfl) hd h
theorem MX (n:Nat):AV.lit (.int .u8 (IntKind.u8.wrap (n:Int)))=.lit (y5 (UInt8.ofNat n)):=by
 unfold y5;rw[IntKind.wrap_u8,UInt8.toNat_ofNat'];simp
theorem a8p {n j:Nat}(h:j<32):(bT n)[j]?=some (UInt8.ofNat (dg n (31-j))):=by
 unfold bT;rw[List.getElem?_reverse (by rw[dP];exact h),dP,YZ om]
theorem Vf {n j:Nat}(h:j<32):(bT n).take (j+1)=(bT n).take j++[UInt8.ofNat (dg n (31-j))]:=by
 rw[List.take_add_one,a8p h];rfl
end
end Av
namespace Go.Proofs.Z
open Go Go.RowKit Tw Av
instance b6h {a:Wd}:Ans Tryz.prog GL 52 [z8 a] True (str (bT a.n)):=⟨λ_=>by
 have hbl:=DT a.n;refine qE Tryz.func52 rfl Tryz.ntmps52 rfl (λ_ hs=>?_);repeat' first|refine O ?_|intro
 rename_i g1;refine Y4 3 (Imp.nil (k:=1)) ?_;refine P6 (λok w h=>h.full 5 1 none 0) ?_;refine y9 (α:=Nat × Value) (λq=>[(1,ptr g1),(3,.sl 1 (((bT a.n).take (8*q.1)).map A7) (some q.2)),(4,int (3-q.1))]) (λq=>[.tail 5 1 q.2,.var g1 45 (z8 a)]) (λq=>q.1<=4) (λq=>4-q.1) (0,.slice none 0 0) zc slr (Nat.zero_le _) ?_;rintro⟨q,v⟩ hq;dsimp only at hq ⊢;repeat' first|refine O ?_|intro
 refine w9 (λhlt=>?_) (λhlt=>?_)
 ·have hq4:q<4:=om
  repeat' first|refine O ?_|intro
  refine y9 (α:=Nat × Value) (λr=>[(1,ptr g1),(3,.sl 1 (((bT a.n).take (8*q+r.1)).map A7) (some r.2)),(4,int (3-q)),(5,int (7-r.1))]) (λr=>[.tail 5 1 r.2,.var g1 45 (z8 a)]) (λr=>r.1<=8) (λr=>8-r.1) (0,v) zc slr (Nat.zero_le _) ?_;rintro⟨r,v⟩ hr;dsimp only at hr ⊢;have hml:(((bT a.n).take (8*q+r)).map A7).length<=32:=by rw[llm,List.length_take];omega
  repeat' first|refine O ?_|intro
  refine w9 (λhlt=>?_) (λhlt=>?_)
  ·have hr8:r<8:=om
   have e1:UInt8.ofNat (lm a.n (3-q) / 256 ^ (7-r))=UInt8.ofNat (dg a.n (31-(8*q+r))):=by
    rw[<- Ll,show (31-(8*q+r)) / 8=3-q by omega,show (31-(8*q+r))%8=7-r by omega];apply UInt8.toNat_inj.1;rw[UInt8.toNat_ofNat',UInt8.toNat_ofNat'];omega
   repeat' first|refine O ?_|intro
   refine O1 (3-q) ?_;repeat' first|refine O ?_|intro
   refine bV (j:=3-q) (IV om) ?_;repeat' first|refine O ?_|intro
   refine We (7-r) ?_;refine yN ?_;rw[MX,e1];repeat' first|refine O ?_|intro
   refine H7 (λv'=>?_);repeat' first|refine O ?_|intro
   have e2:((bT a.n).take (8*q+(r+1))).map A7=((bT a.n).take (8*q+r)).map A7++[A7 (UInt8.ofNat (dg a.n (31-(8*q+r))))]:=by
    rw[<- Nat.add_assoc,Vf om,List.map_append];rfl
   rw[<- e2,show (7:Int)-(r:Int)-1=7-((r+1:Nat):Int) by omega];refine o9 (r+1,v') zc ?_ hr8 (by dsimp only;omega);exact u7
  obtain rfl:r=8:=by omega
  repeat' first|refine O ?_|intro
  rw[show (3:Int)-(q:Int)-1=3-((q+1:Nat):Int) by omega];refine o9 (q+1,v) zc ?_ hq4 (by dsimp only;omega);exact u7
 obtain rfl:q=4:=by omega
 rw[List.take_of_length_le om];exact J7⟩
def eH (c:Bs)(k:Nat):Nat:=O3 (c.take k).reverse
theorem PU {c:Bs}{k:Nat}(h:k<c.length):eH c (k+1)=eH c k*256+c[k].toNat:=by
 unfold eH;rw[List.take_succ_eq_append_getElem h,List.reverse_append,List.reverse_singleton,List.singleton_append,O3];omega
theorem PV (c:Bs)(k:Nat):eH c k<256 ^ k:=by
 have h:=FQ (c.take k).reverse;refine Nat.lt_of_lt_of_le h (Nat.pow_le_pow_right dc ?_);rw[List.length_reverse,List.length_take];omega
theorem a3L {s:Bs}(hs:s.length=32){i:Nat}(hi:i<4):eH ((s.take (8*(3-i)+8)).drop (8*(3-i))) 8=lm (lT s) i:=by
 have hc:((s.take (8*(3-i)+8)).drop (8*(3-i))).length=8:=by rw[List.length_drop,List.length_take];omega
 have e:s.reverse=(s.drop (8*(3-i)+8)).reverse++(((s.take (8*(3-i)+8)).drop (8*(3-i))).reverse++(s.take (8*(3-i))).reverse):=by
  rw[<- List.reverse_append,<- List.reverse_append];congr 1
  have h1:s.take (8*(3-i))=(s.take (8*(3-i)+8)).take (8*(3-i)):=by rw[List.take_take,Nat.min_eq_left om]
  rw[h1,List.take_append_drop,List.take_append_drop]
 have l1:(s.drop (8*(3-i)+8)).reverse.length=8*i:=by rw[List.length_reverse,List.length_drop];omega
 have h1:=FQ (s.drop (8*(3-i)+8)).reverse;have h2:=FQ ((s.take (8*(3-i)+8)).drop (8*(3-i))).reverse;have l2:((s.take (8*(3-i)+8)).drop (8*(3-i))).reverse.length=8:=by rw[List.length_reverse,hc]
 rw[l1] at h1;rw[l2] at h2;unfold lm lT eH;rw[List.take_of_length_le om,e,FR,FR,l1,l2,B_pow,Nat.add_mul_div_left _ _ (Ji _),Nat.div_eq_of_lt h1,Nat.zero_add,show (256:Nat) ^ 8=18446744073709551616 from rfl,Nat.add_mul_mod_self_left];exact(Nat.mod_eq_of_lt h2).symm
theorem a3t {X:Nat->Nat}{i:Nat}(h:i<4)(y z:Nat):(fV X (λj=>if j=i then y else 0) i).set i (u6 z)=fV X (λj=>if j=i then z else 0) i:=by
 rcases i with _|_|_|_|i <;> first|rfl|omega
theorem a3r {X:Nat->Nat}{i:Nat}(h:i<4):fV X (λj=>if j=i then 0 else 0) i=fV X (λ_=>0) i:=by
 rcases i with _|_|_|_|i <;> first|rfl|omega
theorem a3v {X:Nat->Nat}{i:Nat}(h:i<4):fV X (λj=>if j=i then X i else 0) i=fV X (λ_=>0) (i+1):=by
 rcases i with _|_|_|_|i <;> first|rfl|omega
instance a5t {s:Bs}:Ans Tryz.prog GL 327 [str s] (s.length<=1000000000) (.tup [z8 (if s.length=32 then Q5 (lT s) else wZ),int (if s.length=32 then 0 else 10)]):=⟨λhl=>by
 refine qE Tryz.func327 rfl Tryz.ntmps327 rfl (λ_ hs=>?_);repeat' first|refine O ?_|intro
 refine w9 (λhne=>?_) (λhne=>?_)
 ·have h32:¬ s.length=32:=om
  repeat' first|refine O ?_|intro
  refine j6 ?_;rw[if_neg h32,if_neg h32];rfl
 have h32:s.length=32:=om
 repeat' first|refine O ?_|intro
 rename_i g2 g4;refine dY (g:=g4) (v':=.agg 4 (fV (lm (lT s)) (λ_=>0) 0)) (λok w cs h=>by rw[Ky];exact h) ?_;refine y9 (α:=Nat) (λi=>[(0,str s),(2,ptr g2),(3,int 0),(4,ptr g4),(13,int i)])
   (λi=>[.var g4 45 (.agg 4 (fV (lm (lT s)) (λ_=>0) i)),.var g2 45 (Y6 0)]) (λi=>i<=4) (λi=>4-i) 0 zc slr (Nat.zero_le _) ?_
 intro i hi;repeat' first|refine O ?_|intro
 refine w9 (λhlt=>?_) (λhlt=>?_)
 ·have hi4:i<4:=om
  have hln:=WR (lm (lT s)) (λ_=>0) i;repeat' first|refine O ?_|intro
  refine Z4 (8*(3-i)) (8*(3-i)+8) ?_;have hlm:=a3L h32 hi4;have hc:((s.take (8*(3-i)+8)).drop (8*(3-i))).length=8:=by rw[List.length_drop,List.length_take];omega
  generalize (s.take (8*(3-i)+8)).drop (8*(3-i))=c at *;have hmc:(c.map λc=>AV.lit (y5 c)).length=8:=by rw[llm,hc]
  repeat' first|refine O ?_|intro
  rw[<- a3r hi4];refine y9 (α:=Nat) (λk=>[(0,str s),(2,ptr g2),(3,int 0),(4,ptr g4),(13,int i),(5,int i),(24,.sl 1 (c.map λc=>.lit (y5 c)) none),(25,int ((c.map λc=>AV.lit (y5 c)).length)),(26,int k)])
   (λk=>[.var g4 45 (.agg 4 (fV (lm (lT s)) (λj=>if j=i then eH c k else 0) i)),.var g2 45 (Y6 0)]) (λk=>k<=8) (λk=>8-k) 0 zc slr (Nat.zero_le _) ?_
  intro k hk;have hlt8:=PV c k;repeat' first|refine O ?_|intro
  refine w9 (λhlt=>?_) (λhlt=>?_)
  ·have hk8:k<c.length:=om
   have hst:=PU hk8;have hlt9:=PV c (k+1);have hpw:256 ^ (k+1)<=18446744073709551616:=Nat.pow_le_pow_right (n:=256) (j:=8) dc om;have hby:=c[k].toNat_lt;have hln:=WR (lm (lT s)) (λj=>if j=i then eH c k else 0) i;have hg:=Kw (X:=lm (lT s)) (Y:=λj=>if j=i then eH c k else 0) hi4;rw[if_pos rfl] at hg;repeat' first|refine Yz ?_|intro
   refine O1 i ?_;repeat' first|refine Yz ?_|intro
   refine bV hg ?_;repeat' first|refine Yz ?_|intro
   refine O1 i ?_;refine kD (j:=i) (by rw[hln];exact hi4) ?_;rw[show AV.lit (.int .u64 ((eH c k:Int)*256+(c[k].toNat:Int)))=u6 (eH c (k+1)) by rw[hst];congr 2,a3t hi4];repeat' first|refine Yz ?_|intro
   refine o9 (k+1) zc ?_ om om;exact u7
  obtain rfl:k=8:=by omega
  rw[hlm,a3v hi4];repeat' first|refine O ?_|intro
  refine o9 (i+1) zc ?_ hi4 om;exact u7
 obtain rfl:i=4:=by omega
 rw[show AV.agg 4 (fV (lm (lT s)) (λ_=>0) 4)=Y6 (lT s) by rw[WS]];repeat' first|refine O ?_|intro
 refine j6 ?_;rw[if_pos h32,if_pos h32];show AV.tup [Y6 _,_]=.tup [Y6 _,_];rw[qD (a8n h32)]⟩
end Go.Proofs.Z

namespace Go.Proofs.Z
open Go Go.RowKit Tw Av Go.Proofs.Tryz
section
variable {s:Bs}
theorem getD_in {l:Bs}{i:Nat}(h:i<l.length):l.getD i 0=l[i]:=by simp[List.getD,h]
theorem PE :lH s=true↔∀ j,j<s.length->(s.getD j 0).toNat≠47:=by
 unfold lH;rw[List.all_eq_true]
 constructor
 ·intro h j hj;have:=of_decide_eq_true (h s[j] (List.getElem_mem hj));rw[getD_in hj];intro e;exact this (UInt8.toNat_inj.1 e)
 intro h c hc;obtain⟨j,hj,rfl⟩:=List.getElem_of_mem hc;have:=h j hj;rw[getD_in hj] at this;exact dT λe=>this (by rw[e];rfl)
theorem WF {i:Nat}(hi:i<s.length)(h:(s.getD i 0).toNat=47):lH s=false:=by
 cases hn:lH s
 ·rfl
 exact absurd h (PE.1 hn i hi)
theorem Jt (h:lH s=false):J6 s=false:=by unfold J6;rw[h];rfl
theorem Js (h:lH s=true):J6 s=decide (1<=s.length/\s.length<=32):=by unfold J6;rw[h];rfl
instance b6u :Ans prog GL 197 [str s] True (d9 (J6 s)):=⟨λ_=>by
 refine ze func197 ntmps197 λ_ hs=>?_;repeat' first|refine O ?_|intro
 refine a8Y (λg=>?_);repeat' first|refine O ?_|intro
 refine y9 (α:=Nat) (λi=>[(0,str s),(6,ptr g)]) (λi=>[.obj g (.stringIter ⟨s.toArray⟩ i)]) (λi=>i<=s.length/\∀ j,j<i->(s.getD j 0).toNat≠47) (λi=>s.length-i) 0 zc slr ⟨Nat.zero_le _,λ_ h=>absurd h om⟩ ?_;rintro i ⟨hi,hall⟩;repeat' first|refine O ?_|intro
 by_cases hlt:i<s.length
 ·obtain⟨w1,w2,w3⟩:=Ev hlt;obtain⟨r1,r2⟩:=a0W hlt (show 47<128 by decide);refine a9m (pre:=[]) (post:=[]) hlt rfl ?_;repeat' first|refine O ?_|intro
  refine w9 (λh=>?_) (λh=>?_)
  ·repeat' first|refine O ?_|intro
   refine j6 ?_;rw[Jt (WF hlt (r1.1 om))];rfl
  repeat' first|refine O ?_|intro
  refine o9 (i+(kV s i).2) zc slr ⟨w2,λj hj=>?_⟩ om;by_cases hj2:j<i
  ·exact hall j hj2
  exact r2 om j om hj
 refine a9n (g:=g) om (List.mem_singleton.2 rfl) ?_;have hy:lH s=true:=PE.2 λj hj=>hall j om;rw[Js hy];rcases s with _|⟨c,s⟩
 ·exact j4
 repeat' first|refine Z ?_|intro
 refine j6 ?_;rw[decide_eq_decide.2 (show (1<=(c::s).length/\(c::s).length<=32)↔(((c::s).length:Int)<=32) by rw[List.length_cons];omega)];rfl⟩
instance b7p :Ans prog GL 429 [str s] (s.length<=4611686018427387904) (d9 (J6 s)):=⟨λhl=>by
 refine ze func429 ntmps429 λ_ hs=>?_;repeat' first|refine O ?_|intro
 refine y9 (α:=Nat) (λi=>[(0,str s),(3,int i)]) (λi=>[]) (λi=>i<=s.length/\∀ j,j<i->(s.getD j 0).toNat≠47) (λi=>s.length-i) 0 zc slr ⟨Nat.zero_le _,λ_ h=>absurd h om⟩ ?_;rintro i ⟨hi,hall⟩;repeat' first|refine O ?_|intro
 refine w9 (λhlt=>?_) (λhlt=>?_)
 ·have hil:i<s.length:=om
  repeat' first|refine O ?_|intro
  refine vY i ?_ (List.getElem?_eq_getElem hil);repeat' first|refine O ?_|intro
  refine w9 (λh=>?_) (λh=>?_)
  ·repeat' first|refine O ?_|intro
   refine j6 ?_;rw[Jt (WF hil (by rw[getD_in hil];omega))];rfl
  repeat' first|refine O ?_|intro
  refine o9 (i+1) zc slr ⟨hil,λj hj=>?_⟩ om;by_cases hj2:j<i
  ·exact hall j hj2
  obtain rfl:j=i:=by omega
  rw[getD_in hil];omega
 have hy:lH s=true:=PE.2 λj hj=>hall j om;rw[Js hy];repeat' first|refine O ?_|intro
 by_cases h1:1<=s.length
 ·repeat' first|refine Z ?_|intro
  refine j6 ?_;rw[decide_eq_decide.2 (show (1<=s.length/\s.length<=32)↔((s.length:Int)<=32) by omega)];rfl
 repeat' first|refine Z ?_|intro
 refine j6 ?_;have h0:¬ (1<=s.length/\s.length<=32):=λh=>h1 h.1;rw[dZ h0];rfl⟩
theorem JC (s:Bs):F5 s≠[]:=by
 cases s with
 | nil=>simp[F5]
 | cons c s=>
  rw[F5];split <;> simp
theorem Dr:∀ s:Bs,F5 (s++[47])=F5 s++[[]]
 | []=>rfl
 | c::s=>by
  have ih:=Dr s;rw[List.cons_append,F5,F5,ih];split
  ·rfl
  have hn:=JC s;cases h:F5 s with
  | nil=>exact absurd h hn
  | cons a l=>rfl
theorem Dt {c:UInt8}(hc:c≠47):∀ s:Bs,F5 (s++[c])=(F5 s).dropLast++[(F5 s).getLastD []++[c]]
 | []=>by simp[F5,hc]
 | d::s=>by
  have ih:=Dt hc s;have hn:=JC s;rw[List.cons_append,F5,F5,ih];cases h:F5 s with
  | nil=>exact absurd h hn
  | cons a l=>
   split
   ·cases l <;> simp
   cases l <;> simp
theorem TY (s:Bs):(F5 s).dropLast++[(F5 s).getLastD []]=F5 s:=by
 have hn:=JC s;cases h:F5 s with
 | nil=>exact absurd h hn
 | cons a l=>
  rw[List.getLastD_cons,<- List.getLast_eq_getLastD (h:=by simp)];exact List.dropLast_concat_getLast _
theorem JD:∀ s:Bs,(F5 s).length=s.count 47+1
 | []=>rfl
 | c::s=>by
  have ih:=JD s;have hn:=JC s;rw[F5];split
  ·rename_i h;subst h;simp[ih]
  rename_i h;rw[List.count_cons_of_ne (by exact h)];cases h2:F5 s with
  | nil=>exact absurd h2 hn
  | cons a l=>rw[h2] at ih;simpa using ih
theorem TW {x:Bs}(h:x∈F5 s):x.length<=s.length:=by
 induction s generalizing x with
 | nil=>simp[F5] at h;simp[h]
 | cons c s ih=>
  have hn:=JC s;rw[F5] at h;split at h
  ·rcases List.mem_cons.1 h with rfl|h
   ·simp
   have:=ih h;simp;omega
  cases h2:F5 s with
  | nil=>exact absurd h2 hn
  | cons a l=>
   rw[h2] at h;simp at h;rcases h with rfl|h
   ·have:=ih (x:=a) (by rw[h2];simp);simp;omega
   have:=ih (x:=x) (by rw[h2];simp[h]);simp;omega
instance b7o :Ans prog GL 460 [str s] (s.length<=1000000000) (.sl 1 ((F5 s).map str) none):=⟨λhl=>by
 refine ze func460 ntmps460 λ_ hs=>?_;repeat' first|refine O ?_|intro
 refine Y4 3 (Imp.nil (k:=1)) ?_;refine P6 (λok w h=>h.full 9 1 none 0) ?_;refine y9 (α:=Nat × Value) (λq=>[(0,str s),(3,.sl 1 ((F5 (s.take q.1)).dropLast.map str) (some q.2)),(4,str ((F5 (s.take q.1)).getLastD [])),(5,int q.1)]) (λq=>[.tail 9 1 q.2]) (λq=>q.1<=s.length) (λq=>s.length-q.1) (0,.slice none 0 0) zc slr (Nat.zero_le _) ?_;rintro⟨i,v⟩ hi;dsimp only at hi ⊢;have hlen:=JD (s.take i);have hcnt:=List.count_le_length (l:=s.take i) (a:=(47:UInt8));have htl:(s.take i).length<=s.length:=List.length_take_le' _ _;have hlast:((F5 (s.take i)).getLastD []).length<=s.length:=by
  have h:=TY (s.take i);refine Nat.le_trans (TW (s:=s.take i) ?_) htl;rw[<- h];simp
 have hm:((F5 (s.take i)).dropLast.map str).length<=1000000001:=by rw[llm,List.length_dropLast];omega
 repeat' first|refine O ?_|intro
 refine w9 (λhlt=>?_) (λhlt=>?_)
 ·have hil:i<s.length:=om
  have htk:s.take (i+1)=s.take i++[s[i]]:=List.take_succ_eq_append_getElem hil;repeat' first|refine O ?_|intro
  refine vY i ?_ (List.getElem?_eq_getElem hil);repeat' first|refine O ?_|intro
  refine w9 (λh=>?_) (λh=>?_)
  ·have h47:s[i]=47:=UInt8.toNat_inj.1 (by show _=47;omega);have hsp:F5 (s.take (i+1))=F5 (s.take i)++[[]]:=by rw[htk,h47,Dr]
   repeat' first|refine O ?_|intro
   refine H7 (λv'=>?_);repeat' first|refine O ?_|intro
   have e1:(F5 (s.take (i+1))).dropLast.map str=(F5 (s.take i)).dropLast.map str++[str ((F5 (s.take i)).getLastD [])]:=by
    rw[hsp,List.dropLast_concat]
    conv=>lhs;rw[<- TY (s.take i)]
    rw[List.map_append];rfl
   have e2:(F5 (s.take (i+1))).getLastD []=[]:=by rw[hsp,List.getLastD_concat]
   rw[<- e1];refine X4 4 (v:=str []) (v':=str ((F5 (s.take (i+1))).getLastD [])) (Imp.of_eq (by rw[e2])) ?_;refine o9 (i+1,v') zc ?_ hil (by dsimp only;omega);exact u7
  have h47:s[i]≠47:=λe=>h (by rw[e];rfl);have hsp:F5 (s.take (i+1))=(F5 (s.take i)).dropLast++[(F5 (s.take i)).getLastD []++[s[i]]]:=by rw[htk,Dt h47]
  repeat' first|refine O ?_|intro
  refine Z4 i (i+1) ?_;have hone:(s.take (i+1)).drop i=[s[i]]:=by
   rw[htk,List.drop_left' (by rw[List.length_take];omega)]
  rw[hone];have hl1:[s[i]].length=1:=rfl;repeat' first|refine O ?_|intro
  have e1:(F5 (s.take (i+1))).dropLast=(F5 (s.take i)).dropLast:=by rw[hsp,List.dropLast_concat]
  have e2:(F5 (s.take (i+1))).getLastD []=(F5 (s.take i)).getLastD []++[s[i]]:=by rw[hsp,List.getLastD_concat]
  rw[<- e1,<- e2];refine o9 (i+1,v) zc ?_ hil (by dsimp only;omega);exact u7
 obtain rfl:i=s.length:=by omega
 simp only[List.take_length] at hlen hcnt hlast hm ⊢;repeat' first|refine O ?_|intro
 refine H7 (λv'=>?_);repeat' first|refine O ?_|intro
 refine F9 ?_;refine Imp.trans (Imp.of_eq (?_:_=.sl 1 ((F5 s).map str) (some v'))) ?_
 ·conv=>rhs;rw[<- TY s]
  rw[List.map_append];rfl
 exact Imp.sl⟩
end
end Go.Proofs.Z
