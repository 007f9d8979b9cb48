/- . -/
import Derived.Test.YtjhnaegpchadiaaGreatDoorN33
set_option maxHeartbeats 64000000
namespace Av
open Go Go.RowKit Tw
theorem xC {c:Int}(h0:0<=c)(h1:c<=4294967295):IntKind.u32.wrap c=c:=by
 simp[IntKind.wrap,IntKind.bits,IntKind.signed];omega
section
variable {P:Program} {N:Nat} {ops:Array Oper} {Q:Exit->Act->World->Prop} {rest:List Oper} {s:Base} {e:Env} {m:List Piece} {d:Nat} {ty:TypeId} {pos:String} {af:Array Edge}
abbrev dR (n:Int):AV:=.lit (.int .u32 n)
theorem BU {op:BinOp}{T yT:TypeId}{x y:Operand}{i j c:Int}(h:AL P N ops Q s rest ((d,dR c)::e) m)(hx:ev e x=some (dR i):=by exact rfl)(hy:ev e y=some (dR j):=by exact rfl)(hc:arith op i j=some c:=by exact rfl)
  (h0:0<=c:=by omega) (h1:c<=4294967295:=by omega) (hd:Nat.blt d N=true:=by exact rfl):AL P N ops Q s (⟨some d,.binOp op T x y yT,ty,pos,af,none⟩::rest) e m:=
 yV (c:=c) (by rw[xC h0 h1];exact h) hx hy hc hd
theorem MS {op:BinOp}{T yT:TypeId}{x y:Operand}{i j c:Int}(h:AL P N ops Q s rest ((d,dR c)::e) m)(hx:ev e x=some (dR i):=by exact rfl)(hy:ev e y=some (dR j):=by exact rfl)(hc:TQ op i j=some c:=by exact rfl)
  (h0:0<=i:=by omega) (h1:0<j:=by omega) (h2:i<=4294967295:=by omega) (hd:Nat.blt d N=true:=by exact rfl):AL P N ops Q s (⟨some d,.binOp op T x y yT,ty,pos,af,none⟩::rest) e m:=
 VH h hx hy hc h0 h1 (fun c a b=>xC a om) hd
theorem a4H {T yT:TypeId}{yk:IntKind}{x y:Operand}{a:Int}(h:AL P N ops Q s rest ((d,dR (a*65536))::e) m)(hx:ev e x=some (dR a):=by exact rfl)(hy:ev e y=some (.lit (.int yk 16)):=by exact rfl)(h0:0<=a:=by omega)(h1:a<=65535:=by omega)(hd:Nat.blt d N=true:=by exact rfl) :
  AL P N ops Q s (⟨some d,.binOp .shl T x y yT,ty,pos,af,none⟩::rest) e m:=
 BR rfl hx hy (fun w=>by
  have h2:min (16:Int).toNat IntKind.u32.bits=16:=rfl;have h3:¬ ((16:Int)<0):=by omega
  simp only[Op.shift,h3,if_false,h2];show Result.ok (Value.int .u32 (IntKind.u32.wrap (a*2 ^ 16))) w=_;rw[show (2:Int) ^ 16=65536 from rfl,xC om om]) (.inl rfl) hd h
theorem a4Q {T yT:TypeId}{x y:Operand}{a c:Int}(h:AL P N ops Q s rest ((d,dR (a*65536+c))::e) m)(hx:ev e x=some (dR (a*65536)):=by exact rfl)(hy:ev e y=some (dR c):=by exact rfl)(h0:0<=a:=by omega)(h1:0<=c:=by omega)(h2:c<65536:=by omega)(h3:a<=65535:=by omega)(hd:Nat.blt d N=true:=by exact rfl) :
  AL P N ops Q s (⟨some d,.binOp .or T x y yT,ty,pos,af,none⟩::rest) e m:=by
 obtain⟨a,rfl⟩:=Int.eq_ofNat_of_zero_le h0;obtain⟨c,rfl⟩:=Int.eq_ofNat_of_zero_le h1;refine yU rfl hx hy (fun w=>?_) (.inr (.inl rfl)) hd h;have e1:((a:Int)*65536)=((a*65536:Nat):Int):=by simp
 have e2:(BitVec.ofInt IntKind.u32.bits ((a:Int)*65536) ||| BitVec.ofInt IntKind.u32.bits (c:Int)).toNat=a*65536+c:=by
  rw[BitVec.toNat_or,e1,BitVec.ofInt_natCast,BitVec.ofInt_natCast,BitVec.toNat_ofNat,BitVec.toNat_ofNat,show IntKind.u32.bits=32 from rfl,Nat.mod_eq_of_lt om,Nat.mod_eq_of_lt om];have:=Nat.two_pow_add_eq_or_of_lt (i:=16) (b:=c) om a;rw[show a*65536=2 ^ 16*a by omega];exact this.symm
 show Result.ok (Value.int .u32 (IntKind.u32.wrap ((BitVec.ofInt IntKind.u32.bits ((a:Int)*65536) ||| BitVec.ofInt IntKind.u32.bits (c:Int)).toNat:Int))) w=_;rw[e2,xC om om];simp
end
end Av
namespace Go.Proofs.YtjhnaegpchadiaaGreatDoor
open Go Go.RowKit Tw Av
theorem a3l {T3 T4:TypeId}{g3 g4:Nat}{q:Nat × Nat}{c:UInt8}(hq:q.1<65521/\q.2<65521):Av.Spec Tryz.prog GL 322 [w9 c,ptr g3,ptr g4] [.var g4 T4 (dR q.2),.var g3 T3 (dR q.1)] fun u m=>u=.tup []/\m=[.var g4 T4 (dR (uG q c).2),.var g3 T3 (dR (uG q c).1)]:=by
 obtain⟨a,b⟩:=q;have hc:=c.toNat_lt;dsimp only at hq;refine qF Tryz.func322 Tryz.ntmps322 fun _ hs=>?_;repeat' first|refine Zz ?_|intro _
 rw[xC om om];refine BU ?_;refine MS ?_;repeat' first|refine Zz ?_|intro _
 refine BU ?_;refine MS ?_;repeat' first|refine Zz ?_|intro _
 refine iW _ ⟨rfl,?_⟩ slr;unfold uG;dsimp only;rw[show ((((a+c.toNat)%65521:Nat):Int))=((a:Int)+c.toNat)%65521 by omega,show ((((b+(a+c.toNat)%65521)%65521:Nat):Int))=((b:Int)+((a:Int)+c.toNat)%65521)%65521 by omega]
theorem XM {s:Bs}{i:Nat}(h:i<s.length):mV (s.take (i+1))=uG (mV (s.take i)) s[i]:=by
 unfold mV;rw[<- List.take_append_getElem h,List.foldl_append];rfl
instance b5o {s:Bs}:Ans Tryz.prog GL 235 [str s] (s.length<=4611686018427387904) (dR (dV s)):=⟨fun hl=>by
 refine qF Tryz.func235 Tryz.ntmps235 fun _ hs=>?_;repeat' first|refine Zz ?_|intro _
 rename_i g3 g4;have hcs:∀ v∈[Value.pointer (some ⟨g3,0,none⟩),.pointer (some ⟨g4,0,none⟩)],v.oneCell'=true:=by simp[Value.oneCell']
 refine gH (vs:=[.pointer (some ⟨g3,0,none⟩),.pointer (some ⟨g4,0,none⟩)]) ?_;repeat' first|refine Zz ?_|intro _
 refine y5 (α:=Nat) (fun i=>[(0,str s),(3,ptr g3),(4,ptr g4),(5,F4 322 [.pointer (some ⟨g3,0,none⟩),.pointer (some ⟨g4,0,none⟩)]),(9,int s.length),(10,int i)])
  (fun i=>[.var g4 268 (dR (mV (s.take i)).2),.var g3 268 (dR (mV (s.take i)).1)]) (fun i=>i<=s.length) (fun i=>s.length-i) 0 ⟨rfl,rfl,rfl,rfl,rfl,rfl,trivial⟩ slr (Nat.zero_le _) ?_
 intro i hi;have hq:=OG (s.take i);by_cases hi':i<s.length
 ·repeat' first|refine Zz ?_|intro _
  refine MQ (c:=s[i]) ?_ (hc:=by rw[Int.toNat_natCast];exact List.getElem?_eq_getElem hi');repeat' first|refine Zz ?_|intro _
  refine wX (args:=[w9 s[i]]) (a3l hq) (fun u m1 hh=>?_) (hcs:=hcs);obtain⟨rfl,rfl⟩:=hh;rw[<- XM hi'];repeat' first|refine Zz ?_|intro _
  exact o6 (i+1) ⟨rfl,rfl,rfl,rfl,rfl,rfl,trivial⟩ slr hi' om
 ·obtain rfl:i=s.length:=by omega
  rw[List.take_length] at hq ⊢;repeat' first|refine Zz ?_|intro _
  refine a4H ?_;repeat' first|refine Zz ?_|intro _
  refine a4Q ?_;repeat' first|refine Zz ?_|intro _
  refine d9 ?_;unfold dV;rw[Int.natCast_add,Int.natCast_mul];rfl⟩
attribute [local irreducible] dV
instance b5p {s:Bs}:Ans Tryz.prog GL 136 [str s] True (.tup [str (if 1048576<s.length then [] else y8 s),int (if 1048576<s.length then 11 else 0)]):=⟨fun _=>by
 refine qF Tryz.func136 Tryz.ntmps136 fun _ hs=>?_;repeat' first|refine Zz ?_|intro _
 refine o8 (fun h=>?_) (fun h=>?_)
 ·rw[if_pos (show 1048576<s.length by omega),if_pos (show 1048576<s.length by omega)];repeat' first|refine Zz ?_|intro _
  exact d9 rfl
 ·rw[if_neg (show ¬ 1048576<s.length by omega),if_neg (show ¬ 1048576<s.length by omega)];have hr:=OE (j6 82 s);have hl:(j6 82 s).length<=4611686018427387904:=Nat.le_trans LenLe.out dc;repeat' first|refine Zz ?_|intro _
  exact d9 rfl⟩
theorem YU (c most:Int)(s:Bs)(b:Bool):j5 c most s b=s.drop (s.length-(j5 c most s b).length):=by
 have key:∃ k,j5 c most s b=s.drop k:=by
  unfold j5 Z0;split
  ·split
   ·rename_i s0 s1 s2 s3 r _;exact⟨bJ s1 s2 s3+4,rfl⟩
   ·exact⟨0,rfl⟩
  ·exact⟨0,rfl⟩
 obtain⟨k,hk⟩:=key;rw[hk,List.length_drop];by_cases h:k<=s.length
 ·rw[show s.length-(s.length-k)=k by omega]
 ·rw[List.drop_of_length_le om,List.drop_of_length_le om]
theorem Qk (s:Bs):(iM s).length<=s.length:=Nat.le_trans (X5 _ _ _ _).1 (X5 _ _ _ _).1
theorem Ql (s:Bs):iM s=s.drop (s.length-(iM s).length):=by
 have h1:=YU 82 1048576 s false;have h2:=YU 83 8 (V7 s) (aL s);have l1:=(X5 82 1048576 s false).1;have l2:=(X5 83 8 (V7 s) (aL s)).1;show j5 83 8 (V7 s) (aL s)=s.drop (s.length-(j5 83 8 (V7 s) (aL s)).length);rw[h2];have l1':(V7 s).length<=s.length:=l1;have h1':V7 s=s.drop (s.length-(V7 s).length):=h1;generalize j5 83 8 (V7 s) (aL s)=z at *;rw[List.length_drop,show (V7 s).length-((V7 s).length-z.length)=z.length by omega]
 conv=>lhs;rw[h1',List.drop_drop]
 congr 1
 rw[List.length_drop];omega
instance b5n {s:Bs}:Ans Tryz.prog GL 210 [str s] (s.length<=1000000000) (.tup [str (if fG s=true then aK s else []),int (if fG s=true then (s.length:Int)-(iM s).length else 0),int (if fG s=true then 0 else 10)]):=⟨fun hl=>by
 have hA:(V7 s).length<=s.length:=(X5 82 1048576 s false).1;have hZ:=Qk s;have e1:j5 82 1048576 s false=V7 s:=rfl;have e2:z8 82 1048576 s false=aL s:=rfl;have e3:D8 82 1048576 s false=aK s:=rfl;have e4:K3 83 4294967295 (V7 s) (aL s)=xE s:=rfl;have e5:j5 83 8 (V7 s) (aL s)=iM s:=rfl;have e6:K8 83 4294967295 (V7 s) (aL s)=xD s:=rfl;refine qF Tryz.func210 Tryz.ntmps210 fun _ hs=>?_;repeat' first|refine Zz ?_|intro _
 refine X4 sP (fun u m1 hh=>?_);obtain⟨g,rfl,rfl⟩:=hh;repeat' first|refine Zz ?_|intro _
 rw[e1,e2,e3];cases hb:aL s
 ·rw[show (if false=true then 0 else (V7 s).length)=(V7 s).length from rfl];repeat' first|refine Zz ?_|intro _
  rw[hb] at e4 e5 e6;rw[e4,e5,e6];repeat' first|refine Zz ?_|intro _
  have hr:0<=xE s/\xE s<=4294967295:=by
   unfold xE K3;split <;> omega
  have ht:(s.take (s.length-(V7 s).length)).length<=4611686018427387904:=by
   rw[List.length_take];omega
  cases hy:xD s
  ·repeat' first|refine Zz ?_|intro _
   rw[xC hr.1 hr.2];refine U7 0 (s.length-(V7 s).length) ?_;rw[List.drop_zero];repeat' first|refine Zz ?_|intro _
   have hk:fG s=decide (xE s=dV (s.take (s.length-(V7 s).length))):=by
    unfold fG;rw[hy];rfl
   refine o8 (fun h=>?_) (fun h=>?_)
   ·rw[dZ h] at hk;rw[hk];repeat' first|refine Zz ?_|intro _
    exact d9 rfl
   ·rw[dT (Classical.not_not.1 h)] at hk;rw[hk];repeat' first|refine Zz ?_|intro _
    rw[show (if false=true then 0 else (iM s).length)=(iM s).length from rfl];repeat' first|refine Zz ?_|intro _
    exact d9 rfl
  ·have hk:fG s=false:=by
    unfold fG;rw[hy];rfl
   rw[hk];repeat' first|refine Zz ?_|intro _
   exact d9 rfl
 ·have hy:xD s=true:=by
   unfold xD K8;rw[hb];simp[nC,z8,wC]
  have hk:fG s=false:=by
   unfold fG;rw[hy];rfl
  rw[if_pos rfl];repeat' first|refine Zz ?_|intro _
  rw[hb] at e4 e5 e6;rw[e4,e5,e6,hy,hk];repeat' first|refine Zz ?_|intro _
  exact d9 rfl⟩
theorem a5U {f:Nat}{s:Bs}(h:fG s=true):mI (f+1) s=(aK s::(mI f (iM s)).1,(mI f (iM s)).2):=by
 rw[mI,if_pos h]
theorem a5V {f:Nat}{s:Bs}(h:fG s=false):mI (f+1) s=([],s):=by
 rw[mI,if_neg (by rw[h];decide)]
instance b5q {s:Bs}:Ans Tryz.prog GL 106 [str s] (s.length<=1000000000) (.tup [.sl 1 ((mH s).map str) none,int ((s.length:Int)-(wY s).length)]):=⟨fun hl=>by
 refine qF Tryz.func106 Tryz.ntmps106 fun _ hs=>?_;repeat' first|refine Zz ?_|intro _
 refine aT 2 (Imp.nil (k:=1)) ?_;refine Q6 (fun ok w h=>h.full 9 1 none 0) ?_;refine y5 (α:=List Bs × Nat × Nat × Value) (fun z=>[(0,str s),(2,.sl 1 (z.1.map str) (some z.2.2.2)),(3,int z.2.1)]) (fun z=>[.tail 9 1 z.2.2.2])
  (fun z=>z.2.1<=s.length/\z.1.length<=z.2.1/\(s.drop z.2.1).length<z.2.2.1/\mH s=z.1++(mI z.2.2.1 (s.drop z.2.1)).1/\wY s=(mI z.2.2.1 (s.drop z.2.1)).2) (fun z=>s.length-z.2.1) ([],0,s.length+1,.slice none 0 0) ⟨rfl,rfl,rfl,trivial⟩ slr
  ⟨Nat.zero_le _,Nat.le_refl _,Nat.lt_succ_self _,rfl,rfl⟩ ?_
 rintro⟨acc,n,f,v⟩ ⟨hn,ha,hf,h1,h2⟩;dsimp only at hn ha hf h1 h2 ⊢;repeat' first|refine Zz ?_|intro _
 refine U7 n s.length ?_;rw[List.take_length];have hdl:(s.drop n).length=s.length-n:=List.length_drop;rcases f with _|f
 ·omega
 have hal:(acc.map str).length=acc.length:=llm _;cases hk:fG (s.drop n)
 ·rw[a5V hk] at h1 h2;dsimp only at h1 h2;rw[List.append_nil] at h1;repeat' first|refine Zz ?_|intro _
  rw[hk];repeat' first|refine Zz ?_|intro _
  rw[h1,h2,hdl];refine E5 ?_;show Imp (.tup [.sl 1 (acc.map str) (some v),int n]) (.tup [.sl 1 (acc.map str) none,int ((s.length:Int)-((s.length-n:Nat):Int))]);rw[show (s.length:Int)-((s.length-n:Nat):Int)=n by omega];exact ImpR.imp
 ·rw[a5U hk] at h1 h2;dsimp only at h1 h2;have hd:=Qj hk;have hz:=Ql (s.drop n);rw[hdl] at hd hz;rw[List.drop_drop] at hz;repeat' first|refine Zz ?_|intro _
  rw[hk];repeat' first|refine Zz ?_|intro _
  refine I1 (fun v'=>?_);repeat' first|refine Zz ?_|intro _
  generalize hN:n+(s.length-n-(iM (s.drop n)).length)=N at hz;simp only[if_true];refine aR 3 (v:=int ((n:Int)+(((s.drop n).length:Int)-((iM (s.drop n)).length:Int)))) (v':=int N) (Imp.of_eq (by rw[hdl,show (n:Int)+(((s.length-n:Nat):Int)-((iM (s.drop n)).length:Int))=(N:Int) by omega])) ?_;refine aR 2 (v:=.sl 1 (acc.map str++[str (aK (s.drop n))]) (some v')) (v':=.sl 1 ((acc++[aK (s.drop n)]).map str) (some v')) (Imp.of_eq (by rw[List.map_append];rfl)) ?_;refine o6 (acc++[aK (s.drop n)],N,f,v') ⟨rfl,rfl,rfl,trivial⟩ slr ⟨?_,?_,?_,?_,?_⟩ ?_
  ·dsimp only;omega
  ·dsimp only;rw[lla,List.length_singleton];omega
  ·dsimp only;rw[<- hz];omega
  ·dsimp only;rw[<- hz,h1,laa];rfl
  ·dsimp only;rw[<- hz,h2]
  ·dsimp only;omega⟩
end Go.Proofs.YtjhnaegpchadiaaGreatDoor

namespace Go.Proofs.YtjhnaegpchadiaaGreatDoor
open Go Go.RowKit Tw Av Go.Proofs.Tryz
theorem Gg {I:DvI}{x:DvX}{gd gb:Nat}{T1:TypeId}{l:Bs}{m0:List Av.Piece}{a:Int}(hx:DvOk x)(hon:x.on=true)(ha:0<=a/\a<x.n)(hw:x.ws.length<=1000000)(hl:l.length<=1000000)(hB:Bld gb l m0) :
  Av.Spec prog GL 102 [int a,ptr gd,ptr gb] ((.var gd T1 (ptr I.gd)::F5 I x)++m0) fun u m=>u=j3 true/\∃ m1,Bld gb (l++aF x a) m1/\m=(.var gd T1 (ptr I.gd)::F5 I x)++m1:=by
 have hh:fD x a=true:=dT ha;refine qF func102 ntmps102 fun _ hs=>?_;repeat' first|refine Zz ?_|intro _
 refine gJ [_] (F5 I x) m0 (TC hon hh hw) (fun u m1 hu=>?_);obtain⟨rfl,rfl⟩:=hu;have h64:=LP hx a;repeat' first|refine Zz ?_|intro _
 refine Ni (.var gd T1 (ptr I.gd)::F5 I x) m0 (Ku (a:=aF x a) hB om) (fun u m1 hu=>?_);obtain⟨rfl,hB1⟩:=hu;repeat' first|refine Zz ?_|intro _
 exact l9 _ ⟨rfl,m1,hB1,rfl⟩ slr
theorem Le {g:Nat}{l:Bs}{m:List Av.Piece}(hb:Bld g l m):Av.Spec prog GL 104 [ptr g] m fun u m'=>u=int l.length/\m'=m:=by
 obtain⟨p,hp,⟨rfl,rfl⟩|⟨g',c,h0,hc,rfl⟩⟩:=hb
 ·refine qF func104 ntmps104 fun _ hs=>?_;repeat' first|refine Zz ?_|intro _
  exact l9 _ ⟨rfl,rfl⟩ slr
 ·refine qF func104 ntmps104 fun _ hs=>?_;repeat' first|refine Zz ?_|intro _
  trace_state
  exact l9 _ ⟨rfl,rfl⟩ slr
theorem WP {s:Bs}:0<=((T9 s).getD jE).e/\0<=((T9 s).getD jE).b/\0<=((T9 s).getD jE).c:=by
 unfold T9;split
 ·exact⟨Int.natCast_nonneg _,Int.natCast_nonneg _,Int.natCast_nonneg _⟩
 ·exact⟨Int.le_refl _,Int.le_refl _,Int.le_refl _⟩
theorem QR {a b:Bs}:0<=(rR a b).b:=by
 unfold rR;split
 ·exact WP.2.1
 ·exact WP.2.1
theorem TK {x:DvX}(hx:DvOk x){b:Int}{k:Nat}(hk:b<=64*k):(dJ x k).take b.toNat=U1 x b:=by
 unfold U1 QX;have key:∀ (k j:Nat),j<=k->(dJ x k).take (64*j)=dJ x j:=by
  intro k j hj
  induction k with
  | zero=>
   obtain rfl:j=0:=by omega
   rfl
  | succ k ih=>
   rw[yE];by_cases h:j<=k
   ·rw[List.take_append_of_le_length (by rw[yF hx];omega),ih h]
   ·obtain rfl:j=k+1:=by omega
    rw[List.take_of_length_le (by rw[lla,yF hx,LP hx];omega),yE]
 by_cases hb:0<=b
 ·rw[<- key k ((b+63) / 64).toNat om,List.take_take,Nat.min_eq_left om]
 ·rw[show b.toNat=0 by omega];rfl
theorem a1a {I:DvI}{x:DvX}(hx:DvOk x)(hw:x.ws.length<=1000000)(h0:kW x=0):Av.Spec prog GL 49 [ptr I.gd] (F5 I x) fun u m=>∃ gs,u=.tup [ptr gs,.sl 1 ((EP x).map str) none,int 0]/\m=O8 ⟨I,gs⟩ x (dX x):=by
 have hn:=hx.n;have h2:¬ x.n<=2:=fun h=>by unfold kW at h0;rw[if_pos h] at h0;cases h0
 have hon:x.on=true:=by
  cases h:x.on with
  | true=>rfl
  | false=>unfold kW at h0;rw[if_neg h2,if_pos h] at h0;cases h0
 have hr:¬ J4 x.n<(H5 x).b:=fun h=>by unfold kW at h0;rw[if_neg h2,if_neg (by rw[hon];decide),if_pos h] at h0;cases h0
 have hA:wY (U1 x (H5 x).b)=[]/\((mH (U1 x (H5 x).b)).length:Int)=(H5 x).c:=by
  unfold kW at h0;rw[if_neg h2,if_neg (by rw[hon];decide),if_neg hr] at h0;by_cases h:wY (U1 x (H5 x).b)=[]/\((mH (U1 x (H5 x).b)).length:Int)=(H5 x).c
  ·exact h
  ·rw[if_neg h] at h0;cases h0
 have hh0:fD x 0=true:=dT ⟨om,om⟩;have hh1:fD x 1=true:=dT ⟨om,om⟩;have hrm:J4 x.n<=262016:=by unfold J4;omega
 have hrn:J4 x.n=(x.n-2)*64:=rfl;have hbn:0<=(H5 x).b:=QR;refine qF func49 ntmps49 fun _ hs=>?_;repeat' first|refine Zz ?_|intro _
 refine gJ [_] (F5 I x) [] (TC hon hh0 hw) (fun u m1 hu=>?_);obtain⟨rfl,rfl⟩:=hu;repeat' first|refine Zz ?_|intro _
 refine gJ [_] (F5 I x) [] (TC hon hh1 hw) (fun u m1 hu=>?_);obtain⟨rfl,rfl⟩:=hu;repeat' first|refine Zz ?_|intro _
 rw[show rR (aF x 0) (aF x 1)=H5 x from rfl];repeat' first|refine Zz ?_|intro _
 rename_i g1 g8 g9;have hcs:∀ v∈[Value.pointer (some ⟨g1,0,none⟩),.pointer (some ⟨g9,0,none⟩)],v.oneCell'=true:=by simp[Value.oneCell']
 refine gH (vs:=[.pointer (some ⟨g1,0,none⟩),.pointer (some ⟨g9,0,none⟩)]) ?_;repeat' first|refine Zz ?_|intro _
 refine yX ([.var g9 188 (.agg 2 [.lit (.pointer none),A7])]++([.var g8 183 (dE (H5 x))]++(.var g1 73 (ptr I.gd)::F5 I x))) _ ?_ lpr slr;refine y5 (α:=Nat × List Av.Piece) (fun z=>[(1,ptr g1),(8,ptr g8),(9,ptr g9),(10,F4 102 [.pointer (some ⟨g1,0,none⟩),.pointer (some ⟨g9,0,none⟩)]),(11,int (2+z.1))]) (fun z=>z.2++([.var g8 183 (dE (H5 x))]++(.var g1 73 (ptr I.gd)::F5 I x)))
  (fun z=>(z.1:Int)*64<(H5 x).b+64/\Bld g9 (dJ x z.1) z.2) (fun z=>5000-z.1) (0,[.var g9 188 (.agg 2 [.lit (.pointer none),A7])]) ⟨rfl,rfl,rfl,rfl,rfl,trivial⟩ slr ⟨by have:=(QR (a:=aF x 0) (b:=aF x 1));unfold H5;dsimp only;omega,none,.inl rfl,.inl ⟨rfl,rfl⟩⟩ ?_
 rintro⟨k,m0⟩ ⟨hk,hB⟩;dsimp only at hk hB ⊢;have hsl:=yF hx k;obtain⟨p,hp,⟨hl0,rfl⟩|⟨g',c,hl0,hc,rfl⟩⟩:=id hB
 ·repeat' first|refine Zz ?_|intro _
  apply x8 [0];exact rfl;exact rfl;kernel_rfl
  ·intro _ _;refine X4 (Le hB) (fun u m1 hu=>?_);obtain⟨rfl,rfl⟩:=hu;exact j4 (o9 rfl rfl)
  by_cases hlt:((dJ x k).length:Int)<(H5 x).b
  ·repeat' first|refine Zz ?_|intro _
   refine nT (args:=[int (2+k)]) ((.var g1 73 (ptr I.gd)::F5 I x)++_) [.var g8 183 (dE (H5 x))] (by rw[hs];exact Gg (T1:=73) (l:=dJ x k) (a:=2+(k:Int)) hx hon ⟨om,om⟩ hw om hB) (fun u m1 hu=>?_) ?_ (hcs:=hcs);rotate_left
   ·exact List.perm_append_comm.trans (by rw[laa];exact List.perm_append_comm)
   obtain⟨rfl,m2,hB2,rfl⟩:=hu;rw[<- yE] at hB2;repeat' first|refine Zz ?_|intro _
   refine nU (m2++([.var g8 183 (dE (H5 x))]++(.var g1 73 (ptr I.gd)::F5 I x))) _ ?_ ?_ slr
   ·exact o6 (k+1,m2) ⟨rfl,rfl,rfl,rfl,rfl,trivial⟩ slr ⟨by dsimp only;omega,hB2⟩ (by dsimp only;omega)
   ·exact List.perm_append_comm.trans (by rw[laa];exact List.perm_append_comm)
  ·have hlg:(dJ x k).take (H5 x).b.toNat=U1 x (H5 x).b:=TK hx om;have hll:(U1 x (H5 x).b).length<=1000000:=by
    rw[<- hlg,List.length_take];omega
   have hrc:((mH (U1 x (H5 x).b)).map str).length=(mH (U1 x (H5 x).b)).length:=llm _;have hc2:=hA.2;have hl1:(([]:Bs)).length=0:=rfl;repeat' first|refine Zz ?_|intro _
   apply kC [0];exact rfl;exact rfl;kernel_rfl
   ·intro _ _;refine X4 (UO (l:=dJ x k) hB om) (fun u m1 hu=>?_);subst hu;refine j4 (nU [] [] ?_ lpr (List.nil_sublist _));refine sJ (fun ok w h=>h.full 0 1 none 0) ?_;exact o9 rfl rfl
   ·exact rfl
   ·exact rfl
   repeat' first|refine Zz ?_|intro _
   apply x8 [];exact rfl;exact rfl;kernel_rfl
   ·intro _ _;refine U7 0 (H5 x).b.toNat ?_;rw[List.drop_zero,hlg];exact j4 (o9 rfl rfl)
   repeat' first|refine Zz ?_|intro _
   rw[hA.1];repeat' (first|refine bK ?_|refine O3 ?_|refine M7 ?_|intro _|simp only[List.set]|refine xY ?_|refine xZ ?_|refine sD ?_|refine vE ?_|fail)
   refine xB [0,1,2,3,4,5,6,7,8,9,10,12,11,13,14,15] kr rfl hs kr ?_;repeat' first|refine Zz ?_|intro _
   apply x8 [];exact rfl;exact rfl;kernel_rfl
   ·intro _ _;refine U7 ((U1 x (H5 x).b).length-(U1 x (H5 x).b).length%64) (U1 x (H5 x).b).length ?_ (h4:=Nat.le_refl _);rw[List.take_length];exact j4 (o9 rfl rfl)
   repeat' first|refine Zz ?_|intro _
   rename_i gs;refine nU (O8 ⟨I,gs⟩ x (dX x)) (F5 I x++[.var gs 198 (zH I.gd (dX x))]) ?_ (List.perm_append_comm (l₁:=[_])) ?_
   ·exact l9 _ ⟨gs,rfl,rfl⟩ slr
   ·exact x9
 ·repeat' first|refine Zz ?_|intro _
  apply x8 [0,1];exact rfl;exact rfl;kernel_rfl
  ·intro _ _;refine X4 (Le hB) (fun u m1 hu=>?_);obtain⟨rfl,rfl⟩:=hu;exact j4 (o9 rfl rfl)
  by_cases hlt:((dJ x k).length:Int)<(H5 x).b
  ·repeat' first|refine Zz ?_|intro _
   refine nT (args:=[int (2+k)]) ((.var g1 73 (ptr I.gd)::F5 I x)++_) [.var g8 183 (dE (H5 x))] (by rw[hs];exact Gg (T1:=73) (l:=dJ x k) (a:=2+(k:Int)) hx hon ⟨om,om⟩ hw om hB) (fun u m1 hu=>?_) ?_ (hcs:=hcs);rotate_left
   ·exact List.perm_append_comm.trans (by rw[laa];exact List.perm_append_comm)
   obtain⟨rfl,m2,hB2,rfl⟩:=hu;rw[<- yE] at hB2;repeat' first|refine Zz ?_|intro _
   refine nU (m2++([.var g8 183 (dE (H5 x))]++(.var g1 73 (ptr I.gd)::F5 I x))) _ ?_ ?_ slr
   ·exact o6 (k+1,m2) ⟨rfl,rfl,rfl,rfl,rfl,trivial⟩ slr ⟨by dsimp only;omega,hB2⟩ (by dsimp only;omega)
   ·exact List.perm_append_comm.trans (by rw[laa];exact List.perm_append_comm)
  ·have hlg:(dJ x k).take (H5 x).b.toNat=U1 x (H5 x).b:=TK hx om;have hll:(U1 x (H5 x).b).length<=1000000:=by
    rw[<- hlg,List.length_take];omega
   have hrc:((mH (U1 x (H5 x).b)).map str).length=(mH (U1 x (H5 x).b)).length:=llm _;have hc2:=hA.2;have hl1:(([]:Bs)).length=0:=rfl;repeat' first|refine Zz ?_|intro _
   apply kC [0,1];exact rfl;exact rfl;kernel_rfl
   ·intro _ _;refine X4 (UO (l:=dJ x k) hB om) (fun u m1 hu=>?_);subst hu;refine j4 (nU [] [] ?_ lpr (List.nil_sublist _));refine sJ (fun ok w h=>h.full 0 1 none 0) ?_;refine sJ (fun ok w h=>h.full 0 1 none 0) ?_;exact o9 rfl rfl
   ·exact rfl
   ·exact rfl
   repeat' first|refine Zz ?_|intro _
   apply x8 [];exact rfl;exact rfl;kernel_rfl
   ·intro _ _;refine U7 0 (H5 x).b.toNat ?_;rw[List.drop_zero,hlg];exact j4 (o9 rfl rfl)
   repeat' first|refine Zz ?_|intro _
   rw[hA.1];repeat' (first|refine bK ?_|refine O3 ?_|refine M7 ?_|intro _|simp only[List.set]|refine xY ?_|refine xZ ?_|refine sD ?_|refine vE ?_|fail)
   refine xB [0,1,2,3,4,5,6,7,8,9,10,12,11,13,14,15] kr rfl hs kr ?_;repeat' first|refine Zz ?_|intro _
   apply x8 [];exact rfl;exact rfl;kernel_rfl
   ·intro _ _;refine U7 ((U1 x (H5 x).b).length-(U1 x (H5 x).b).length%64) (U1 x (H5 x).b).length ?_ (h4:=Nat.le_refl _);rw[List.take_length];exact j4 (o9 rfl rfl)
   repeat' first|refine Zz ?_|intro _
   rename_i gs;refine nU (O8 ⟨I,gs⟩ x (dX x)) (F5 I x++[.var gs 198 (zH I.gd (dX x))]) ?_ (List.perm_append_comm (l₁:=[_])) ?_
   ·exact l9 _ ⟨gs,rfl,rfl⟩ slr
   ·exact x9
end Go.Proofs.YtjhnaegpchadiaaGreatDoor

namespace Go.Proofs.YtjhnaegpchadiaaGreatDoor
open Go Go.RowKit Tw Av
def tn (c:Nat)(a b:Bs):Bs:=a.take c++b.drop c
theorem Qf {c:Nat}{a b:Bs}(h:a.length=b.length):(tn c a b).length=b.length:=by
 unfold tn;rw[lla,List.length_take,List.length_drop];omega
theorem Qe {c k:Nat}{a b:Bs}(h:a.length=b.length)(he:a.take k=b.take k):(tn c a b).take k=a.take k:=by
 unfold tn;by_cases hk:k<=c
 ·by_cases hc:k<=a.length
  ·rw[List.take_append_of_le_length (by rw[List.length_take];omega),List.take_take,Nat.min_eq_left hk]
  ·rw[List.drop_of_length_le om,List.append_nil,List.take_take,Nat.min_eq_left hk]
 ·have h1:a.take c=b.take c:=by
   have:=congrArg (List.take c) he
   rwa [List.take_take,List.take_take,Nat.min_eq_left om] at this
  rw[h1,List.take_append_drop,he]
def aJ (f:Int->Bs)(a:Int)(s:Bs):Int->Bs:=fun b=>if b=a then s else f b
theorem a2u {x:DvX}{w:Int × Bs}(h:MpN x.es):H7 (aG x w)=aJ (H7 x) w.1 w.2:=funext fun b=>TM h b
theorem a2Z {x:DvX}{k:List Bool}{torn cut:Int}{i:Nat}{w:Int × Bs}(h:DvOk x)(hw:w.2.length=64) :
  H7 (BG x k torn cut i w)=H7 x\/∃ c,H7 (BG x k torn cut i w)=aJ (H7 x) w.1 (tn c w.2 (H7 x w.1)):=by
 unfold BG;split
 ·right
  rw[a2u h.mn];dsimp only;split
  ·exact⟨_,rfl⟩
  ·refine⟨64,?_⟩;unfold tn;rw[List.take_of_length_le om,List.drop_of_length_le (by rw[BD h];omega),List.append_nil]
 ·exact .inl rfl
theorem Jg {k:List Bool}{torn cut:Int}(P:(Int->Bs)->Prop):∀ {ws:List (Int × Bs)} {i:Nat} {x:DvX},DvOk x->(∀ w∈ws,w.2.length=64) ->
  (∀ w∈ws,∀ f c,(∀ a,(f a).length=64)->P f->P (aJ f w.1 (tn c w.2 (f w.1))))->P (H7 x)->P (H7 (UB k torn cut i x ws))
 | [],_,_,_,_,_,h=>h
 | w::ws,i,x,hx,hw,hP,h=>by
  refine Jg P (ws:=ws) (a3a hx (hw w sm)) (fun v hv=>hw v (by simp[hv])) (fun v hv=>hP v (by simp[hv])) ?_;rcases a2Z (k:=k) (torn:=torn) (cut:=cut) (i:=i) hx (hw w sm) with e|⟨c,e⟩
  ·rw[e];exact h
  ·rw[e];exact hP w sm _ c (BD hx) h
theorem Il {x:DvX}{k:List Bool}{torn cut:Int}(P:(Int->Bs)->Prop)(hx:DvOk x)(hP:∀ w∈x.ws,∀ f c,(∀ a,(f a).length=64)->P f->P (aJ f w.1 (tn c w.2 (f w.1))))(h:P (H7 x)):P (H7 (wP x k torn cut)):=by
 unfold wP;split
 ·exact h
 ·exact Jg P hx hx.wl hP h
theorem ND (w:Int × Bs)(ws:List (Int × Bs))(b:Int):bL (w::ws) b=match bL ws b with|some s=>some s|none=>if w.1=b then some w.2 else none:=by
 unfold bL;rw[List.reverse_cons,List.find?_append];cases ws.reverse.find? fun w=>decide (w.1=b) with
 | some v=>rfl
 | none=>
  by_cases h:w.1=b <;> simp[h]
theorem Gd:∀ {ws:List (Int × Bs)} {x:DvX},MpN x.es->∀ b,H7 (ws.foldl aG x) b=(bL ws b).getD (H7 x b)
 | [],_,_,_=>rfl
 | w::ws,x,h,b=>by
  rw[List.foldl_cons,Gd (ws:=ws) (show MpN (aG x w).es from Du h),ND,TM h];cases bL ws b with
  | some s=>rfl
  | none=>
   by_cases e:b=w.1
   ·rw[if_pos e];simp[e]
   ·rw[if_neg e];have:¬ w.1=b:=fun h=>e h.symm;simp[this]
theorem Ij {x:DvX}(h:MpN x.es)(b:Int):H7 (X6 x) b=aF x b:=Gd h b
theorem Jw:∀ {f:Nat} {a:Int} {s:Bs} {w:Int × Bs},w∈qL f a s->∃ j:Nat,w=(a+j,M6 (s.drop (64*j)))/\64*j<s.length
 | 0,_,_,_,h=>by simp[qL] at h
 | f+1,a,s,w,h=>by
  unfold qL at h;split at h
  ·simp at h
  ·rename_i hs;have hl:0<s.length:=List.length_pos_iff.2 hs;rcases List.mem_cons.1 h with rfl|h
   ·exact⟨0,sm,om⟩
   ·obtain⟨j,rfl,hj⟩:=Jw h;rw[List.length_drop] at hj;refine⟨j+1,?_,om⟩;rw[List.drop_drop,show 64+64*j=64*(j+1) by omega,show a+1+(j:Int)=a+((j+1:Nat):Int) by omega]
theorem Jy:∀ {f:Nat} {a:Int} {s:Bs} (b:Int),s.length<=f->bL (qL f a s) b=if a<=b/\64*(b-a)<s.length then some (M6 (s.drop (64*(b-a).toNat))) else none
 | 0,a,s,b,h=>by
  obtain rfl:=List.length_eq_zero_iff.1 (Nat.le_zero.1 h);rw[if_neg (by simp;omega)];rfl
 | f+1,a,s,b,h=>by
  unfold qL;by_cases hs:s=[]
  ·subst hs;rw[if_pos rfl,if_neg (by simp;omega)];rfl
  ·have hl:0<s.length:=List.length_pos_iff.2 hs;rw[if_neg hs,ND,Jy (f:=f) b (by rw[List.length_drop];omega),List.length_drop];by_cases h1:a=b
   ·subst h1;rw[if_neg (show ¬ (a+1<=a/\64*(a-(a+1))<((s.length-64:Nat):Int)) by omega)];dsimp only;rw[if_pos rfl,if_pos (show a<=a/\64*(a-a)<(s.length:Int) by omega),Int.sub_self];rfl
   ·by_cases h2:a<=b/\64*(b-a)<s.length
    ·rw[if_pos ⟨om,om⟩,if_pos h2];dsimp only;rw[List.drop_drop];congr 3
     omega
    ·rw[if_neg om,if_neg h2];dsimp only;rw[if_neg h1]
theorem Ib {x:DvX}{a:Int}{s:Bs}(hon:x.on=true)(ha:0<=a/\a<x.n)(hs:s.length=64) :
  L9 x a s=if bR x=false then (dK (dL x) (a,s),14) else (dK (J3 x) (a,s),0):=by
 unfold L9;rw[if_neg (by rw[hon];decide),if_neg];rintro (h|h)
 ·unfold fD at h;rw[dT ha] at h;cases h
 ·exact h hs
theorem LQ {x:DvX}(h:bR x=false):x.ar=true:=by
 unfold bR at h;cases e:x.ar with
 | true=>rfl
 | false=>rw[e] at h;simp at h
theorem Bf:∀ {f:Nat} {x:DvX} {a:Int} {s:Bs},s.length<=f->x.on=true->0<=a->a*64+s.length<=x.n*64 ->
  (∃ y,kV f x a s=(y,0)/\y.on=true/\y.es=x.es/\y.n=x.n/\y.ar=x.ar/\y.ws=x.ws++qL f a s) \/
  (∃ y p,kV f x a s=(y,14)/\x.ar=true/\y.on=false/\y.es=x.es/\y.n=x.n/\y.ws=x.ws++p/\∀ w∈p,w∈qL f a s)
 | 0,x,a,s,_,hon,_,_=>.inl ⟨x,rfl,hon,rfl,rfl,rfl,by simp[qL]⟩
 | f+1,x,a,s,hl,hon,ha,hr=>by
  unfold kV qL;by_cases hs:s=[]
  ·rw[if_pos hs,if_pos hs];exact .inl ⟨x,rfl,hon,rfl,rfl,rfl,sm⟩
  ·have hp:0<s.length:=List.length_pos_iff.2 hs;have hw:=Ib hon ⟨ha,om⟩ (KE s);rw[if_neg hs,if_neg hs];cases hm:bR x with
   | false=>
    rw[hm,if_pos rfl] at hw;rw[hw,if_neg (show ¬ ((14:Int)=0) by decide)];exact .inr ⟨_,[(a,M6 s)],rfl,LQ hm,rfl,rfl,rfl,rfl,sm⟩
   | true=>
    rw[hm,if_neg dc] at hw;rw[hw,if_pos rfl];rcases Bf (f:=f) (x:=dK (J3 x) (a,M6 s)) (a:=a+1) (s:=s.drop 64) (by rw[List.length_drop];omega) hon om (by
      rw[List.length_drop];show (a+1)*64+((s.length-64:Nat):Int)<=x.n*64;by_cases h:64<=s.length
      ·omega
      ·rw[show s.length-64=0 by omega];omega) with⟨y,h1,h2,h3,h4,h5,h6⟩|⟨y,p,h1,h2,h0,h3,h4,h5,h6⟩
    ·exact .inl ⟨y,h1,h2,h3,h4,h5,by rw[h6];simp[dK,J3]⟩
    ·refine .inr ⟨y,(a,M6 s)::p,h1,h2,h0,h3,h4,by rw[h5];simp[dK,J3],fun w hw=>?_⟩;rcases List.mem_cons.1 hw with rfl|hw
     ·exact List.mem_cons_self
     ·exact List.mem_cons_of_mem _ (h6 w hw)
def LgI (f:Int->Bs)(l:Bs):Prop:=∀ j:Nat,64*j<l.length->(f (2+(j:Int))).take (l.length-64*j)=(l.drop (64*j)).take 64
structure MkI (f:Int->Bs)(m:MkX):Prop where
 e:0<=m.e/\m.e<200
 b:MkB m
 at_:f (m.e%2)=K4 m
 oth:∃ g:Nat,(f ((m.e+1)%2)).drop 56=X3 g/\g<200/\((g:Int)<m.e\/g=0)
structure DFits (f:Int->Bs)(l:Bs)(m:MkX):Prop where
 len:∀ a,(f a).length=64
 lg:LgI f l
 mr:MkI f m
theorem Px {s:Bs}{m:MkX}(h:T9 s=some m):s.drop 56=X3 m.e.toNat/\0<=m.e/\m.e<=1099511627776:=by
 have h1:=(EN m).2.2.2;rw[Pw h] at h1;refine⟨h1,?_⟩;unfold T9 at h;split at h
 ·rename_i hh;injection h with h
  have h2:=hh.2.1;rw[h] at h2;unfold KH at h2;have h3:=(of_decide_eq_true h2).1;refine⟨?_,h3⟩;rw[<- h];unfold rM;exact Int.natCast_nonneg _
 ·cases h
theorem Wi {s:Bs}{g:Nat}(hs:s.drop 56=X3 g)(hg:g<200):((T9 s).getD jE).e=0\/((T9 s).getD jE).e=g:=by
 cases h:T9 s with
 | none=>exact .inl rfl
 | some m=>
  right
  obtain⟨h1,h2,h3⟩:=Px h;rw[hs] at h1;have:=congrArg pX h1;rw[EW om,EW om] at this;show m.e=g;omega
theorem MkI.newest {f:Int->Bs}{m:MkX}(h:MkI f m):rR (f 0) (f 1)=m:=by
 have he:=h.e;have hu:T9 (f (m.e%2))=some m:=by rw[h.at_];exact Pv h.b
 obtain⟨g,h1,h2,h3⟩:=h.oth;have ho:=Wi h1 h2;unfold rR;rcases (show m.e%2=0\/m.e%2=1 by omega) with h0|h0
 ·rw[h0] at hu;rw[show (m.e+1)%2=1 by omega] at ho;rw[hu];show (if m.e<_ then _ else m)=m;rw[if_neg om]
 ·rw[h0] at hu;rw[show (m.e+1)%2=0 by omega] at ho;rw[hu];show (if _<m.e then m else _)=m;rw[if_pos om]
theorem LgI.sec {x:DvX}{l:Bs}(hx:DvOk x)(h:LgI (aF x) l):∀ k,(dJ x k).take l.length=l.take (64*k)
 | 0=>by simp[dJ]
 | k+1=>by
  rw[yE];by_cases hk:l.length<=64*k
  ·rw[List.take_append_of_le_length (by rw[yF hx];exact hk),LgI.sec hx h k,List.take_of_length_le hk,List.take_of_length_le om]
  ·rw[List.take_append,LgI.sec hx h k,yF hx,h k om,show 64*(k+1)=64*k+64 by omega,List.take_add]
theorem Yg {x:DvX}{l:Bs}(hx:DvOk x)(h:LgI (aF x) l):U1 x l.length=l:=by
 unfold U1 QX;rw[Int.toNat_natCast,LgI.sec hx h,List.take_of_length_le om]
theorem a2v {x:DvX}(h:x.ws=[]):aF x=H7 x:=by
 funext a
 unfold aF;rw[h];rfl
theorem Wo {x:DvX}{l:List Bs}{m:MkX}(hx:DvOk x)(hon:x.on=true)(hws:x.ws=[])(h:DFits (H7 x) (J7 l) m)(hb:m.b=(J7 l).length)(hc:m.c=l.length)(hr:m.b<=J4 x.n)(hn:2<x.n)(hl:∀ s∈l,s.length<=1048576) :
  kW x=0/\dX x=⟨m,J7 l,false⟩/\EP x=l:=by
 have hd:=a2v hws;have h1:H5 x=m:=by unfold H5;rw[hd];exact h.mr.newest
 have h2:U1 x m.b=J7 l:=by rw[hb];exact Yg hx (by rw[hd];exact h.lg)
 obtain⟨a1,a2⟩:=Mo hl;unfold kW dX EP;rw[h1,h2,a1,a2,if_neg om,if_neg (by rw[hon];decide),if_neg om,if_pos ⟨rfl,hc.symm⟩];exact⟨rfl,rfl,rfl⟩
theorem Qp {f:Int->Bs}{l:Bs}{j c:Nat}{s:Bs}(hf:∀ a,(f a).length=64)(h:LgI f l)(hs:s.length=64)(hw:64*j<l.length->s.take (l.length-64*j)=(l.drop (64*j)).take 64):LgI (aJ f (2+(j:Int)) (tn c s (f (2+(j:Int))))) l:=by
 intro i hi;unfold aJ;by_cases e:i=j
 ·subst e;rw[if_pos rfl,Qe (by rw[hs,hf]) ((hw hi).trans (h i hi).symm),hw hi]
 ·rw[if_neg om];exact h i hi
theorem WN {f:Int->Bs}{a:Int}{s:Bs}{c:Nat}(hf:∀ a,(f a).length=64)(hs:s.length=64):∀ b,(aJ f a (tn c s (f a)) b).length=64:=by
 intro b;unfold aJ;split
 ·rw[Qf (by rw[hs,hf]),hf]
 ·exact hf b
theorem Pt {f:Int->Bs}{a:Int}{s:Bs}{m:MkX}(ha:2<=a)(h:MkI f m):MkI (aJ f a s) m:=by
 have he:=h.e;refine⟨h.e,h.b,?_,?_⟩
 ·unfold aJ;rw[if_neg om];exact h.at_
 ·unfold aJ;rw[if_neg om];exact h.oth
theorem WM {f:Int->Bs}{a:Int}{s:Bs}{l:Bs}(ha:a<2)(h:LgI f l):LgI (aJ f a s) l:=by
 intro j hj;unfold aJ;rw[if_neg om];exact h j hj
theorem Lp {n:Nat}(h:n<256):X3 n=(I9 0 7).reverse++[UInt8.ofNat n]:=by
 have:∀ n,n<256->X3 n=(I9 0 7).reverse++[UInt8.ofNat n]:=by decide +kernel
 exact this n h
theorem a3X {a b c:Nat}(ha:a<256)(hb:b<256)(hc:c<=7):(X3 a).take c++(X3 b).drop c=X3 b:=by
 have hl:(I9 0 7).reverse.length=7:=by simp[aZ]
 rw[Lp ha,Lp hb];generalize (I9 0 7).reverse=z at *;rw[List.take_append_of_le_length om,List.drop_append_of_le_length om,<- laa,List.take_append_drop]
theorem Qo {f:Int->Bs}{m m':MkX}{c:Nat}(hf:∀ a,(f a).length=64)(h:MkI f m)(hb:MkB m')(he:m'.e=m.e+1)(h2:m'.e<200) :
  MkI (aJ f (m'.e%2) (tn c (K4 m') (f (m'.e%2)))) m\/MkI (aJ f (m'.e%2) (tn c (K4 m') (f (m'.e%2)))) m':=by
 have h0:=h.e;have hl:=EO m';by_cases hc:64<=c
 ·right
  have e1:tn c (K4 m') (f (m'.e%2))=K4 m':=by
   unfold tn;rw[List.take_of_length_le om,List.drop_of_length_le (by rw[hf];omega),List.append_nil]
  rw[e1];refine⟨om,hb,by unfold aJ;rw[if_pos rfl],m.e.toNat,?_,om,.inl om⟩;unfold aJ;rw[if_neg om,show (m'.e+1)%2=m.e%2 by omega,h.at_];exact(EN m).2.2.2
 ·left
  obtain⟨g,h3,h4,h5⟩:=h.oth;refine⟨h.e,h.b,?_,g,?_,h4,h5⟩
  ·unfold aJ;rw[if_neg om];exact h.at_
  ·unfold aJ;rw[if_pos om];have hm:m'.e%2=(m.e+1)%2:=by omega
   rw[hm];have hG:=hf ((m.e+1)%2);generalize f ((m.e+1)%2)=G at h3 hG ⊢;unfold tn;rw[List.drop_append,List.length_take,hl];by_cases h56:c<=56
   ·rw[List.drop_of_length_le (by rw[List.length_take];omega),List.nil_append,List.drop_drop,show c+(56-min c 64)=56 by omega,h3]
   ·have e1:G.drop c=(X3 g).drop (c-56):=by
     rw[<- h3,List.drop_drop];congr 1
     omega
    rw[show 56-min c 64=0 by omega,List.drop_zero,List.drop_take,(EN m').2.2.2,e1];exact a3X om om om
end Go.Proofs.YtjhnaegpchadiaaGreatDoor
