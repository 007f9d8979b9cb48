/- . -/
import Derived.Test.YtgcmdlboancepaaGreatDoorQ37
set_option maxHeartbeats 64000000
namespace Av
open Go Go.RowKit Tw
theorem BJ {c:Int}(h0:0<=c)(h1:c<=4294967295):IntKind.u32.wrap c=c:=by
 simp[IntKind.wrap,IntKind.bits,IntKind.signed];omega
section
variable {P:Program} {N:Nat} {ops:Array Oper} {Q:Exit->Act->World->Prop} {rest:List Oper} {s:Base} {e:Env} {m:List Piece} {d:Nat} {ty:TypeId} {pos:String} {af:Array Edge}
abbrev gW (n:Int):AV:=.lit (.int .u32 n)
theorem IE {op:BinOp}{T yT:TypeId}{x y:Operand}{i j c:Int}(h:AL P N ops Q s rest ((d,gW c)::e) m)(hx:ev e x=some (gW i):=by exact rfl)(hy:ev e y=some (gW j):=by exact rfl)(hc:arith op i j=some c:=by exact rfl)
  (h0:0<=c:=by omega) (h1:c<=4294967295:=by omega) (hd:Nat.blt d N=true:=by exact rfl):AL P N ops Q s (⟨some d,.binOp op T x y yT,ty,pos,af,none⟩::rest) e m:=
 EB (c:=c) (by rw[BJ h0 h1];exact h) hx hy hc hd
theorem RQ {op:BinOp}{T yT:TypeId}{x y:Operand}{i j c:Int}(h:AL P N ops Q s rest ((d,gW c)::e) m)(hx:ev e x=some (gW i):=by exact rfl)(hy:ev e y=some (gW j):=by exact rfl)(hc:YV op i j=some c:=by exact rfl)
  (h0:0<=i:=by omega) (h1:0<j:=by omega) (h2:i<=4294967295:=by omega) (hd:Nat.blt d N=true:=by exact rfl):AL P N ops Q s (⟨some d,.binOp op T x y yT,ty,pos,af,none⟩::rest) e m:=
 Bc h hx hy hc h0 h1 (λc a b=>BJ a om) hd
theorem a8X {T yT:TypeId}{yk:IntKind}{x y:Operand}{a:Int}(h:AL P N ops Q s rest ((d,gW (a*65536))::e) m)(hx:ev e x=some (gW a):=by exact rfl)(hy:ev e y=some (.lit (.int yk 16)):=by exact rfl)(h0:0<=a:=by omega)(h1:a<=65535:=by omega)(hd:Nat.blt d N=true:=by exact rfl) :
  AL P N ops Q s (⟨some d,.binOp .shl T x y yT,ty,pos,af,none⟩::rest) e m:=
 IA rfl hx hy (λw=>by
  have h2:min (16:Int).toNat IntKind.u32.bits=16:=rfl;have h3:¬ ((16:Int)<0):=by omega
  simp only[Op.shift,h3,if_false,h2];show Result.ok (Value.int .u32 (IntKind.u32.wrap (a*2 ^ 16))) w=_;rw[show (2:Int) ^ 16=65536 from rfl,BJ om om]) (.inl rfl) hd h
theorem a9g {T yT:TypeId}{x y:Operand}{a c:Int}(h:AL P N ops Q s rest ((d,gW (a*65536+c))::e) m)(hx:ev e x=some (gW (a*65536)):=by exact rfl)(hy:ev e y=some (gW c):=by exact rfl)(h0:0<=a:=by omega)(h1:0<=c:=by omega)(h2:c<65536:=by omega)(h3:a<=65535:=by omega)(hd:Nat.blt d N=true:=by exact rfl) :
  AL P N ops Q s (⟨some d,.binOp .or T x y yT,ty,pos,af,none⟩::rest) e m:=by
 obtain⟨a,rfl⟩:=Int.eq_ofNat_of_zero_le h0;obtain⟨c,rfl⟩:=Int.eq_ofNat_of_zero_le h1;refine EA rfl hx hy (λw=>?_) (.inr (.inl rfl)) hd h;have e1:((a:Int)*65536)=((a*65536:Nat):Int):=by simp
 have e2:(BitVec.ofInt IntKind.u32.bits ((a:Int)*65536) ||| BitVec.ofInt IntKind.u32.bits (c:Int)).toNat=a*65536+c:=by
  rw[BitVec.toNat_or,e1,BitVec.ofInt_natCast,BitVec.ofInt_natCast,BitVec.toNat_ofNat,BitVec.toNat_ofNat,show IntKind.u32.bits=32 from rfl,Nat.mod_eq_of_lt om,Nat.mod_eq_of_lt om];have:=Nat.two_pow_add_eq_or_of_lt (i:=16) (b:=c) om a;rw[show a*65536=2 ^ 16*a by omega];exact this.symm
 show Result.ok (Value.int .u32 (IntKind.u32.wrap ((BitVec.ofInt IntKind.u32.bits ((a:Int)*65536) ||| BitVec.ofInt IntKind.u32.bits (c:Int)).toNat:Int))) w=_;rw[e2,BJ om om];simp
end
end Av
namespace Go.Proofs.Z
open Go Go.RowKit Tw Av
theorem a7M {T3 T4:TypeId}{g3 g4:Nat}{q:Nat × Nat}{c:UInt8}(hq:q.1<65521/\q.2<65521):Av.Spec Tryz.prog GL 323 [A7 c,ptr g3,ptr g4] [.var g4 T4 (gW q.2),.var g3 T3 (gW q.1)] λu m=>u=.tup []/\m=[.var g4 T4 (gW (xG q c).2),.var g3 T3 (gW (xG q c).1)]:=by
 obtain⟨a,b⟩:=q;have hc:=c.toNat_lt;dsimp only at hq;refine qE Tryz.func323 rfl Tryz.ntmps323 rfl (λ_ hs=>?_);repeat' first|refine Z ?_|intro
 rw[BJ om om];refine IE ?_;refine RQ ?_;repeat' first|refine Z ?_|intro
 refine IE ?_;refine RQ ?_;repeat' first|refine Z ?_|intro
 refine jS _ ⟨rfl,?_⟩ slr;unfold xG;dsimp only;rw[show ((((a+c.toNat)%65521:Nat):Int))=((a:Int)+c.toNat)%65521 by omega,show ((((b+(a+c.toNat)%65521)%65521:Nat):Int))=((b:Int)+((a:Int)+c.toNat)%65521)%65521 by omega]
theorem Dz {s:Bs}{i:Nat}(h:i<s.length):qK (s.take (i+1))=xG (qK (s.take i)) s[i]:=by
 unfold qK;rw[<- List.take_append_getElem h,List.foldl_append];rfl
instance c1g {s:Bs}:Ans Tryz.prog GL 228 [str s] (s.length<=4611686018427387904) (gW (iA s)):=⟨λhl=>by
 refine qE Tryz.func228 rfl Tryz.ntmps228 rfl (λ_ hs=>?_);repeat' first|refine Z ?_|intro
 rename_i g3 g4;have hcs:∀ v∈[Value.pointer (some ⟨g3,0,none⟩),.pointer (some ⟨g4,0,none⟩)],v.oneCell'=true:=by simp[Value.oneCell']
 refine Y3 (vs:=[.pointer (some ⟨g3,0,none⟩),.pointer (some ⟨g4,0,none⟩)]) ?_;repeat' first|refine Z ?_|intro
 refine y9 (α:=Nat) (λi=>[(0,str s),(3,ptr g3),(4,ptr g4),(5,E5 323 [.pointer (some ⟨g3,0,none⟩),.pointer (some ⟨g4,0,none⟩)]),(9,int s.length),(10,int i)])
  (λi=>[.var g4 290 (gW (qK (s.take i)).2),.var g3 290 (gW (qK (s.take i)).1)]) (λi=>i<=s.length) (λi=>s.length-i) 0 zc slr (Nat.zero_le _) ?_
 intro i hi;have hq:=UD (s.take i);by_cases hi':i<s.length
 ·repeat' first|refine Z ?_|intro
  refine RP (c:=s[i]) ?_ (hc:=by rw[Int.toNat_natCast];exact List.getElem?_eq_getElem hi');repeat' first|refine Z ?_|intro
  refine BD (args:=[A7 s[i]]) (a7M hq) (λu m1 hh=>?_) (hcs:=hcs);obtain⟨rfl,rfl⟩:=hh;rw[<- Dz hi'];repeat' first|refine Z ?_|intro
  exact o9 (i+1) zc slr hi' om
 obtain rfl:i=s.length:=by omega
 rw[List.take_length] at hq ⊢;repeat' first|refine Z ?_|intro
 refine a8X ?_;repeat' first|refine Z ?_|intro
 refine a9g ?_;repeat' first|refine Z ?_|intro
 refine j6 ?_;unfold iA;rw[Int.natCast_add,Int.natCast_mul];rfl⟩
attribute [local irreducible] iA
instance c1h {s:Bs}:Ans Tryz.prog GL 116 [str s] True (.tup [str (if 1048576<s.length then [] else D9 s),int (if 1048576<s.length then 11 else 0)]):=⟨λ_=>by
 refine qE Tryz.func116 rfl Tryz.ntmps116 rfl (λ_ hs=>?_);repeat' first|refine Z ?_|intro
 refine w9 (λh=>?_) (λh=>?_)
 ·rw[if_pos (show 1048576<s.length by omega),if_pos (show 1048576<s.length by omega)];exact j4
 rw[if_neg (show ¬ 1048576<s.length by omega),if_neg (show ¬ 1048576<s.length by omega)];have hr:=UC (r9 82 s);have hl:(r9 82 s).length<=4611686018427387904:=Nat.le_trans LenLe.out dc;exact j4⟩
theorem Fv (c most:Int)(s:Bs)(b:Bool):o8 c most s b=s.drop (s.length-(o8 c most s b).length):=by
 have key:∃ k,o8 c most s b=s.drop k:=by
  unfold o8 bE;split
  ·split
   ·rename_i s0 s1 s2 s3 r _;exact⟨eO s1 s2 s3+4,rfl⟩
   exact⟨0,rfl⟩
  exact⟨0,rfl⟩
 obtain⟨k,hk⟩:=key;rw[hk,List.length_drop];by_cases h:k<=s.length
 ·rw[show s.length-(s.length-k)=k by omega]
 rw[List.drop_of_length_le om,List.drop_of_length_le om]
theorem Zq (s:Bs):(kP s).length<=s.length:=Nat.le_trans (aH _ _ _ _).1 (aH _ _ _ _).1
theorem Zr (s:Bs):kP s=s.drop (s.length-(kP s).length):=by
 have h1:=Fv 82 1048576 s false;have h2:=Fv 83 8 (Z7 s) (bZ s);have l1:=(aH 82 1048576 s false).1;have l2:=(aH 83 8 (Z7 s) (bZ s)).1;show o8 83 8 (Z7 s) (bZ s)=s.drop (s.length-(o8 83 8 (Z7 s) (bZ s)).length);rw[h2];have l1':(Z7 s).length<=s.length:=l1;have h1':Z7 s=s.drop (s.length-(Z7 s).length):=h1;generalize o8 83 8 (Z7 s) (bZ s)=z at *;rw[List.length_drop,show (Z7 s).length-((Z7 s).length-z.length)=z.length by omega]
 conv=>lhs;rw[h1',List.drop_drop]
 congr 1
 rw[List.length_drop];omega
instance c1f {s:Bs}:Ans Tryz.prog GL 244 [str s] (s.length<=1000000000) (.tup [str (if jD s=true then bY s else []),int (if jD s=true then (s.length:Int)-(kP s).length else 0),int (if jD s=true then 0 else 10)]):=⟨λhl=>by
 have hA:(Z7 s).length<=s.length:=(aH 82 1048576 s false).1;have hZ:=Zq s;have e1:o8 82 1048576 s false=Z7 s:=rfl;have e2:F4 82 1048576 s false=bZ s:=rfl;have e3:G9 82 1048576 s false=bY s:=rfl;have e4:L9 83 4294967295 (Z7 s) (bZ s)=BN s:=rfl;have e5:o8 83 8 (Z7 s) (bZ s)=kP s:=rfl;have e6:N9 83 4294967295 (Z7 s) (bZ s)=BM s:=rfl;refine qE Tryz.func244 rfl Tryz.ntmps244 rfl (λ_ hs=>?_);repeat' first|refine Z ?_|intro
 refine R7 wH (λu m1 hh=>?_);obtain⟨g,rfl,rfl⟩:=hh;repeat' first|refine Z ?_|intro
 rw[e1,e2,e3];cases hb:bZ s
 ·rw[show (if false=true then 0 else (Z7 s).length)=(Z7 s).length from rfl];repeat' first|refine Z ?_|intro
  rw[hb] at e4 e5 e6;rw[e4,e5,e6];repeat' first|refine Z ?_|intro
  have hr:0<=BN s/\BN s<=4294967295:=by
   unfold BN L9;split <;> omega
  have ht:(s.take (s.length-(Z7 s).length)).length<=4611686018427387904:=by
   rw[List.length_take];omega
  cases hy:BM s
  ·repeat' first|refine Z ?_|intro
   rw[BJ hr.1 hr.2];refine Z4 0 (s.length-(Z7 s).length) ?_;rw[List.drop_zero];repeat' first|refine Z ?_|intro
   have hk:jD s=decide (BN s=iA (s.take (s.length-(Z7 s).length))):=by
    unfold jD;rw[hy];rfl
   refine w9 (λh=>?_) (λh=>?_)
   ·rw[dZ h] at hk;rw[hk];exact j4
   rw[dT (Classical.not_not.1 h)] at hk;rw[hk];repeat' first|refine Z ?_|intro
   rw[show (if false=true then 0 else (kP s).length)=(kP s).length from rfl];exact j4
  have hk:jD s=false:=by
   unfold jD;rw[hy];rfl
  rw[hk];exact j4
 have hy:BM s=true:=by
  unfold BM N9;rw[hb];simp[qO,F4,zL]
 have hk:jD s=false:=by
  unfold jD;rw[hy];rfl
 rw[if_pos rfl];repeat' first|refine Z ?_|intro
 rw[hb] at e4 e5 e6;rw[e4,e5,e6,hy,hk];exact j4⟩
theorem b0n {f:Nat}{s:Bs}(h:jD s=true):pU (f+1) s=(bY s::(pU f (kP s)).1,(pU f (kP s)).2):=by
 rw[pU,if_pos h]
theorem b0o {f:Nat}{s:Bs}(h:jD s=false):pU (f+1) s=([],s):=by
 rw[pU,if_neg (by rw[h];decide)]
instance c1i {s:Bs}:Ans Tryz.prog GL 137 [str s] (s.length<=1000000000) (.tup [.sl 1 ((pR s).map str) none,int ((s.length:Int)-(BG s).length)]):=⟨λhl=>by
 refine qE Tryz.func137 rfl Tryz.ntmps137 rfl (λ_ hs=>?_);repeat' first|refine Z ?_|intro
 refine Y4 2 (Imp.nil (k:=1)) ?_;refine P6 (λok w h=>h.full 9 1 none 0) ?_;refine y9 (α:=List Bs × Nat × Nat × Value) (λz=>[(0,str s),(2,.sl 1 (z.1.map str) (some z.2.2.2)),(3,int z.2.1)]) (λz=>[.tail 9 1 z.2.2.2])
  (λz=>z.2.1<=s.length/\z.1.length<=z.2.1/\(s.drop z.2.1).length<z.2.2.1/\pR s=z.1++(pU z.2.2.1 (s.drop z.2.1)).1/\BG s=(pU z.2.2.1 (s.drop z.2.1)).2) (λz=>s.length-z.2.1) ([],0,s.length+1,.slice none 0 0) zc slr
  ⟨Nat.zero_le _,Nat.le_refl _,Nat.lt_succ_self _,rfl,rfl⟩ ?_
 rintro⟨acc,n,f,v⟩ ⟨hn,ha,hf,h1,h2⟩;dsimp only at hn ha hf h1 h2 ⊢;repeat' first|refine Z ?_|intro
 refine Z4 n s.length ?_;rw[List.take_length];have hdl:(s.drop n).length=s.length-n:=List.length_drop;rcases f with _|f
 ·omega
 have hal:(acc.map str).length=acc.length:=llm _;cases hk:jD (s.drop n)
 ·rw[b0o hk] at h1 h2;dsimp only at h1 h2;rw[List.append_nil] at h1;repeat' first|refine Z ?_|intro
  rw[hk];repeat' first|refine Z ?_|intro
  rw[h1,h2,hdl];refine F9 ?_;show Imp (.tup [.sl 1 (acc.map str) (some v),int n]) (.tup [.sl 1 (acc.map str) none,int ((s.length:Int)-((s.length-n:Nat):Int))]);rw[show (s.length:Int)-((s.length-n:Nat):Int)=n by omega];exact ImpR.imp
 rw[b0n hk] at h1 h2;dsimp only at h1 h2;have hd:=Zp hk;have hz:=Zr (s.drop n);rw[hdl] at hd hz;rw[List.drop_drop] at hz;repeat' first|refine Z ?_|intro
 rw[hk];repeat' first|refine Z ?_|intro
 refine H7 (λv'=>?_);repeat' first|refine Z ?_|intro
 generalize hN:n+(s.length-n-(kP (s.drop n)).length)=N at hz;simp only[if_true];refine X4 3 (v:=int ((n:Int)+(((s.drop n).length:Int)-((kP (s.drop n)).length:Int)))) (v':=int N) (Imp.of_eq (by rw[hdl,show (n:Int)+(((s.length-n:Nat):Int)-((kP (s.drop n)).length:Int))=(N:Int) by omega])) ?_;refine X4 2 (v:=.sl 1 (acc.map str++[str (bY (s.drop n))]) (some v')) (v':=.sl 1 ((acc++[bY (s.drop n)]).map str) (some v')) (Imp.of_eq (by rw[List.map_append];rfl)) ?_;refine o9 (acc++[bY (s.drop n)],N,f,v') zc slr ⟨?_,?_,?_,?_,?_⟩ ?_
 ·dsimp only;omega
 ·dsimp only;rw[lla,List.length_singleton];omega
 ·dsimp only;rw[<- hz];omega
 ·dsimp only;rw[<- hz,h1,laa];rfl
 ·dsimp only;rw[<- hz,h2]
 dsimp only;omega⟩
end Go.Proofs.Z

namespace Go.Proofs.Z
open Go Go.RowKit Tw Av Go.Proofs.Tryz
theorem Pm {I:DvI}{x:DvX}{gd gb:Nat}{T1:TypeId}{l:Bs}{m0:List Av.Piece}{a:Int}(hx:DvOk x)(hon:x.on=true)(ha:0<=a/\a<x.n)(hw:x.ws.length<=1000000)(hl:l.length<=1000000)(hB:Bld gb l m0) :
  Av.Spec prog GL 133 [int a,ptr gd,ptr gb] ((.var gd T1 (ptr I.gd)::I1 I x)++m0) λu m=>u=d9 true/\∃ m1,Bld gb (l++bO x a) m1/\m=(.var gd T1 (ptr I.gd)::I1 I x)++m1:=by
 have hh:iY x a=true:=dT ha;refine ze func133 ntmps133 λ_ hs=>?_;repeat' first|refine Z ?_|intro
 refine iN [_] (I1 I x) m0 (YB hon hh hw) (λu m1 hu=>?_);obtain⟨rfl,rfl⟩:=hu;have h64:=QO hx a;repeat' first|refine Z ?_|intro
 refine Bf (.var gd T1 (ptr I.gd)::I1 I x) m0 (Ul (a:=bO x a) hB om) (λu m1 hu=>?_);obtain⟨rfl,hB1⟩:=hu;repeat' first|refine Z ?_|intro
 exact l9 _ ⟨rfl,m1,hB1,rfl⟩ slr
theorem Uu {g:Nat}{l:Bs}{m:List Av.Piece}(hb:Bld g l m):Av.Spec prog GL 135 [ptr g] m λu m'=>u=int l.length/\m'=m:=by
 obtain⟨p,hp,⟨rfl,rfl⟩|⟨g',c,h0,hc,rfl⟩⟩:=hb
 ·refine ze func135 ntmps135 λ_ hs=>?_;repeat' first|refine Z ?_|intro
  exact l9 _ ⟨rfl,rfl⟩ slr
 refine ze func135 ntmps135 λ_ hs=>?_;repeat' first|refine Z ?_|intro
 trace_state
 exact l9 _ ⟨rfl,rfl⟩ slr
theorem Cv {s:Bs}:0<=((X6 s).getD lI).e/\0<=((X6 s).getD lI).b/\0<=((X6 s).getD lI).c:=by
 unfold X6;split
 ·exact⟨Int.natCast_nonneg _,Int.natCast_nonneg _,Int.natCast_nonneg _⟩
 exact⟨Int.le_refl _,Int.le_refl _,Int.le_refl _⟩
theorem WE {a b:Bs}:0<=(vK a b).b:=by
 unfold vK;split
 ·exact Cv.2.1
 exact Cv.2.1
theorem YK {x:DvX}(hx:DvOk x){b:Int}{k:Nat}(hk:b<=64*k):(gD x k).take b.toNat=X9 x b:=by
 unfold X9 WJ;have key:∀ (k j:Nat),j<=k->(gD x k).take (64*j)=gD x j:=by
  intro k j hj
  induction k with
  | zero=>
   obtain rfl:j=0:=by omega
   rfl
  | succ k ih=>
   rw[CV];by_cases h:j<=k
   ·rw[List.take_append_of_le_length (by rw[CW hx];omega),ih h]
   obtain rfl:j=k+1:=by omega
   rw[List.take_of_length_le (by rw[lla,CW hx,QO hx];omega),CV]
 by_cases hb:0<=b
 ·rw[<- key k ((b+63) / 64).toNat om,List.take_take,Nat.min_eq_left om]
 rw[show b.toNat=0 by omega];rfl
theorem a5w {I:DvI}{x:DvX}(hx:DvOk x)(hw:x.ws.length<=1000000)(h0:nM x=0):Av.Spec prog GL 59 [ptr I.gd] (I1 I x) λu m=>∃ gs,u=.tup [ptr gs,.sl 1 ((KC x).map str) none,int 0]/\m=R4 ⟨I,gs⟩ x (iF x):=by
 have hn:=hx.n;have h2:¬ x.n<=2:=λh=>by unfold nM at h0;rw[if_pos h] at h0;cases h0
 have hon:x.on=true:=by
  cases h:x.on with
  | true=>rfl
  | false=>unfold nM at h0;rw[if_neg h2,if_pos h] at h0;cases h0
 have hr:¬ M3 x.n<(J3 x).b:=λh=>by unfold nM at h0;rw[if_neg h2,if_neg (by rw[hon];decide),if_pos h] at h0;cases h0
 have hA:BG (X9 x (J3 x).b)=[]/\((pR (X9 x (J3 x).b)).length:Int)=(J3 x).c:=by
  unfold nM at h0;rw[if_neg h2,if_neg (by rw[hon];decide),if_neg hr] at h0;by_cases h:BG (X9 x (J3 x).b)=[]/\((pR (X9 x (J3 x).b)).length:Int)=(J3 x).c
  ·exact h
  rw[if_neg h] at h0;cases h0
 have hh0:iY x 0=true:=dT ⟨om,om⟩;have hh1:iY x 1=true:=dT ⟨om,om⟩;have hrm:M3 x.n<=262016:=by unfold M3;omega
 have hrn:M3 x.n=(x.n-2)*64:=rfl;have hbn:0<=(J3 x).b:=WE;refine ze func59 ntmps59 λ_ hs=>?_;repeat' first|refine Z ?_|intro
 refine iN [_] (I1 I x) [] (YB hon hh0 hw) (λu m1 hu=>?_);obtain⟨rfl,rfl⟩:=hu;repeat' first|refine Z ?_|intro
 refine iN [_] (I1 I x) [] (YB hon hh1 hw) (λu m1 hu=>?_);obtain⟨rfl,rfl⟩:=hu;repeat' first|refine Z ?_|intro
 rw[show vK (bO x 0) (bO x 1)=J3 x from rfl];repeat' first|refine Z ?_|intro
 rename_i g1 g8 g9;have hcs:∀ v∈[Value.pointer (some ⟨g1,0,none⟩),.pointer (some ⟨g9,0,none⟩)],v.oneCell'=true:=by simp[Value.oneCell']
 refine Y3 (vs:=[.pointer (some ⟨g1,0,none⟩),.pointer (some ⟨g9,0,none⟩)]) ?_;repeat' first|refine Z ?_|intro
 refine MH ([.var g9 212 (.agg 2 [.lit (.pointer none),J2])]++([.var g8 197 (fU (J3 x))]++(.var g1 83 (ptr I.gd)::I1 I x))) _ ?_ lpr slr;refine y9 (α:=Nat × List Av.Piece) (λz=>[(1,ptr g1),(8,ptr g8),(9,ptr g9),(10,E5 133 [.pointer (some ⟨g1,0,none⟩),.pointer (some ⟨g9,0,none⟩)]),(11,int (2+z.1))]) (λz=>z.2++([.var g8 197 (fU (J3 x))]++(.var g1 83 (ptr I.gd)::I1 I x)))
  (λz=>(z.1:Int)*64<(J3 x).b+64/\Bld g9 (gD x z.1) z.2) (λz=>5000-z.1) (0,[.var g9 212 (.agg 2 [.lit (.pointer none),J2])]) zc slr ⟨by have:=(WE (a:=bO x 0) (b:=bO x 1));unfold J3;dsimp only;omega,none,.inl rfl,.inl ⟨rfl,rfl⟩⟩ ?_
 rintro⟨k,m0⟩ ⟨hk,hB⟩;dsimp only at hk hB ⊢;have hsl:=CW hx k;obtain⟨p,hp,⟨hl0,rfl⟩|⟨g',c,hl0,hc,rfl⟩⟩:=id hB
 ·repeat' first|refine Z ?_|intro
  apply zf [0];exact zi
  ·intro _ _;refine R7 (Uu hB) (λu m1 hu=>?_);obtain⟨rfl,rfl⟩:=hu;exact j3 (p9 rfl rfl)
  by_cases hlt:((gD x k).length:Int)<(J3 x).b
  ·repeat' first|refine Z ?_|intro
   refine gU (args:=[int (2+k)]) ((.var g1 83 (ptr I.gd)::I1 I x)++_) [.var g8 197 (fU (J3 x))] (by rw[hs];exact Pm (T1:=83) (l:=gD x k) (a:=2+(k:Int)) hx hon ⟨om,om⟩ hw om hB) (λu m1 hu=>?_) ?_ (hcs:=hcs);rotate_left
   ·exact List.perm_append_comm.trans (by rw[laa];exact List.perm_append_comm)
   obtain⟨rfl,m2,hB2,rfl⟩:=hu;rw[<- CV] at hB2;repeat' first|refine Z ?_|intro
   refine dW (m2++([.var g8 197 (fU (J3 x))]++(.var g1 83 (ptr I.gd)::I1 I x))) _ ?_ ?_ slr
   ·exact o9 (k+1,m2) zc slr ⟨by dsimp only;omega,hB2⟩ (by dsimp only;omega)
   exact List.perm_append_comm.trans (by rw[laa];exact List.perm_append_comm)
  have hlg:(gD x k).take (J3 x).b.toNat=X9 x (J3 x).b:=YK hx om;have hll:(X9 x (J3 x).b).length<=1000000:=by
   rw[<- hlg,List.length_take];omega
  have hrc:((pR (X9 x (J3 x).b)).map str).length=(pR (X9 x (J3 x).b)).length:=llm _;have hc2:=hA.2;have hl1:(([]:Bs)).length=0:=rfl;repeat' first|refine Z ?_|intro
  apply jV [0];exact rfl;exact rfl;kernel_rfl
  ·intro _ _;refine R7 (Ab (l:=gD x k) hB om) (λu m1 hu=>?_);subst hu;refine j3 (dW [] [] ?_ lpr (List.nil_sublist _));refine wB (λok w h=>h.full 0 1 none 0) ?_;exact p9 rfl rfl
  ·exact rfl
  ·exact rfl
  repeat' first|refine Z ?_|intro
  apply zf [];exact zi
  ·intro _ _;refine Z4 0 (J3 x).b.toNat ?_;rw[List.drop_zero,hlg];exact j3 (p9 rfl rfl)
  repeat' first|refine Z ?_|intro
  rw[hA.1];repeat' (first|refine eP ?_|refine K3 ?_|refine J8 ?_|intro _|simp only[List.set]|refine CP ?_|refine CQ ?_|refine uL ?_|refine wW ?_|fail)
  refine wE [0,1,2,3,4,5,6,7,8,9,10,12,11,13,14,15] kr rfl hs kr ?_;repeat' first|refine Z ?_|intro
  apply zf [];exact zi
  ·intro _ _;refine Z4 ((X9 x (J3 x).b).length-(X9 x (J3 x).b).length%64) (X9 x (J3 x).b).length ?_ (h4:=Nat.le_refl _);rw[List.take_length];exact j3 (p9 rfl rfl)
  repeat' first|refine Z ?_|intro
  rename_i gs;refine dW (R4 ⟨I,gs⟩ x (iF x)) (I1 I x++[.var gs 199 (EN I.gd (iF x))]) ?_ (List.perm_append_comm (l₁:=[_])) ?_
  ·exact l9 _ ⟨gs,rfl,rfl⟩ slr
  exact u7
 repeat' first|refine Z ?_|intro
 apply zf [0,1];exact zi
 ·intro _ _;refine R7 (Uu hB) (λu m1 hu=>?_);obtain⟨rfl,rfl⟩:=hu;exact j3 (p9 rfl rfl)
 by_cases hlt:((gD x k).length:Int)<(J3 x).b
 ·repeat' first|refine Z ?_|intro
  refine gU (args:=[int (2+k)]) ((.var g1 83 (ptr I.gd)::I1 I x)++_) [.var g8 197 (fU (J3 x))] (by rw[hs];exact Pm (T1:=83) (l:=gD x k) (a:=2+(k:Int)) hx hon ⟨om,om⟩ hw om hB) (λu m1 hu=>?_) ?_ (hcs:=hcs);rotate_left
  ·exact List.perm_append_comm.trans (by rw[laa];exact List.perm_append_comm)
  obtain⟨rfl,m2,hB2,rfl⟩:=hu;rw[<- CV] at hB2;repeat' first|refine Z ?_|intro
  refine dW (m2++([.var g8 197 (fU (J3 x))]++(.var g1 83 (ptr I.gd)::I1 I x))) _ ?_ ?_ slr
  ·exact o9 (k+1,m2) zc slr ⟨by dsimp only;omega,hB2⟩ (by dsimp only;omega)
  exact List.perm_append_comm.trans (by rw[laa];exact List.perm_append_comm)
 have hlg:(gD x k).take (J3 x).b.toNat=X9 x (J3 x).b:=YK hx om;have hll:(X9 x (J3 x).b).length<=1000000:=by
  rw[<- hlg,List.length_take];omega
 have hrc:((pR (X9 x (J3 x).b)).map str).length=(pR (X9 x (J3 x).b)).length:=llm _;have hc2:=hA.2;have hl1:(([]:Bs)).length=0:=rfl;repeat' first|refine Z ?_|intro
 apply jV [0,1];exact rfl;exact rfl;kernel_rfl
 ·intro _ _;refine R7 (Ab (l:=gD x k) hB om) (λu m1 hu=>?_);subst hu;refine j3 (dW [] [] ?_ lpr (List.nil_sublist _));refine wB (λok w h=>h.full 0 1 none 0) ?_;refine wB (λok w h=>h.full 0 1 none 0) ?_;exact p9 rfl rfl
 ·exact rfl
 ·exact rfl
 repeat' first|refine Z ?_|intro
 apply zf [];exact zi
 ·intro _ _;refine Z4 0 (J3 x).b.toNat ?_;rw[List.drop_zero,hlg];exact j3 (p9 rfl rfl)
 repeat' first|refine Z ?_|intro
 rw[hA.1];repeat' (first|refine eP ?_|refine K3 ?_|refine J8 ?_|intro _|simp only[List.set]|refine CP ?_|refine CQ ?_|refine uL ?_|refine wW ?_|fail)
 refine wE [0,1,2,3,4,5,6,7,8,9,10,12,11,13,14,15] kr rfl hs kr ?_;repeat' first|refine Z ?_|intro
 apply zf [];exact zi
 ·intro _ _;refine Z4 ((X9 x (J3 x).b).length-(X9 x (J3 x).b).length%64) (X9 x (J3 x).b).length ?_ (h4:=Nat.le_refl _);rw[List.take_length];exact j3 (p9 rfl rfl)
 repeat' first|refine Z ?_|intro
 rename_i gs;refine dW (R4 ⟨I,gs⟩ x (iF x)) (I1 I x++[.var gs 199 (EN I.gd (iF x))]) ?_ (List.perm_append_comm (l₁:=[_])) ?_
 ·exact l9 _ ⟨gs,rfl,rfl⟩ slr
 exact u7
end Go.Proofs.Z

namespace Go.Proofs.Z
open Go Go.RowKit Tw Av
section
variable {c:Nat}{x:DvX}{l s:Bs}{a:Int}{m:MkX}{f:Int->Bs}
def tn (c:Nat)(a b:Bs):Bs:=a.take c++b.drop c
theorem Zl {a b:Bs}(h:a.length=b.length):(tn c a b).length=b.length:=by
 unfold tn;rw[lla,List.length_take,List.length_drop];omega
theorem Zk {k:Nat}{a b:Bs}(h:a.length=b.length)(he:a.take k=b.take k):(tn c a b).take k=a.take k:=by
 unfold tn;by_cases hk:k<=c
 ·by_cases hc:k<=a.length
  ·rw[List.take_append_of_le_length (by rw[List.length_take];omega),List.take_take,Nat.min_eq_left hk]
  rw[List.drop_of_length_le om,List.append_nil,List.take_take,Nat.min_eq_left hk]
 have h1:a.take c=b.take c:=by
  have:=congrArg (List.take c) he
  rwa [List.take_take,List.take_take,Nat.min_eq_left om] at this
 rw[h1,List.take_append_drop,he]
def bW (f:Int->Bs)(a:Int)(s:Bs):Int->Bs:=λb=>if b=a then s else f b
theorem a6X {w:Int × Bs}(h:MpN x.es):J4 (bP x w)=bW (J4 x) w.1 w.2:=funext λb=>YM h b
theorem a7D {k:List Bool}{torn cut:Int}{i:Nat}{w:Int × Bs}(h:DvOk x)(hw:w.2.length=64) :
  J4 (GN x k torn cut i w)=J4 x\/∃ c,J4 (GN x k torn cut i w)=bW (J4 x) w.1 (tn c w.2 (J4 x w.1)):=by
 unfold GN;split
 ·right
  rw[a6X h.mn];dsimp only;split
  ·exact⟨_,rfl⟩
  refine⟨64,?_⟩;unfold tn;rw[List.take_of_length_le om,List.drop_of_length_le (by rw[GK h];omega),List.append_nil]
 exact .inl rfl
theorem Sj {k:List Bool}{torn cut:Int}(P:(Int->Bs)->Prop):∀ {ws:List (Int × Bs)} {i:Nat} {x:DvX},DvOk x->(∀ w∈ws,w.2.length=64) ->
  (∀ w∈ws,∀ f c,(∀ a,(f a).length=64)->P f->P (bW f w.1 (tn c w.2 (f w.1))))->P (J4 x)->P (J4 (ZH k torn cut i x ws))
 | [],_,_,_,_,_,h=>h
 | w::ws,i,x,hx,hw,hP,h=>by
  refine Sj P (ws:=ws) (a7E hx (hw w sm)) (λv hv=>hw v (by simp[hv])) (λv hv=>hP v (by simp[hv])) ?_;rcases a7D (k:=k) (torn:=torn) (cut:=cut) (i:=i) hx (hw w sm) with e|⟨c,e⟩
  ·rw[e];exact h
  rw[e];exact hP w sm _ c (GK hx) h
theorem Rk {k:List Bool}{torn cut:Int}(P:(Int->Bs)->Prop)(hx:DvOk x)(hP:∀ w∈x.ws,∀ f c,(∀ a,(f a).length=64)->P f->P (bW f w.1 (tn c w.2 (f w.1))))(h:P (J4 x)):P (J4 (AP x k torn cut)):=by
 unfold AP;split
 ·exact h
 exact Sj P hx hx.wl hP h
theorem TA (w:Int × Bs)(ws:List (Int × Bs))(b:Int):eT (w::ws) b=match eT ws b with|some s=>some s|none=>if w.1=b then some w.2 else none:=by
 unfold eT;rw[List.reverse_cons,List.find?_append];cases ws.reverse.find? λw=>decide (w.1=b) with
 | some v=>rfl
 | none=>
  by_cases h:w.1=b <;> simp[h]
theorem Pi:∀ {ws:List (Int × Bs)} {x:DvX},MpN x.es->∀ b,J4 (ws.foldl bP x) b=(eT ws b).getD (J4 x b)
 | [],_,_,_=>rfl
 | w::ws,x,h,b=>by
  rw[List.foldl_cons,Pi (ws:=ws) (show MpN (bP x w).es from Mf h),TA,YM h];cases eT ws b with
  | some s=>rfl
  | none=>
   by_cases e:b=w.1
   ·rw[if_pos e];simp[e]
   rw[if_neg e];have:¬ w.1=b:=λh=>e h.symm;simp[this]
theorem Ri (h:MpN x.es)(b:Int):J4 (aL x) b=bO x b:=Pi h b
theorem Td:∀ {f:Nat} {a:Int} {s:Bs} {w:Int × Bs},w∈uK f a s->∃ j:Nat,w=(a+j,P8 (s.drop (64*j)))/\64*j<s.length
 | 0,_,_,_,h=>by simp[uK] at h
 | f+1,a,s,w,h=>by
  unfold uK at h;split at h
  ·simp at h
  rename_i hs;have hl:0<s.length:=List.length_pos_iff.2 hs;rcases List.mem_cons.1 h with rfl|h
  ·exact⟨0,sm,om⟩
  obtain⟨j,rfl,hj⟩:=Td h;rw[List.length_drop] at hj;refine⟨j+1,?_,om⟩;rw[List.drop_drop,show 64+64*j=64*(j+1) by omega,show a+1+(j:Int)=a+((j+1:Nat):Int) by omega]
theorem Te:∀ {f:Nat} {a:Int} {s:Bs} (b:Int),s.length<=f->eT (uK f a s) b=if a<=b/\64*(b-a)<s.length then some (P8 (s.drop (64*(b-a).toNat))) else none
 | 0,a,s,b,h=>by
  obtain rfl:=List.length_eq_zero_iff.1 (Nat.le_zero.1 h);rw[if_neg (by simp;omega)];rfl
 | f+1,a,s,b,h=>by
  unfold uK;by_cases hs:s=[]
  ·subst hs;rw[if_pos rfl,if_neg (by simp;omega)];rfl
  have hl:0<s.length:=List.length_pos_iff.2 hs;rw[if_neg hs,TA,Te (f:=f) b (by rw[List.length_drop];omega),List.length_drop];by_cases h1:a=b
  ·subst h1;rw[if_neg (show ¬ (a+1<=a/\64*(a-(a+1))<((s.length-64:Nat):Int)) by omega)];dsimp only;rw[if_pos rfl,if_pos (show a<=a/\64*(a-a)<(s.length:Int) by omega),Int.sub_self];rfl
  by_cases h2:a<=b/\64*(b-a)<s.length
  ·rw[if_pos ⟨om,om⟩,if_pos h2];dsimp only;rw[List.drop_drop];congr 3
   omega
  rw[if_neg om,if_neg h2];dsimp only;rw[if_neg h1]
theorem Ra (hon:x.on=true)(ha:0<=a/\a<x.n)(hs:s.length=64) :
  O7 x a s=if fB x=false then (gG (gH x) (a,s),14) else (gG (L6 x) (a,s),0):=by
 unfold O7;rw[if_neg (by rw[hon];decide),if_neg];rintro (h|h)
 ·unfold iY at h;rw[dT ha] at h;cases h
 exact h hs
theorem QP (h:fB x=false):x.ar=true:=by
 unfold fB at h;cases e:x.ar with
 | true=>rfl
 | false=>rw[e] at h;simp at h
theorem Ja:∀ {f:Nat} {x:DvX} {a:Int} {s:Bs},s.length<=f->x.on=true->0<=a->a*64+s.length<=x.n*64 ->
  (∃ y,nL f x a s=(y,0)/\y.on=true/\y.es=x.es/\y.n=x.n/\y.ar=x.ar/\y.ws=x.ws++uK f a s) \/
  (∃ y p,nL f x a s=(y,14)/\x.ar=true/\y.on=false/\y.es=x.es/\y.n=x.n/\y.ws=x.ws++p/\∀ w∈p,w∈uK f a s)
 | 0,x,a,s,_,hon,_,_=>.inl ⟨x,rfl,hon,rfl,rfl,rfl,by simp[uK]⟩
 | f+1,x,a,s,hl,hon,ha,hr=>by
  unfold nL uK;by_cases hs:s=[]
  ·rw[if_pos hs,if_pos hs];exact .inl ⟨x,rfl,hon,rfl,rfl,rfl,sm⟩
  have hp:0<s.length:=List.length_pos_iff.2 hs;have hw:=Ra hon ⟨ha,om⟩ (OT s);rw[if_neg hs,if_neg hs];cases hm:fB x with
  | false=>
   rw[hm,if_pos rfl] at hw;rw[hw,if_neg (show ¬ ((14:Int)=0) by decide)];exact .inr ⟨_,[(a,P8 s)],rfl,QP hm,rfl,rfl,rfl,rfl,sm⟩
  | true=>
   rw[hm,if_neg dc] at hw;rw[hw,if_pos rfl];rcases Ja (f:=f) (x:=gG (L6 x) (a,P8 s)) (a:=a+1) (s:=s.drop 64) (by rw[List.length_drop];omega) hon om (by
     rw[List.length_drop];show (a+1)*64+((s.length-64:Nat):Int)<=x.n*64;by_cases h:64<=s.length
     ·omega
     rw[show s.length-64=0 by omega];omega) with⟨y,h1,h2,h3,h4,h5,h6⟩|⟨y,p,h1,h2,h0,h3,h4,h5,h6⟩
   ·exact .inl ⟨y,h1,h2,h3,h4,h5,by rw[h6];simp[gG,L6]⟩
   refine .inr ⟨y,(a,P8 s)::p,h1,h2,h0,h3,h4,by rw[h5];simp[gG,L6],λw hw=>?_⟩;rcases List.mem_cons.1 hw with rfl|hw
   ·exact List.mem_cons_self
   exact List.mem_cons_of_mem _ (h6 w hw)
def LgI (f:Int->Bs)(l:Bs):Prop:=∀ j:Nat,64*j<l.length->(f (2+(j:Int))).take (l.length-64*j)=(l.drop (64*j)).take 64
structure MkI (f:Int->Bs)(m:MkX):Prop where
 e:0<=m.e/\m.e<200
 b:MkB m
 at_:f (m.e%2)=M8 m
 oth:∃ g:Nat,(f ((m.e+1)%2)).drop 56=aF g/\g<200/\((g:Int)<m.e\/g=0)
structure DFits (f:Int->Bs)(l:Bs)(m:MkX):Prop where
 len:∀ a,(f a).length=64
 lg:LgI f l
 mr:MkI f m
theorem Zc (h:X6 s=some m):s.drop 56=aF m.e.toNat/\0<=m.e/\m.e<=1099511627776:=by
 have h1:=(JZ m).2.2.2;rw[Zb h] at h1;refine⟨h1,?_⟩;unfold X6 at h;split at h
 ·rename_i hh;injection h with h
  have h2:=hh.2.1;rw[h] at h2;unfold OZ at h2;have h3:=(of_decide_eq_true h2).1;refine⟨?_,h3⟩;rw[<- h];unfold vG;exact Int.natCast_nonneg _
 cases h
theorem a2H {g:Nat}(hs:s.drop 56=aF g)(hg:g<200):((X6 s).getD lI).e=0\/((X6 s).getD lI).e=g:=by
 cases h:X6 s with
 | none=>exact .inl rfl
 | some m=>
  right
  obtain⟨h1,h2,h3⟩:=Zc h;rw[hs] at h1;have:=congrArg uC h1;rw[KF om,KF om] at this;show m.e=g;omega
theorem MkI.newest (h:MkI f m):vK (f 0) (f 1)=m:=by
 have he:=h.e;have hu:X6 (f (m.e%2))=some m:=by rw[h.at_];exact Yy h.b
 obtain⟨g,h1,h2,h3⟩:=h.oth;have ho:=a2H h1 h2;unfold vK;rcases (show m.e%2=0\/m.e%2=1 by omega) with h0|h0
 ·rw[h0] at hu;rw[show (m.e+1)%2=1 by omega] at ho;rw[hu];show (if m.e<_ then _ else m)=m;rw[if_neg om]
 rw[h0] at hu;rw[show (m.e+1)%2=0 by omega] at ho;rw[hu];show (if _<m.e then m else _)=m;rw[if_pos om]
theorem LgI.sec (hx:DvOk x)(h:LgI (bO x) l):∀ k,(gD x k).take l.length=l.take (64*k)
 | 0=>by simp[gD]
 | k+1=>by
  rw[CV];by_cases hk:l.length<=64*k
  ·rw[List.take_append_of_le_length (by rw[CW hx];exact hk),LgI.sec hx h k,List.take_of_length_le hk,List.take_of_length_le om]
  rw[List.take_append,LgI.sec hx h k,CW hx,h k om,show 64*(k+1)=64*k+64 by omega,List.take_add]
theorem a3H (hx:DvOk x)(h:LgI (bO x) l):X9 x l.length=l:=by
 unfold X9 WJ;rw[Int.toNat_natCast,LgI.sec hx h,List.take_of_length_le om]
theorem a6Y (h:x.ws=[]):bO x=J4 x:=by
 funext a
 unfold bO;rw[h];rfl
theorem a2L {l:List Bs}(hx:DvOk x)(hon:x.on=true)(hws:x.ws=[])(h:DFits (J4 x) (M4 l) m)(hb:m.b=(M4 l).length)(hc:m.c=l.length)(hr:m.b<=M3 x.n)(hn:2<x.n)(hl:∀ s∈l,s.length<=1048576) :
  nM x=0/\iF x=⟨m,M4 l,false⟩/\KC x=l:=by
 have hd:=a6Y hws;have h1:J3 x=m:=by unfold J3;rw[hd];exact h.mr.newest
 have h2:X9 x m.b=M4 l:=by rw[hb];exact a3H hx (by rw[hd];exact h.lg)
 obtain⟨a1,a2⟩:=Wi hl;unfold nM iF KC;rw[h1,h2,a1,a2,if_neg om,if_neg (by rw[hon];decide),if_neg om,if_pos ⟨rfl,hc.symm⟩];exact⟨rfl,rfl,rfl⟩
theorem a0b {j:Nat}(hf:∀ a,(f a).length=64)(h:LgI f l)(hs:s.length=64)(hw:64*j<l.length->s.take (l.length-64*j)=(l.drop (64*j)).take 64):LgI (bW f (2+(j:Int)) (tn c s (f (2+(j:Int))))) l:=by
 intro i hi;unfold bW;by_cases e:i=j
 ·subst e;rw[if_pos rfl,Zk (by rw[hs,hf]) ((hw hi).trans (h i hi).symm),hw hi]
 rw[if_neg om];exact h i hi
theorem Ct (hf:∀ a,(f a).length=64)(hs:s.length=64):∀ b,(bW f a (tn c s (f a)) b).length=64:=by
 intro b;unfold bW;split
 ·rw[Zl (by rw[hs,hf]),hf]
 exact hf b
theorem Yx (ha:2<=a)(h:MkI f m):MkI (bW f a s) m:=by
 have he:=h.e;refine⟨h.e,h.b,?_,?_⟩
 ·unfold bW;rw[if_neg om];exact h.at_
 unfold bW;rw[if_neg om];exact h.oth
theorem Cs (ha:a<2)(h:LgI f l):LgI (bW f a s) l:=by
 intro j hj;unfold bW;rw[if_neg om];exact h j hj
theorem Vg {n:Nat}(h:n<256):aF n=(K7 0 7).reverse++[UInt8.ofNat n]:=by
 have:∀ n,n<256->aF n=(K7 0 7).reverse++[UInt8.ofNat n]:=by decide +kernel
 exact this n h
theorem a8r {a b:Nat}(ha:a<256)(hb:b<256)(hc:c<=7):(aF a).take c++(aF b).drop c=aF b:=by
 have hl:(K7 0 7).reverse.length=7:=by simp[dP]
 rw[Vg ha,Vg hb];generalize (K7 0 7).reverse=z at *;rw[List.take_append_of_le_length om,List.drop_append_of_le_length om,<- laa,List.take_append_drop]
theorem a0a {m':MkX}(hf:∀ a,(f a).length=64)(h:MkI f m)(hb:MkB m')(he:m'.e=m.e+1)(h2:m'.e<200) :
  MkI (bW f (m'.e%2) (tn c (M8 m') (f (m'.e%2)))) m\/MkI (bW f (m'.e%2) (tn c (M8 m') (f (m'.e%2)))) m':=by
 have h0:=h.e;have hl:=KA m';by_cases hc:64<=c
 ·right
  have e1:tn c (M8 m') (f (m'.e%2))=M8 m':=by
   unfold tn;rw[List.take_of_length_le om,List.drop_of_length_le (by rw[hf];omega),List.append_nil]
  rw[e1];refine⟨om,hb,by unfold bW;rw[if_pos rfl],m.e.toNat,?_,om,.inl om⟩;unfold bW;rw[if_neg om,show (m'.e+1)%2=m.e%2 by omega,h.at_];exact(JZ m).2.2.2
 left
 obtain⟨g,h3,h4,h5⟩:=h.oth;refine⟨h.e,h.b,?_,g,?_,h4,h5⟩
 ·unfold bW;rw[if_neg om];exact h.at_
 unfold bW;rw[if_pos om];have hm:m'.e%2=(m.e+1)%2:=by omega
 rw[hm];have hG:=hf ((m.e+1)%2);generalize f ((m.e+1)%2)=G at h3 hG ⊢;unfold tn;rw[List.drop_append,List.length_take,hl];by_cases h56:c<=56
 ·rw[List.drop_of_length_le (by rw[List.length_take];omega),List.nil_append,List.drop_drop,show c+(56-min c 64)=56 by omega,h3]
 have e1:G.drop c=(aF g).drop (c-56):=by
  rw[<- h3,List.drop_drop];congr 1
  omega
 rw[show 56-min c 64=0 by omega,List.drop_zero,List.drop_take,(JZ m').2.2.2,e1];exact a8r om om om
end
end Go.Proofs.Z
