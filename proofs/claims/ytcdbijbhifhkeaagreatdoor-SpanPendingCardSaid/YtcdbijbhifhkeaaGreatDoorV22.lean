/- . -/
import Derived.Test.YtcdbijbhifhkeaaGreatDoorV21
set_option maxHeartbeats 64000000
namespace Av
open Go Go.RowKit Tw
theorem IR {c:Int}(h0:0<=c)(h1:c<=4294967295):IntKind.u32.wrap c=c:=by
 simp[IntKind.wrap,IntKind.bits,IntKind.signed];omega
section
variable {P:Program} {N:Nat} {ops:Array Oper} {Q:Exit->Act->World->Prop} {rest:List Oper} {s:Base} {e:Env} {m:List Piece} {d:Nat} {ty:TypeId} {pos:String} {af:Array Edge}
abbrev lM (n:Int):AV:=.lit (.int .u32 n)
theorem a0N {op:BinOp}{T yT:TypeId}{x y:Operand}{i j c:Int}(h:AL P N ops Q s rest ((d,lM c)::e) m)(hx:ev e x=some (lM i):=by exact rfl)(hy:ev e y=some (lM j):=by exact rfl)(hc:arith op i j=some c:=by exact rfl)
  (h0:0<=c:=by omega) (h1:c<=4294967295:=by omega) (hd:Nat.blt d N=true:=by exact rfl):AL P N ops Q s (⟨some d,.binOp op T x y yT,ty,pos,af,none⟩::rest) e m:=
 Ex (c:=c) (by rw[IR h0 h1];exact h) hx hy hc hd
theorem a0D {op:BinOp}{T yT:TypeId}{x y:Operand}{i j c:Int}(h:AL P N ops Q s rest ((d,lM c)::e) m)(hx:ev e x=some (lM i):=by exact rfl)(hy:ev e y=some (lM j):=by exact rfl)(hc:Cg op i j=some c:=by exact rfl)
  (h0:0<=i:=by omega) (h1:0<j:=by omega) (h2:i<=4294967295:=by omega) (hd:Nat.blt d N=true:=by exact rfl):AL P N ops Q s (⟨some d,.binOp op T x y yT,ty,pos,af,none⟩::rest) e m:=
 Et h hx hy hc h0 h1 (λc a b=>IR a om) hd
theorem b2h {T yT:TypeId}{yk:IntKind}{x y:Operand}{a:Int}(h:AL P N ops Q s rest ((d,lM (a*65536))::e) m)(hx:ev e x=some (lM a):=by exact rfl)(hy:ev e y=some (.lit (.int yk 16)):=by exact rfl)(h0:0<=a:=by omega)(h1:a<=65535:=by omega)(hd:Nat.blt d N=true:=by exact rfl) :
  AL P N ops Q s (⟨some d,.binOp .shl T x y yT,ty,pos,af,none⟩::rest) e m:=
 LK rfl hx hy (λw=>by
  have h2:min (16:Int).toNat IntKind.u32.bits=16:=rfl;have h3:¬ ((16:Int)<0):=by omega
  simp only[Op.shift,h3,if_false,h2];show Result.ok (Value.int .u32 (IntKind.u32.wrap (a*2 ^ 16))) w=_;rw[show (2:Int) ^ 16=65536 from rfl,IR om om]) (.inl rfl) hd h
theorem b2r {T yT:TypeId}{x y:Operand}{a c:Int}(h:AL P N ops Q s rest ((d,lM (a*65536+c))::e) m)(hx:ev e x=some (lM (a*65536)):=by exact rfl)(hy:ev e y=some (lM c):=by exact rfl)(h0:0<=a:=by omega)(h1:0<=c:=by omega)(h2:c<65536:=by omega)(h3:a<=65535:=by omega)(hd:Nat.blt d N=true:=by exact rfl) :
  AL P N ops Q s (⟨some d,.binOp .or T x y yT,ty,pos,af,none⟩::rest) e m:=by
 obtain⟨a,rfl⟩:=Int.eq_ofNat_of_zero_le h0;obtain⟨c,rfl⟩:=Int.eq_ofNat_of_zero_le h1;refine LU rfl hx hy (λw=>?_) (.inr (.inl rfl)) hd h;have e1:((a:Int)*65536)=((a*65536:Nat):Int):=by simp
 have e2:(BitVec.ofInt IntKind.u32.bits ((a:Int)*65536) ||| BitVec.ofInt IntKind.u32.bits (c:Int)).toNat=a*65536+c:=by
  rw[BitVec.toNat_or,e1,BitVec.ofInt_natCast,BitVec.ofInt_natCast,BitVec.toNat_ofNat,BitVec.toNat_ofNat,show IntKind.u32.bits=32 from rfl,Nat.mod_eq_of_lt om,Nat.mod_eq_of_lt om];have:=Nat.two_pow_add_eq_or_of_lt (i:=16) (b:=c) om a;rw[show a*65536=2 ^ 16*a by omega];exact this.symm
 show Result.ok (Value.int .u32 (IntKind.u32.wrap ((BitVec.ofInt IntKind.u32.bits ((a:Int)*65536) ||| BitVec.ofInt IntKind.u32.bits (c:Int)).toNat:Int))) w=_;rw[e2,IR om om];simp
end
end Av
namespace Go.Proofs.Z
open Go Go.RowKit Tw Av
theorem b0I {T3 T4:TypeId}{g3 g4:Nat}{q:Nat × Nat}{c:UInt8}(hq:q.1<65521/\q.2<65521):Av.Spec Tryz.prog GL 238 [I5 c,ptr g3,ptr g4] [.var g4 T4 (lM q.2),.var g3 T3 (lM q.1)] λu m=>u=.tup []/\m=[.var g4 T4 (lM (FC q c).2),.var g3 T3 (lM (FC q c).1)]:=by
 obtain⟨a,b⟩:=q;have hc:=c.toNat_lt;dsimp only at hq;refine qE Tryz.func238 rfl Tryz.ntmps238 rfl (λ_ hs=>?_);repeat' first|refine O ?_|intro
 rw[IR om om];refine a0N ?_;refine a0D ?_;repeat' first|refine O ?_|intro
 refine a0N ?_;refine a0D ?_;repeat' first|refine O ?_|intro
 refine iV _ ⟨rfl,?_⟩ slr;unfold FC;dsimp only;rw[show ((((a+c.toNat)%65521:Nat):Int))=((a:Int)+c.toNat)%65521 by omega,show ((((b+(a+c.toNat)%65521)%65521:Nat):Int))=((b:Int)+((a:Int)+c.toNat)%65521)%65521 by omega]
theorem a2F {s:Bs}{i:Nat}(h:i<s.length):yP (s.take (i+1))=FC (yP (s.take i)) s[i]:=by
 unfold yP;rw[<- List.take_append_getElem h,List.foldl_append];rfl
instance c2L {s:Bs}:Ans Tryz.prog GL 203 [str s] (s.length<=4611686018427387904) (lM (pU s)):=⟨λhl=>by
 refine qE Tryz.func203 rfl Tryz.ntmps203 rfl (λ_ hs=>?_);repeat' first|refine O ?_|intro
 rename_i g3 g4;have hcs:∀ v∈[Value.pointer (some ⟨g3,0,none⟩),.pointer (some ⟨g4,0,none⟩)],v.oneCell'=true:=by simp[Value.oneCell']
 refine Z0 (vs:=[.pointer (some ⟨g3,0,none⟩),.pointer (some ⟨g4,0,none⟩)]) ?_;repeat' first|refine O ?_|intro
 refine H7 (α:=Nat) (λi=>[(0,str s),(3,ptr g3),(4,ptr g4),(5,F3 238 [.pointer (some ⟨g3,0,none⟩),.pointer (some ⟨g4,0,none⟩)]),(9,int s.length),(10,int i)])
  (λi=>[.var g4 279 (lM (yP (s.take i)).2),.var g3 279 (lM (yP (s.take i)).1)]) (λi=>i<=s.length) (λi=>s.length-i) 0 za slr (Nat.zero_le _) ?_
 intro i hi;have hq:=Ie (s.take i);by_cases hi':i<s.length
 ·repeat' first|refine O ?_|intro
  refine a0y (c:=s[i]) ?_ (hc:=by rw[Int.toNat_natCast];exact List.getElem?_eq_getElem hi');repeat' first|refine O ?_|intro
  refine ER (args:=[I5 s[i]]) (b0I hq) (λu m1 hh=>?_) (hcs:=hcs);obtain⟨rfl,rfl⟩:=hh;rw[<- a2F hi'];repeat' first|refine O ?_|intro
  exact y7 (i+1) za slr hi' om
 obtain rfl:i=s.length:=by omega
 rw[List.take_length] at hq ⊢;repeat' first|refine O ?_|intro
 refine b2h ?_;repeat' first|refine O ?_|intro
 refine b2r ?_;repeat' first|refine O ?_|intro
 refine x9 ?_;unfold pU;rw[Int.natCast_add,Int.natCast_mul];rfl⟩
attribute [local irreducible] pU
instance c2M {s:Bs}:Ans Tryz.prog GL 151 [str s] True (.tup [str (if 1048576<s.length then [] else I8 s),int (if 1048576<s.length then 11 else 0)]):=⟨λ_=>by
 refine qE Tryz.func151 rfl Tryz.ntmps151 rfl (λ_ hs=>?_);repeat' first|refine O ?_|intro
 refine G7 (λh=>?_) (λh=>?_)
 ·rw[if_pos (show 1048576<s.length by omega),if_pos (show 1048576<s.length by omega)];exact o8
 rw[if_neg (show ¬ 1048576<s.length by omega),if_neg (show ¬ 1048576<s.length by omega)];have hr:=Ic (r9 82 s);have hl:(r9 82 s).length<=4611686018427387904:=Nat.le_trans LenLe.out dc;exact o8⟩
theorem Jo (c most:Int)(s:Bs)(b:Bool):l9 c most s b=s.drop (s.length-(l9 c most s b).length):=by
 have key:∃ k,l9 c most s b=s.drop k:=by
  unfold l9 bO;split
  ·split
   ·rename_i s0 s1 s2 s3 r _;exact⟨fD s1 s2 s3+4,rfl⟩
   exact⟨0,rfl⟩
  exact⟨0,rfl⟩
 obtain⟨k,hk⟩:=key;rw[hk,List.length_drop];by_cases h:k<=s.length
 ·rw[show s.length-(s.length-k)=k by omega]
 rw[List.drop_of_length_le om,List.drop_of_length_le om]
theorem a1Y (s:Bs):(mQ s).length<=s.length:=Nat.le_trans (aU _ _ _ _).1 (aU _ _ _ _).1
theorem a1Z (s:Bs):mQ s=s.drop (s.length-(mQ s).length):=by
 have h1:=Jo 82 1048576 s false;have h2:=Jo 83 8 (bC s) (jM s);have l1:=(aU 82 1048576 s false).1;have l2:=(aU 83 8 (bC s) (jM s)).1;show l9 83 8 (bC s) (jM s)=s.drop (s.length-(l9 83 8 (bC s) (jM s)).length);rw[h2];have l1':(bC s).length<=s.length:=l1;have h1':bC s=s.drop (s.length-(bC s).length):=h1;generalize l9 83 8 (bC s) (jM s)=z at *;rw[List.length_drop,show (bC s).length-((bC s).length-z.length)=z.length by omega]
 conv=>lhs;rw[h1',List.drop_drop]
 congr 1
 rw[List.length_drop];omega
instance c2K {s:Bs}:Ans Tryz.prog GL 183 [str s] (s.length<=1000000000) (.tup [str (if jZ s=true then yN s else []),int (if jZ s=true then (s.length:Int)-(mQ s).length else 0),int (if jZ s=true then 0 else 10)]):=⟨λhl=>by
 have hA:(bC s).length<=s.length:=(aU 82 1048576 s false).1;have hZ:=a1Y s;have e1:l9 82 1048576 s false=bC s:=rfl;have e2:F8 82 1048576 s false=jM s:=rfl;have e3:I7 82 1048576 s false=yN s:=rfl;have e4:N7 83 4294967295 (bC s) (jM s)=EZ s:=rfl;have e5:l9 83 8 (bC s) (jM s)=mQ s:=rfl;have e6:O1 83 4294967295 (bC s) (jM s)=EY s:=rfl;refine qE Tryz.func183 rfl Tryz.ntmps183 rfl (λ_ hs=>?_);repeat' first|refine O ?_|intro
 refine T9 yM (λu m1 hh=>?_);obtain⟨g,rfl,rfl⟩:=hh;repeat' first|refine O ?_|intro
 rw[e1,e2,e3];cases hb:jM s
 ·rw[show (if false=true then 0 else (bC s).length)=(bC s).length from rfl];repeat' first|refine O ?_|intro
  rw[hb] at e4 e5 e6;rw[e4,e5,e6];repeat' first|refine O ?_|intro
  have hr:0<=EZ s/\EZ s<=4294967295:=by
   unfold EZ N7;split <;> omega
  have ht:(s.take (s.length-(bC s).length)).length<=4611686018427387904:=by
   rw[List.length_take];omega
  cases hy:EY s
  ·repeat' first|refine O ?_|intro
   rw[IR hr.1 hr.2];refine dG 0 (s.length-(bC s).length) ?_;rw[List.drop_zero];repeat' first|refine O ?_|intro
   have hk:jZ s=decide (EZ s=pU (s.take (s.length-(bC s).length))):=by
    unfold jZ;rw[hy];rfl
   refine G7 (λh=>?_) (λh=>?_)
   ·rw[dZ h] at hk;rw[hk];exact o8
   rw[dT (Classical.not_not.1 h)] at hk;rw[hk];repeat' first|refine O ?_|intro
   rw[show (if false=true then 0 else (mQ s).length)=(mQ s).length from rfl];exact o8
  have hk:jZ s=false:=by
   unfold jZ;rw[hy];rfl
  rw[hk];exact o8
 have hy:EY s=true:=by
  unfold EY O1;rw[hb];simp[uG,F8,CY]
 have hk:jZ s=false:=by
  unfold jZ;rw[hy];rfl
 rw[if_pos rfl];repeat' first|refine O ?_|intro
 rw[hb] at e4 e5 e6;rw[e4,e5,e6,hy,hk];exact o8⟩
theorem b3u {f:Nat}{s:Bs}(h:jZ s=true):sK (f+1) s=(yN s::(sK f (mQ s)).1,(sK f (mQ s)).2):=by
 rw[sK,if_pos h]
theorem b3v {f:Nat}{s:Bs}(h:jZ s=false):sK (f+1) s=([],s):=by
 rw[sK,if_neg (by rw[h];decide)]
instance c2N {s:Bs}:Ans Tryz.prog GL 134 [str s] (s.length<=1000000000) (.tup [.sl 1 ((xD s).map str) none,int ((s.length:Int)-(II s).length)]):=⟨λhl=>by
 refine qE Tryz.func134 rfl Tryz.ntmps134 rfl (λ_ hs=>?_);repeat' first|refine O ?_|intro
 refine sP 2 (Imp.nil (k:=1)) ?_;refine eO (λok w h=>h.full 9 1 none 0) ?_;refine H7 (α:=List Bs × Nat × Nat × Value) (λz=>[(0,str s),(2,.sl 1 (z.1.map str) (some z.2.2.2)),(3,int z.2.1)]) (λz=>[.tail 9 1 z.2.2.2])
  (λz=>z.2.1<=s.length/\z.1.length<=z.2.1/\(s.drop z.2.1).length<z.2.2.1/\xD s=z.1++(sK z.2.2.1 (s.drop z.2.1)).1/\II s=(sK z.2.2.1 (s.drop z.2.1)).2) (λz=>s.length-z.2.1) ([],0,s.length+1,.slice none 0 0) za slr
  ⟨Nat.zero_le _,Nat.le_refl _,Nat.lt_succ_self _,rfl,rfl⟩ ?_
 rintro⟨acc,n,f,v⟩ ⟨hn,ha,hf,h1,h2⟩;dsimp only at hn ha hf h1 h2 ⊢;repeat' first|refine O ?_|intro
 refine dG n s.length ?_;rw[List.take_length];have hdl:(s.drop n).length=s.length-n:=List.length_drop;rcases f with _|f
 ·omega
 have hal:(acc.map str).length=acc.length:=llm _;cases hk:jZ (s.drop n)
 ·rw[b3v hk] at h1 h2;dsimp only at h1 h2;rw[List.append_nil] at h1;repeat' first|refine O ?_|intro
  rw[hk];repeat' first|refine O ?_|intro
  rw[h1,h2,hdl];refine P8 ?_;show Imp (.tup [.sl 1 (acc.map str) (some v),int n]) (.tup [.sl 1 (acc.map str) none,int ((s.length:Int)-((s.length-n:Nat):Int))]);rw[show (s.length:Int)-((s.length-n:Nat):Int)=n by omega];exact ImpR.imp
 rw[b3u hk] at h1 h2;dsimp only at h1 h2;have hd:=a1X hk;have hz:=a1Z (s.drop n);rw[hdl] at hd hz;rw[List.drop_drop] at hz;repeat' first|refine O ?_|intro
 rw[hk];repeat' first|refine O ?_|intro
 refine aP (λv'=>?_);repeat' first|refine O ?_|intro
 generalize hN:n+(s.length-n-(mQ (s.drop n)).length)=N at hz;simp only[if_true];refine xE 3 (v:=int ((n:Int)+(((s.drop n).length:Int)-((mQ (s.drop n)).length:Int)))) (v':=int N) (Imp.of_eq (by rw[hdl,show (n:Int)+(((s.length-n:Nat):Int)-((mQ (s.drop n)).length:Int))=(N:Int) by omega])) ?_;refine xE 2 (v:=.sl 1 (acc.map str++[str (yN (s.drop n))]) (some v')) (v':=.sl 1 ((acc++[yN (s.drop n)]).map str) (some v')) (Imp.of_eq (by rw[List.map_append];rfl)) ?_;refine y7 (acc++[yN (s.drop n)],N,f,v') za slr ⟨?_,?_,?_,?_,?_⟩ ?_
 ·dsimp only;omega
 ·dsimp only;rw[lla,List.length_singleton];omega
 ·dsimp only;rw[<- hz];omega
 ·dsimp only;rw[<- hz,h1,laa];rfl
 ·dsimp only;rw[<- hz,h2]
 dsimp only;omega⟩
end Go.Proofs.Z

namespace Go.Proofs.Z
open Go Go.RowKit Tw Av Go.Proofs.Tryz
theorem Sz {I:DvI}{x:DvX}{gd gb:Nat}{T1:TypeId}{l:Bs}{m0:List Av.Piece}{a:Int}(hx:DvOk x)(hon:x.on=true)(ha:0<=a/\a<x.n)(hw:x.ws.length<=1000000)(hl:l.length<=1000000)(hB:Bld gb l m0) :
  Av.Spec prog GL 130 [int a,ptr gd,ptr gb] ((.var gd T1 (ptr I.gd)::I6 I x)++m0) λu m=>u=d9 true/\∃ m1,Bld gb (l++fF x a) m1/\m=(.var gd T1 (ptr I.gd)::I6 I x)++m1:=by
 have hh:mF x a=true:=dT ha;refine zc func130 ntmps130 λ_ hs=>?_;repeat' first|refine O ?_|intro
 refine aI [_] (I6 I x) m0 (Bj hon hh hw) (λu m1 hu=>?_);obtain⟨rfl,rfl⟩:=hu;have h64:=Bw hx a;repeat' first|refine O ?_|intro
 refine J5 (.var gd T1 (ptr I.gd)::I6 I x) m0 (Zd (a:=fF x a) hB om) (λu m1 hu=>?_);obtain⟨rfl,hB1⟩:=hu;repeat' first|refine O ?_|intro
 exact j4 _ ⟨rfl,m1,hB1,rfl⟩ slr
theorem Zm {g:Nat}{l:Bs}{m:List Av.Piece}(hb:Bld g l m):Av.Spec prog GL 132 [ptr g] m λu m'=>u=int l.length/\m'=m:=by
 obtain⟨p,hp,⟨rfl,rfl⟩|⟨g',c,h0,hc,rfl⟩⟩:=hb
 ·refine zc func132 ntmps132 λ_ hs=>?_;repeat' first|refine O ?_|intro
  exact j4 _ ⟨rfl,rfl⟩ slr
 refine zc func132 ntmps132 λ_ hs=>?_;repeat' first|refine O ?_|intro
 trace_state
 exact j4 _ ⟨rfl,rfl⟩ slr
theorem Gt {s:Bs}:0<=((bI s).getD oV).e/\0<=((bI s).getD oV).b/\0<=((bI s).getD oV).c:=by
 unfold bI;split
 ·exact⟨Int.natCast_nonneg _,Int.natCast_nonneg _,Int.natCast_nonneg _⟩
 exact⟨Int.le_refl _,Int.le_refl _,Int.le_refl _⟩
theorem Om {a b:Bs}:0<=(DK a b).b:=by
 unfold DK;split
 ·exact Gt.2.1
 exact Gt.2.1
theorem Um {x:DvX}(hx:DvOk x){b:Int}{k:Nat}(hk:b<=64*k):(kU x k).take b.toNat=cZ x b:=by
 unfold cZ ZC;have key:∀ (k j:Nat),j<=k->(kU x k).take (64*j)=kU x j:=by
  intro k j hj
  induction k with
  | zero=>
   obtain rfl:j=0:=by omega
   rfl
  | succ k ih=>
   rw[KR];by_cases h:j<=k
   ·rw[List.take_append_of_le_length (by rw[KS hx];omega),ih h]
   obtain rfl:j=k+1:=by omega
   rw[List.take_of_length_le (by rw[lla,KS hx,Bw hx];omega),KR]
 by_cases hb:0<=b
 ·rw[<- key k ((b+63) / 64).toNat om,List.take_take,Nat.min_eq_left om]
 rw[show b.toNat=0 by omega];rfl
theorem a8g {I:DvI}{x:DvX}(hx:DvOk x)(hw:x.ws.length<=1000000)(h0:AZ x=0):Av.Spec prog GL 94 [ptr I.gd] (I6 I x) λu m=>∃ gs,u=.tup [ptr gs,.sl 1 ((NR x).map str) none,int 0]/\m=U4 ⟨I,gs⟩ x (uR x):=by
 have hn:=hx.n;have h2:¬ x.n<=2:=λh=>by unfold AZ at h0;rw[if_pos h] at h0;cases h0
 have hon:x.on=true:=by
  cases h:x.on with
  | true=>rfl
  | false=>unfold AZ at h0;rw[if_neg h2,if_pos h] at h0;cases h0
 have hr:¬ Y6 x.n<(Q6 x).b:=λh=>by unfold AZ at h0;rw[if_neg h2,if_neg (by rw[hon];decide),if_pos h] at h0;cases h0
 have hA:II (cZ x (Q6 x).b)=[]/\((xD (cZ x (Q6 x).b)).length:Int)=(Q6 x).c:=by
  unfold AZ at h0;rw[if_neg h2,if_neg (by rw[hon];decide),if_neg hr] at h0;by_cases h:II (cZ x (Q6 x).b)=[]/\((xD (cZ x (Q6 x).b)).length:Int)=(Q6 x).c
  ·exact h
  rw[if_neg h] at h0;cases h0
 have hh0:mF x 0=true:=dT ⟨om,om⟩;have hh1:mF x 1=true:=dT ⟨om,om⟩;have hrm:Y6 x.n<=262016:=by unfold Y6;omega
 have hrn:Y6 x.n=(x.n-2)*64:=rfl;have hbn:0<=(Q6 x).b:=Om;refine zc func94 ntmps94 λ_ hs=>?_;repeat' first|refine O ?_|intro
 refine aI [_] (I6 I x) [] (Bj hon hh0 hw) (λu m1 hu=>?_);obtain⟨rfl,rfl⟩:=hu;repeat' first|refine O ?_|intro
 refine aI [_] (I6 I x) [] (Bj hon hh1 hw) (λu m1 hu=>?_);obtain⟨rfl,rfl⟩:=hu;repeat' first|refine O ?_|intro
 rw[show DK (fF x 0) (fF x 1)=Q6 x from rfl];repeat' first|refine O ?_|intro
 rename_i g1 g8 g9;have hcs:∀ v∈[Value.pointer (some ⟨g1,0,none⟩),.pointer (some ⟨g9,0,none⟩)],v.oneCell'=true:=by simp[Value.oneCell']
 refine Z0 (vs:=[.pointer (some ⟨g1,0,none⟩),.pointer (some ⟨g9,0,none⟩)]) ?_;repeat' first|refine O ?_|intro
 refine Fq ([.var g9 211 (.agg 2 [.lit (.pointer none),K5])]++([.var g8 206 (oU (Q6 x))]++(.var g1 59 (ptr I.gd)::I6 I x))) _ ?_ lpr slr;refine H7 (α:=Nat × List Av.Piece) (λz=>[(1,ptr g1),(8,ptr g8),(9,ptr g9),(10,F3 130 [.pointer (some ⟨g1,0,none⟩),.pointer (some ⟨g9,0,none⟩)]),(11,int (2+z.1))]) (λz=>z.2++([.var g8 206 (oU (Q6 x))]++(.var g1 59 (ptr I.gd)::I6 I x)))
  (λz=>(z.1:Int)*64<(Q6 x).b+64/\Bld g9 (kU x z.1) z.2) (λz=>5000-z.1) (0,[.var g9 211 (.agg 2 [.lit (.pointer none),K5])]) za slr ⟨by have:=(Om (a:=fF x 0) (b:=fF x 1));unfold Q6;dsimp only;omega,none,.inl rfl,.inl ⟨rfl,rfl⟩⟩ ?_
 rintro⟨k,m0⟩ ⟨hk,hB⟩;dsimp only at hk hB ⊢;have hsl:=KS hx k;obtain⟨p,hp,⟨hl0,rfl⟩|⟨g',c,hl0,hc,rfl⟩⟩:=id hB
 ·repeat' first|refine O ?_|intro
  apply zd [0];exact zg
  ·intro _ _;refine T9 (Zm hB) (λu m1 hu=>?_);obtain⟨rfl,rfl⟩:=hu;exact j5 (A7 rfl rfl)
  by_cases hlt:((kU x k).length:Int)<(Q6 x).b
  ·repeat' first|refine O ?_|intro
   refine gX (args:=[int (2+k)]) ((.var g1 59 (ptr I.gd)::I6 I x)++_) [.var g8 206 (oU (Q6 x))] (by rw[hs];exact Sz (T1:=59) (l:=kU x k) (a:=2+(k:Int)) hx hon ⟨om,om⟩ hw om hB) (λu m1 hu=>?_) ?_ (hcs:=hcs);rotate_left
   ·exact List.perm_append_comm.trans (by rw[laa];exact List.perm_append_comm)
   obtain⟨rfl,m2,hB2,rfl⟩:=hu;rw[<- KR] at hB2;repeat' first|refine O ?_|intro
   refine bG (m2++([.var g8 206 (oU (Q6 x))]++(.var g1 59 (ptr I.gd)::I6 I x))) _ ?_ ?_ slr
   ·exact y7 (k+1,m2) za slr ⟨by dsimp only;omega,hB2⟩ (by dsimp only;omega)
   exact List.perm_append_comm.trans (by rw[laa];exact List.perm_append_comm)
  have hlg:(kU x k).take (Q6 x).b.toNat=cZ x (Q6 x).b:=Um hx om;have hll:(cZ x (Q6 x).b).length<=1000000:=by
   rw[<- hlg,List.length_take];omega
  have hrc:((xD (cZ x (Q6 x).b)).map str).length=(xD (cZ x (Q6 x).b)).length:=llm _;have hc2:=hA.2;have hl1:(([]:Bs)).length=0:=rfl;repeat' first|refine O ?_|intro
  apply lX [0];exact rfl;exact rfl;kernel_rfl
  ·intro _ _;refine T9 (Dn (l:=kU x k) hB om) (λu m1 hu=>?_);subst hu;refine j5 (bG [] [] ?_ lpr (List.nil_sublist _));refine zR (λok w h=>h.full 0 1 none 0) ?_;exact A7 rfl rfl
  ·exact rfl
  ·exact rfl
  repeat' first|refine O ?_|intro
  apply zd [];exact zg
  ·intro _ _;refine dG 0 (Q6 x).b.toNat ?_;rw[List.drop_zero,hlg];exact j5 (A7 rfl rfl)
  repeat' first|refine O ?_|intro
  rw[hA.1];repeat' (first|refine iP ?_|refine M8 ?_|refine L8 ?_|intro _|simp only[List.set]|refine KI ?_|refine KJ ?_|refine zO ?_|refine EN ?_|fail)
  refine BX [0,1,2,3,4,5,6,7,8,9,10,12,11,13,14,15] kr rfl hs kr ?_;repeat' first|refine O ?_|intro
  apply zd [];exact zg
  ·intro _ _;refine dG ((cZ x (Q6 x).b).length-(cZ x (Q6 x).b).length%64) (cZ x (Q6 x).b).length ?_ (h4:=Nat.le_refl _);rw[List.take_length];exact j5 (A7 rfl rfl)
  repeat' first|refine O ?_|intro
  rename_i gs;refine bG (U4 ⟨I,gs⟩ x (uR x)) (I6 I x++[.var gs 219 (JA I.gd (uR x))]) ?_ (List.perm_append_comm (l₁:=[_])) ?_
  ·exact j4 _ ⟨gs,rfl,rfl⟩ slr
  exact A8
 repeat' first|refine O ?_|intro
 apply zd [0,1];exact zg
 ·intro _ _;refine T9 (Zm hB) (λu m1 hu=>?_);obtain⟨rfl,rfl⟩:=hu;exact j5 (A7 rfl rfl)
 by_cases hlt:((kU x k).length:Int)<(Q6 x).b
 ·repeat' first|refine O ?_|intro
  refine gX (args:=[int (2+k)]) ((.var g1 59 (ptr I.gd)::I6 I x)++_) [.var g8 206 (oU (Q6 x))] (by rw[hs];exact Sz (T1:=59) (l:=kU x k) (a:=2+(k:Int)) hx hon ⟨om,om⟩ hw om hB) (λu m1 hu=>?_) ?_ (hcs:=hcs);rotate_left
  ·exact List.perm_append_comm.trans (by rw[laa];exact List.perm_append_comm)
  obtain⟨rfl,m2,hB2,rfl⟩:=hu;rw[<- KR] at hB2;repeat' first|refine O ?_|intro
  refine bG (m2++([.var g8 206 (oU (Q6 x))]++(.var g1 59 (ptr I.gd)::I6 I x))) _ ?_ ?_ slr
  ·exact y7 (k+1,m2) za slr ⟨by dsimp only;omega,hB2⟩ (by dsimp only;omega)
  exact List.perm_append_comm.trans (by rw[laa];exact List.perm_append_comm)
 have hlg:(kU x k).take (Q6 x).b.toNat=cZ x (Q6 x).b:=Um hx om;have hll:(cZ x (Q6 x).b).length<=1000000:=by
  rw[<- hlg,List.length_take];omega
 have hrc:((xD (cZ x (Q6 x).b)).map str).length=(xD (cZ x (Q6 x).b)).length:=llm _;have hc2:=hA.2;have hl1:(([]:Bs)).length=0:=rfl;repeat' first|refine O ?_|intro
 apply lX [0,1];exact rfl;exact rfl;kernel_rfl
 ·intro _ _;refine T9 (Dn (l:=kU x k) hB om) (λu m1 hu=>?_);subst hu;refine j5 (bG [] [] ?_ lpr (List.nil_sublist _));refine zR (λok w h=>h.full 0 1 none 0) ?_;refine zR (λok w h=>h.full 0 1 none 0) ?_;exact A7 rfl rfl
 ·exact rfl
 ·exact rfl
 repeat' first|refine O ?_|intro
 apply zd [];exact zg
 ·intro _ _;refine dG 0 (Q6 x).b.toNat ?_;rw[List.drop_zero,hlg];exact j5 (A7 rfl rfl)
 repeat' first|refine O ?_|intro
 rw[hA.1];repeat' (first|refine iP ?_|refine M8 ?_|refine L8 ?_|intro _|simp only[List.set]|refine KI ?_|refine KJ ?_|refine zO ?_|refine EN ?_|fail)
 refine BX [0,1,2,3,4,5,6,7,8,9,10,12,11,13,14,15] kr rfl hs kr ?_;repeat' first|refine O ?_|intro
 apply zd [];exact zg
 ·intro _ _;refine dG ((cZ x (Q6 x).b).length-(cZ x (Q6 x).b).length%64) (cZ x (Q6 x).b).length ?_ (h4:=Nat.le_refl _);rw[List.take_length];exact j5 (A7 rfl rfl)
 repeat' first|refine O ?_|intro
 rename_i gs;refine bG (U4 ⟨I,gs⟩ x (uR x)) (I6 I x++[.var gs 219 (JA I.gd (uR x))]) ?_ (List.perm_append_comm (l₁:=[_])) ?_
 ·exact j4 _ ⟨gs,rfl,rfl⟩ slr
 exact A8
end Go.Proofs.Z

namespace Go.Proofs.Z
open Go Go.RowKit Tw Av
section
variable {x:DvX}{l s:Bs}{a:Int}{m:MkX}{f:Int->Bs}
def tn (c:Nat)(a b:Bs):Bs:=a.take c++b.drop c
theorem a1S {c:Nat}{a b:Bs}(h:a.length=b.length):(tn c a b).length=b.length:=by
 unfold tn;rw[lla,List.length_take,List.length_drop];omega
theorem a1R {c k:Nat}{a b:Bs}(h:a.length=b.length)(he:a.take k=b.take k):(tn c a b).take k=a.take k:=by
 unfold tn;by_cases hk:k<=c
 ·by_cases hc:k<=a.length
  ·rw[List.take_append_of_le_length (by rw[List.length_take];omega),List.take_take,Nat.min_eq_left hk]
  rw[List.drop_of_length_le om,List.append_nil,List.take_take,Nat.min_eq_left hk]
 have h1:a.take c=b.take c:=by
  have:=congrArg (List.take c) he
  rwa [List.take_take,List.take_take,Nat.min_eq_left om] at this
 rw[h1,List.take_append_drop,he]
def dJ (f:Int->Bs)(a:Int)(s:Bs):Int->Bs:=λb=>if b=a then s else f b
theorem a9w {w:Int × Bs}(h:MpN x.es):M0 (jV x w)=dJ (M0 x) w.1 w.2:=funext λb=>Uq h b
theorem b0l {k:List Bool}{torn cut:Int}{i:Nat}{w:Int × Bs}(h:DvOk x)(hw:w.2.length=64) :
  M0 (kW x k torn cut i w)=M0 x\/∃ c,M0 (kW x k torn cut i w)=dJ (M0 x) w.1 (tn c w.2 (M0 x w.1)):=by
 unfold kW;split
 ·right
  rw[a9w h.mn];dsimp only;split
  ·exact⟨_,rfl⟩
  refine⟨64,?_⟩;unfold tn;rw[List.take_of_length_le om,List.drop_of_length_le (by rw[GN h];omega),List.append_nil]
 exact .inl rfl
theorem Ww {k:List Bool}{torn cut:Int}(P:(Int->Bs)->Prop):∀ {ws:List (Int × Bs)} {i:Nat} {x:DvX},DvOk x->(∀ w∈ws,w.2.length=64) ->
  (∀ w∈ws,∀ f c,(∀ a,(f a).length=64)->P f->P (dJ f w.1 (tn c w.2 (f w.1))))->P (M0 x)->P (M0 (qJ k torn cut i x ws))
 | [],_,_,_,_,_,h=>h
 | w::ws,i,x,hx,hw,hP,h=>by
  refine Ww P (ws:=ws) (Wu hx (hw w sm)) (λv hv=>hw v (by simp[hv])) (λv hv=>hP v (by simp[hv])) ?_;rcases b0l (k:=k) (torn:=torn) (cut:=cut) (i:=i) hx (hw w sm) with e|⟨c,e⟩
  ·rw[e];exact h
  rw[e];exact hP w sm _ c (GN hx) h
theorem Uu {k:List Bool}{torn cut:Int}(P:(Int->Bs)->Prop)(hx:DvOk x)(hP:∀ w∈x.ws,∀ f c,(∀ a,(f a).length=64)->P f->P (dJ f w.1 (tn c w.2 (f w.1))))(h:P (M0 x)):P (M0 (Y3 x k torn cut)):=by
 unfold Y3;split
 ·exact h
 exact Ww P hx hx.wl hP h
theorem VW (w:Int × Bs)(ws:List (Int × Bs))(b:Int):gY (w::ws) b=match gY ws b with|some s=>some s|none=>if w.1=b then some w.2 else none:=by
 unfold gY;rw[List.reverse_cons,List.find?_append];cases ws.reverse.find? λw=>decide (w.1=b) with
 | some v=>rfl
 | none=>
  by_cases h:w.1=b <;> simp[h]
theorem Sn:∀ {ws:List (Int × Bs)} {x:DvX},MpN x.es->∀ b,M0 (ws.foldl jV x) b=(gY ws b).getD (M0 x b)
 | [],_,_,_=>rfl
 | w::ws,x,h,b=>by
  rw[List.foldl_cons,Sn (ws:=ws) (show MpN (jV x w).es from Qk h),VW,Uq h];cases gY ws b with
  | some s=>rfl
  | none=>
   by_cases e:b=w.1
   ·rw[if_pos e];simp[e]
   rw[if_neg e];have:¬ w.1=b:=λh=>e h.symm;simp[this]
theorem Us (h:MpN x.es)(b:Int):M0 (iL x) b=fF x b:=Sn h b
theorem Xo:∀ {f:Nat} {a:Int} {s:Bs} {w:Int × Bs},w∈wW f a s->∃ j:Nat,w=(a+j,aA (s.drop (64*j)))/\64*j<s.length
 | 0,_,_,_,h=>by simp[wW] at h
 | f+1,a,s,w,h=>by
  unfold wW at h;split at h
  ·simp at h
  rename_i hs;have hl:0<s.length:=List.length_pos_iff.2 hs;rcases List.mem_cons.1 h with rfl|h
  ·exact⟨0,sm,om⟩
  obtain⟨j,rfl,hj⟩:=Xo h;rw[List.length_drop] at hj;refine⟨j+1,?_,om⟩;rw[List.drop_drop,show 64+64*j=64*(j+1) by omega,show a+1+(j:Int)=a+((j+1:Nat):Int) by omega]
theorem Xp:∀ {f:Nat} {a:Int} {s:Bs} (b:Int),s.length<=f->gY (wW f a s) b=if a<=b/\64*(b-a)<s.length then some (aA (s.drop (64*(b-a).toNat))) else none
 | 0,a,s,b,h=>by
  obtain rfl:=List.length_eq_zero_iff.1 (Nat.le_zero.1 h);rw[if_neg (by simp;omega)];rfl
 | f+1,a,s,b,h=>by
  unfold wW;by_cases hs:s=[]
  ·subst hs;rw[if_pos rfl,if_neg (by simp;omega)];rfl
  have hl:0<s.length:=List.length_pos_iff.2 hs;rw[if_neg hs,VW,Xp (f:=f) b (by rw[List.length_drop];omega),List.length_drop];by_cases h1:a=b
  ·subst h1;rw[if_neg (show ¬ (a+1<=a/\64*(a-(a+1))<((s.length-64:Nat):Int)) by omega)];dsimp only;rw[if_pos rfl,if_pos (show a<=a/\64*(a-a)<(s.length:Int) by omega),Int.sub_self];rfl
  by_cases h2:a<=b/\64*(b-a)<s.length
  ·rw[if_pos ⟨om,om⟩,if_pos h2];dsimp only;rw[List.drop_drop];congr 3
   omega
  rw[if_neg om,if_neg h2];dsimp only;rw[if_neg h1]
theorem Ul (hon:x.on=true)(ha:0<=a/\a<x.n)(hs:s.length=64) :
  bN x a s=if mE x=false then (nN (vD x) (a,s),14) else (nN (V3 x) (a,s),0):=by
 unfold bN;rw[if_neg (by rw[hon];decide),if_neg];rintro (h|h)
 ·unfold mF at h;rw[dT ha] at h;cases h
 exact h hs
theorem UH (h:mE x=false):x.ar=true:=by
 unfold mE at h;cases e:x.ar with
 | true=>rfl
 | false=>rw[e] at h;simp at h
theorem Mr:∀ {f:Nat} {x:DvX} {a:Int} {s:Bs},s.length<=f->x.on=true->0<=a->a*64+s.length<=x.n*64 ->
  (∃ y,nI f x a s=(y,0)/\y.on=true/\y.es=x.es/\y.n=x.n/\y.ar=x.ar/\y.ws=x.ws++wW f a s) \/
  (∃ y p,nI f x a s=(y,14)/\x.ar=true/\y.on=false/\y.es=x.es/\y.n=x.n/\y.ws=x.ws++p/\∀ w∈p,w∈wW f a s)
 | 0,x,a,s,_,hon,_,_=>.inl ⟨x,rfl,hon,rfl,rfl,rfl,by simp[wW]⟩
 | f+1,x,a,s,hl,hon,ha,hr=>by
  unfold nI wW;by_cases hs:s=[]
  ·rw[if_pos hs,if_pos hs];exact .inl ⟨x,rfl,hon,rfl,rfl,rfl,sm⟩
  have hp:0<s.length:=List.length_pos_iff.2 hs;have hw:=Ul hon ⟨ha,om⟩ (YP s);rw[if_neg hs,if_neg hs];cases hm:mE x with
  | false=>
   rw[hm,if_pos rfl] at hw;rw[hw,if_neg (show ¬ ((14:Int)=0) by decide)];exact .inr ⟨_,[(a,aA s)],rfl,UH hm,rfl,rfl,rfl,rfl,sm⟩
  | true=>
   rw[hm,if_neg dc] at hw;rw[hw,if_pos rfl];rcases Mr (f:=f) (x:=nN (V3 x) (a,aA s)) (a:=a+1) (s:=s.drop 64) (by rw[List.length_drop];omega) hon om (by
     rw[List.length_drop];show (a+1)*64+((s.length-64:Nat):Int)<=x.n*64;by_cases h:64<=s.length
     ·omega
     rw[show s.length-64=0 by omega];omega) with⟨y,h1,h2,h3,h4,h5,h6⟩|⟨y,p,h1,h2,h0,h3,h4,h5,h6⟩
   ·exact .inl ⟨y,h1,h2,h3,h4,h5,by rw[h6];simp[nN,V3]⟩
   refine .inr ⟨y,(a,aA s)::p,h1,h2,h0,h3,h4,by rw[h5];simp[nN,V3],λw hw=>?_⟩;rcases List.mem_cons.1 hw with rfl|hw
   ·exact List.mem_cons_self
   exact List.mem_cons_of_mem _ (h6 w hw)
def LgI (f:Int->Bs)(l:Bs):Prop:=∀ j:Nat,64*j<l.length->(f (2+(j:Int))).take (l.length-64*j)=(l.drop (64*j)).take 64
structure MkI (f:Int->Bs)(m:MkX):Prop where
 e:0<=m.e/\m.e<200
 b:MkB m
 at_:f (m.e%2)=V7 m
 oth:∃ g:Nat,(f ((m.e+1)%2)).drop 56=fK g/\g<200/\((g:Int)<m.e\/g=0)
structure DFits (f:Int->Bs)(l:Bs)(m:MkX):Prop where
 len:∀ a,(f a).length=64
 lg:LgI f l
 mr:MkI f m
theorem a1I (h:bI s=some m):s.drop 56=fK m.e.toNat/\0<=m.e/\m.e<=1099511627776:=by
 have h1:=(NQ m).2.2.2;rw[a1H h] at h1;refine⟨h1,?_⟩;unfold bI at h;split at h
 ·rename_i hh;injection h with h
  have h2:=hh.2.1;rw[h] at h2;unfold YV at h2;have h3:=(of_decide_eq_true h2).1;refine⟨?_,h3⟩;rw[<- h];unfold AR;exact Int.natCast_nonneg _
 cases h
theorem a5e {g:Nat}(hs:s.drop 56=fK g)(hg:g<200):((bI s).getD oV).e=0\/((bI s).getD oV).e=g:=by
 cases h:bI s with
 | none=>exact .inl rfl
 | some m=>
  right
  obtain⟨h1,h2,h3⟩:=a1I h;rw[hs] at h1;have:=congrArg DL h1;rw[NY om,NY om] at this;show m.e=g;omega
theorem MkI.newest (h:MkI f m):DK (f 0) (f 1)=m:=by
 have he:=h.e;have hu:bI (f (m.e%2))=some m:=by rw[h.at_];exact a1F h.b
 obtain⟨g,h1,h2,h3⟩:=h.oth;have ho:=a5e h1 h2;unfold DK;rcases (show m.e%2=0\/m.e%2=1 by omega) with h0|h0
 ·rw[h0] at hu;rw[show (m.e+1)%2=1 by omega] at ho;rw[hu];show (if m.e<_ then _ else m)=m;rw[if_neg om]
 rw[h0] at hu;rw[show (m.e+1)%2=0 by omega] at ho;rw[hu];show (if _<m.e then m else _)=m;rw[if_pos om]
theorem LgI.sec (hx:DvOk x)(h:LgI (fF x) l):∀ k,(kU x k).take l.length=l.take (64*k)
 | 0=>by simp[kU]
 | k+1=>by
  rw[KR];by_cases hk:l.length<=64*k
  ·rw[List.take_append_of_le_length (by rw[KS hx];exact hk),LgI.sec hx h k,List.take_of_length_le hk,List.take_of_length_le om]
  rw[List.take_append,LgI.sec hx h k,KS hx,h k om,show 64*(k+1)=64*k+64 by omega,List.take_add]
theorem a6i (hx:DvOk x)(h:LgI (fF x) l):cZ x l.length=l:=by
 unfold cZ ZC;rw[Int.toNat_natCast,LgI.sec hx h,List.take_of_length_le om]
theorem a9x (h:x.ws=[]):fF x=M0 x:=by
 funext a
 unfold fF;rw[h];rfl
theorem a5j {l:List Bs}(hx:DvOk x)(hon:x.on=true)(hws:x.ws=[])(h:DFits (M0 x) (nL l) m)(hb:m.b=(nL l).length)(hc:m.c=l.length)(hr:m.b<=Y6 x.n)(hn:2<x.n)(hl:∀ s∈l,s.length<=1048576) :
  AZ x=0/\uR x=⟨m,nL l,false⟩/\NR x=l:=by
 have hd:=a9x hws;have h1:Q6 x=m:=by unfold Q6;rw[hd];exact h.mr.newest
 have h2:cZ x m.b=nL l:=by rw[hb];exact a6i hx (by rw[hd];exact h.lg)
 obtain⟨a1,a2⟩:=b2i hl;unfold AZ uR NR;rw[h1,h2,a1,a2,if_neg om,if_neg (by rw[hon];decide),if_neg om,if_pos ⟨rfl,hc.symm⟩];exact⟨rfl,rfl,rfl⟩
theorem a2d {j c:Nat}(hf:∀ a,(f a).length=64)(h:LgI f l)(hs:s.length=64)(hw:64*j<l.length->s.take (l.length-64*j)=(l.drop (64*j)).take 64):LgI (dJ f (2+(j:Int)) (tn c s (f (2+(j:Int))))) l:=by
 intro i hi;unfold dJ;by_cases e:i=j
 ·subst e;rw[if_pos rfl,a1R (by rw[hs,hf]) ((hw hi).trans (h i hi).symm),hw hi]
 rw[if_neg om];exact h i hi
theorem Gs {c:Nat}(hf:∀ a,(f a).length=64)(hs:s.length=64):∀ b,(dJ f a (tn c s (f a)) b).length=64:=by
 intro b;unfold dJ;split
 ·rw[a1S (by rw[hs,hf]),hf]
 exact hf b
theorem a1D (ha:2<=a)(h:MkI f m):MkI (dJ f a s) m:=by
 have he:=h.e;refine⟨h.e,h.b,?_,?_⟩
 ·unfold dJ;rw[if_neg om];exact h.at_
 unfold dJ;rw[if_neg om];exact h.oth
theorem Gr (ha:a<2)(h:LgI f l):LgI (dJ f a s) l:=by
 intro j hj;unfold dJ;rw[if_neg om];exact h j hj
theorem Zu {n:Nat}(h:n<256):fK n=(qI 0 7).reverse++[UInt8.ofNat n]:=by
 have:∀ n,n<256->fK n=(qI 0 7).reverse++[UInt8.ofNat n]:=by decide +kernel
 exact this n h
theorem b1s {a b c:Nat}(ha:a<256)(hb:b<256)(hc:c<=7):(fK a).take c++(fK b).drop c=fK b:=by
 have hl:(qI 0 7).reverse.length=7:=by simp[KT]
 rw[Zu ha,Zu hb];generalize (qI 0 7).reverse=z at *;rw[List.take_append_of_le_length om,List.drop_append_of_le_length om,<- laa,List.take_append_drop]
theorem a2c {m':MkX}{c:Nat}(hf:∀ a,(f a).length=64)(h:MkI f m)(hb:MkB m')(he:m'.e=m.e+1)(h2:m'.e<200) :
  MkI (dJ f (m'.e%2) (tn c (V7 m') (f (m'.e%2)))) m\/MkI (dJ f (m'.e%2) (tn c (V7 m') (f (m'.e%2)))) m':=by
 have h0:=h.e;have hl:=SI m';by_cases hc:64<=c
 ·right
  have e1:tn c (V7 m') (f (m'.e%2))=V7 m':=by
   unfold tn;rw[List.take_of_length_le om,List.drop_of_length_le (by rw[hf];omega),List.append_nil]
  rw[e1];refine⟨om,hb,by unfold dJ;rw[if_pos rfl],m.e.toNat,?_,om,.inl om⟩;unfold dJ;rw[if_neg om,show (m'.e+1)%2=m.e%2 by omega,h.at_];exact(NQ m).2.2.2
 left
 obtain⟨g,h3,h4,h5⟩:=h.oth;refine⟨h.e,h.b,?_,g,?_,h4,h5⟩
 ·unfold dJ;rw[if_neg om];exact h.at_
 unfold dJ;rw[if_pos om];have hm:m'.e%2=(m.e+1)%2:=by omega
 rw[hm];have hG:=hf ((m.e+1)%2);generalize f ((m.e+1)%2)=G at h3 hG ⊢;unfold tn;rw[List.drop_append,List.length_take,hl];by_cases h56:c<=56
 ·rw[List.drop_of_length_le (by rw[List.length_take];omega),List.nil_append,List.drop_drop,show c+(56-min c 64)=56 by omega,h3]
 have e1:G.drop c=(fK g).drop (c-56):=by
  rw[<- h3,List.drop_drop];congr 1
  omega
 rw[show 56-min c 64=0 by omega,List.drop_zero,List.drop_take,(NQ m').2.2.2,e1];exact b1s om om om
end
end Go.Proofs.Z
