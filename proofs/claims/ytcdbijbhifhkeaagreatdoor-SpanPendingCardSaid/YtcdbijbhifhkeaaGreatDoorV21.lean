/- . -/
import Derived.Test.YtcdbijbhifhkeaaGreatDoorV20
set_option maxHeartbeats 64000000
namespace Av
open Go Go.RowKit Tw
section
variable {P:Program} {N:Nat} {ops:Array Oper} {Q:Exit->Act->World->Prop} {rest:List Oper} {s:Av.Base} {e:Av.Env} {m:List Av.Piece} {d:Nat} {ty:TypeId} {pos:String} {af:Array Edge}
theorem YI (k:Nat):2 ^ (8*k)=256 ^ k:=by rw[Nat.pow_mul]
theorem b2d {T yT:TypeId}{yk:IntKind}{x y:Operand}{a:Nat}{b:Int}(k:Nat)(h:AL P N ops Q s rest ((d,u6 (a / 256 ^ k))::e) m)(hx:ev e x=some (u6 a):=by exact rfl)(hy:ev e y=some (.lit (.int yk b)):=by exact rfl)(hb:b=((8*k:Nat):Int):=by omega)(hk:k<=8:=by omega)(hd:Nat.blt d N=true:=by exact rfl):AL P N ops Q s (⟨some d,.binOp .shr T x y yT,ty,pos,af,none⟩::rest) e m:=by
 refine PP (n:=8*k) ?_ hx hy (by rw[hb];rfl) (Nat.ble_eq_true_of_le (show 8*k<=64 by omega)) hd;rw[YI,<- Int.natCast_ediv];exact h
theorem b2e {T yT:TypeId}{yk:IntKind}{x y:Operand}{a:Nat}{b:Int}(k:Nat)(h:AL P N ops Q s rest ((d,u6 (256 ^ k*a))::e) m)(hx:ev e x=some (u6 a):=by exact rfl)(hy:ev e y=some (.lit (.int yk b)):=by exact rfl)(hb:b=((8*k:Nat):Int):=by omega)(ha:a<256:=by omega)(hk:k<=7:=by omega)(hd:Nat.blt d N=true:=by exact rfl):AL P N ops Q s (⟨some d,.binOp .shl T x y yT,ty,pos,af,none⟩::rest) e m:=
 LK rfl hx hy (λw=>by
  subst hb;have h2:min (8*k) IntKind.u64.bits=8*k:=by show min (8*k) 64=_;omega
  have h3:256 ^ k*a<18446744073709551616:=by
   have h5:256 ^ k<=72057594037927936:=Nat.pow_le_pow_right (n:=256) dc hk;have h6:256 ^ k*a<=72057594037927936*255:=Nat.mul_le_mul h5 om;omega
  have e1:((a:Int)*2 ^ (8*k))=((256 ^ k*a:Nat):Int):=by
   rw[show ((2:Int) ^ (8*k))=((2 ^ (8*k):Nat):Int) by simp,YI,Nat.mul_comm];simp
  have h4:¬ (((8*k:Nat):Int)<0):=om
  simp only[Op.shift,Int.toNat_natCast,h2,e1,h4,if_false];show Result.ok (Value.int .u64 (IntKind.u64.wrap ((256 ^ k*a:Nat):Int))) w=_;rw[wrap_u64 _ h3]) (.inl rfl) hd h
theorem a5f {a c:Nat}(ha:a<18446744073709551616)(hc:c<18446744073709551616)(h:(a ||| c)<18446744073709551616)(P:Program)(w:World):(Op.intBits .or .u64 (a:Int) (c:Int)).run P w=.ok (.int .u64 ((a ||| c:Nat):Int)) w:=by
 have h2:(BitVec.ofInt 64 (a:Int) ||| BitVec.ofInt 64 (c:Int)).toNat=a ||| c:=by
  rw[BitVec.toNat_or,BitVec.ofInt_natCast,BitVec.ofInt_natCast,BitVec.toNat_ofNat,BitVec.toNat_ofNat,Nat.mod_eq_of_lt ha,Nat.mod_eq_of_lt hc]
 show Result.ok (Value.int .u64 (IntKind.u64.wrap ((BitVec.ofInt 64 (a:Int) ||| BitVec.ofInt 64 (c:Int)).toNat:Int))) w=_;rw[h2,wrap_u64 _ h]
theorem b2o {T yT:TypeId}{x y:Operand}{a c r:Nat}(h:AL P N ops Q s rest ((d,u6 (a+256 ^ r*c))::e) m)(hx:ev e x=some (u6 a):=by exact rfl)(hy:ev e y=some (u6 (256 ^ r*c)):=by exact rfl)(ha:a<256 ^ r)(hc:c<256)(hr:r<=7)(hd:Nat.blt d N=true:=by exact rfl):AL P N ops Q s (⟨some d,.binOp .or T x y yT,ty,pos,af,none⟩::rest) e m:=by
 have h0:256 ^ r<=72057594037927936:=Nat.pow_le_pow_right (n:=256) dc hr;have h1:256 ^ r*c+256 ^ r<=72057594037927936*256:=by
  rw[<- Nat.mul_succ];exact Nat.mul_le_mul h0 om
 have h2:=a5h (d:=c) ha;generalize 256 ^ r*c=X at *;generalize 256 ^ r=R at *;rw[<- h2] at h;exact LU rfl hx hy (λw=>a5f om om om P w) (.inr (.inl rfl)) hd h
theorem Gu (n:Nat):AV.lit (.int .u8 (IntKind.u8.wrap (n:Int)))=.lit (y8 (UInt8.ofNat n)):=by
 unfold y8;rw[IntKind.wrap_u8,UInt8.toNat_ofNat'];simp
theorem b1r {n j:Nat}(h:j<32):(bF n)[j]?=some (UInt8.ofNat (dg n (31-j))):=by
 unfold bF;rw[List.getElem?_reverse (by rw[KT];exact h),KT,a9P om]
theorem b1q {n j:Nat}(h:j<32):(bF n).take (j+1)=(bF n).take j++[UInt8.ofNat (dg n (31-j))]:=by
 rw[List.take_add_one,b1r h];rfl
end
end Av
namespace Go.Proofs.Z
open Go Go.RowKit Tw Av
instance b9i {a:Wd}:Ans Tryz.prog GL 175 [G6 a] True (str (bF a.n)):=⟨λ_=>by
 have hbl:=yG a.n;refine qE Tryz.func175 rfl Tryz.ntmps175 rfl (λ_ hs=>?_);repeat' first|refine Vz ?_|intro
 rename_i g1;refine sP 3 (Imp.nil (k:=1)) ?_;refine eO (λok w h=>h.full 5 1 none 0) ?_;refine H7 (α:=Nat × Value) (λq=>[(1,ptr g1),(3,.sl 1 (((bF a.n).take (8*q.1)).map I5) (some q.2)),(4,int (3-q.1))]) (λq=>[.tail 5 1 q.2,.var g1 39 (G6 a)]) (λq=>q.1<=4) (λq=>4-q.1) (0,.slice none 0 0) za slr (Nat.zero_le _) ?_;rintro⟨q,v⟩ hq;dsimp only at hq ⊢;repeat' first|refine Vz ?_|intro
 refine G7 (λhlt=>?_) (λhlt=>?_)
 ·have hq4:q<4:=om
  repeat' first|refine Vz ?_|intro
  refine H7 (α:=Nat × Value) (λr=>[(1,ptr g1),(3,.sl 1 (((bF a.n).take (8*q+r.1)).map I5) (some r.2)),(4,int (3-q)),(5,int (7-r.1))]) (λr=>[.tail 5 1 r.2,.var g1 39 (G6 a)]) (λr=>r.1<=8) (λr=>8-r.1) (0,v) za slr (Nat.zero_le _) ?_;rintro⟨r,v⟩ hr;dsimp only at hr ⊢;have hml:(((bF a.n).take (8*q+r)).map I5).length<=32:=by rw[llm,List.length_take];omega
  repeat' first|refine Vz ?_|intro
  refine G7 (λhlt=>?_) (λhlt=>?_)
  ·have hr8:r<8:=om
   have e1:UInt8.ofNat (lm a.n (3-q) / 256 ^ (7-r))=UInt8.ofNat (dg a.n (31-(8*q+r))):=by
    rw[<- a6m,show (31-(8*q+r)) / 8=3-q by omega,show (31-(8*q+r))%8=7-r by omega];apply UInt8.toNat_inj.1;rw[UInt8.toNat_ofNat',UInt8.toNat_ofNat'];omega
   repeat' first|refine Vz ?_|intro
   refine aX (3-q) ?_;repeat' first|refine Vz ?_|intro
   refine vL (j:=3-q) (PZ om) ?_;repeat' first|refine Vz ?_|intro
   refine b2d (7-r) ?_;refine EQ ?_;rw[Gu,e1];repeat' first|refine Vz ?_|intro
   refine aP (λv'=>?_);repeat' first|refine Vz ?_|intro
   have e2:((bF a.n).take (8*q+(r+1))).map I5=((bF a.n).take (8*q+r)).map I5++[I5 (UInt8.ofNat (dg a.n (31-(8*q+r))))]:=by
    rw[<- Nat.add_assoc,b1q om,List.map_append];rfl
   rw[<- e2,show (7:Int)-(r:Int)-1=7-((r+1:Nat):Int) by omega];refine y7 (r+1,v') za ?_ hr8 (by dsimp only;omega);exact A8
  obtain rfl:r=8:=by omega
  repeat' first|refine Vz ?_|intro
  rw[show (3:Int)-(q:Int)-1=3-((q+1:Nat):Int) by omega];refine y7 (q+1,v) za ?_ hq4 (by dsimp only;omega);exact A8
 obtain rfl:q=4:=by omega
 rw[List.take_of_length_le om];exact M7⟩
def oZ (c:Bs)(k:Nat):Nat:=Q9 (c.take k).reverse
theorem Qb {c:Bs}{k:Nat}(h:k<c.length):oZ c (k+1)=oZ c k*256+c[k].toNat:=by
 unfold oZ;rw[List.take_succ_eq_append_getElem h,List.reverse_append,List.reverse_singleton,List.singleton_append,Q9];omega
theorem TF (c:Bs)(k:Nat):oZ c k<256 ^ k:=by
 have h:=KA (c.take k).reverse;refine Nat.lt_of_lt_of_le h (Nat.pow_le_pow_right dc ?_);rw[List.length_reverse,List.length_take];omega
theorem a6n {s:Bs}(hs:s.length=32){i:Nat}(hi:i<4):oZ ((s.take (8*(3-i)+8)).drop (8*(3-i))) 8=lm (mH s) i:=by
 have hc:((s.take (8*(3-i)+8)).drop (8*(3-i))).length=8:=by rw[List.length_drop,List.length_take];omega
 have e:s.reverse=(s.drop (8*(3-i)+8)).reverse++(((s.take (8*(3-i)+8)).drop (8*(3-i))).reverse++(s.take (8*(3-i))).reverse):=by
  rw[<- List.reverse_append,<- List.reverse_append];congr 1
  have h1:s.take (8*(3-i))=(s.take (8*(3-i)+8)).take (8*(3-i)):=by rw[List.take_take,Nat.min_eq_left om]
  rw[h1,List.take_append_drop,List.take_append_drop]
 have l1:(s.drop (8*(3-i)+8)).reverse.length=8*i:=by rw[List.length_reverse,List.length_drop];omega
 have h1:=KA (s.drop (8*(3-i)+8)).reverse;have h2:=KA ((s.take (8*(3-i)+8)).drop (8*(3-i))).reverse;have l2:((s.take (8*(3-i)+8)).drop (8*(3-i))).reverse.length=8:=by rw[List.length_reverse,hc]
 rw[l1] at h1;rw[l2] at h2;unfold lm mH oZ;rw[List.take_of_length_le om,e,OG,OG,l1,l2,B_pow,Nat.add_mul_div_left _ _ (a4F _),Nat.div_eq_of_lt h1,Nat.zero_add,show (256:Nat) ^ 8=18446744073709551616 from rfl,Nat.add_mul_mod_self_left];exact(Nat.mod_eq_of_lt h2).symm
theorem a5R {X:Nat->Nat}{i:Nat}(h:i<4)(y z:Nat):(iJ X (λj=>if j=i then y else 0) i).set i (u6 z)=iJ X (λj=>if j=i then z else 0) i:=by
 rcases i with _|_|_|_|i <;> first|rfl|omega
theorem a5P {X:Nat->Nat}{i:Nat}(h:i<4):iJ X (λj=>if j=i then 0 else 0) i=iJ X (λ_=>0) i:=by
 rcases i with _|_|_|_|i <;> first|rfl|omega
theorem a5T {X:Nat->Nat}{i:Nat}(h:i<4):iJ X (λj=>if j=i then X i else 0) i=iJ X (λ_=>0) (i+1):=by
 rcases i with _|_|_|_|i <;> first|rfl|omega
instance a8b {s:Bs}:Ans Tryz.prog GL 229 [str s] (s.length<=1000000000) (.tup [G6 (if s.length=32 then H9 (mH s) else wZ),int (if s.length=32 then 0 else 10)]):=⟨λhl=>by
 refine qE Tryz.func229 rfl Tryz.ntmps229 rfl (λ_ hs=>?_);repeat' first|refine Vz ?_|intro
 refine G7 (λhne=>?_) (λhne=>?_)
 ·have h32:¬ s.length=32:=om
  repeat' first|refine Vz ?_|intro
  refine x9 ?_;rw[if_neg h32,if_neg h32];rfl
 have h32:s.length=32:=om
 repeat' first|refine Vz ?_|intro
 rename_i g2 g4;refine jK (g:=g4) (v':=.agg 4 (iJ (lm (mH s)) (λ_=>0) 0)) (λok w cs h=>by rw[Pn];exact h) ?_;refine H7 (α:=Nat) (λi=>[(0,str s),(2,ptr g2),(3,int 0),(4,ptr g4),(13,int i)])
   (λi=>[.var g4 39 (.agg 4 (iJ (lm (mH s)) (λ_=>0) i)),.var g2 39 (aD 0)]) (λi=>i<=4) (λi=>4-i) 0 za slr (Nat.zero_le _) ?_
 intro i hi;repeat' first|refine Vz ?_|intro
 refine G7 (λhlt=>?_) (λhlt=>?_)
 ·have hi4:i<4:=om
  have hln:=ZM (lm (mH s)) (λ_=>0) i;repeat' first|refine Vz ?_|intro
  refine dG (8*(3-i)) (8*(3-i)+8) ?_;have hlm:=a6n h32 hi4;have hc:((s.take (8*(3-i)+8)).drop (8*(3-i))).length=8:=by rw[List.length_drop,List.length_take];omega
  generalize (s.take (8*(3-i)+8)).drop (8*(3-i))=c at *;have hmc:(c.map λc=>AV.lit (y8 c)).length=8:=by rw[llm,hc]
  repeat' first|refine Vz ?_|intro
  rw[<- a5P hi4];refine H7 (α:=Nat) (λk=>[(0,str s),(2,ptr g2),(3,int 0),(4,ptr g4),(13,int i),(5,int i),(24,.sl 1 (c.map λc=>.lit (y8 c)) none),(25,int ((c.map λc=>AV.lit (y8 c)).length)),(26,int k)])
   (λk=>[.var g4 39 (.agg 4 (iJ (lm (mH s)) (λj=>if j=i then oZ c k else 0) i)),.var g2 39 (aD 0)]) (λk=>k<=8) (λk=>8-k) 0 za slr (Nat.zero_le _) ?_
  intro k hk;have hlt8:=TF c k;repeat' first|refine Vz ?_|intro
  refine G7 (λhlt=>?_) (λhlt=>?_)
  ·have hk8:k<c.length:=om
   have hst:=Qb hk8;have hlt9:=TF c (k+1);have hpw:256 ^ (k+1)<=18446744073709551616:=Nat.pow_le_pow_right (n:=256) (j:=8) dc om;have hby:=c[k].toNat_lt;have hln:=ZM (lm (mH s)) (λj=>if j=i then oZ c k else 0) i;have hg:=Pm (X:=lm (mH s)) (Y:=λj=>if j=i then oZ c k else 0) hi4;rw[if_pos rfl] at hg;repeat' first|refine Yz ?_|intro
   refine aX i ?_;repeat' first|refine Yz ?_|intro
   refine vL hg ?_;repeat' first|refine Yz ?_|intro
   refine aX i ?_;refine vJ (j:=i) (by rw[hln];exact hi4) ?_;rw[show AV.lit (.int .u64 ((oZ c k:Int)*256+(c[k].toNat:Int)))=u6 (oZ c (k+1)) by rw[hst];congr 2,a5R hi4];repeat' first|refine Yz ?_|intro
   refine y7 (k+1) za ?_ om om;exact A8
  obtain rfl:k=8:=by omega
  rw[hlm,a5T hi4];repeat' first|refine Vz ?_|intro
  refine y7 (i+1) za ?_ hi4 om;exact A8
 obtain rfl:i=4:=by omega
 rw[show AV.agg 4 (iJ (lm (mH s)) (λ_=>0) 4)=aD (mH s) by rw[ZN]];repeat' first|refine Vz ?_|intro
 refine x9 ?_;rw[if_pos h32,if_pos h32];show AV.tup [aD _,_]=.tup [aD _,_];rw[mO (b1p h32)]⟩
end Go.Proofs.Z

namespace Go.Proofs.Z
open Go Go.RowKit Tw Av Go.Proofs.Tryz
section
variable {i:Nat}{m:MkX}{s:Bs}
abbrev oU (m:MkX):AV:=.agg 3 [int m.e,int m.b,int m.c]
def SV (m:MkX)(i:Nat):Nat:=if i=0 then m.e.toNat else if i=1 then m.b.toNat else m.c.toNat
def Mv (m:MkX)(j:Nat):UInt8:=UInt8.ofNat (dg (SV m (j / 8)) (7-j%8))
def mJ (F:Nat->UInt8):Bs:=(List.range 64).map F
def fP (m:MkX)(i k:Nat):Nat->UInt8:=λj=>if j<8*i\/(8*i+8-k<=j/\j<8*i+8) then Mv m j else 0
theorem Ei (F:Nat->UInt8):(mJ F).length=64:=by simp[mJ]
theorem b1N {F G:Nat->UInt8}{j:Nat}{v:UInt8}(h1:G j=v)(h2:∀ i,i≠j->G i=F i):(mJ F).set j v=mJ G:=by
 apply List.ext_getElem
 ·simp[mJ]
 intro i a b;rw[List.getElem_set];simp only[mJ,List.getElem_map,List.getElem_range];by_cases h:j=i
 ·subst h;rw[if_pos rfl,h1]
 rw[if_neg h,h2 i (λe=>h e.symm)]
theorem b1O {F G:Nat->UInt8}(h:∀ i,i<64->F i=G i):mJ F=mJ G:=List.map_congr_left λi hi=>h i (List.mem_range.1 hi)
theorem a9f {k:Nat}(hk:k<8):(mJ (fP m i k)).set (8*i+7-k) (UInt8.ofNat (SV m i / 256 ^ k))=mJ (fP m i (k+1)):=by
 refine b1N ?_ ?_
 ·unfold fP;rw[if_pos (.inr ⟨om,om⟩)];unfold Mv;rw[show (8*i+7-k) / 8=i by omega,show 7-(8*i+7-k)%8=k by omega];unfold dg;apply UInt8.toNat_inj.1;rw[UInt8.toNat_ofNat',UInt8.toNat_ofNat'];omega
 intro j hj;unfold fP;by_cases h:j<8*i\/(8*i+8-k<=j/\j<8*i+8)
 ·rw[if_pos h,if_pos om]
 rw[if_neg h,if_neg om]
theorem a9h :mJ (fP m i 8)=mJ (fP m (i+1) 0):=b1O λj _=>by
 unfold fP;by_cases h:j<8*i\/(8*i+8-8<=j/\j<8*i+8)
 ·rw[if_pos h,if_pos om]
 rw[if_neg h,if_neg om]
theorem a9g :BH (mJ (fP m 3 0)) 56 0 8=V7 m:=rfl
instance b9K :Ans prog GL 160 [oU m] (MkB m) (str (V7 m)):=⟨λhm=>by
 have he:=hm.e;have hb:=hm.b;have hc:=hm.c;refine zc func160 ntmps160 λ_ hs=>?_;repeat' first|refine O ?_|intro
 rename_i g1 g3;refine jK (g:=g3) (v':=.agg 64 ((mJ (fP m 0 0)).map I5)) (λok w cs h=>h) ?_;refine H7 (α:=Nat) (λi=>[(3,ptr g3),(13,.agg 3 [int m.e,int m.b,int m.c]),(14,int i)]) (λi=>[.var g3 283 (.agg 64 ((mJ (fP m i 0)).map I5))]) (λi=>i<=3) (λi=>3-i) 0 za zb (Nat.zero_le _) ?_;intro i hi;by_cases hi':i<3
 rotate_left
 ·obtain rfl:i=3:=by omega
  repeat' first|refine O ?_|intro
  apply zd [];exact zg
  ·intro _ _;refine VE 56 64 ?_;exact j5 (A7 rfl rfl)
  apply zd [];exact zg
  ·intro _ _;refine VE 0 8 ?_;exact j5 (A7 rfl rfl)
  apply lX [0];exact rfl;exact rfl;kernel_rfl
  ·intro _ _;refine b2V (l:=mJ (fP m 3 0)) 8 rfl ?_ (h1:=by rw[Ei];decide) (h2:=by rw[Ei];decide);exact j5 (A7 rfl rfl)
  ·exact rfl
  ·exact rfl
  rw[a9g];exact o8
 have hnm:∃ n:Int,[int m.e,int m.b,int m.c][i]?=some (int n)/\(SV m i:Int)=n/\0<=n:=by
  rcases i with _|_|_|i
  ·exact⟨m.e,rfl,Int.toNat_of_nonneg he.1,he.1⟩
  ·exact⟨m.b,rfl,Int.toNat_of_nonneg hb.1,hb.1⟩
  ·exact⟨m.c,rfl,Int.toNat_of_nonneg hc.1,hc.1⟩
  omega
 obtain⟨n,hn1,hn2,hn3⟩:=hnm;repeat' first|refine O ?_|intro
 refine IE (nn:=3) (ps:=[int m.e,int m.b,int m.c]) i ?_ rfl hi' hn1 (by simp[AV.size]) rfl;repeat' first|refine O ?_|intro
 refine H7 (α:=Nat) (λk=>[(3,ptr g3),(13,.agg 3 [int m.e,int m.b,int m.c]),(14,int i),(4,int i),(5,int n),(18,int k)]) (λk=>[.var g3 283 (.agg 64 ((mJ (fP m i k)).map I5))]) (λk=>k<=8) (λk=>8-k) 0 za slr (Nat.zero_le _) ?_;intro k hk;by_cases hk':k<8
 rotate_left
 ·obtain rfl:k=8:=by omega
  rw[a9h];repeat' first|refine O ?_|intro
  exact y7 (i+1) za slr hi' om
 have hst:=a9f (m:=m) (i:=i) hk';have hml:((mJ (fP m i k)).map I5).length=64:=by rw[llm,Ei]
 repeat' first|refine O ?_|intro
 refine eH 28 (v:=int (max n 0)) (v':=int (SV m i:Nat)) (Imp.of_eq (by rw[hn2,Int.max_eq_left hn3])) ?_;refine PP (k:=.i64) (n:=8*k) ?_ (hb:=by show (8:Int)*k=((8*k:Nat):Int);omega) (hn:=Nat.ble_eq_true_of_le (show 8*k<=64 by omega));rw[YI,<- Int.natCast_ediv];refine EQ ?_;rw[Gu];refine aX (8*i+7-k) ?_;refine vJ (j:=8*i+7-k) (by rw[hml];omega) ?_;rw[<- List.map_set,hst];repeat' first|refine O ?_|intro
 exact y7 (k+1) za slr hk' om⟩
attribute [local irreducible] V7
def uT (s:Bs)(j:Nat):Nat:=DL ((s.drop (8*j)).take 8)
theorem RX (s:Bs):AR s=⟨uT s 0,uT s 1,uT s 2⟩:=rfl
abbrev JX (s:Bs)(i:Nat):List AV:=[int (if 0<i then uT s 0 else 0:Nat),int (if 1<i then uT s 1 else 0:Nat),int (if 2<i then uT s 2 else 0:Nat)]
theorem a5L (h:i<3):(JX s i).set i (int (uT s i))=JX s (i+1):=by
 rcases i with _|_|_|i
 ·rfl
 ·rfl
 ·rfl
 omega
theorem a1G (h:i<3)(hn:¬ (uT s i:Int)<=1099511627776):bI s=none:=by
 unfold bI;rw[if_neg];rintro⟨_,h2,_⟩;rw[RX] at h2;have:=of_decide_eq_true h2;rcases i with _|_|_|i
 ·exact hn this.1
 ·exact hn this.2.1
 ·exact hn this.2.2
 omega
instance b9I :Ans prog GL 181 [str s] True (.tup [oU ((bI s).getD oV),d9 (bI s).isSome]):=⟨λ_=>by
 refine zc func181 ntmps181 λ_ hs=>?_;repeat' first|refine O ?_|intro
 by_cases h64:s.length=64
 rotate_left
 ·have hu:bI s=none:=by
   unfold bI;rw[if_neg (λh=>h64 h.1)]
  rw[hu];exact o8
 repeat' first|refine O ?_|intro
 rename_i g2 g4;refine H7 (α:=Nat) (λi=>[(0,str s),(2,ptr g2),(4,ptr g4),(5,d9 true),(15,int i)]) (λi=>[.var g4 284 (.agg 3 (JX s i)),.var g2 206 (oU oV)]) (λi=>i<=3/\∀ j,j<i->uT s j<=1099511627776) (λi=>3-i) 0 za slr ⟨Nat.zero_le _,λj h=>absurd h om⟩ ?_;rintro i ⟨hi,hN⟩;by_cases hi':i<3
 rotate_left
 ·obtain rfl:i=3:=by omega
  have h0:=hN 0 om;have h1:=hN 1 om;have h2:=hN 2 om;obtain⟨M,hM⟩:∃ M,AR s=M:=⟨_,rfl⟩;have hB:MkB M:=by
   rw[<- hM];exact⟨by rw[RX];dsimp only;omega,by rw[RX];dsimp only;omega,by rw[RX];dsimp only;omega⟩
  have hok:YV (AR s)=true:=by
   rw[hM];exact dT ⟨hB.e.2,hB.b.2,hB.c.2⟩
  have hu:bI s=if V7 M=s then some M else none:=by
   unfold bI;rw[hM] at hok ⊢;by_cases h:V7 M=s
   ·rw[if_pos ⟨h64,hok,h⟩,if_pos h]
   rw[if_neg (λe=>h e.2.2),if_neg h]
  have hA:AV.agg 3 (JX s 3)=oU M:=by
   rw[<- hM];rfl
  rw[hA];repeat' first|refine O ?_|intro
  rw[hu];refine G7 (λh=>?_) (λh=>?_)
  ·rw[if_neg h];exact o8
  rw[if_pos (Classical.not_not.1 h)];exact o8
 repeat' first|refine O ?_|intro
 refine dG (8*i) (8*i+8) ?_;have hc:((s.take (8*i+8)).drop (8*i)).length=8:=by rw[List.length_drop,List.length_take];omega
 have hnm:uT s i=oZ ((s.take (8*i+8)).drop (8*i)) 8:=by
  unfold uT DL oZ;rw[List.drop_take,show 8*i+8-8*i=8 by omega,List.take_take,Nat.min_self]
 generalize (s.take (8*i+8)).drop (8*i)=c at *;have hmc:(c.map λc=>AV.lit (y8 c)).length=8:=by rw[llm,hc]
 repeat' first|refine O ?_|intro
 refine H7 (α:=Nat) (λk=>[(0,str s),(2,ptr g2),(4,ptr g4),(5,d9 true),(15,int i),(6,int i),(7,.lit (.int .u64 (oZ c k))),(25,.sl 1 (c.map λc=>.lit (y8 c)) none),(26,int ((c.map λc=>AV.lit (y8 c)).length)),(27,int k)])
  (λk=>[.var g4 284 (.agg 3 (JX s i)),.var g2 206 (oU oV)]) (λk=>k<=8) (λk=>8-k) 0 za slr (Nat.zero_le _) ?_
 intro k hk;by_cases hk':k<8
 ·have hkc:k<c.length:=om
  have hst:=Qb hkc;have hlt8:=TF c k;have hlt9:=TF c (k+1);have hpw:256 ^ (k+1)<=18446744073709551616:=Nat.pow_le_pow_right (n:=256) (j:=8) dc om;have hby:=c[k].toNat_lt;repeat' first|refine Yz ?_|intro
  refine xE 7 (v:=.lit (.int .u64 ((oZ c k:Int)*256+c[k].toNat))) (v':=.lit (.int .u64 (oZ c (k+1)))) (Imp.of_eq (by rw[hst,Int.natCast_add,Int.natCast_mul];rfl)) ?_;exact y7 (k+1) za slr hk' om
 obtain rfl:k=8:=by omega
 rw[<- hnm];by_cases hn:uT s i<=1099511627776
 ·repeat' first|refine O ?_|intro
  refine aX i ?_;refine vJ (ps:=JX s i) (j:=i) (show i<3 from hi') ?_;rw[a5L hi'];repeat' first|refine O ?_|intro
  refine xE 5 (v:=d9 (decide ((uT s i:Int)<=1099511627776))) (v':=d9 true) (Imp.of_eq (by rw[dT om])) ?_;refine y7 (i+1) za slr ⟨hi',λj hj=>?_⟩ om;by_cases e:j=i
  ·rw[e];exact hn
  exact hN j om
 rw[a1G hi' om];exact o8⟩
attribute [local irreducible] bI oV
instance b9L {a b:Bs}:Ans prog GL 128 [str a,str b] True (oU (DK a b)):=⟨λ_=>by
 refine zc func128 ntmps128 λ_ hs=>?_;repeat' first|refine O ?_|intro
 unfold DK;refine G7 (λh=>?_) (λh=>?_)
 ·rw[if_pos h];exact o8
 rw[if_neg h];exact o8⟩
instance b9J {g gm:Nat}{x:DvX}{vw:Value}:AnsM prog GL 129 g [] 125 (BP gm x vw) (0<=x.n/\x.n<=4096) (int (Y6 x.n)) (BP gm x vw):=⟨λhn=>by
 refine zc func129 ntmps129 λ_ hs=>?_;repeat' first|refine O ?_|intro
 exact j4 _ ⟨rfl,rfl⟩ slr⟩
abbrev JA (gd:Nat)(s:SlX):AV:=.agg 6 [ptr gd,oU s.m,str (L9 s.l),d9 s.br]
instance b9M {g gd:Nat}{s:SlX}:AnsM prog GL 150 g [] 219 (JA gd s) True (d9 s.br) (JA gd s):=⟨λ_=>by
 refine zc func150 ntmps150 λ_ hs=>?_;repeat' first|refine O ?_|intro
 cases s.br
 ·repeat' first|refine O ?_|intro
  exact j4 _ ⟨rfl,rfl⟩ slr
 repeat' first|refine O ?_|intro
 exact j4 _ ⟨rfl,rfl⟩ slr⟩
structure SlI extends DvI where
 gs:Nat
abbrev U4 (I:SlI)(x:DvX)(s:SlX):List Av.Piece:=.var I.gs 219 (JA I.gd s)::I6 I.toDvI x
theorem a8e {I:SlI}{x:DvX}{s:SlX}(hn:0<=x.n/\x.n<=4096)(hb:0<=s.m.b/\s.m.b<=1099511627776):Av.Spec prog GL 152 [ptr I.gs] (U4 I x s) λu m=>u=int (Y6 x.n-s.m.b)/\m=U4 I x s:=by
 have hr:-128<=Y6 x.n/\Y6 x.n<=1000000:=by unfold Y6;omega
 refine zc func152 ntmps152 λ_ hs=>?_;repeat' first|refine O ?_|intro
 exact j4 _ ⟨rfl,rfl⟩ slr
end

section
variable {x:DvX}{I:DvI}{i:Nat}{k:List Bool}
theorem Hq {f1 f2:FuncId}[FnB prog f1][FnB prog f2]{cs1 cs2:List Value}{A:List Av.Piece}{D L:DvX->DvX}(hlf:0<=x.lf/\x.lf<=1000000)(hc1:∀ v∈cs1,v.oneCell'=true)(hc2:∀ v∈cs2,v.oneCell'=true)
  (h1:Av.Spec prog GL f1 (cs1.map .lit) (I6 I (V3 x)++A) λu m=>u=.tup []/\∃ v,m=I6 { I with vw:=v } (D (V3 x))++A) (h2:Av.Spec prog GL f2 (cs2.map .lit) (I6 I (vD x)++A) λu m=>u=.tup []/\∃ v,m=I6 { I with vw:=v } (L (vD x))++A) :
  Av.Spec prog GL 204 [ptr I.gd,F3 f1 cs1,F3 f2 cs2] (I6 I x++A) λu m=>u=int (if mE x=false then 14 else 0)/\∃ v,m=I6 { I with vw:=v } (if mE x=false then L (vD x) else D (V3 x))++A:=by
 obtain⟨n,es,ck,ws,on,ar,lf,st⟩:=x;dsimp only at hlf;refine zc func204 ntmps204 λ_ hs=>?_;unfold mE;dsimp only;cases ar
 ·repeat' first|refine O ?_|intro
  refine Ex ?_;repeat' first|refine O ?_|intro
  refine ER (args:=[]) h1 (λu m1 hh=>?_) (hcs:=hc1);obtain⟨rfl,v,rfl⟩:=hh;repeat' first|refine O ?_|intro
  exact j4 _ ⟨rfl,v,rfl⟩ slr
 by_cases hl:lf=0
 ·subst hl;repeat' first|refine O ?_|intro
  refine ER (args:=[]) h2 (λu m1 hh=>?_) (hcs:=hc2);obtain⟨rfl,v,rfl⟩:=hh;repeat' first|refine O ?_|intro
  exact j4 _ ⟨rfl,v,rfl⟩ slr
 rw[dZ hl];repeat' first|refine O ?_|intro
 refine Ex ?_;repeat' first|refine O ?_|intro
 refine ER (args:=[]) h1 (λu m1 hh=>?_) (hcs:=hc1);obtain⟨rfl,v,rfl⟩:=hh;repeat' first|refine O ?_|intro
 exact j4 _ ⟨rfl,v,rfl⟩ slr
abbrev Dl (T3 T4 T5:TypeId)(g3 g4 g5:Nat)(gd:Nat)(a:Int)(s:Bs):List Av.Piece:=[.var g5 T5 (str s),.var g4 T4 (int a),.var g3 T3 (ptr gd)]
theorem Tm {T3 T4 T5:TypeId}{g3 g4 g5:Nat}{a:Int}{s:Bs}(hl:x.ws.length<=1000000):Av.Spec prog GL 207 [ptr g3,ptr g4,ptr g5] (I6 I x++Dl T3 T4 T5 g3 g4 g5 I.gd a s) λu m=>u=.tup []/\∃ v,m=I6 { I with vw:=v } (nN x (a,s))++Dl T3 T4 T5 g3 g4 g5 I.gd a s:=by
 have hm:(x.ws.map CE).length=x.ws.length:=llm _;refine zc func207 ntmps207 λ_ hs=>?_;repeat' first|refine O ?_|intro
 apply aH [2];exact rfl;exact rfl;kernel_rfl;kernel_rfl;intro _ _;refine aP (λv'=>?_);refine j5 (W9 [.tail 136 2 v'] [] rfl rfl lpr rfl ?_);repeat' first|refine O ?_|intro
 refine iV _ ⟨rfl,v',?_⟩ slr;unfold nN;dsimp only[I6,BP];rw[List.map_append];rfl
attribute [local irreducible] mF
theorem Tg {a:Int}{s:Bs}(hlf:0<=x.lf/\x.lf<=1000000)(hl:x.ws.length<=1000000):Av.Spec prog GL 159 [ptr I.gd,int a,str s] (I6 I x) λu m=>u=int (bN x a s).2/\∃ v,m=I6 { I with vw:=v } (bN x a s).1:=by
 refine zc func159 ntmps159 λ_ hs=>?_;repeat' first|refine O ?_|intro
 rename_i g3 g4 g5;unfold bN;cases hon:x.on
 ·rw[if_pos rfl];repeat' first|refine O ?_|intro
  refine j4 (I6 I x) ⟨rfl,I.vw,rfl⟩ ?_;exact A8
 rw[if_neg dc];repeat' first|refine O ?_|intro
 cases hh:mF x a
 ·rw[if_pos (.inl rfl)];repeat' first|refine O ?_|intro
  refine j4 (I6 I x) ⟨rfl,I.vw,rfl⟩ ?_;exact A8
 repeat' first|refine O ?_|intro
 by_cases h64:s.length=64
 ·rw[if_neg (by rintro (h|h);cases h;exact h h64),h64];have hcs:∀ v∈[Value.pointer (some ⟨g3,0,none⟩),.pointer (some ⟨g4,0,none⟩),.pointer (some ⟨g5,0,none⟩)],v.oneCell'=true:=by simp[Value.oneCell']
  repeat' first|refine O ?_|intro
  refine Z0 (vs:=[.pointer (some ⟨g3,0,none⟩),.pointer (some ⟨g4,0,none⟩),.pointer (some ⟨g5,0,none⟩)]) ?_;repeat' first|refine O ?_|intro
  refine a0o (Dl _ _ _ g3 g4 g5 I.gd a s) (I6 I x) ?_;refine T9 (Hq (D:=λx=>nN x (a,s)) (L:=λx=>nN x (a,s)) hlf hcs hcs (Tm hl) (Tm hl)) (λu m1 hh=>?_);obtain⟨rfl,v,rfl⟩:=hh;cases hm:mE x
  ·rw[if_pos rfl,if_pos rfl,if_pos rfl];repeat' first|refine O ?_|intro
   refine j4 (I6 { I with vw:=v } (nN (vD x) (a,s))) ⟨rfl,v,rfl⟩ ?_;exact A8
  rw[if_neg dc,if_neg dc,if_neg dc];repeat' first|refine O ?_|intro
  refine j4 (I6 { I with vw:=v } (nN (V3 x) (a,s))) ⟨rfl,v,rfl⟩ ?_;exact A8
 rw[if_pos (.inr h64)];repeat' first|refine O ?_|intro
 refine j4 (I6 I x) ⟨rfl,I.vw,rfl⟩ ?_;exact A8
theorem Rs {n:Int}{gm:Nat}{on ar:Bool}{lf st:Int}:ImpC (.agg 7 [int n,aK gm,.lit (.slice none 0 0),d9 on,d9 ar,int lf,int st]) (.agg 7 [int n,aK gm,.sl 2 [] (some (.slice none 0 0)),d9 on,d9 ar,int lf,int st]):=(inferInstance:ImpT _ _).imp
def FY (x:DvX)(k:Nat):DvX:=(x.ws.take k).foldl jV x
theorem a6B {k:Nat}(h:k<x.ws.length):FY x (k+1)=jV (FY x k) x.ws[k]:=by
 unfold FY;rw[<- List.take_append_getElem h,List.foldl_append];rfl
theorem a8L {T1:TypeId}{g1:Nat}(hl:x.ws.length<=1000000):Av.Spec prog GL 205 [ptr g1] (I6 I x++[.var g1 T1 (ptr I.gd)]) λu m=>u=.tup []/\∃ v,m=I6 { I with vw:=v } (iL x)++[.var g1 T1 (ptr I.gd)]:=by
 have hm:(x.ws.map CE).length=x.ws.length:=llm _;refine zc func205 ntmps205 λ_ hs=>?_;repeat' first|refine O ?_|intro
 rw[hm];refine H7 (α:=Nat) (λk=>[(0,ptr g1),(6,.sl 2 (x.ws.map CE) (some I.vw)),(7,int x.ws.length),(8,int k)]) (λk=>I6 I (FY x k)++[.var g1 T1 (ptr I.gd)]) (λk=>k<=x.ws.length) (λk=>x.ws.length-k) 0 za slr (Nat.zero_le _) ?_;intro k hk;by_cases hk':k<x.ws.length
 ·repeat' first|refine O ?_|intro
  rename_i g2;refine aI [_] (I6 I (FY x k)) [_] (Bl (w:=x.ws[k])) (λu m1 hh=>?_);obtain⟨rfl,rfl⟩:=hh;rw[<- a6B hk'];repeat' first|refine O ?_|intro
  exact y7 (k+1) za (List.sublist_cons_self _ _) hk' om
 obtain rfl:k=x.ws.length:=by omega
 repeat' first|refine O ?_|intro
 refine IL (g:=I.gd) Rs ?_;refine zR (λok w h=>h.full 136 2 none 0) ?_;rw[show FY x x.ws.length=x.ws.foldl jV x by unfold FY;rw[List.take_length]];refine bG (I6 { I with vw:=.slice none 0 0 } (iL x)++[.var g1 T1 (ptr I.gd)]) [_,_,_,_] ?_ (List.perm_middle (l₁:=[_,_])) ?_
 ·exact iV _ ⟨rfl,_,rfl⟩ slr
 exact A8
instance : FnB prog 206 := ⟨kr⟩
theorem a8K {m:List Av.Piece}:Av.Spec prog GL 206 [] m λu m'=>u=.tup []/\m'=m:=by
 refine zc func206 ntmps206 λ_ hs=>?_;repeat' first|refine O ?_|intro
 exact iV _ ⟨rfl,rfl⟩ slr
theorem a8M (hlf:0<=x.lf/\x.lf<=1000000)(hl:x.ws.length<=1000000):Av.Spec prog GL 154 [ptr I.gd] (I6 I x) λu m=>u=int (kV x).2/\∃ v,m=I6 { I with vw:=v } (kV x).1:=by
 refine zc func154 ntmps154 λ_ hs=>?_;repeat' first|refine O ?_|intro
 rename_i g1;unfold kV;cases hon:x.on
 ·rw[if_pos rfl];repeat' first|refine O ?_|intro
  refine j4 (I6 I x) ⟨rfl,I.vw,rfl⟩ ?_;exact A8
 rw[if_neg dc];have hcs:∀ v∈[Value.pointer (some ⟨g1,0,none⟩)],v.oneCell'=true:=by simp[Value.oneCell']
 repeat' first|refine O ?_|intro
 refine Z0 (vs:=[.pointer (some ⟨g1,0,none⟩)]) ?_;repeat' first|refine O ?_|intro
 refine a0o [_] (I6 I x) ?_;refine T9 (Hq (cs2:=[]) (D:=iL) (L:=λx=>x) hlf hcs sm (a8L hl) (a8K.mono λ_ _ h=>⟨h.1,I.vw,h.2⟩)) (λu m1 hh=>?_);obtain⟨rfl,v,rfl⟩:=hh;cases hm:mE x
 ·rw[if_pos rfl,if_pos rfl,if_pos rfl];repeat' first|refine O ?_|intro
  refine j4 (I6 { I with vw:=v } (vD x)) ⟨rfl,v,rfl⟩ ?_;exact A8
 rw[if_neg dc,if_neg dc,if_neg dc];repeat' first|refine O ?_|intro
 refine j4 (I6 { I with vw:=v } (iL (V3 x))) ⟨rfl,v,rfl⟩ ?_;exact A8
theorem a7Q (h:¬ i<k.length):k.getD i false=false:=by
 rw[List.getD_eq_getElem?_getD,List.getElem?_eq_none om];rfl
theorem Sc (h:i<k.length):k.getD i false=k[i]:=by
 rw[List.getD_eq_getElem?_getD,List.getElem?_eq_getElem h];rfl
theorem Wv {k:List Bool}{torn cut:Int}:∀ (l:List (Int × Bs)) (i:Nat) (x:DvX) (w:Int × Bs),qJ k torn cut i x (l++[w])=kW (qJ k torn cut i x l) k torn cut (i+l.length) w
 | [],_,_,_=>rfl
 | v::l,i,x,w=>by
  show qJ k torn cut (i+1) _ (l++[w])=kW (qJ k torn cut (i+1) _ l) k torn cut (i+(l.length+1)) w;rw[Wv l,show i+1+l.length=i+(l.length+1) by omega]
def yE (x:DvX)(k:List Bool)(torn cut:Int)(i:Nat):DvX:=qJ k torn cut 0 x (x.ws.take i)
theorem b0m {torn cut:Int}(h:i<x.ws.length):yE x k torn cut (i+1)=kW (yE x k torn cut i) k torn cut i x.ws[i]:=by
 unfold yE;rw[<- List.take_append_getElem h,Wv,List.length_take,Nat.min_eq_left om,Nat.zero_add]
theorem Co {k:List Bool}{torn cut:Int}:∀ (l:List (Int × Bs)) (i:Nat) (x:DvX),(qJ k torn cut i x l).n=x.n/\(qJ k torn cut i x l).ws=x.ws
 | [],_,_=>⟨rfl,rfl⟩
 | v::l,i,x=>by
  have h:=Co (k:=k) (torn:=torn) (cut:=cut) l (i+1) (kW x k torn cut i v);have e:(kW x k torn cut i v).n=x.n/\(kW x k torn cut i v).ws=x.ws:=by
   unfold kW;split <;> exact⟨rfl,rfl⟩
  exact⟨h.1.trans e.1,h.2.trans e.2⟩
theorem a8N {torn cut:Int}{xs:List AV}{id:Option Value}(hx:DvOk x)(hw:∀ w∈x.ws,0<=w.1/\w.1<x.n)(hn:x.n≠0)(hl:x.ws.length<=1000000)(hk:xs=k.map d9):Av.Spec prog GL 38 [ptr I.gd,.sl 1 xs id,int torn,int cut] (I6 I x) λu m=>u=.tup []/\∃ v,m=I6 { I with vw:=v } (Y3 x k torn cut):=by
 subst hk;have hm:(x.ws.map CE).length=x.ws.length:=llm _;have hmk:(k.map d9).length=k.length:=llm _;refine zc func38 ntmps38 λ_ hs=>?_;repeat' first|refine O ?_|intro
 rw[dZ hn];repeat' first|refine O ?_|intro
 rw[hm];refine H7 (α:=Nat) (λi=>[(0,ptr I.gd),(1,.sl 1 (k.map d9) id),(2,int torn),(3,int (min (max cut 0) 64)),(25,.sl 2 (x.ws.map CE) (some I.vw)),(26,int x.ws.length),(27,int i)]) (λi=>I6 I (yE x k torn cut i)) (λi=>i<=x.ws.length) (λi=>x.ws.length-i) 0 za slr (Nat.zero_le _) ?_;intro i hi;by_cases hi':i<x.ws.length
 ·have hs2:=b0m (k:=k) (torn:=torn) (cut:=cut) hi';have h64:x.ws[i].2.length=64:=hx.wl _ (List.getElem_mem hi');have hn2:(yE x k torn cut i).n=x.n:=(Co _ _ _).1;have hy:DvOk (yE x k torn cut i):=Cn hx λw hw=>hx.wl w (List.mem_of_mem_take hw);have hh:mF (yE x k torn cut i) x.ws[i].1=true:=by
   unfold mF;rw[hn2];exact dT (hw _ (List.getElem_mem hi'))
  have hsl:=GN hy x.ws[i].1;unfold kW at hs2;generalize yE x k torn cut i=y at *;have hc:((min (max cut 0) 64).toNat:Int)=min (max cut 0) 64:=by omega
  have hc2:(min (max cut 0) 64).toNat<=64:=om
  generalize hC:(min (max cut 0) 64).toNat=C at hc hc2 hs2;by_cases hik:i<k.length
  rotate_left
  ·rw[if_neg (by rw[a7Q hik];decide)] at hs2;repeat' first|refine O ?_|intro
   refine y7 (i+1) za ?_ hi' om;rw[hs2];exact A8
  cases hb:k[i]
  ·rw[if_neg (by rw[Sc hik,hb];decide)] at hs2;repeat' first|refine O ?_|intro
   rw[hb];repeat' first|refine O ?_|intro
   refine y7 (i+1) za ?_ hi' om;rw[hs2];exact A8
  rw[if_pos (by rw[Sc hik,hb])] at hs2;repeat' first|refine O ?_|intro
  rw[hb];repeat' first|refine O ?_|intro
  by_cases ht:(i:Int)=torn
  ·rw[if_pos ht] at hs2;repeat' first|refine O ?_|intro
   apply zd [];exact zg
   ·intro _ _;refine dG 0 C ?_ (h2:=hc.symm) (h4:=by omega);exact j5 (A7 rfl rfl)
   repeat' first|refine O ?_|intro
   apply zd [1,2,3];exact zg
   ·intro _ _;refine T9 (Tj (I:=I) (x:=y) (a:=x.ws[i].1)) (λu m1 hu=>?_);obtain⟨rfl,rfl⟩:=hu;rw[if_pos hh];exact j5 (A7 rfl rfl)
   repeat' first|refine O ?_|intro
   apply zd [];exact zg
   ·intro _ _;refine dG C 64 ?_ (h1:=hc.symm) (h2:=by rw[hsl]) (h4:=by omega);exact j5 (A7 rfl rfl)
   repeat' first|refine O ?_|intro
   refine aI [_] (I6 I y) [] (Bl (w:=(x.ws[i].1,(x.ws[i].2.take C).drop 0++((M0 y x.ws[i].1).take 64).drop C))) (λu m1 hu=>?_);obtain⟨rfl,rfl⟩:=hu;rw[List.drop_zero,List.take_of_length_le (show (M0 y x.ws[i].1).length<=64 by omega),<- hs2];repeat' first|refine O ?_|intro
   refine y7 (i+1) za ?_ hi' om;exact A8
  rw[if_neg ht] at hs2;repeat' first|refine O ?_|intro
  rename_i g9;refine aI [_] (I6 I y) [] (Bl (w:=x.ws[i])) (λu m1 hh=>?_);obtain⟨rfl,rfl⟩:=hh;rw[show ((x.ws[i].1,x.ws[i].2):Int × Bs)=x.ws[i] from rfl] at hs2;rw[<- hs2];repeat' first|refine O ?_|intro
  refine y7 (i+1) za ?_ hi' om;exact A8
 obtain rfl:i=x.ws.length:=by omega
 repeat' first|refine O ?_|intro
 have e:Y3 x k torn cut={ yE x k torn cut x.ws.length with ws:=[],on:=true,ar:=false }:=by
  unfold Y3 yE;rw[if_neg hn,List.take_length]
 rw[e];generalize yE x k torn cut x.ws.length=y at *;refine IL (g:=I.gd) Rs ?_;refine zR (λok w h=>h.full 136 2 none 0) ?_;refine bG (I6 { I with vw:=.slice none 0 0 } { y with ws:=[],on:=true,ar:=false }) [_,_,_] ?_ (List.perm_append_comm (l₁:=[_,_]) (l₂:=[_])) ?_
 ·exact iV _ ⟨rfl,_,rfl⟩ slr
 exact A8
end
end Go.Proofs.Z
