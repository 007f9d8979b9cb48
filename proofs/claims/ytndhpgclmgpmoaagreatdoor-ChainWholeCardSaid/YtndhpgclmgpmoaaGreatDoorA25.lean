/- Readers in plain words: the program's and the references' are one. No program is named. -/
import Derived.Test.YtndhpgclmgpmoaaGreatDoorA20
import Derived.Test.YtndhpgclmgpmoaaGreatDoorA23
import Derived.Test.YtndhpgclmgpmoaaGreatDoorA24
namespace Av
open Go Go.RowKit Tw
class W64 (k:IntKind)(B:outParam Int):Prop where
 w:∀ c:Int,0<=c->c<=B->k.wrap c=c
 b:k.bits=64
 u:B<=18446744073709551615
instance : W64 .i64 9223372036854775807 := ⟨fun c h0 h1 => wrap64_id (by omega) (by omega), rfl, by decide⟩
theorem wrap_u64 (n:Nat)(h:n < 18446744073709551616):IntKind.u64.wrap (n:Int)=n:=by
 show (IntKind.u64.wrap (n:Int))=n
 simp [IntKind.wrap,IntKind.bits,IntKind.signed]
 omega
instance : W64 .u64 18446744073709551615 := ⟨fun c h0 h1 => by
 obtain⟨n,rfl⟩:=Int.eq_ofNat_of_zero_le h0
 exact wrap_u64 n (by omega),rfl,by decide⟩
theorem or_run {k:IntKind}{B:Int}[hk:W64 k B]{m c:Nat}(hc:c < 256)(hm:((m * 256 + c:Nat):Int)<=B)(P:Program)(w:World):(Op.intBits .or k ((m:Int) * 256) (c:Int)).run P w=.ok (.int k ((m:Int) * 256 + c)) w:=by
 have hu:=hk.u
 have hb:=hk.b
 have e1:((m:Int) * 256)=((m * 256:Nat):Int):=by simp
 have e2:(BitVec.ofInt k.bits ((m:Int) * 256) ||| BitVec.ofInt k.bits (c:Int)).toNat=m * 256 + c:=by
  rw [BitVec.toNat_or,e1,BitVec.ofInt_natCast,BitVec.ofInt_natCast,BitVec.toNat_ofNat,BitVec.toNat_ofNat,hb,Nat.mod_eq_of_lt (by omega),Nat.mod_eq_of_lt (by omega)]
  have:=Nat.two_pow_add_eq_or_of_lt (i:=8) (b:=c) (by omega) m
  rw [show m * 256=2 ^ 8 * m by omega]
  exact this.symm
 show Result.ok (Value.int k (k.wrap ((BitVec.ofInt k.bits ((m:Int) * 256) ||| BitVec.ofInt k.bits (c:Int)).toNat:Int))) w=_
 rw [e2,hk.w _ (by omega) hm]
 simp
section
variable {P:Program} {N:Nat} {ops:Array Oper} {Q:Exit->Act->World->Prop} {rest:List Oper} {s:Base} {e:Env} {m:List Piece} {d:Nat} {ty:TypeId} {pos:String} {af:Array Edge}
theorem al_shl8 {T yT:TypeId}{k yk:IntKind}{B:Int}[hk:W64 k B]{x y:Operand}{a:Int}(h:AL P N ops Q s rest ((d,.lit (.int k (a * 256)))::e) m)(hx:ev e x=some (.lit (.int k a)):=by exact rfl)(hy:ev e y=some (.lit (.int yk 8)):=by exact rfl)(h0:0<=a:=by omega)(h1:a * 256<=B:=by omega)(hd:Nat.blt d N=true:=by exact rfl) :
  AL P N ops Q s (⟨some d,.binOp .shl T x y yT,ty,pos,af,none⟩::rest) e m:=
 al_shift rfl hx hy (fun w=>by
  have hb:=hk.b
  have h2:min (8:Int).toNat k.bits=8:=by rw [hb];rfl
  have h3:¬ ((8:Int) < 0):=by omega
  have e1:k.wrap (a * 256)=a * 256:=hk.w _ (by omega) h1
  simp only [Op.shift,h3,if_false,h2]
  show Result.ok (Value.int k (k.wrap (a * 2 ^ 8))) w=_
  rw [show (2:Int) ^ 8=256 from rfl,e1]) (.inl rfl) hd h
theorem al_orB {T yT:TypeId}{k:IntKind}{B:Int}[hk:W64 k B]{x y:Operand}{a c:Int}(h:AL P N ops Q s rest ((d,.lit (.int k (a * 256 + c)))::e) m)(hx:ev e x=some (.lit (.int k (a * 256))):=by exact rfl)(hy:ev e y=some (.lit (.int k c)):=by exact rfl)(h0:0<=a:=by omega)(h1:0<=c:=by omega)(h2:c < 256:=by omega)(h3:a * 256 + c<=B:=by omega)(hd:Nat.blt d N=true:=by exact rfl) :
  AL P N ops Q s (⟨some d,.binOp .or T x y yT,ty,pos,af,none⟩::rest) e m:=by
 obtain⟨m,rfl⟩:=Int.eq_ofNat_of_zero_le h0
 obtain⟨n,rfl⟩:=Int.eq_ofNat_of_zero_le h1
 exact al_bits rfl hx hy (fun w=>or_run (by omega) (by simpa using h3) P w) (.inr (.inl rfl)) hd h
theorem al_shl8I {T yT:TypeId}{yk:IntKind}{x y:Operand}{a:Int}(h:AL P N ops Q s rest ((d,.lit (.int .i64 (a * 256)))::e) m)(hx:ev e x=some (.lit (.int .i64 a)):=by exact rfl)(hy:ev e y=some (.lit (.int yk 8)):=by exact rfl)(h0:0<=a:=by omega)(h1:a * 256<=9223372036854775807:=by omega)(hd:Nat.blt d N=true:=by exact rfl) :
  AL P N ops Q s (⟨some d,.binOp .shl T x y yT,ty,pos,af,none⟩::rest) e m:=al_shl8 h hx hy h0 h1 hd
theorem al_orBI {T yT:TypeId}{x y:Operand}{a c:Int}(h:AL P N ops Q s rest ((d,.lit (.int .i64 (a * 256 + c)))::e) m)(hx:ev e x=some (.lit (.int .i64 (a * 256))):=by exact rfl)(hy:ev e y=some (.lit (.int .i64 c)):=by exact rfl)(h0:0<=a:=by omega)(h1:0<=c:=by omega)(h2:c < 256:=by omega)(h3:a * 256 + c<=9223372036854775807:=by omega)(hd:Nat.blt d N=true:=by exact rfl) :
  AL P N ops Q s (⟨some d,.binOp .or T x y yT,ty,pos,af,none⟩::rest) e m:=al_orB h hx hy h0 h1 h2 h3 hd
theorem al_shl8U {T yT:TypeId}{yk:IntKind}{x y:Operand}{a:Int}(h:AL P N ops Q s rest ((d,.lit (.int .u64 (a * 256)))::e) m)(hx:ev e x=some (.lit (.int .u64 a)):=by exact rfl)(hy:ev e y=some (.lit (.int yk 8)):=by exact rfl)(h0:0<=a:=by omega)(h1:a * 256<=18446744073709551615:=by omega)(hd:Nat.blt d N=true:=by exact rfl) :
  AL P N ops Q s (⟨some d,.binOp .shl T x y yT,ty,pos,af,none⟩::rest) e m:=al_shl8 h hx hy h0 h1 hd
theorem al_orBU {T yT:TypeId}{x y:Operand}{a c:Int}(h:AL P N ops Q s rest ((d,.lit (.int .u64 (a * 256 + c)))::e) m)(hx:ev e x=some (.lit (.int .u64 (a * 256))):=by exact rfl)(hy:ev e y=some (.lit (.int .u64 c)):=by exact rfl)(h0:0<=a:=by omega)(h1:0<=c:=by omega)(h2:c < 256:=by omega)(h3:a * 256 + c<=18446744073709551615:=by omega)(hd:Nat.blt d N=true:=by exact rfl) :
  AL P N ops Q s (⟨some d,.binOp .or T x y yT,ty,pos,af,none⟩::rest) e m:=al_orB h hx hy h0 h1 h2 h3 hd
theorem al_idxSC {T:TypeId}[t:TyT P T]{x ix:Operand}{kd:IntKind}{i:Int}{b:Bs}{c:UInt8}(h:AL P N ops Q s rest ((d,.lit (u8v c))::e) m)(hx:ev e x=some (str b):=by exact rfl)(hi:ev e ix=some (.lit (.int kd i)):=by exact rfl)(hj:i=Int.ofNat i.toNat:=by exact rfl)(hc:b[i.toNat]?=some c:=by exact rfl)(hd:Nat.blt d N=true:=by exact rfl) :
  AL P N ops Q s (⟨some d,.index T x ix,ty,pos,af,none⟩::rest) e m:=al_idxS i.toNat h hc hx hi hj hd
end
theorem op6 {G G':Prop}(h:G')(i:Wr G'->G:=by
 intro h
 refine kL ?_
 first
 | (refine kBin ?_;first|exact al_shl8I h.o|exact al_shl8U h.o|exact al_orBI h.o|exact al_orBU h.o|exact al_arithU h.o)
 | (refine kConv ?_;first|exact al_convB h.o|exact al_convU h.o)
 | exact al_idxSC h.o):G:=i ⟨h⟩
theorem Ya {G G':Prop}(h:G')(i:Wr G'->G:=by intro h;first|exact W h.o|exact op2 h.o|exact op6 h.o|exact ob4 h.o|exact ob6 h.o|exact gdT h.o|exact gdF h.o|exact cdT h.o|exact cdF h.o):G:=i ⟨h⟩
theorem Yz {G G':Prop}(h:G')(i:Wr G'->G:=by intro h;first|exact Ya h.o|exact ob2 h.o|(simp only [List.set];exact h.o)):G:=i ⟨h⟩

structure Wd where
 n:Nat
 lt:n < 115792089237316195423570985008687907853269984665640564039457584007913129639936
deriving DecidableEq
def wZ:Wd:=⟨0,by decide⟩
def wOf (n:Nat):Wd:=if h:n < 115792089237316195423570985008687907853269984665640564039457584007913129639936 then ⟨n,h⟩ else wZ
def wIs (n:Nat):Bool:=decide (n < 115792089237316195423570985008687907853269984665640564039457584007913129639936)
theorem wOf_n {n:Nat}(h:n < 115792089237316195423570985008687907853269984665640564039457584007913129639936):(wOf n).n=n:=by rw [wOf,dif_pos h]
theorem wOf_eta (a:Wd):wOf a.n=a:=by rw [wOf,dif_pos a.lt]
theorem wOf_big {n:Nat}(h:¬ n < 115792089237316195423570985008687907853269984665640564039457584007913129639936):wOf n=wZ:=by rw [wOf,dif_neg h]
def lm (n i:Nat):Nat:=n / 18446744073709551616 ^ i % 18446744073709551616
theorem lm_lt (n i:Nat):lm n i < 18446744073709551616:=Nat.mod_lt _ (by decide)
theorem lm0 (n:Nat):lm n 0=n % 18446744073709551616:=by unfold lm;rw [Nat.pow_zero,Nat.div_one]
theorem lm1 (n:Nat):lm n 1=n / 18446744073709551616 % 18446744073709551616:=by unfold lm;rw [Nat.pow_one]
theorem lm2 (n:Nat):lm n 2=n / 340282366920938463463374607431768211456 % 18446744073709551616:=rfl
theorem lm3 (n:Nat):lm n 3=n / 6277101735386680763835789423207666416102355444464034512896 % 18446744073709551616:=rfl
theorem lm_z (i:Nat):lm 0 i=0:=by unfold lm;rw [Nat.zero_div]
theorem of_lms {n m:Nat}(hn:n < 115792089237316195423570985008687907853269984665640564039457584007913129639936)(hm:m < 115792089237316195423570985008687907853269984665640564039457584007913129639936)(h0:lm n 0=lm m 0)(h1:lm n 1=lm m 1)(h2:lm n 2=lm m 2)(h3:lm n 3=lm m 3):n=m:=by
 rw [lm0,lm0] at h0
 rw [lm1,lm1] at h1
 rw [lm2,lm2] at h2
 rw [lm3,lm3] at h3
 omega
abbrev u6 (n:Nat):AV:=.lit (.int .u64 (n:Int))
abbrev widN (n:Nat):AV:=.agg 4 [u6 (lm n 0),u6 (lm n 1),u6 (lm n 2),u6 (lm n 3)]
abbrev widA (a:Wd):AV:=widN a.n
def wj (a b c d:Nat):Nat:=a + 18446744073709551616 * b + 340282366920938463463374607431768211456 * c + 6277101735386680763835789423207666416102355444464034512896 * d
theorem wj_lm {a b c d:Nat}(ha:a < 18446744073709551616)(hb:b < 18446744073709551616)(hc:c < 18446744073709551616)(hd:d < 18446744073709551616) :
  wj a b c d < 115792089237316195423570985008687907853269984665640564039457584007913129639936/\lm (wj a b c d) 0=a/\lm (wj a b c d) 1=b/\lm (wj a b c d) 2=c/\lm (wj a b c d) 3=d:=by
 rw [lm0,lm1,lm2,lm3]
 unfold wj
 omega
theorem lm_wj (a:Wd):wj (lm a.n 0) (lm a.n 1) (lm a.n 2) (lm a.n 3)=a.n:=by
 have:=a.lt
 rw [lm0,lm1,lm2,lm3]
 unfold wj
 omega
theorem add_lm (a b:Wd):∃ c0 c1 c2 c3:Nat,c0=(lm a.n 0 + lm b.n 0 + 0) / 18446744073709551616/\c1=(lm a.n 1 + lm b.n 1 + c0) / 18446744073709551616/\c2=(lm a.n 2 + lm b.n 2 + c1) / 18446744073709551616/\c3=(lm a.n 3 + lm b.n 3 + c2) / 18446744073709551616/\c0<=1/\c1<=1/\c2<=1/\c3<=1 /\
  (c3=0↔a.n + b.n < 115792089237316195423570985008687907853269984665640564039457584007913129639936) /\
  lm (a.n + b.n) 0=(lm a.n 0 + lm b.n 0 + 0) % 18446744073709551616/\lm (a.n + b.n) 1=(lm a.n 1 + lm b.n 1 + c0) % 18446744073709551616/\lm (a.n + b.n) 2=(lm a.n 2 + lm b.n 2 + c1) % 18446744073709551616/\lm (a.n + b.n) 3=(lm a.n 3 + lm b.n 3 + c2) % 18446744073709551616:=by
 refine⟨_,_,_,_,rfl,rfl,rfl,rfl,?_⟩
 have ha:=lm_wj a
 have hb:=lm_wj b
 have h0:=lm_lt a.n 0
 have h1:=lm_lt a.n 1
 have h2:=lm_lt a.n 2
 have h3:=lm_lt a.n 3
 have g0:=lm_lt b.n 0
 have g1:=lm_lt b.n 1
 have g2:=lm_lt b.n 2
 have g3:=lm_lt b.n 3
 rw [lm0 (a.n + b.n),lm1 (a.n + b.n),lm2 (a.n + b.n),lm3 (a.n + b.n)]
 generalize lm a.n 0=x0 at *
 generalize lm a.n 1=x1 at *
 generalize lm a.n 2=x2 at *
 generalize lm a.n 3=x3 at *
 generalize lm b.n 0=y0 at *
 generalize lm b.n 1=y1 at *
 generalize lm b.n 2=y2 at *
 generalize lm b.n 3=y3 at *
 unfold wj at ha hb
 generalize hc0:(x0 + y0 + 0) / 18446744073709551616=c0
 generalize hc1:(x1 + y1 + c0) / 18446744073709551616=c1
 generalize hc2:(x2 + y2 + c1) / 18446744073709551616=c2
 generalize hc3:(x3 + y3 + c2) / 18446744073709551616=c3
 have b0:c0<=1:=by omega
 have b1:c1<=1:=by omega
 have b2:c2<=1:=by omega
 have b3:c3<=1:=by omega
 rw [<- ha,<- hb]
 refine⟨b0,b1,b2,b3,by omega,?_,?_,?_,?_⟩ <;> omega
def bor (x y b:Nat):Nat:=if x < y + b then 1 else 0
theorem sub_lm (a b:Wd):∃ c0 c1 c2 c3:Nat,c0=bor (lm a.n 0) (lm b.n 0) 0/\c1=bor (lm a.n 1) (lm b.n 1) c0/\c2=bor (lm a.n 2) (lm b.n 2) c1/\c3=bor (lm a.n 3) (lm b.n 3) c2/\c0<=1/\c1<=1/\c2<=1/\c3<=1 /\
  (c3=0↔b.n<=a.n)/\(b.n<=a.n ->
  lm (a.n - b.n) 0=(lm a.n 0 + 18446744073709551616 - lm b.n 0 - 0) % 18446744073709551616/\lm (a.n - b.n) 1=(lm a.n 1 + 18446744073709551616 - lm b.n 1 - c0) % 18446744073709551616/\lm (a.n - b.n) 2=(lm a.n 2 + 18446744073709551616 - lm b.n 2 - c1) % 18446744073709551616/\lm (a.n - b.n) 3=(lm a.n 3 + 18446744073709551616 - lm b.n 3 - c2) % 18446744073709551616):=by
 refine⟨_,_,_,_,rfl,rfl,rfl,rfl,?_⟩
 have ha:=lm_wj a
 have hb:=lm_wj b
 have h0:=lm_lt a.n 0
 have h1:=lm_lt a.n 1
 have h2:=lm_lt a.n 2
 have h3:=lm_lt a.n 3
 have g0:=lm_lt b.n 0
 have g1:=lm_lt b.n 1
 have g2:=lm_lt b.n 2
 have g3:=lm_lt b.n 3
 rw [lm0 (a.n - b.n),lm1 (a.n - b.n),lm2 (a.n - b.n),lm3 (a.n - b.n)]
 generalize lm a.n 0=x0 at *
 generalize lm a.n 1=x1 at *
 generalize lm a.n 2=x2 at *
 generalize lm a.n 3=x3 at *
 generalize lm b.n 0=y0 at *
 generalize lm b.n 1=y1 at *
 generalize lm b.n 2=y2 at *
 generalize lm b.n 3=y3 at *
 unfold wj at ha hb
 have key:∀ x y b c:Nat,x < 18446744073709551616->y < 18446744073709551616->b<=1->bor x y b=c->c<=1/\(x + 18446744073709551616 - y - b) % 18446744073709551616 + y + b=x + 18446744073709551616 * c:=by
  intro x y b c hx hy hb hc
  unfold bor at hc
  split at hc <;> omega
 generalize hc0:bor x0 y0 0=c0
 generalize hc1:bor x1 y1 c0=c1
 generalize hc2:bor x2 y2 c1=c2
 generalize hc3:bor x3 y3 c2=c3
 obtain⟨b0,k0⟩:=key x0 y0 0 c0 h0 g0 (by omega) hc0
 obtain⟨b1,k1⟩:=key x1 y1 c0 c1 h1 g1 b0 hc1
 obtain⟨b2,k2⟩:=key x2 y2 c1 c2 h2 g2 b1 hc2
 obtain⟨b3,k3⟩:=key x3 y3 c2 c3 h3 g3 b2 hc3
 have m0:=Nat.mod_lt (x0 + 18446744073709551616 - y0 - 0) (show 0 < 18446744073709551616 by decide)
 have m1:=Nat.mod_lt (x1 + 18446744073709551616 - y1 - c0) (show 0 < 18446744073709551616 by decide)
 have m2:=Nat.mod_lt (x2 + 18446744073709551616 - y2 - c1) (show 0 < 18446744073709551616 by decide)
 have m3:=Nat.mod_lt (x3 + 18446744073709551616 - y3 - c2) (show 0 < 18446744073709551616 by decide)
 generalize (x0 + 18446744073709551616 - y0 - 0) % 18446744073709551616=d0 at *
 generalize (x1 + 18446744073709551616 - y1 - c0) % 18446744073709551616=d1 at *
 generalize (x2 + 18446744073709551616 - y2 - c1) % 18446744073709551616=d2 at *
 generalize (x3 + 18446744073709551616 - y3 - c2) % 18446744073709551616=d3 at *
 rw [<- ha,<- hb]
 clear hc0 hc1 hc2 hc3 key ha hb
 refine⟨b0,b1,b2,b3,by omega,fun hle=>?_⟩
 have hd:(x0 + 18446744073709551616 * x1 + 340282366920938463463374607431768211456 * x2 + 6277101735386680763835789423207666416102355444464034512896 * x3) - (y0 + 18446744073709551616 * y1 + 340282366920938463463374607431768211456 * y2 + 6277101735386680763835789423207666416102355444464034512896 * y3)=d0 + 18446744073709551616 * d1 + 340282366920938463463374607431768211456 * d2 + 6277101735386680763835789423207666416102355444464034512896 * d3:=by omega
 rw [hd]
 clear hd hle k0 k1 k2 k3
 refine⟨?_,?_,?_,?_⟩ <;> omega

def leN:Bs->Nat
 | []=>0
 | c::l=>c.toNat + 256 * leN l
def dg (n i:Nat):Nat:=n / 256 ^ i % 256
theorem dg_lt (n i:Nat):dg n i < 256:=Nat.mod_lt _ (by decide)
def dgs (n k:Nat):Bs:=(List.range k).map fun i=>UInt8.ofNat (dg n i)
theorem dgs_len (n k:Nat):(dgs n k).length=k:=by simp [dgs]
theorem dgs_at {n k i:Nat}(h:i < k):(dgs n k)[i]?=some (UInt8.ofNat (dg n i)):=by simp [dgs,h]
theorem dgs_succ (n k:Nat):dgs n (k + 1)=dgs n k++[UInt8.ofNat (dg n k)]:=by simp [dgs,List.range_succ]
theorem pos256 (i:Nat):0 < 256 ^ i:=Nat.pow_pos (by decide)
theorem leN_lt:∀ l:Bs,leN l < 256 ^ l.length
 | []=>by simp [leN]
 | c::l=>by
  have:=leN_lt l
  have:=c.toNat_lt
  rw [leN,List.length_cons,Nat.pow_succ]
  omega
theorem leN_append:∀ a b:Bs,leN (a++b)=leN a + 256 ^ a.length * leN b
 | [],b=>by simp [leN]
 | c::a,b=>by
  rw [List.cons_append,leN,leN,leN_append a b,List.length_cons,Nat.pow_succ,Nat.mul_add,Nat.mul_comm (256 ^ a.length) 256,Nat.mul_assoc]
  omega
theorem leN_take {l:Bs}{i:Nat}{c:UInt8}(h:l[i]?=some c):leN (l.take (i + 1))=leN (l.take i) + 256 ^ i * c.toNat:=by
 have hi:i < l.length:=by
  rcases Nat.lt_or_ge i l.length with h1|h1
  ·exact h1
  ·rw [List.getElem?_eq_none h1] at h;cases h
 rw [List.getElem?_eq_getElem hi] at h
 injection h with h
 rw [List.take_succ_eq_append_getElem hi,leN_append,List.length_take,Nat.min_eq_left (by omega),h]
 simp [leN]
theorem ofNat_dg (n i:Nat):(UInt8.ofNat (dg n i)).toNat=dg n i:=by
 have:=dg_lt n i
 rw [UInt8.toNat_ofNat']
 exact Nat.mod_eq_of_lt this
theorem mod_succ (n k:Nat):n % 256 ^ (k + 1)=n % 256 ^ k + 256 ^ k * dg n k:=by
 rw [Nat.pow_succ,Nat.mod_mul]
 rfl
theorem leN_dgs (n:Nat):∀ k,leN (dgs n k)=n % 256 ^ k
 | 0=>by simp [dgs,leN,Nat.mod_one]
 | k + 1=>by
  rw [dgs_succ,leN_append,leN_dgs n k,dgs_len,mod_succ,leN,leN,ofNat_dg,Nat.mul_zero,Nat.add_zero]
theorem leN_snoc (n k:Nat)(c:UInt8):leN (dgs n k++[c])=n % 256 ^ k + 256 ^ k * c.toNat:=by
 rw [leN_append,leN_dgs,dgs_len]
 simp [leN]
def beB (n:Nat):Bs:=(dgs n 32).reverse
def beN (s:Bs):Nat:=leN s.reverse
theorem beB_len (n:Nat):(beB n).length=32:=by simp [beB,dgs_len]
theorem beN_beB (a:Wd):beN (beB a.n)=a.n:=by
 rw [beN,beB,List.reverse_reverse,leN_dgs]
 exact Nat.mod_eq_of_lt a.lt
theorem beN_lt {s:Bs}(h:s.length=32):beN s < 115792089237316195423570985008687907853269984665640564039457584007913129639936:=by
 have:=leN_lt s.reverse
 rw [List.length_reverse,h] at this
 exact this
def cry (a b i:Nat):Nat:=(a % 256 ^ i + b % 256 ^ i) / 256 ^ i
theorem cry0 (a b:Nat):cry a b 0=0:=by simp [cry,Nat.mod_one]
theorem add_dg (a b i:Nat):cry a b i<=1/\(dg a i + dg b i + cry a b i) % 256=dg (a + b) i/\(dg a i + dg b i + cry a b i) / 256=cry a b (i + 1):=by
 have hp:=pos256 i
 have e1:cry a b (i + 1)=(dg a i + dg b i + cry a b i) / 256:=by
  unfold cry
  rw [mod_succ,mod_succ,Nat.pow_succ,<- Nat.div_div_eq_div_mul]
  congr 1
  rw [show a % 256 ^ i + 256 ^ i * dg a i + (b % 256 ^ i + 256 ^ i * dg b i)=(a % 256 ^ i + b % 256 ^ i) + 256 ^ i * (dg a i + dg b i) by rw [Nat.mul_add];omega,Nat.add_mul_div_left _ _ hp]
  omega
 have e2:(a + b) / 256 ^ i=a / 256 ^ i + b / 256 ^ i + cry a b i:=by
  have ha:=Nat.div_add_mod a (256 ^ i)
  have hb:=Nat.div_add_mod b (256 ^ i)
  conv=>lhs;rw [<- ha,<- hb]
  rw [show 256 ^ i * (a / 256 ^ i) + a % 256 ^ i + (256 ^ i * (b / 256 ^ i) + b % 256 ^ i)=(a % 256 ^ i + b % 256 ^ i) + 256 ^ i * (a / 256 ^ i + b / 256 ^ i) by rw [Nat.mul_add];omega,Nat.add_mul_div_left _ _ hp]
  unfold cry
  omega
 refine⟨?_,?_,e1.symm⟩
 ·unfold cry
  have h1:=Nat.mod_lt a hp
  have h2:=Nat.mod_lt b hp
  have:(a % 256 ^ i + b % 256 ^ i) / 256 ^ i < 2:=by
   rw [Nat.div_lt_iff_lt_mul hp]
   omega
  omega
 ·unfold dg
  rw [e2]
  omega
theorem cry32 (a b:Wd):cry a.n b.n 32=(a.n + b.n) / 256 ^ 32:=by
 unfold cry
 rw [Nat.mod_eq_of_lt a.lt,Nat.mod_eq_of_lt b.lt]
theorem add_all (a b:Wd):leN (dgs (a.n + b.n) 32++[UInt8.ofNat (cry a.n b.n 32)])=a.n + b.n:=by
 have h1:=(add_dg a.n b.n 32).1
 have h2:cry a.n b.n 32 < 2 ^ 8:=by omega
 rw [leN_snoc,UInt8.toNat_ofNat',Nat.mod_eq_of_lt h2,cry32]
 exact Nat.mod_add_div _ _
theorem sub_dg {a b d:Nat}(h:a=d + b)(i:Nat):∃ n:Int,n=(dg a i:Int) - dg b i - cry d b i/\((n < 0/\n + 256=dg d i/\cry d b (i + 1)=1)\/(0<=n/\n=dg d i/\cry d b (i + 1)=0)):=by
 obtain⟨h1,h2,h3⟩:=add_dg d b i
 rw [<- h] at h2
 have:=dg_lt d i
 have:=dg_lt b i
 exact⟨_,rfl,by omega⟩
theorem sub_all {n:Nat}(h:n < 115792089237316195423570985008687907853269984665640564039457584007913129639936):leN (dgs n 32)=n:=by
 rw [leN_dgs]
 exact Nat.mod_eq_of_lt h
theorem B_pow (i:Nat):(18446744073709551616:Nat) ^ i=256 ^ (8 * i):=by rw [Nat.pow_mul]
theorem lm_dg (n i:Nat):lm n (i / 8) / 256 ^ (i % 8) % 256=dg n i:=by
 unfold lm dg
 have hr:i % 8 < 8:=Nat.mod_lt _ (by decide)
 have e1:(18446744073709551616:Nat)=256 ^ (i % 8) * (256 * 256 ^ (7 - i % 8)):=by
  rw [<- Nat.pow_succ',<- Nat.pow_add,show i % 8 + (7 - i % 8 + 1)=8 by omega]
 conv=>lhs;rw [e1]
 rw [Nat.mod_mul_right_div_self,Nat.mod_mul_right_mod,<- e1,Nat.div_div_eq_div_mul,B_pow,<- Nat.pow_add,show 8 * (i / 8) + i % 8=i by omega]
theorem lm_put {m d i j:Nat}(hm:m < 256 ^ i)(hd:d < 256):lm (m + 256 ^ i * d) j=if j=i / 8 then lm m j + 256 ^ (i % 8) * d else lm m j:=by
 have hr:i % 8 < 8:=Nat.mod_lt _ (by decide)
 have hi:256 ^ i=18446744073709551616 ^ (i / 8) * 256 ^ (i % 8):=by rw [B_pow,<- Nat.pow_add,show 8 * (i / 8) + i % 8=i by omega]
 have hB:256 ^ (i % 8) * 256<=18446744073709551616:=by
  rw [<- Nat.pow_succ,show (18446744073709551616:Nat)=256 ^ 8 from rfl]
  exact Nat.pow_le_pow_right (by decide) (by omega)
 have hX:256 ^ (i % 8) * d + 256 ^ (i % 8)<=256 ^ (i % 8) * 256:=by
  rw [show 256 ^ (i % 8) * d + 256 ^ (i % 8)=256 ^ (i % 8) * (d + 1) by rw [Nat.mul_add,Nat.mul_one]]
  exact Nat.mul_le_mul_left _ (by omega)
 generalize hq:i / 8=q at *
 generalize hR:256 ^ (i % 8)=R at *
 rw [hi] at hm ⊢
 unfold lm
 have hPq:0 < 18446744073709551616 ^ q:=Nat.pow_pos (by decide)
 rcases Nat.lt_trichotomy j q with h|h|h
 ·rw [if_neg (by omega),show q=j + (q - j - 1 + 1) by omega,Nat.pow_add,Nat.pow_succ,Nat.mul_assoc,Nat.mul_assoc,Nat.add_mul_div_left _ _ (Nat.pow_pos (by decide))]
  rw [show 18446744073709551616 ^ (q - j - 1) * 18446744073709551616 * (R * d)=18446744073709551616 * (18446744073709551616 ^ (q - j - 1) * (R * d)) by rw [Nat.mul_comm (18446744073709551616 ^ (q - j - 1)) 18446744073709551616,Nat.mul_assoc],Nat.add_mul_mod_self_left]
 ·subst h
  have hmq:m / 18446744073709551616 ^ j < R:=by
   rw [Nat.div_lt_iff_lt_mul hPq,Nat.mul_comm]
   exact hm
  rw [if_pos rfl,Nat.mul_assoc,Nat.add_mul_div_left _ _ hPq,Nat.mod_eq_of_lt (by omega),Nat.mod_eq_of_lt (by omega)]
 ·have hlt:m + 18446744073709551616 ^ q * R * d < 18446744073709551616 ^ j:=by
   have e1:18446744073709551616 ^ q * R * d + 18446744073709551616 ^ q * R<=18446744073709551616 ^ q * 18446744073709551616:=by
    rw [Nat.mul_assoc,<- Nat.mul_add]
    exact Nat.mul_le_mul_left _ (by omega)
   have e2:18446744073709551616 ^ q * 18446744073709551616<=18446744073709551616 ^ j:=by
    rw [<- Nat.pow_succ]
    exact Nat.pow_le_pow_right (by decide) (by omega)
   omega
  rw [if_neg (by omega),Nat.div_eq_of_lt hlt,Nat.div_eq_of_lt (by omega)]
theorem lm_top {m i:Nat}(hm:m < 256 ^ i):lm m (i / 8) < 256 ^ (i % 8):=by
 have hi:256 ^ i=18446744073709551616 ^ (i / 8) * 256 ^ (i % 8):=by rw [B_pow,<- Nat.pow_add,show 8 * (i / 8) + i % 8=i by omega]
 unfold lm
 refine Nat.lt_of_le_of_lt (Nat.mod_le _ _) ?_
 rw [Nat.div_lt_iff_lt_mul (Nat.pow_pos (by decide)),Nat.mul_comm,<- hi]
 exact hm
theorem or_put {x d r:Nat}(hx:x < 256 ^ r):x ||| (256 ^ r * d)=x + 256 ^ r * d:=by
 have e:(256:Nat) ^ r=2 ^ (8 * r):=by rw [Nat.pow_mul]
 rw [e] at hx ⊢
 rw [Nat.or_comm,<- Nat.two_pow_add_eq_or_of_lt hx d,Nat.add_comm]
theorem div_dg (n i:Nat):n / 256 ^ i=256 * (n / 256 ^ (i + 1)) + dg n i:=by
 unfold dg
 rw [Nat.pow_succ,<- Nat.div_div_eq_div_mul]
 omega
theorem lt_of_div {a b P:Nat}(h:a / P < b / P):a < b:=by
 rcases Nat.lt_or_ge a b with h1|h1
 ·exact h1
 ·have:=Nat.div_le_div_right (c:=P) h1
  omega
def cmpW (a b:Wd):Int:=if a.n < b.n then -1 else if b.n < a.n then 1 else 0
end Av

namespace Go.Proofs.YtndhpgclmgpmoaaGreatDoor
open Go Go.RowKit Tw Av
def be8 (n:Nat):Bs:=(dgs n 8).reverse
def nm8 (s:Bs):Nat:=leN s.reverse
theorem be8_len (n:Nat):(be8 n).length=8:=by simp [be8,dgs_len]
theorem nm8_be8 {n:Nat}(h:n < 18446744073709551616):nm8 (be8 n)=n:=by
 rw [nm8,be8,List.reverse_reverse,leN_dgs]
 exact Nat.mod_eq_of_lt h
structure MkX where
 e:Int
 b:Int
 c:Int
deriving DecidableEq
def mk0:MkX:=⟨0,0,0⟩
def z32:Bs:=List.replicate 32 0
def pkM (m:MkX):Bs:=be8 m.e.toNat++be8 m.b.toNat++be8 m.c.toNat++z32++be8 m.e.toNat
def rdM (s:Bs):MkX:=⟨nm8 (s.take 8),nm8 ((s.drop 8).take 8),nm8 ((s.drop 16).take 8)⟩
def okM (m:MkX):Bool:=decide (m.e<=1099511627776/\m.b<=1099511627776/\m.c<=1099511627776)
def unM (s:Bs):Option MkX:=if s.length=64/\okM (rdM s)=true/\pkM (rdM s)=s then some (rdM s) else none
def nwM (a b:Bs):MkX:=if ((unM a).getD mk0).e < ((unM b).getD mk0).e then (unM b).getD mk0 else (unM a).getD mk0
structure MkB (m:MkX):Prop where
 e:0<=m.e/\m.e<=1099511627776
 b:0<=m.b/\m.b<=1099511627776
 c:0<=m.c/\m.c<=1099511627776
theorem pkM_len (m:MkX):(pkM m).length=64:=by
 unfold pkM z32
 simp [be8_len]
theorem pkM_parts (m:MkX):(pkM m).take 8=be8 m.e.toNat/\((pkM m).drop 8).take 8=be8 m.b.toNat/\((pkM m).drop 16).take 8=be8 m.c.toNat/\(pkM m).drop 56=be8 m.e.toNat:=by
 have h1:=be8_len m.e.toNat
 have h2:=be8_len m.b.toNat
 have h3:=be8_len m.c.toNat
 have hz:z32.length=32:=by simp [z32]
 unfold pkM
 generalize be8 m.e.toNat=A at *
 generalize be8 m.b.toNat=B at *
 generalize be8 m.c.toNat=C at *
 refine⟨?_,?_,?_,?_⟩
 ·rw [laa,laa,laa,List.take_left' h1]
 ·rw [laa,laa,laa,List.drop_left' h1,List.take_left' h2]
 ·rw [laa,laa,List.drop_left' (by rw [lla];omega),List.take_left' h3]
 ·rw [List.drop_left' (by simp only [List.length_append];omega)]
theorem rd_pk {m:MkX}(h:MkB m):rdM (pkM m)=m:=by
 obtain⟨a,b,c,_⟩:=pkM_parts m
 unfold rdM
 rw [a,b,c,nm8_be8 (by have:=h.e;omega),nm8_be8 (by have:=h.b;omega),nm8_be8 (by have:=h.c;omega)]
 have h1:((m.e.toNat:Nat):Int)=m.e:=by have:=h.e;omega
 have h2:((m.b.toNat:Nat):Int)=m.b:=by have:=h.b;omega
 have h3:((m.c.toNat:Nat):Int)=m.c:=by have:=h.c;omega
 rw [h1,h2,h3]
theorem un_pk {m:MkX}(h:MkB m):unM (pkM m)=some m:=by
 unfold unM
 rw [rd_pk h,if_pos ⟨pkM_len m,dT ⟨h.e.2,h.b.2,h.c.2⟩,rfl⟩]
theorem unM_is {s:Bs}{m:MkX}(h:unM s=some m):pkM m=s:=by
 unfold unM at h
 split at h
 ·rename_i hh
  injection h with h
  rw [<- h]
  exact hh.2.2
 ·cases h

def len3 (a b c:UInt8):Nat:=(a.toNat * 256 + b.toNat) * 256 + c.toNat
theorem len3_lt (a b c:UInt8):len3 a b c < 16777216:=by
 have h1:=a.toNat_lt
 have h2:=b.toNat_lt
 have h3:=c.toNat_lt
 unfold len3
 omega
def cutT (c most:Int)(b:Bool):Bs->Option (Bs × Bs)
 | s0::s1::s2::s3::r=>if b=false/\(s0.toNat:Int)=c/\(len3 s1 s2 s3:Int)<=most/\len3 s1 s2 s3<=r.length then some (r.take (len3 s1 s2 s3),r.drop (len3 s1 s2 s3)) else none
 | _=>none
def rtT (c most:Int)(s:Bs)(b:Bool):Bs:=((cutT c most b s).map (·.1)).getD []
def rsT (c most:Int)(s:Bs)(b:Bool):Bs:=((cutT c most b s).map (·.2)).getD s
def rbT (c most:Int)(s:Bs)(b:Bool):Bool:=(cutT c most b s).isNone
def numOf (l:Bs):Nat:=l.foldl (fun n c=>n * 256 + c.toNat) 0
def lead0 (l:Bs):Bool:=decide (l.head?=some 0)
def rnN (c:Int)(s:Bs)(b:Bool):Nat:=if lead0 (rtT c 8 s b)=true then 0 else numOf (rtT c 8 s b)
def rnB (c:Int)(s:Bs)(b:Bool):Bool:=rbT c 8 s b || lead0 (rtT c 8 s b)
def riI (c most:Int)(s:Bs)(b:Bool):Int:=if most < (rnN c s b:Int) then 0 else rnN c s b
def riB (c most:Int)(s:Bs)(b:Bool):Bool:=rnB c s b || decide (most < (rnN c s b:Int))
def bods (c most:Int):Nat->Bs->Bool->List Bs × Bool
 | 0,_,b=>([],b)
 | f + 1,s,b=>if b=true\/s=[] then ([],b) else (rtT c most s b::(bods c most f (rsT c most s b) (rbT c most s b)).1,(bods c most f (rsT c most s b) (rbT c most s b)).2)
def allX (c most:Int)(x:Bs):List Bs × Bool:=bods c most (x.length + 1) x false
def badA (b1:Bool)(r:List Bs × Bool)(many:Int):Bool:=b1 || (r.2 || decide (many < (r.1.length:Int)))
def outA (b1:Bool)(r:List Bs × Bool)(many:Int):List Bs:=if badA b1 r many=true then [] else r.1
def raB (c many most:Int)(s:Bs)(b:Bool):Bool:=badA (rbT c 16777215 s b) (allX c most (rtT c 16777215 s b)) many
def raL (c many most:Int)(s:Bs)(b:Bool):List Bs:=outA (rbT c 16777215 s b) (allX c most (rtT c 16777215 s b)) many
def reE' (s:Bs)(b:Bool):Int:=if b=true\/s≠[] then 10 else 0
abbrev rdA (s:Bs)(b:Bool):AV:=.agg 2 [str s,boo b]
theorem rsT_len (c most:Int)(s:Bs)(b:Bool):(rsT c most s b).length<=s.length/\(rtT c most s b).length<=s.length:=by
 unfold rsT rtT cutT
 split
 ·split
  ·simp
   omega
  ·simp
 ·simp
theorem rtT_len (c most:Int)(s:Bs)(b:Bool):(rtT c most s b).length < 16777216/\(0<=most->((rtT c most s b).length:Int)<=most):=by
 unfold rtT cutT
 split
 ·rename_i s0 s1 s2 s3 r
  have:=len3_lt s1 s2 s3
  split
  ·rename_i h
   simp
   omega
  ·simp
 ·simp
theorem rsT_dec {c most:Int}{s:Bs}{b:Bool}(h:rbT c most s b=false):(rsT c most s b).length < s.length:=by
 unfold rbT rsT cutT at *
 split at h
 ·split
  ·simp
   omega
  ·rename_i h1
   rw [if_neg h1] at h
   simp at h
 ·simp at h
theorem rbT_bad (c most:Int)(s:Bs):cutT c most true s=none:=by
 unfold cutT
 split
 ·rw [if_neg (by simp)]
 ·rfl
theorem numOf_snoc (l:Bs)(c:UInt8):numOf (l++[c])=numOf l * 256 + c.toNat:=by simp [numOf]
theorem numOf_lt:∀ (n:Nat) (l:Bs),l.length=n->numOf l < 256 ^ n
 | 0,l,h=>by
  rw [List.eq_nil_of_length_eq_zero h]
  decide
 | n + 1,l,h=>by
  have hne:l≠[]:=by rintro rfl;simp at h
  rw [<- List.dropLast_concat_getLast hne,numOf_snoc]
  have h1:=numOf_lt n l.dropLast (by simp [h])
  have h2:=(l.getLast hne).toNat_lt
  rw [Nat.pow_succ]
  omega
theorem numOf_take {l:Bs}{i:Nat}(h:i < l.length):numOf (l.take (i + 1))=numOf (l.take i) * 256 + l[i].toNat:=by
 rw [List.take_succ_eq_append_getElem h,numOf_snoc]
theorem numOf_small {l:Bs}(h:l.length<=8):numOf l < 18446744073709551616:=by
 have h1:=numOf_lt _ l rfl
 have h2:256 ^ l.length<=256 ^ 8:=Nat.pow_le_pow_right (by decide) h
 omega
theorem lead0_cons (a:UInt8)(l:Bs):lead0 (a::l)=decide (a=0):=by simp [lead0]
theorem digits_lead:∀ (f n:Nat),n < 256 ^ f->lead0 (digitsF f n)=false
 | 0,n,_=>rfl
 | f + 1,n,h=>by
  rw [digitsF]
  split
  ·rfl
  ·rename_i hn
   have h1:=digits_lead f (n / 256) (by rw [Nat.pow_succ] at h;omega)
   cases hd:digitsF f (n / 256) with
   | nil=>
    have h2:n / 256=0:=by
     cases f with
     | zero=>simp at h;omega
     | succ f=>
      rw [digitsF] at hd
      split at hd
      ·assumption
      ·simp at hd
    rw [List.nil_append,lead0_cons]
    refine dZ fun h0=>hn ?_
    have:=congrArg UInt8.toNat h0
    rw [UInt8.toNat_ofNat'] at this
    simp at this
    omega
   | cons a r=>
    rw [hd] at h1
    rw [List.cons_append,lead0_cons]
    rw [lead0_cons] at h1
    exact h1
end Go.Proofs.YtndhpgclmgpmoaaGreatDoor
