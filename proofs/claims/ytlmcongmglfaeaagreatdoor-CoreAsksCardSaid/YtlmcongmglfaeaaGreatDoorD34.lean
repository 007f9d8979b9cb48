/- parts of names, walked -/
import Derived.Test.YtlmcongmglfaeaaGreatDoorD25
import Derived.Test.YtlmcongmglfaeaaGreatDoorD26
import Derived.Test.YtlmcongmglfaeaaGreatDoorD33
namespace Av
open Go Go.RowKit Tw
section
variable {P:Program} {N:Nat} {ops:Array Oper} {Q:Exit->Act->World->Prop} {rest:List Oper} {s:Av.Base} {e:Av.Env} {m:List Av.Piece} {d:Nat} {ty:TypeId} {pos:String} {af:Array Edge}
theorem pow_8 (k:Nat):2 ^ (8 * k)=256 ^ k:=by rw [Nat.pow_mul]
theorem al_shrB {T yT:TypeId}{yk:IntKind}{x y:Operand}{a:Nat}{b:Int}(k:Nat)(h:AL P N ops Q s rest ((d,u6 (a / 256 ^ k))::e) m)(hx:ev e x=some (u6 a):=by exact rfl)(hy:ev e y=some (.lit (.int yk b)):=by exact rfl)(hb:b=((8 * k:Nat):Int):=by omega)(hk:k<=8:=by omega)(hd:Nat.blt d N=true:=by exact rfl):AL P N ops Q s (⟨some d,.binOp .shr T x y yT,ty,pos,af,none⟩::rest) e m:=by
 refine al_shrC (n:=8 * k) ?_ hx hy (by rw [hb];rfl) (Nat.ble_eq_true_of_le (show 8 * k<=64 by omega)) hd
 rw [pow_8,<- Int.natCast_ediv]
 exact h
theorem al_shlB {T yT:TypeId}{yk:IntKind}{x y:Operand}{a:Nat}{b:Int}(k:Nat)(h:AL P N ops Q s rest ((d,u6 (256 ^ k * a))::e) m)(hx:ev e x=some (u6 a):=by exact rfl)(hy:ev e y=some (.lit (.int yk b)):=by exact rfl)(hb:b=((8 * k:Nat):Int):=by omega)(ha:a < 256:=by omega)(hk:k<=7:=by omega)(hd:Nat.blt d N=true:=by exact rfl):AL P N ops Q s (⟨some d,.binOp .shl T x y yT,ty,pos,af,none⟩::rest) e m:=
 al_shift rfl hx hy (fun w=>by
  subst hb
  have h2:min (8 * k) IntKind.u64.bits=8 * k:=by show min (8 * k) 64=_;omega
  have h3:256 ^ k * a < 18446744073709551616:=by
   have h5:256 ^ k<=72057594037927936:=Nat.pow_le_pow_right (n:=256) (by decide) hk
   have h6:256 ^ k * a<=72057594037927936 * 255:=Nat.mul_le_mul h5 (by omega)
   omega
  have e1:((a:Int) * 2 ^ (8 * k))=((256 ^ k * a:Nat):Int):=by
   rw [show ((2:Int) ^ (8 * k))=((2 ^ (8 * k):Nat):Int) by simp,pow_8,Nat.mul_comm]
   simp
  have h4:¬ (((8 * k:Nat):Int) < 0):=by omega
  simp only [Op.shift,Int.toNat_natCast,h2,e1,h4,if_false]
  show Result.ok (Value.int .u64 (IntKind.u64.wrap ((256 ^ k * a:Nat):Int))) w=_
  rw [wrap_u64 _ h3]) (.inl rfl) hd h
theorem or_runU {a c:Nat}(ha:a < 18446744073709551616)(hc:c < 18446744073709551616)(h:(a ||| c) < 18446744073709551616)(P:Program)(w:World):(Op.intBits .or .u64 (a:Int) (c:Int)).run P w=.ok (.int .u64 ((a ||| c:Nat):Int)) w:=by
 have h2:(BitVec.ofInt 64 (a:Int) ||| BitVec.ofInt 64 (c:Int)).toNat=a ||| c:=by
  rw [BitVec.toNat_or,BitVec.ofInt_natCast,BitVec.ofInt_natCast,BitVec.toNat_ofNat,BitVec.toNat_ofNat,Nat.mod_eq_of_lt ha,Nat.mod_eq_of_lt hc]
 show Result.ok (Value.int .u64 (IntKind.u64.wrap ((BitVec.ofInt 64 (a:Int) ||| BitVec.ofInt 64 (c:Int)).toNat:Int))) w=_
 rw [h2,wrap_u64 _ h]
theorem al_orP {T yT:TypeId}{x y:Operand}{a c r:Nat}(h:AL P N ops Q s rest ((d,u6 (a + 256 ^ r * c))::e) m)(hx:ev e x=some (u6 a):=by exact rfl)(hy:ev e y=some (u6 (256 ^ r * c)):=by exact rfl)(ha:a < 256 ^ r)(hc:c < 256)(hr:r<=7)(hd:Nat.blt d N=true:=by exact rfl):AL P N ops Q s (⟨some d,.binOp .or T x y yT,ty,pos,af,none⟩::rest) e m:=by
 have h0:256 ^ r<=72057594037927936:=Nat.pow_le_pow_right (n:=256) (by decide) hr
 have h1:256 ^ r * c + 256 ^ r<=72057594037927936 * 256:=by
  rw [<- Nat.mul_succ]
  exact Nat.mul_le_mul h0 (by omega)
 have h2:=or_put (d:=c) ha
 generalize 256 ^ r * c=X at *
 generalize 256 ^ r=R at *
 rw [<- h2] at h
 exact al_bits rfl hx hy (fun w=>or_runU (by omega) (by omega) (by omega) P w) (.inr (.inl rfl)) hd h
theorem and_runU {a:Nat}(ha:a < 18446744073709551616)(P:Program)(w:World):(Op.intBits .and .u64 (a:Int) ((255:Nat):Int)).run P w=.ok (.int .u64 ((a % 256:Nat):Int)) w:=by
 have h2:(BitVec.ofInt 64 (a:Int) &&& BitVec.ofInt 64 ((255:Nat):Int)).toNat=a % 256:=by
  rw [BitVec.toNat_and,BitVec.ofInt_natCast,BitVec.ofInt_natCast,BitVec.toNat_ofNat,BitVec.toNat_ofNat,Nat.mod_eq_of_lt ha,Nat.mod_eq_of_lt (show 255 < 2 ^ 64 by decide)]
  exact Nat.and_two_pow_sub_one_eq_mod a 8
 show Result.ok (Value.int .u64 (IntKind.u64.wrap ((BitVec.ofInt 64 (a:Int) &&& BitVec.ofInt 64 ((255:Nat):Int)).toNat:Int))) w=_
 rw [h2,wrap_u64 _ (by omega)]
theorem al_and255 {T yT:TypeId}{x y:Operand}{a:Nat}(ha:a < 18446744073709551616)(h:AL P N ops Q s rest ((d,u6 (a % 256))::e) m)(hx:ev e x=some (u6 a):=by exact rfl)(hy:ev e y=some (.lit (.int .u64 255)):=by exact rfl)(hd:Nat.blt d N=true:=by exact rfl):AL P N ops Q s (⟨some d,.binOp .and T x y yT,ty,pos,af,none⟩::rest) e m:=
 al_bits rfl hx hy (fun w=>and_runU ha P w) (.inl rfl) hd h
theorem u8_wrap (n:Nat):AV.lit (.int .u8 (IntKind.u8.wrap (n:Int)))=.lit (u8v (UInt8.ofNat n)):=by
 unfold u8v
 rw [IntKind.wrap_u8,UInt8.toNat_ofNat']
 simp
theorem beB_at {n j:Nat}(h:j < 32):(beB n)[j]?=some (UInt8.ofNat (dg n (31 - j))):=by
 unfold beB
 rw [List.getElem?_reverse (by rw [dgs_len];exact h),dgs_len,dgs_at (by omega)]
theorem beB_take {n j:Nat}(h:j < 32):(beB n).take (j + 1)=(beB n).take j++[UInt8.ofNat (dg n (31 - j))]:=by
 rw [List.take_add_one,beB_at h]
 rfl
end
end Av
namespace Go.Proofs.YtlmcongmglfaeaaGreatDoor
open Go Go.RowKit Tw Av
set_option maxHeartbeats 1000000 in
instance fnWBytes {a:Wd}:Ans Tryz.prog GL 104 [widA a] True (str (beB a.n)):=⟨fun _=>by
 have hbl:=beB_len a.n
 refine qE Tryz.func104 rfl Tryz.ntmps104 rfl (fun _ hs=>?_)
 repeat' first|refine Vz ?_|intro _
 rename_i g1
 refine ac_as 3 (Imp.nil (k:=1)) ?_
 refine ac_st (fun ok w h=>h.full 5 1 none 0) ?_
 refine ac_loop (α:=Nat × Value) (fun q=>[(1,ptr g1),(3,.sl 1 (((beB a.n).take (8 * q.1)).map u8A) (some q.2)),(4,int (3 - q.1))]) (fun q=>[.tail 5 1 q.2,.var g1 43 (widA a)]) (fun q=>q.1<=4) (fun q=>4 - q.1) (0,.slice none 0 0) ⟨rfl,rfl,rfl,trivial⟩ slr (Nat.zero_le _) ?_
 rintro⟨q,v⟩ hq
 dsimp only at hq ⊢
 repeat' first|refine Vz ?_|intro _
 refine ac_cond (fun hlt=>?_) (fun hlt=>?_)
 ·have hq4:q < 4:=by omega
  repeat' first|refine Vz ?_|intro _
  refine ac_loop (α:=Nat × Value) (fun r=>[(1,ptr g1),(3,.sl 1 (((beB a.n).take (8 * q + r.1)).map u8A) (some r.2)),(4,int (3 - q)),(5,int (7 - r.1))]) (fun r=>[.tail 5 1 r.2,.var g1 43 (widA a)]) (fun r=>r.1<=8) (fun r=>8 - r.1) (0,v) ⟨rfl,rfl,rfl,rfl,trivial⟩ slr (Nat.zero_le _) ?_
  rintro⟨r,v⟩ hr
  dsimp only at hr ⊢
  have hml:(((beB a.n).take (8 * q + r)).map u8A).length<=32:=by rw [llm,List.length_take];omega
  repeat' first|refine Vz ?_|intro _
  refine ac_cond (fun hlt=>?_) (fun hlt=>?_)
  ·have hr8:r < 8:=by omega
   have e1:UInt8.ofNat (lm a.n (3 - q) / 256 ^ (7 - r))=UInt8.ofNat (dg a.n (31 - (8 * q + r))):=by
    rw [<- lm_dg,show (31 - (8 * q + r)) / 8=3 - q by omega,show (31 - (8 * q + r)) % 8=7 - r by omega]
    apply UInt8.toNat_inj.1
    rw [UInt8.toNat_ofNat',UInt8.toNat_ofNat']
    omega
   repeat' first|refine Vz ?_|intro _
   refine al_idxA (3 - q) ?_
   repeat' first|refine Vz ?_|intro _
   refine al_loadE (j:=3 - q) (wid_get (by omega)) ?_
   repeat' first|refine Vz ?_|intro _
   refine al_shrB (7 - r) ?_
   refine al_convI ?_
   rw [u8_wrap,e1]
   repeat' first|refine Vz ?_|intro _
   refine al_append (fun v'=>?_)
   repeat' first|refine Vz ?_|intro _
   have e2:((beB a.n).take (8 * q + (r + 1))).map u8A=((beB a.n).take (8 * q + r)).map u8A++[u8A (UInt8.ofNat (dg a.n (31 - (8 * q + r))))]:=by
    rw [<- Nat.add_assoc,beB_take (by omega),List.map_append]
    rfl
   rw [<- e2,show (7:Int) - (r:Int) - 1=7 - ((r + 1:Nat):Int) by omega]
   refine ae_round (r + 1,v') ⟨rfl,rfl,rfl,rfl,trivial⟩ ?_ hr8 (by dsimp only;omega)
   exact sbl
  ·obtain rfl:r=8:=by omega
   repeat' first|refine Vz ?_|intro _
   rw [show (3:Int) - (q:Int) - 1=3 - ((q + 1:Nat):Int) by omega]
   refine ae_round (q + 1,v) ⟨rfl,rfl,rfl,trivial⟩ ?_ hq4 (by dsimp only;omega)
   exact sbl
 ·obtain rfl:q=4:=by omega
  rw [List.take_of_length_le (by omega)]
  repeat' first|refine Vz ?_|intro _
  refine reE ?_
  rfl⟩
def lmC (c:Bs)(k:Nat):Nat:=leN (c.take k).reverse
theorem lmC_step {c:Bs}{k:Nat}(h:k < c.length):lmC c (k + 1)=lmC c k * 256 + c[k].toNat:=by
 unfold lmC
 rw [List.take_succ_eq_append_getElem h,List.reverse_append,List.reverse_singleton,List.singleton_append,leN]
 omega
theorem lmC_lt (c:Bs)(k:Nat):lmC c k < 256 ^ k:=by
 have h:=leN_lt (c.take k).reverse
 refine Nat.lt_of_lt_of_le h (Nat.pow_le_pow_right (by decide) ?_)
 rw [List.length_reverse,List.length_take]
 omega
theorem lmC_8 {s:Bs}(hs:s.length=32){i:Nat}(hi:i < 4):lmC ((s.take (8 * (3 - i) + 8)).drop (8 * (3 - i))) 8=lm (beN s) i:=by
 have hc:((s.take (8 * (3 - i) + 8)).drop (8 * (3 - i))).length=8:=by rw [List.length_drop,List.length_take];omega
 have e:s.reverse=(s.drop (8 * (3 - i) + 8)).reverse++(((s.take (8 * (3 - i) + 8)).drop (8 * (3 - i))).reverse++(s.take (8 * (3 - i))).reverse):=by
  rw [<- List.reverse_append,<- List.reverse_append]
  congr 1
  have h1:s.take (8 * (3 - i))=(s.take (8 * (3 - i) + 8)).take (8 * (3 - i)):=by rw [List.take_take,Nat.min_eq_left (by omega)]
  rw [h1,List.take_append_drop,List.take_append_drop]
 have l1:(s.drop (8 * (3 - i) + 8)).reverse.length=8 * i:=by rw [List.length_reverse,List.length_drop];omega
 have h1:=leN_lt (s.drop (8 * (3 - i) + 8)).reverse
 have h2:=leN_lt ((s.take (8 * (3 - i) + 8)).drop (8 * (3 - i))).reverse
 have l2:((s.take (8 * (3 - i) + 8)).drop (8 * (3 - i))).reverse.length=8:=by rw [List.length_reverse,hc]
 rw [l1] at h1
 rw [l2] at h2
 unfold lm beN lmC
 rw [List.take_of_length_le (by omega),e,leN_append,leN_append,l1,l2,B_pow,Nat.add_mul_div_left _ _ (pos256 _),Nat.div_eq_of_lt h1,Nat.zero_add,show (256:Nat) ^ 8=18446744073709551616 from rfl,Nat.add_mul_mod_self_left]
 exact (Nat.mod_eq_of_lt h2).symm
theorem mixF_up2 {X:Nat->Nat}{i:Nat}(h:i < 4)(y z:Nat):(mixF X (fun j=>if j=i then y else 0) i).set i (u6 z)=mixF X (fun j=>if j=i then z else 0) i:=by
 rcases i with _|_|_|_|i <;> first|rfl|omega
theorem mixF_z {X:Nat->Nat}{i:Nat}(h:i < 4):mixF X (fun j=>if j=i then 0 else 0) i=mixF X (fun _=>0) i:=by
 rcases i with _|_|_|_|i <;> first|rfl|omega
theorem mixF_done {X:Nat->Nat}{i:Nat}(h:i < 4):mixF X (fun j=>if j=i then X i else 0) i=mixF X (fun _=>0) (i + 1):=by
 rcases i with _|_|_|_|i <;> first|rfl|omega
set_option maxHeartbeats 1000000 in
instance fnWFrom {s:Bs}:Ans Tryz.prog GL 88 [str s] (s.length<=1000000000) (.tup [widA (if s.length=32 then wOf (beN s) else wZ),int (if s.length=32 then 0 else 10)]):=⟨fun hl=>by
 refine qE Tryz.func88 rfl Tryz.ntmps88 rfl (fun _ hs=>?_)
 repeat' first|refine Vz ?_|intro _
 refine ac_cond (fun hne=>?_) (fun hne=>?_)
 ·have h32:¬ s.length=32:=by omega
  repeat' first|refine Vz ?_|intro _
  refine reE ?_
  rw [if_neg h32,if_neg h32]
  rfl
 have h32:s.length=32:=by omega
 repeat' first|refine Vz ?_|intro _
 rename_i g2 g4
 refine ac_asV (g:=g4) (v':=.agg 4 (mixF (lm (beN s)) (fun _=>0) 0)) (fun ok w cs h=>by rw [mixF_0];exact h) ?_
 refine ac_loop (α:=Nat) (fun i=>[(0,str s),(2,ptr g2),(3,int 0),(4,ptr g4),(13,int i)])
   (fun i=>[.var g4 43 (.agg 4 (mixF (lm (beN s)) (fun _=>0) i)),.var g2 43 (widN 0)]) (fun i=>i<=4) (fun i=>4 - i) 0 ⟨rfl,rfl,rfl,rfl,rfl,trivial⟩ slr (Nat.zero_le _) ?_
 intro i hi
 repeat' first|refine Vz ?_|intro _
 refine ac_cond (fun hlt=>?_) (fun hlt=>?_)
 ·have hi4:i < 4:=by omega
  have hln:=mixF_len (lm (beN s)) (fun _=>0) i
  repeat' first|refine Vz ?_|intro _
  refine al_sliceS (8 * (3 - i)) (8 * (3 - i) + 8) ?_
  have hlm:=lmC_8 h32 hi4
  have hc:((s.take (8 * (3 - i) + 8)).drop (8 * (3 - i))).length=8:=by rw [List.length_drop,List.length_take];omega
  generalize (s.take (8 * (3 - i) + 8)).drop (8 * (3 - i))=c at *
  have hmc:(c.map fun c=>AV.lit (u8v c)).length=8:=by rw [llm,hc]
  repeat' first|refine Vz ?_|intro _
  rw [<- mixF_z hi4]
  refine ac_loop (α:=Nat) (fun k=>[(0,str s),(2,ptr g2),(3,int 0),(4,ptr g4),(13,int i),(5,int i),(24,.sl 1 (c.map fun c=>.lit (u8v c)) none),(25,int ((c.map fun c=>AV.lit (u8v c)).length)),(26,int k)])
   (fun k=>[.var g4 43 (.agg 4 (mixF (lm (beN s)) (fun j=>if j=i then lmC c k else 0) i)),.var g2 43 (widN 0)]) (fun k=>k<=8) (fun k=>8 - k) 0 ⟨rfl,rfl,rfl,rfl,rfl,rfl,rfl,rfl,rfl,trivial⟩ slr (Nat.zero_le _) ?_
  intro k hk
  have hlt8:=lmC_lt c k
  repeat' first|refine Vz ?_|intro _
  refine ac_cond (fun hlt=>?_) (fun hlt=>?_)
  ·have hk8:k < c.length:=by omega
   have hst:=lmC_step hk8
   have hlt9:=lmC_lt c (k + 1)
   have hpw:256 ^ (k + 1)<=18446744073709551616:=Nat.pow_le_pow_right (n:=256) (j:=8) (by decide) (by omega)
   have hby:=c[k].toNat_lt
   have hln:=mixF_len (lm (beN s)) (fun j=>if j=i then lmC c k else 0) i
   have hg:=mixF_get (X:=lm (beN s)) (Y:=fun j=>if j=i then lmC c k else 0) hi4
   rw [if_pos rfl] at hg
   repeat' first|refine Yz ?_|intro _
   refine al_idxA i ?_
   repeat' first|refine Yz ?_|intro _
   refine al_loadE hg ?_
   repeat' first|refine Yz ?_|intro _
   refine al_idxA i ?_
   refine al_storeE (j:=i) (by rw [hln];exact hi4) ?_
   rw [show AV.lit (.int .u64 ((lmC c k:Int) * 256 + (c[k].toNat:Int)))=u6 (lmC c (k + 1)) by rw [hst];congr 2,mixF_up2 hi4]
   repeat' first|refine Yz ?_|intro _
   refine ae_round (k + 1) ⟨rfl,rfl,rfl,rfl,rfl,rfl,rfl,rfl,rfl,trivial⟩ ?_ (by omega) (by omega)
   exact sbl
  ·obtain rfl:k=8:=by omega
   rw [hlm,mixF_done hi4]
   repeat' first|refine Vz ?_|intro _
   refine ae_round (i + 1) ⟨rfl,rfl,rfl,rfl,rfl,trivial⟩ ?_ hi4 (by omega)
   exact sbl
 ·obtain rfl:i=4:=by omega
  rw [show AV.agg 4 (mixF (lm (beN s)) (fun _=>0) 4)=widN (beN s) by rw [mixF_4]]
  repeat' first|refine Vz ?_|intro _
  refine reE ?_
  rw [if_pos h32,if_pos h32]
  show AV.tup [widN _,_]=.tup [widN _,_]
  rw [wOf_n (beN_lt h32)]⟩
end Go.Proofs.YtlmcongmglfaeaaGreatDoor

namespace Av
open Go Go.RowKit Tw
def runeAt (l:Bs)(i:Nat):Nat × Nat:=Utf8.decode ⟨l.toArray⟩ i
theorem get_sv (l:Bs)(i:Nat):(⟨l.toArray⟩:ByteArray).get! i=l.getD i 0:=by
 show (l.toArray)[i]! = _
 simp [List.getD]
 rfl
theorem rune_cases {l:Bs}{i:Nat}(hi:i < l.length):1<=(runeAt l i).2/\i + (runeAt l i).2<=l.length /\
  (((l.getD i 0).toNat < 128/\(runeAt l i).1=(l.getD i 0).toNat/\(runeAt l i).2=1)\/(128<=(l.getD i 0).toNat/\128<=(runeAt l i).1/\∀ k,0 < k->k < (runeAt l i).2->128<=(l.getD (i + k) 0).toNat)):=by
 unfold runeAt Utf8.decode
 simp only [get_sv,size_sv,Nat.add_zero,Utf8.runeError]
 have hb:=UInt8.toNat_lt (l.getD i 0)
 generalize (l.getD i 0).toNat=b0 at *
 have key:∀ k,(l.getD (i + k) 0).toNat=(l.getD (i + k) 0).toNat:=fun _=>rfl
 split
 ·rename_i h
  exact⟨by omega,by omega,.inl ⟨h,rfl,rfl⟩⟩
 ·rename_i h
  have one:∀ c:Nat,128<=c->1<=(c,1).2/\i + (c,1).2<=l.length/\((b0 < 128/\(c,1).1=b0/\(c,1).2=1)\/(128<=b0/\128<=(c,1).1/\∀ k,0 < k->k < (c,1).2->128<=(l.getD (i + k) 0).toNat)):=
   fun c hc=>⟨Nat.le_refl _,by simp only;omega,.inr ⟨by omega,hc,fun k h1 h2=>by simp only at h2;omega⟩⟩
  split
  ·rename_i h1
   simp only [Bool.and_eq_true,decide_eq_true_eq,beq_iff_eq] at h1
   obtain⟨h1,h2,h3⟩:=h1
   split
   ·rename_i h4
    refine⟨by simp only;omega,by simp only;omega,.inr ⟨by omega,by simp only;omega,fun k g1 g2=>?_⟩⟩
    simp only at g2
    obtain rfl:k=1:=by omega
    omega
   ·exact one _ (by decide)
  ·split
   ·rename_i h1
    simp only [Bool.and_eq_true,decide_eq_true_eq,beq_iff_eq] at h1
    obtain⟨⟨h1,h2,h3⟩,h4,h5⟩:=h1
    split
    ·rename_i h6
     simp only [Bool.and_eq_true,decide_eq_true_eq,ge_iff_le] at h6
     refine⟨by simp only;omega,by simp only;omega,.inr ⟨by omega,by simp only;omega,fun k g1 g2=>?_⟩⟩
     simp only at g2
     rcases (by omega:k=1\/k=2) with rfl|rfl <;> omega
    ·exact one _ (by decide)
   ·split
    ·rename_i h1
     simp only [Bool.and_eq_true,decide_eq_true_eq,beq_iff_eq] at h1
     obtain⟨⟨⟨h1,h2,h3⟩,h4,h5⟩,h6,h7⟩:=h1
     split
     ·rename_i h8
      simp only [Bool.and_eq_true,decide_eq_true_eq,ge_iff_le] at h8
      refine⟨by simp only;omega,by simp only;omega,.inr ⟨by omega,by simp only;omega,fun k g1 g2=>?_⟩⟩
      simp only at g2
      rcases (by omega:k=1\/k=2\/k=3) with rfl|rfl|rfl <;> omega
     ·exact one _ (by decide)
    ·exact one _ (by decide)
theorem rune_byte {l:Bs}{i c:Nat}(hi:i < l.length)(hc:c < 128):((runeAt l i).1=c↔(l.getD i 0).toNat=c)/\((runeAt l i).1≠c->∀ j,i<=j->j < i + (runeAt l i).2->(l.getD j 0).toNat≠c):=by
 obtain⟨h1,h2,h3⟩:=rune_cases hi
 rcases h3 with⟨h3,h4,h5⟩|⟨h3,h4,h5⟩
 ·refine⟨by omega,fun hne j g1 g2=>?_⟩
  obtain rfl:j=i:=by omega
  omega
 ·refine⟨by omega,fun hne j g1 g2=>?_⟩
  by_cases hj:j=i
  ·subst hj;omega
  ·have:=h5 (j - i) (by omega) (by omega)
   rw [show i + (j - i)=j by omega] at this
   omega
section
variable {P:Program} {N:Nat} {ops:Array Oper} {Q:Exit->Act->World->Prop} {rest:List Oper} {s:Base} {e:Env} {m:List Piece} {d:Nat} {ty:TypeId} {pos:String} {af:Array Edge}
theorem St.newObj {ok:Ok}{w:World}(h:St s ok m w){o:Obj}(ho:Obj.notCells o=true):∃ ok',St s ok' (.obj w.heap.size o::m) (w.alloc o)/\Stp ok w ok' (w.alloc o):=by
 have hk:∀ b j,b < w.heap.size->((ok b j/\b≠w.heap.size)↔ok b j):=fun b j hb=>⟨fun h=>h.1,fun h=>⟨h,by omega⟩⟩
 have hnew:(w.alloc o).heap[w.heap.size]?=some o:=by
  show (w.heap.push o)[w.heap.size]?=some o
  simp
 have hsz:(w.alloc o).heap.size=w.heap.size + 1:=by
  show (w.heap.push o).size=_
  simp
 refine⟨fun b j=>ok b j/\b≠w.heap.size,h.grow (new:=[.obj w.heap.size o]) (Ext.alloc w o) hk (fun b j hb=>⟨h.fresh b j (by omega),by omega⟩) ?_ ?_ ?_ ?_⟩
 ·intro p hp
  rw [List.mem_singleton] at hp
  subst hp
  exact⟨hnew,ho⟩
 ·intro p hp g hg
  rw [List.mem_singleton] at hp
  subst hp
  injection hg with hg
  omega
 ·intro p hp b j hb hh
  rw [List.mem_singleton] at hp
  subst hp
  exact hh.2 hb
 ·exact List.pairwise_singleton _ _
theorem St.setObj {ok:Ok}{w:World}{pre post:List Piece}{g:Nat}{o o':Obj}(h:St s ok (pre++.obj g o::post) w)(ho:Obj.notCells o'=true) :
  St s ok (pre++.obj g o'::post) { w with heap:=w.heap.setIfInBounds g o' }/\Stp ok w ok { w with heap:=w.heap.setIfInBounds g o' }:=by
 have hpm:Piece.obj g o ∈ pre++.obj g o::post:=by simp
 have hlt:g < w.heap.size:=(h.lt _ hpm g rfl).1
 have hoth:∀ b,b≠g->(w.heap.setIfInBounds g o')[b]?=w.heap[b]?:=fun b hb=>Array.getElem?_setIfInBounds_ne (Ne.symm hb)
 have hst:Stp ok w ok { w with heap:=w.heap.setIfInBounds g o' }:=⟨by simp,fun b j u h1 h2=>by
  have hne:b≠g:=by
   rintro rfl
   exact h.own _ hpm b j rfl h2
  exact⟨(cell_block (hoth b hne)).trans h1,h2⟩⟩
 refine⟨h.write (g:=g) (p':=.obj g o') rfl (.inl rfl) hst ⟨by simp [hlt],ho⟩ (fun b j hb=>h.own _ hpm b j hb) (by simp) rfl rfl rfl hoth (fun _ _ _=>Iff.rfl),hst⟩
theorem al_rangeS {T:TypeId}[t:TyT P T]{x:Operand}{l:Bs}(h:∀ g,AL P N ops Q s rest ((d,ptr g)::e) (.obj g (.stringIter ⟨l.toArray⟩ 0)::m))(hx:ev e x=some (str l):=by exact rfl)(hd:Nat.blt d N=true:=by exact rfl):AL P N ops Q s (⟨some d,.range T x,ty,pos,af,none⟩::rest) e m:=
 al_stepV (fun ok w A hS hA=>by
  obtain⟨ok',g1,g2⟩:=hS.newObj (o:=.stringIter ⟨l.toArray⟩ 0) rfl
  exact⟨_,.pointer (some ⟨w.heap.size,0,none⟩),w.alloc (.stringIter ⟨l.toArray⟩ 0),ok',_,by simp [execOp,hA.lit hx,Instr.range,run_underlying t.out,newObj,Sem.run],RVl rfl,g1,g2,h w.heap.size⟩) hd
theorem al_nextS {x:Operand}{l:Bs}{g i:Nat}{pre post:List Piece}(hi:i < l.length)(hm:m=pre++.obj g (.stringIter ⟨l.toArray⟩ i)::post)(h:AL P N ops Q s rest ((d,.tup [boo true,int i,.lit (.int .i32 (runeAt l i).1)])::e) (pre++.obj g (.stringIter ⟨l.toArray⟩ (i + (runeAt l i).2))::post))(hx:ev e x=some (ptr g):=by exact rfl)(hd:Nat.blt d N=true:=by exact rfl):AL P N ops Q s (⟨some d,.next x true,ty,pos,af,none⟩::rest) e m:=
 al_stepV (fun ok w A hS hA=>by
  subst hm
  obtain⟨ho,_⟩:=hS.at_ (.obj g (.stringIter ⟨l.toArray⟩ i)) (by simp)
  obtain⟨g1,g2⟩:=hS.setObj (o':=.stringIter ⟨l.toArray⟩ (i + (runeAt l i).2)) rfl
  have hi':i < (⟨l.toArray⟩:ByteArray).size:=by rw [size_sv];exact hi
  exact⟨.tup [boo true,int i,.lit (.int .i32 (runeAt l i).1)],.tuple #[.bool true,.int .i64 i,.int .i32 (runeAt l i).1],_,ok,_,by
   simp [execOp,hA.lit hx,Instr.next,getObj,setObj,Sem.run,ho,hi',goInt,runeAt],⟨_,rfl,_,_,rfl,RV0.of_lit rfl,_,_,rfl,RV0.of_lit rfl,_,_,rfl,RV0.of_lit rfl,rfl⟩,g1,g2,h⟩) hd
theorem al_nextE {x:Operand}{l:Bs}{g i:Nat}(hi:l.length<=i)(hm:Piece.obj g (.stringIter ⟨l.toArray⟩ i) ∈ m)(h:AL P N ops Q s rest ((d,.tup [boo false])::e) m)(hx:ev e x=some (ptr g):=by exact rfl)(hd:Nat.blt d N=true:=by exact rfl):AL P N ops Q s (⟨some d,.next x true,ty,pos,af,none⟩::rest) e m:=
 al_val (fun ok w A hS hA=>by
  obtain⟨ho,_⟩:=hS.at_ _ hm
  have hi':¬ i < (⟨l.toArray⟩:ByteArray).size:=by rw [size_sv];omega
  exact⟨.tuple #[.bool false],by simp [execOp,hA.lit hx,Instr.next,getObj,Sem.run,ho,hi'],⟨_,rfl,_,_,rfl,RV0.of_lit rfl,rfl⟩⟩) hd h
end
end Av

namespace Go.Proofs.YtlmcongmglfaeaaGreatDoor
open Go Go.RowKit Tw Av
theorem getD_in {l:Bs}{i:Nat}(h:i < l.length):l.getD i 0=l[i]:=by simp [List.getD,h]
theorem noSl_iff {s:Bs}:noSl s=true↔∀ j,j < s.length->(s.getD j 0).toNat≠47:=by
 unfold noSl
 rw [List.all_eq_true]
 constructor
 ·intro h j hj
  have:=of_decide_eq_true (h s[j] (List.getElem_mem hj))
  rw [getD_in hj]
  intro e
  exact this (UInt8.toNat_inj.1 e)
 ·intro h c hc
  obtain⟨j,hj,rfl⟩:=List.getElem_of_mem hc
  have:=h j hj
  rw [getD_in hj] at this
  exact dT fun e=>this (by rw [e];rfl)
theorem noSl_ff {s:Bs}{i:Nat}(hi:i < s.length)(h:(s.getD i 0).toNat=47):noSl s=false:=by
 cases hn:noSl s
 ·rfl
 ·exact absurd h (noSl_iff.1 hn i hi)
theorem partB_no {s:Bs}(h:noSl s=false):partB s=false:=by unfold partB;rw [h];rfl
theorem partB_yes {s:Bs}(h:noSl s=true):partB s=decide (1<=s.length/\s.length<=32):=by unfold partB;rw [h];rfl
set_option maxHeartbeats 1000000 in
instance fnTPart {s:Bs}:Ans Tryz.prog GL 203 [str s] True (boo (partB s)):=⟨fun _=>by
 refine qE Tryz.func203 rfl Tryz.ntmps203 rfl (fun _ hs=>?_)
 repeat' first|refine Vz ?_|intro _
 refine al_rangeS (fun g=>?_)
 repeat' first|refine Vz ?_|intro _
 refine ac_loop (α:=Nat) (fun i=>[(0,str s),(6,ptr g)]) (fun i=>[.obj g (.stringIter ⟨s.toArray⟩ i)]) (fun i=>i<=s.length/\∀ j,j < i->(s.getD j 0).toNat≠47) (fun i=>s.length - i) 0 ⟨rfl,rfl,trivial⟩ slr ⟨Nat.zero_le _,fun _ h=>absurd h (by omega)⟩ ?_
 rintro i ⟨hi,hall⟩
 repeat' first|refine Vz ?_|intro _
 by_cases hlt:i < s.length
 ·obtain⟨w1,w2,w3⟩:=rune_cases hlt
  obtain⟨r1,r2⟩:=rune_byte hlt (show 47 < 128 by decide)
  refine al_nextS (pre:=[]) (post:=[]) hlt rfl ?_
  repeat' first|refine Vz ?_|intro _
  refine ac_cond (fun h=>?_) (fun h=>?_)
  ·repeat' first|refine Vz ?_|intro _
   refine reE ?_
   rw [partB_no (noSl_ff hlt (r1.1 (by omega)))]
   rfl
  ·repeat' first|refine Vz ?_|intro _
   refine ae_round (i + (runeAt s i).2) ⟨rfl,rfl,trivial⟩ slr ⟨w2,fun j hj=>?_⟩ (by omega)
   by_cases hj2:j < i
   ·exact hall j hj2
   ·exact r2 (by omega) j (by omega) hj
 ·refine al_nextE (g:=g) (by omega) (List.mem_singleton.2 rfl) ?_
  have hy:noSl s=true:=noSl_iff.2 fun j hj=>hall j (by omega)
  rw [partB_yes hy]
  rcases s with _|⟨c,s⟩
  ·repeat' first|refine Zz ?_|intro _
   refine reE ?_
   rfl
  ·repeat' first|refine Zz ?_|intro _
   refine reE ?_
   rw [decide_eq_decide.2 (show (1<=(c::s).length/\(c::s).length<=32)↔(((c::s).length:Int)<=32) by rw [List.length_cons];omega)]
   rfl⟩
set_option maxHeartbeats 1000000 in
instance fnRPart {s:Bs}:Ans Tryz.prog GL 238 [str s] (s.length<=4611686018427387904) (boo (partB s)):=⟨fun hl=>by
 refine qE Tryz.func238 rfl Tryz.ntmps238 rfl (fun _ hs=>?_)
 repeat' first|refine Vz ?_|intro _
 refine ac_loop (α:=Nat) (fun i=>[(0,str s),(3,int i)]) (fun i=>[]) (fun i=>i<=s.length/\∀ j,j < i->(s.getD j 0).toNat≠47) (fun i=>s.length - i) 0 ⟨rfl,rfl,trivial⟩ slr ⟨Nat.zero_le _,fun _ h=>absurd h (by omega)⟩ ?_
 rintro i ⟨hi,hall⟩
 repeat' first|refine Vz ?_|intro _
 refine ac_cond (fun hlt=>?_) (fun hlt=>?_)
 ·have hil:i < s.length:=by omega
  repeat' first|refine Vz ?_|intro _
  refine al_idxS i ?_ (List.getElem?_eq_getElem hil)
  repeat' first|refine Vz ?_|intro _
  refine ac_cond (fun h=>?_) (fun h=>?_)
  ·repeat' first|refine Vz ?_|intro _
   refine reE ?_
   rw [partB_no (noSl_ff hil (by rw [getD_in hil];omega))]
   rfl
  ·repeat' first|refine Vz ?_|intro _
   refine ae_round (i + 1) ⟨rfl,rfl,trivial⟩ slr ⟨hil,fun j hj=>?_⟩ (by omega)
   by_cases hj2:j < i
   ·exact hall j hj2
   ·obtain rfl:j=i:=by omega
    rw [getD_in hil]
    omega
 ·have hy:noSl s=true:=noSl_iff.2 fun j hj=>hall j (by omega)
  rw [partB_yes hy]
  repeat' first|refine Vz ?_|intro _
  by_cases h1:1<=s.length
  ·repeat' first|refine Zz ?_|intro _
   refine reE ?_
   rw [decide_eq_decide.2 (show (1<=s.length/\s.length<=32)↔((s.length:Int)<=32) by omega)]
   rfl
  ·repeat' first|refine Zz ?_|intro _
   refine reE ?_
   have h0:¬ (1<=s.length/\s.length<=32):=fun h=>h1 h.1
   rw [dZ h0]
   rfl⟩
theorem splS_ne (s:Bs):splS s≠[]:=by
 cases s with
 | nil=>simp [splS]
 | cons c s=>
  rw [splS]
  split <;> simp
theorem splS_snoc47:∀ s:Bs,splS (s++[47])=splS s++[[]]
 | []=>rfl
 | c::s=>by
  have ih:=splS_snoc47 s
  rw [List.cons_append,splS,splS,ih]
  split
  ·rfl
  ·have hn:=splS_ne s
   cases h:splS s with
   | nil=>exact absurd h hn
   | cons a l=>rfl
theorem splS_snoc {c:UInt8}(hc:c≠47):∀ s:Bs,splS (s++[c])=(splS s).dropLast++[(splS s).getLastD []++[c]]
 | []=>by simp [splS,hc]
 | d::s=>by
  have ih:=splS_snoc hc s
  have hn:=splS_ne s
  rw [List.cons_append,splS,splS,ih]
  cases h:splS s with
  | nil=>exact absurd h hn
  | cons a l=>
   split
   ·cases l <;> simp
   ·cases l <;> simp
theorem splS_last (s:Bs):(splS s).dropLast++[(splS s).getLastD []]=splS s:=by
 have hn:=splS_ne s
 cases h:splS s with
 | nil=>exact absurd h hn
 | cons a l=>
  rw [List.getLastD_cons,<- List.getLast_eq_getLastD (h:=by simp)]
  exact List.dropLast_concat_getLast _
theorem splS_len:∀ s:Bs,(splS s).length=s.count 47 + 1
 | []=>rfl
 | c::s=>by
  have ih:=splS_len s
  have hn:=splS_ne s
  rw [splS]
  split
  ·rename_i h
   subst h
   simp [ih]
  ·rename_i h
   rw [List.count_cons_of_ne (by exact h)]
   cases h2:splS s with
   | nil=>exact absurd h2 hn
   | cons a l=>rw [h2] at ih;simpa using ih
theorem splS_part {s x:Bs}(h:x ∈ splS s):x.length<=s.length:=by
 induction s generalizing x with
 | nil=>simp [splS] at h;simp [h]
 | cons c s ih=>
  have hn:=splS_ne s
  rw [splS] at h
  split at h
  ·rcases List.mem_cons.1 h with rfl|h
   ·simp
   ·have:=ih h;simp;omega
  ·cases h2:splS s with
   | nil=>exact absurd h2 hn
   | cons a l=>
    rw [h2] at h
    simp at h
    rcases h with rfl|h
    ·have:=ih (x:=a) (by rw [h2];simp)
     simp
     omega
    ·have:=ih (x:=x) (by rw [h2];simp [h])
     simp
     omega
set_option maxHeartbeats 1000000 in
instance fnRParts {s:Bs}:Ans Tryz.prog GL 318 [str s] (s.length<=1000000000) (.sl 1 ((splS s).map str) none):=⟨fun hl=>by
 refine qE Tryz.func318 rfl Tryz.ntmps318 rfl (fun _ hs=>?_)
 repeat' first|refine Vz ?_|intro _
 refine ac_as 3 (Imp.nil (k:=1)) ?_
 refine ac_st (fun ok w h=>h.full 9 1 none 0) ?_
 refine ac_loop (α:=Nat × Value) (fun q=>[(0,str s),(3,.sl 1 ((splS (s.take q.1)).dropLast.map str) (some q.2)),(4,str ((splS (s.take q.1)).getLastD [])),(5,int q.1)]) (fun q=>[.tail 9 1 q.2]) (fun q=>q.1<=s.length) (fun q=>s.length - q.1) (0,.slice none 0 0) ⟨rfl,rfl,rfl,rfl,trivial⟩ slr (Nat.zero_le _) ?_
 rintro⟨i,v⟩ hi
 dsimp only at hi ⊢
 have hlen:=splS_len (s.take i)
 have hcnt:=List.count_le_length (l:=s.take i) (a:=(47:UInt8))
 have htl:(s.take i).length<=s.length:=List.length_take_le' _ _
 have hlast:((splS (s.take i)).getLastD []).length<=s.length:=by
  have h:=splS_last (s.take i)
  refine Nat.le_trans (splS_part (s:=s.take i) ?_) htl
  rw [<- h]
  simp
 have hm:((splS (s.take i)).dropLast.map str).length<=1000000001:=by rw [llm,List.length_dropLast];omega
 repeat' first|refine Vz ?_|intro _
 refine ac_cond (fun hlt=>?_) (fun hlt=>?_)
 ·have hil:i < s.length:=by omega
  have htk:s.take (i + 1)=s.take i++[s[i]]:=List.take_succ_eq_append_getElem hil
  repeat' first|refine Vz ?_|intro _
  refine al_idxS i ?_ (List.getElem?_eq_getElem hil)
  repeat' first|refine Vz ?_|intro _
  refine ac_cond (fun h=>?_) (fun h=>?_)
  ·have h47:s[i]=47:=UInt8.toNat_inj.1 (by show _=47;omega)
   have hsp:splS (s.take (i + 1))=splS (s.take i)++[[]]:=by rw [htk,h47,splS_snoc47]
   repeat' first|refine Vz ?_|intro _
   refine al_append (fun v'=>?_)
   repeat' first|refine Vz ?_|intro _
   have e1:(splS (s.take (i + 1))).dropLast.map str=(splS (s.take i)).dropLast.map str++[str ((splS (s.take i)).getLastD [])]:=by
    rw [hsp,List.dropLast_concat]
    conv=>lhs;rw [<- splS_last (s.take i)]
    rw [List.map_append]
    rfl
   have e2:(splS (s.take (i + 1))).getLastD []=[]:=by rw [hsp,List.getLastD_concat]
   rw [<- e1]
   refine ae_as 4 (v:=str []) (v':=str ((splS (s.take (i + 1))).getLastD [])) (Imp.of_eq (by rw [e2])) ?_
   refine ae_round (i + 1,v') ⟨rfl,rfl,rfl,rfl,trivial⟩ ?_ hil (by dsimp only;omega)
   exact sbl
  ·have h47:s[i]≠47:=fun e=>h (by rw [e];rfl)
   have hsp:splS (s.take (i + 1))=(splS (s.take i)).dropLast++[(splS (s.take i)).getLastD []++[s[i]]]:=by rw [htk,splS_snoc h47]
   repeat' first|refine Vz ?_|intro _
   refine al_sliceS i (i + 1) ?_
   have hone:(s.take (i + 1)).drop i=[s[i]]:=by
    rw [htk,List.drop_left' (by rw [List.length_take];omega)]
   rw [hone]
   have hl1:[s[i]].length=1:=rfl
   repeat' first|refine Vz ?_|intro _
   have e1:(splS (s.take (i + 1))).dropLast=(splS (s.take i)).dropLast:=by rw [hsp,List.dropLast_concat]
   have e2:(splS (s.take (i + 1))).getLastD []=(splS (s.take i)).getLastD []++[s[i]]:=by rw [hsp,List.getLastD_concat]
   rw [<- e1,<- e2]
   refine ae_round (i + 1,v) ⟨rfl,rfl,rfl,rfl,trivial⟩ ?_ hil (by dsimp only;omega)
   exact sbl
 ·obtain rfl:i=s.length:=by omega
  simp only [List.take_length] at hlen hcnt hlast hm ⊢
  repeat' first|refine Vz ?_|intro _
  refine al_append (fun v'=>?_)
  repeat' first|refine Vz ?_|intro _
  refine reI ?_
  refine Imp.trans (Imp.of_eq (?_:_=.sl 1 ((splS s).map str) (some v'))) ?_
  ·conv=>rhs;rw [<- splS_last s]
   rw [List.map_append]
   rfl
  ·exact Imp.sl⟩
end Go.Proofs.YtlmcongmglfaeaaGreatDoor
