/- arrays of bytes: a part of one; a part laid over another. No program is named. -/
import Derived.Test.YtndhpgclmgpmoaaGreatDoorA15
namespace Av
open Go Go.RowKit Tw
section
variable {P:Program} {N:Nat} {ops:Array Oper} {Q:Exit->Act->World->Prop} {rest:List Oper} {s:Base} {e:Env} {m:List Piece} {d:Nat} {ty:TypeId} {pos:String} {af:Array Edge}
end
theorem opE {G G':Prop}(h:G')(i:Wr G'->G:=by
 intro h
 first|exact al_eqBo h.o|exact al_eqR h.o|exact al_eqA h.o):G:=i ⟨h⟩

class ImpT (a:AV)(b:AV):Prop where
 imp:ImpC a b
class ImpTs (as bs:List AV):Prop where
 imp:∀ ok w cs,RCs ok w as cs->RCs ok w bs cs
instance (priority:=low){a:AV}:ImpT a a:=⟨fun _ _ _ h=>h⟩
instance {k:Nat}:ImpT (.lit (.slice none 0 0)) (.sl k [] none):=⟨ImpC.nil⟩
instance {k:Nat}{xs:List AV}{id:Option Value}:ImpT (.sl k xs id) (.sl k xs none):=⟨fun _ _ cs h=>by
 rw [RC] at h ⊢
 obtain⟨A,c,h1,_,h3⟩:=h
 exact⟨A,c,h1,by simp,h3⟩⟩
instance {n:Nat}{as bs:List AV}[h:ImpTs as bs]:ImpT (.agg n as) (.agg n bs):=⟨fun _ _ cs hc=>by
 rw [RC] at hc ⊢
 exact⟨hc.1,h.imp _ _ _ hc.2⟩⟩
instance : ImpTs [] [] := ⟨fun _ _ _ h => h⟩
instance {a b:AV}{as bs:List AV}[h:ImpT a b][g:ImpTs as bs]:ImpTs (a::as) (b::bs):=⟨fun _ _ cs hc=>by
 rw [RCs] at hc ⊢
 obtain⟨c1,c2,e,h1,h2⟩:=hc
 exact⟨c1,c2,e,h.imp _ _ _ h1,g.imp _ _ _ h2⟩⟩
class SameAg (a b:AV):Prop where
 out:a.isAgg=b.isAgg
instance {n m:Nat}{as bs:List AV}:SameAg (.agg n as) (.agg m bs):=⟨rfl⟩
instance {v:Value}{k:Nat}{xs:List AV}{id:Option Value}:SameAg (.lit v) (.sl k xs id):=⟨rfl⟩
instance {k l:Nat}{xs ys:List AV}{id id':Option Value}:SameAg (.sl k xs id) (.sl l ys id'):=⟨rfl⟩
instance (priority:=low){a:AV}:SameAg a a:=⟨rfl⟩
theorem RV0.impT {ok:Ok}{w:World}{a b:AV}{v:Value}(h:ImpT a b)(g:SameAg a b)(hv:RV0 ok w a v):RV0 ok w b v:=⟨h.imp _ _ _ hv.1,g.out ▸ hv.2⟩
class ImpRs (as bs:List AV):Prop where
 imp:∀ ok w vs,RVs ok w as vs->RVs ok w bs vs
instance : ImpRs [] [] := ⟨fun _ _ _ h => h⟩
instance {a b:AV}{as bs:List AV}[h:ImpT a b][g:SameAg a b][k:ImpRs as bs]:ImpRs (a::as) (b::bs):=⟨fun ok w vs hv=>by
 obtain⟨u,us,e,h1,h2⟩:=hv
 exact⟨u,us,e,h1.impT h g,k.imp _ _ _ h2⟩⟩
class ImpR (a b:AV):Prop where
 imp:Imp a b
instance (priority:=low){a:AV}:ImpR a a:=⟨fun _ _ _ h=>h⟩
instance {as bs:List AV}[h:ImpRs as bs]:ImpR (.tup as) (.tup bs):=⟨fun ok w v hv=>by
 obtain⟨vs,e,h1⟩:=hv
 exact⟨vs,e,h.imp _ _ _ h1⟩⟩
instance {n m:Nat}{as bs:List AV}[h:ImpT (.agg n as) (.agg m bs)]:ImpR (.agg n as) (.agg m bs):=⟨fun _ _ _ hv=>RV0.impT h ⟨rfl⟩ hv⟩
instance {k:Nat}:ImpR (.lit (.slice none 0 0)) (.sl k [] none):=⟨Imp.nilN⟩
instance {k:Nat}{xs:List AV}{id:Option Value}:ImpR (.sl k xs id) (.sl k xs none):=⟨Imp.sl⟩
section
variable {P:Program} {N:Nat} {ops:Array Oper} {Q:Exit->Act->World->Prop} {rest:List Oper} {s:Base} {e:Env} {m:List Piece} {d:Nat} {ty:TypeId} {pos:String} {af:Array Edge} {gl:List (Nat × AV)}
theorem reI {fn:Func}{out:AV}{rs:List ResultVar}{vs:List AV}(h:Imp (outOf vs) out)(hr:fn.results=rs.toArray:=by exact rfl)(hh:Ress P N s e m rs vs:=by
  repeat (first|exact Av.ress_nil|(apply Av.ress_cons;(first|(apply Av.res_tmp;exact rfl;exact rfl)|(apply Av.res_cell;exact rfl;(repeat (first|exact Av.Has.here|apply Av.Has.there));exact rfl))))):AE N .ret (bodyPost P fn (Back s fun v m'=>v=out/\m'=[])) s e m:=AE.mk fun ok w a hS ha=>by
 have h1:=(ae_ret (K:=fun v m'=>v=outOf vs/\m'=[]) (m:=m) hr hh (.inl rfl) ⟨rfl,rfl⟩ (List.nil_sublist _)).run ok w a hS ha
 obtain⟨d,cv,r,v,m'',ok',cv',⟨rfl,rfl⟩,e1,hv,hS'⟩:=h1
 exact⟨d,cv,r,out,[],ok',cv',⟨rfl,rfl⟩,e1,h _ _ _ hv,hS'⟩
theorem spec_args {f:FuncId}{as bs:List AV}{m:List Piece}{K:AV->List Piece->Prop}(h:Spec P gl f bs m K)(hi:ImpRs as bs:=by infer_instance):Spec P gl f as m K:=Spec.mk fun ok w c hS hv=>h.run ok w c hS (hi.imp _ _ _ hv)
theorem al_callI {f:FuncId}[hf:FnB P f]{xs:List Operand}{ts:Array TypeId}{args:List AV}(args':List AV){pre:Prop}{out:AV}(h:AL P N ops Q s rest ((d,out)::e) m)(hx:evs e xs=some args:=by exact rfl)(hi:ImpRs args args':=by infer_instance)(hg:s.gl=gl:=by assumption)(hc:Ans P gl f args' pre out:=by infer_instance)
  (hp:pre:=by first|exact True.intro|assumption|omega|(simp only [List.length_take,List.length_drop];omega)|(simp only [true_and,and_true];omega)) (hn:args.all noTup=true:=by exact rfl) (hd:Nat.blt d N=true:=by exact rfl):AL P N ops Q s (⟨some d,.call ⟨.value (.func f),xs.toArray,ts⟩,ty,pos,af,none⟩::rest) e m:=
 al_callK (K:=fun v m'=>v=out/\m'=[]) [] m (by rw [hg];exact spec_args (hc.spec hp) hi) (fun v m1' hh=>by obtain⟨h1,h2⟩:=hh;subst h1 h2;exact h) lpr hx hn hd
theorem al_idxK {S E:TypeId}{k bS:Nat}[t:TyL P S E k bS]{x ix:Operand}{kd:IntKind}{i:Int}{xs:List AV}{id:Option Value}{u:AV}(h:AL P N ops Q s rest ((d,.pd u)::e) m)(hx:ev e x=some (.sl k xs id):=by exact rfl)(hi:ev e ix=some (.lit (.int kd i)):=by exact rfl)(hj:i=Int.ofNat i.toNat:=by exact rfl)(hu:xs[i.toNat]?=some u:=by exact rfl)(hd:Nat.blt d N=true:=by exact rfl) :
  AL P N ops Q s (⟨some d,.indexAddr S x ix,ty,pos,af,none⟩::rest) e m:=al_idxD i.toNat h hx hi hj hu hd
theorem ac_mid {c c2:Code}{Q1:Exit->Act->World->Prop}{α:Type}(I:α->Env)(M:α->List Piece)(h1:AC P N c (Exit.then (fun a w=>∃ z ok,Sat N ok w (I z) a/\St s ok (M z) w) Q) s e m)(h2:∀ z,AC P N c2 Q1 s (I z) (M z)):AC P N c (Exit.then (fun a w=>c2.wp P Q1 a w) Q) s e m:=AC.mk fun ok w a hS ha=>
 wp_mono (h1.run ok w a hS ha) fun x a' w' hx=>by cases x <;> first|(obtain⟨z,ok',g1,g2⟩:=hx;exact (h2 z).run _ _ _ g2 g1)|exact hx
theorem al_bnd {l:List Oper}{k:Nat}{xs:List AV}{id:Option Value}(t:Nat)(h:xs.length<=maxLen->AL P N ops Q s l e m)(hv:lk e t=some (.sl k xs id):=by exact rfl):AL P N ops Q s l e m:=AL.mk fun ok w a hS ha=>by
 obtain⟨A,c,_,_,h1,h2,_⟩:=sl_run (ha.env t _ hv)
 exact (h (by omega)).run ok w a hS ha
theorem ac_bnd {c:Code}{k:Nat}{xs:List AV}{id:Option Value}(t:Nat)(h:xs.length<=maxLen->AC P N c Q s e m)(hv:lk e t=some (.sl k xs id):=by exact rfl):AC P N c Q s e m:=AC.mk fun ok w a hS ha=>by
 obtain⟨A,c,_,_,h1,h2,_⟩:=sl_run (ha.env t _ hv)
 exact (h (by omega)).run ok w a hS ha
theorem maxLen_le {n:Nat}(h:n<=maxLen):n<=9223372036854775807:=Nat.le_trans h (by decide)
theorem mask_nat (a:BitVec 64)(k:Nat)(hk:k < 63):(a &&& BitVec.ofInt 64 ((2 ^ k:Nat) - 1:Int)).toNat=a.toNat % 2 ^ k:=by
 have h1:(BitVec.ofInt 64 ((2 ^ k:Nat) - 1:Int)).toNat=2 ^ k - 1:=by
  have h2:((2 ^ k:Nat) - 1:Int)=((2 ^ k - 1:Nat):Int):=by
   have:=Nat.one_le_two_pow (n:=k)
   omega
  rw [h2,BitVec.ofInt_natCast,BitVec.toNat_ofNat,Nat.mod_eq_of_lt]
  have:2 ^ k<=2 ^ 64:=Nat.pow_le_pow_right (by omega) (by omega)
  have:=Nat.one_le_two_pow (n:=k)
  omega
 rw [BitVec.toNat_and,h1,Nat.and_two_pow_sub_one_eq_mod]
theorem mask_run (n:Int)(k:Nat)(hk:k < 63)(P:Program)(w:World):(Op.intBits .and .i64 n ((2 ^ k:Nat) - 1:Int)).run P w=.ok (.int .i64 (n % (2 ^ k:Nat))) w:=by
 have hp:(2:Nat) ^ k < 2 ^ 63:=Nat.pow_lt_pow_right (by omega) hk
 have h0:0 < 2 ^ k:=Nat.two_pow_pos k
 show Result.ok (Value.int .i64 (IntKind.i64.wrap ((BitVec.ofInt 64 n &&& BitVec.ofInt 64 ((2 ^ k:Nat) - 1:Int)).toNat:Int))) w=_
 rw [mask_nat _ _ hk,BitVec.toNat_ofInt]
 have h2:(((n % ((2 ^ 64:Nat):Int)).toNat % 2 ^ k:Nat):Int)=n % ((2 ^ k:Nat):Int):=by
  rw [Int.natCast_emod,Int.toNat_of_nonneg (Int.emod_nonneg _ (by decide))]
  refine Int.emod_emod_of_dvd n ?_
  exact Int.natCast_dvd_natCast.2 (Nat.pow_dvd_pow 2 (by omega))
 rw [h2]
 have h3:=Int.emod_nonneg n (b:=((2 ^ k:Nat):Int)) (by omega)
 have h4:=Int.emod_lt_of_pos n (b:=((2 ^ k:Nat):Int)) (by omega)
 rw [wrap64_id (by omega) (by omega)]
theorem al_mask {T yT:TypeId}{x y:Operand}{n b:Int}(k:Nat)(h:AL P N ops Q s rest ((d,int (n % (2 ^ k:Nat)))::e) m)(hx:ev e x=some (int n):=by exact rfl)(hy:ev e y=some (int b):=by exact rfl)(hb:b=((2 ^ k:Nat) - 1:Int):=by exact rfl)(hk:k < 63:=by omega)(hd:Nat.blt d N=true:=by exact rfl):AL P N ops Q s (⟨some d,.binOp .and T x y yT,ty,pos,af,none⟩::rest) e m:=by
 subst hb
 exact al_bits rfl hx hy (fun w=>mask_run n k hk P w) (.inl rfl) hd h
def bit8:BinOp->UInt8->UInt8->Option UInt8
 | .and,a,b=>some (a &&& b)
 | .or,a,b=>some (a ||| b)
 | .xor,a,b=>some (a ^^^ b)
 | _,_,_=>none
theorem bit8_run {op:BinOp}{a b c:UInt8}(h:bit8 op a b=some c)(P:Program)(w:World):(Op.intBits op .u8 a.toNat b.toNat).run P w=.ok (u8v c) w:=by
 have e1:∀ a:UInt8,BitVec.ofInt 8 (a.toNat:Int)=a.toBitVec:=fun a=>by
  apply BitVec.eq_of_toNat_eq
  rw [BitVec.ofInt_natCast,BitVec.toNat_ofNat,Nat.mod_eq_of_lt a.toNat_lt]
  rfl
 have e2:∀ c:UInt8,IntKind.u8.wrap (c.toNat:Int)=(c.toNat:Int):=fun c=>by
  have:=c.toNat_lt
  rw [IntKind.wrap_u8]
  omega
 unfold Op.intBits
 dsimp only
 rw [show BitVec.ofInt IntKind.u8.bits (a.toNat:Int)=a.toBitVec from e1 a,show BitVec.ofInt IntKind.u8.bits (b.toNat:Int)=b.toBitVec from e1 b]
 cases op <;> (first|(cases h;done)|(injection h with h;subst h;rw [u8v,<- e2];rfl))
theorem al_bit8 {op:BinOp}{T yT:TypeId}{x y:Operand}{a b c:UInt8}(h:AL P N ops Q s rest ((d,u8A c)::e) m)(hx:ev e x=some (u8A a):=by exact rfl)(hy:ev e y=some (u8A b):=by exact rfl)(hc:bit8 op a b=some c:=by exact rfl)(hd:Nat.blt d N=true:=by exact rfl):AL P N ops Q s (⟨some d,.binOp op T x y yT,ty,pos,af,none⟩::rest) e m:=
 al_bits rfl hx hy (fun w=>bit8_run hc P w) (by cases op <;> simp [bit8] at hc <;> simp) hd h
def copyB (l a:Bs):Bs:=a.take l.length++l.drop a.length
theorem copyB_len (l a:Bs):(copyB l a).length=l.length:=by
 simp only [copyB,List.length_append,List.length_take,List.length_drop]
 omega
theorem al_copyS {T E T2:TypeId}{b:Nat}[t:TyL P T E 1 b]{x y:Operand}{g n c:Nat}{T0:TypeId}{l a:Bs}{m':List Piece}(hn:n=l.length)(h:AL P N ops Q s rest ((d,int (min a.length n:Nat))::e) m')(hx:ev e x=some (.lit (.slice (some ⟨g,0,none⟩) n c)):=by exact rfl)(hy:ev e y=some (str a):=by exact rfl)
  (hu:Upd m (.var g T0 (.agg n (l.map u8A))) (.var g T0 (.agg n ((copyB l a).map u8A))) m':=by (repeat (first|apply Av.Upd.here|apply Av.Upd.there))) (hd:Nat.blt d N=true:=by exact rfl) :
  AL P N ops Q s (⟨some d,.call ⟨.builtin .copy,#[x,y],#[T,T2]⟩,ty,pos,af,none⟩::rest) e m:=by
 subst hn
 refine al_step (v:=int (min a.length l.length:Nat)) (fun ok w B hS hB=>?_) hd
 obtain⟨pre,post,rfl,rfl⟩:=hu.parts
 obtain⟨cs,hb,hg⟩:=hS.at_ (.var g T0 (.agg l.length (l.map u8A))) (by simp)
 rw [RC] at hg
 have hcs:=RCs_u8_eq hg.2
 subst hcs
 have hcl:((a.take l.length).map u8v).length=min a.length l.length:=by simp [Nat.min_comm]
 have hrun:=run_storeCells_at (P:=P) g 0 T0 ((a.take l.length).map u8v) 0 (l.map u8v).toArray w hb (by rw [hcl];simp;omega) (fun v hv=>by
  obtain⟨c,_,rfl⟩:=List.mem_map.1 hv
  rfl)
 have e7:((l.map u8v).take 0++(a.take l.length).map u8v++(l.map u8v).drop (0 + ((a.take l.length).map u8v).length))=(copyB l a).map u8v:=by
  rw [List.take_zero,List.nil_append,Nat.zero_add,hcl,copyB,List.map_append,<- List.map_drop]
  congr 2
  rcases Nat.le_total a.length l.length with h|h
  ·rw [Nat.min_eq_left h]
  ·rw [Nat.min_eq_right h,List.drop_length,List.drop_of_length_le h]
 simp only [Nat.add_zero] at hrun
 rw [show (List.take 0 (l.map u8v).toArray.toList++(a.take l.length).map u8v++List.drop (0 + ((a.take l.length).map u8v).length) (l.map u8v).toArray.toList)=(copyB l a).map u8v from e7] at hrun
 obtain⟨h1,h2⟩:=hS.writeVar (v':=.agg l.length ((copyB l a).map u8A)) (cs':=(copyB l a).map u8v) (by rw [RC];exact⟨by simp [copyB_len],RCs_u8 _⟩) (fun cs2 hb2=>by
  rw [hb] at hb2
  injection hb2 with hb2
  injection hb2 with hb2
  have:l.map u8v=cs2:=by simpa using congrArg Array.toList hb2
  rw [<- this]
  simp [copyB_len])
 refine⟨.int .i64 (min a.length l.length:Nat),_,ok,_,?_,RVl rfl,h1,h2,h⟩
 have e5:List.take (Nat.min a.length l.length) (List.map (fun b:UInt8=>Value.int .u8 (b.toNat:Int)) a)=(a.take l.length).map u8v:=by
  rw [<- List.map_take]
  show (a.take (min a.length l.length)).map u8v=_
  rw [Nat.min_comm,<- List.take_take,List.take_length]
 simp only [execOp,resolve,invoke,builtin,hB.lit hx,hB.lit hy,Builtin.copy_,List.map_toArray,List.map_cons,List.map_nil]
 simp [run_underlying t.out,Builtin.lenOf,run_sizeOf t.size,Builtin.firstCells,size_sv]
 rw [e5,hrun]
 rfl
theorem al_mask3 {T yT:TypeId}{x y:Operand}{n b:Int}(h:AL P N ops Q s rest ((d,int (n % 4))::e) m)(hx:ev e x=some (int n):=by exact rfl)(hy:ev e y=some (int b):=by exact rfl)(hb:b=3:=by exact rfl)(hd:Nat.blt d N=true:=by exact rfl):AL P N ops Q s (⟨some d,.binOp .and T x y yT,ty,pos,af,none⟩::rest) e m:=al_mask 2 h hx hy hb (by decide) hd
theorem al_mask15 {T yT:TypeId}{x y:Operand}{n b:Int}(h:AL P N ops Q s rest ((d,int (n % 16))::e) m)(hx:ev e x=some (int n):=by exact rfl)(hy:ev e y=some (int b):=by exact rfl)(hb:b=15:=by exact rfl)(hd:Nat.blt d N=true:=by exact rfl):AL P N ops Q s (⟨some d,.binOp .and T x y yT,ty,pos,af,none⟩::rest) e m:=al_mask 4 h hx hy hb (by decide) hd
theorem al_mask63 {T yT:TypeId}{x y:Operand}{n b:Int}(h:AL P N ops Q s rest ((d,int (n % 64))::e) m)(hx:ev e x=some (int n):=by exact rfl)(hy:ev e y=some (int b):=by exact rfl)(hb:b=63:=by exact rfl)(hd:Nat.blt d N=true:=by exact rfl):AL P N ops Q s (⟨some d,.binOp .and T x y yT,ty,pos,af,none⟩::rest) e m:=al_mask 6 h hx hy hb (by decide) hd
theorem al_mask127 {T yT:TypeId}{x y:Operand}{n b:Int}(h:AL P N ops Q s rest ((d,int (n % 128))::e) m)(hx:ev e x=some (int n):=by exact rfl)(hy:ev e y=some (int b):=by exact rfl)(hb:b=127:=by exact rfl)(hd:Nat.blt d N=true:=by exact rfl):AL P N ops Q s (⟨some d,.binOp .and T x y yT,ty,pos,af,none⟩::rest) e m:=al_mask 7 h hx hy hb (by decide) hd
theorem al_idxN {S E:TypeId}{k bS:Nat}[t:TyL P S E k bS]{x ix:Operand}{kd:IntKind}{j:Nat}{α:Type}{f:α->AV}{l:List α}{id:Option Value}{u:AV}(h:AL P N ops Q s rest ((d,.pd u)::e) m)(hx:ev e x=some (.sl k (l.map f) id):=by exact rfl)(hi:ev e ix=some (.lit (.int kd (j:Int))):=by exact rfl)(hlt:j < l.length:=by assumption)(hu:u=f l[j]:=by exact rfl)(hd:Nat.blt d N=true:=by exact rfl) :
  AL P N ops Q s (⟨some d,.indexAddr S x ix,ty,pos,af,none⟩::rest) e m:=by
 subst hu
 exact al_idxM j hlt h hx hi rfl hd
theorem op2 {G G':Prop}(h:G')(i:Wr G'->G:=by
 intro h
 refine kL ?_
 first
 | (refine kBin ?_;first|exact al_eqBo h.o|exact al_eqA h.o|exact al_mask1 h.o|exact al_mask3 h.o|exact al_mask15 h.o|exact al_mask31 h.o|exact al_mask63 h.o|exact al_mask127 h.o|exact al_bit8 h.o|exact al_bit8C h.o)
 | exact al_idxK h.o|exact al_idxN h.o):G:=i ⟨h⟩
theorem ob4 {G G':Prop}(h:G')(i:Wr G'->G:=by
 intro h
 refine kO ?_
 (apply obl_read [];exact rfl;exact rfl;kernel_rfl;(intro _ _;first|(refine op2 ?_;exact al_nil (ae_got rfl rfl))|(refine al_on ?_;refine op2 ?_;exact al_nil (ae_got rfl rfl)));exact h.o)):G:=i ⟨h⟩
theorem gdT {op:Op}{dst:Option Nat}{g t:Nat}{b:Bool}{p:Prop}[Decidable p](h:AL P N ops Q s (⟨dst,op,ty,pos,af,some (g,b)⟩::rest) ((t,.lit (.bool true))::e) m)(_ht:(ops[g]?).bind (·.dst)=some t:=by exact rfl)(hc:lk e t=some (.lit (.bool (decide p))):=by exact rfl)(hp:p:=by omega):AL P N ops Q s (⟨dst,op,ty,pos,af,some (g,b)⟩::rest) e m:=al_guard t (fun _=>h) (fun hn=>absurd hp hn) hc
theorem gdF {op:Op}{dst:Option Nat}{g t:Nat}{b:Bool}{p:Prop}[Decidable p](h:AL P N ops Q s (⟨dst,op,ty,pos,af,some (g,b)⟩::rest) ((t,.lit (.bool false))::e) m)(_ht:(ops[g]?).bind (·.dst)=some t:=by exact rfl)(hc:lk e t=some (.lit (.bool (decide p))):=by exact rfl)(hp:¬ p:=by omega):AL P N ops Q s (⟨dst,op,ty,pos,af,some (g,b)⟩::rest) e m:=al_guard t (fun h=>absurd h hp) (fun _=>h) hc
theorem cdT {c:Operand}{x y:Code}{p:Prop}[Decidable p](h:AC P N x Q s e m)(hc:ev e c=some (.lit (.bool (decide p))):=by exact rfl)(hp:p:=by omega):AC P N (.cond c x y) Q s e m:=ac_cond (fun _=>h) (fun hn=>absurd hp hn) hc
theorem cdF {c:Operand}{x y:Code}{p:Prop}[Decidable p](h:AC P N y Q s e m)(hc:ev e c=some (.lit (.bool (decide p))):=by exact rfl)(hp:¬ p:=by omega):AC P N (.cond c x y) Q s e m:=ac_cond (fun h=>absurd h hp) (fun _=>h) hc
theorem Va {G G':Prop}(h:G')(i:Wr G'->G:=by intro h;first|exact W h.o|exact op2 h.o|exact ob4 h.o):G:=i ⟨h⟩
theorem Za {G G':Prop}(h:G')(i:Wr G'->G:=by intro h;first|exact W h.o|exact op2 h.o|exact ob4 h.o|exact gdT h.o|exact gdF h.o|exact cdT h.o|exact cdF h.o):G:=i ⟨h⟩
theorem Vz {G G':Prop}(h:G')(i:Wr G'->G:=by intro h;first|exact Va h.o|exact ob2 h.o|(simp only [List.set];exact h.o)):G:=i ⟨h⟩
theorem Zz {G G':Prop}(h:G')(i:Wr G'->G:=by intro h;first|exact Za h.o|exact ob2 h.o|(simp only [List.set];exact h.o)):G:=i ⟨h⟩
theorem spec_mod {f:FuncId}{g:Nat}{args:List AV}{T:TypeId}{v:AV}{C:List Value}{R:AV->Prop}(hv:∀ ok w cs,RC ok w v cs->cs=C)
  (h:∀ ok w cargs,Glob gl ok w->(∀ j,¬ ok g j)->RVs ok w args cargs->w.heap[g]?=some (.cells C.toArray T (0,0))->Ret P f (.pointer (some ⟨g,0,none⟩)::cargs) w fun u w'=>u=.tuple #[]/\∃ vs v',R v'/\Mod g T vs w w'/\∀ ok w,RC ok w v' (fl vs)):Spec P gl f (ptr g::args) [.var g T v] fun u m'=>u=.tup []/\∃ v',R v'/\m'=[.var g T v']:=Spec.mk fun ok w cargs hS hr=>by
 obtain⟨u,us,rfl,h1,h2⟩:=hr
 rw [RV0.lit h1]
 obtain⟨cs,hb,hc⟩:=hS.at_ (.var g T v) (by simp)
 rw [hv _ _ _ hc] at hb
 have h3:=h ok w us hS.gl (fun j=>hS.own (.var g T v) (by simp) g j rfl) h2 hb
 unfold Ret at h3
 refine Calls.mono h3 fun x w' hx=>?_
 obtain⟨cv,rfl,rfl,vs,v',hR,hM,hrc⟩:=hx
 have hg1:=hS.lt (.var g T v) (by simp) g rfl
 have hst:Stp ok w ok w':=⟨hM.size,fun b j u h1 h2=>by
  have hne:b≠g:=by
   rintro rfl
   exact hS.own (.var b T v) (by simp) b j rfl h2
  exact⟨(cell_block (hM.keep b (cell_lt h1) hne)).trans h1,h2⟩⟩
 refine⟨.tup [],[.var g T v'],ok,_,⟨rfl,v',hR,rfl⟩,rfl,⟨[],rfl,rfl⟩,?_⟩
 refine hS.turn (m:=[.var g T v]) ⟨hM.os,hM.tape,hM.output,hst,fun b hb hp=>hM.keep b hb (fun hbg=>hp (.var g T v) (by simp) (by rw [hbg];rfl)),fun b j _ _ ho=>ho,fun b j hb=>hS.fresh b j (Nat.le_trans hM.size hb)⟩ ?_ ?_ ?_ (by simp)
 ·intro p hp
  obtain rfl:=List.mem_singleton.1 hp
  exact⟨fl vs,hM.var,hrc _ _⟩
 ·intro p hp g' hg'
  obtain rfl:=List.mem_singleton.1 hp
  exact .inr ⟨.var g T v,by simp,hg'⟩
 ·intro p hp b j hbj
  obtain rfl:=List.mem_singleton.1 hp
  exact hS.own (.var g T v) (by simp) b j hbj
theorem spec_get {f:FuncId}{g:Nat}{args:List AV}{T:TypeId}{v out:AV}{C:List Value}(hv:∀ ok w cs,RC ok w v cs->cs=C)
  (h:∀ ok w cargs,Glob gl ok w->RVs ok w args cargs->w.heap[g]?=some (.cells C.toArray T (0,0))->Ret P f (.pointer (some ⟨g,0,none⟩)::cargs) w fun u w'=>(∀ ok w,RV ok w out u)/\Ext w w'):Spec P gl f (ptr g::args) [.var g T v] fun u m'=>u=out/\m'=[.var g T v]:=Spec.mk fun ok w cargs hS hr=>by
 obtain⟨u,us,rfl,h1,h2⟩:=hr
 rw [RV0.lit h1]
 obtain⟨cs,hb,hc⟩:=hS.at_ (.var g T v) (by simp)
 rw [hv _ _ _ hc] at hb
 have h3:=h ok w us hS.gl h2 hb
 unfold Ret at h3
 refine Calls.mono h3 fun x w' hx=>?_
 obtain⟨cv,rfl,h4,h5⟩:=hx
 exact⟨out,_,ok,cv,⟨rfl,rfl⟩,rfl,h4 _ _,hS.ext h5⟩
theorem spec_new {f:FuncId}{args:List AV}{T:TypeId}{v:AV}{vs:List Value}(hv:∀ ok w,RC ok w v (fl vs))
  (h:∀ ok w cargs,Glob gl ok w->RVs ok w args cargs->Ret P f cargs w fun u w'=>∃ g,u=.pointer (some ⟨g,0,none⟩)/\New g T vs w w'):Spec P gl f args [] fun u m'=>∃ g,u=ptr g/\m'=[.var g T v]:=Spec.mk fun ok w cargs hS hr=>by
 have h3:=h ok w cargs hS.gl hr
 unfold Ret at h3
 refine Calls.mono h3 fun x w' hx=>?_
 obtain⟨cv,rfl,g,rfl,hN⟩:=hx
 obtain⟨h4,h5⟩:=St.grow (ok':=fun b j=>ok b j/\b≠g) (new:=[.var g T v]) hS hN.ext (fun b j hb=>⟨fun h=>h.1,fun h=>⟨h,by have:=hN.new;omega⟩⟩) (fun b j hb=>⟨hS.fresh b j (Nat.le_trans hN.ext.size hb),by
  rintro rfl
  have:=hN.var
  simp [Array.getElem?_eq_none hb] at this⟩) (fun p hp=>by
  obtain rfl:=List.mem_singleton.1 hp
  exact⟨fl vs,hN.var,hv _ _⟩) (fun p hp g' hg'=>by
  obtain rfl:=List.mem_singleton.1 hp
  injection hg' with hg'
  rw [<- hg']
  exact hN.new) (fun p hp b j hb ho=>by
  obtain rfl:=List.mem_singleton.1 hp
  exact ho.2 hb) (by simp)
 exact⟨ptr g,[.var g T v],_,_,⟨g,rfl,rfl⟩,rfl,RVl rfl,h4⟩
end

section
variable {P:Program} {N:Nat} {ops:Array Oper} {Q:Exit->Act->World->Prop} {rest:List Oper} {s:Base} {e:Env} {m:List Piece} {d:Nat} {ty:TypeId} {pos:String} {af:Array Edge}
theorem al_sliceA2 {T E:TypeId}{n k:Nat}[t:TyA P T n E k]{x:Operand}{xl xh:Option Operand}{il ih:Int}{g o:Nat}(lo hi:Nat)(h:AL P N ops Q s rest ((d,.lit (.slice (some ⟨g,o + lo * k,none⟩) (hi - lo) (n - lo)))::e) m)
  (hx:ev e x=some (.lit (.pointer (some ⟨g,o,none⟩))):=by exact rfl) (hl:bnd e 0 xl=some il:=by exact rfl) (hh:bnd e n xh=some ih:=by exact rfl) (h1:il=(lo:Int):=by first|exact rfl|omega) (h2:ih=(hi:Int):=by first|exact rfl|omega) (h3:lo<=hi:=by omega) (h4:hi<=n:=by omega) (h5:lo < n:=by omega) (hd:Nat.blt d N=true:=by exact rfl) :
  AL P N ops Q s (⟨some d,.slice T x xl xh none,ty,pos,af,none⟩::rest) e m:=
 al_lit rfl (fun ok w B hB=>by
  subst h1 h2
  have hb:=run_bounds (P:=P) (w:=w) (sl:=false) (bnd_spec hB hl) (bnd_spec hB hh) h3 h4
  have h6:¬ n=lo:=by omega
  simp only [execOp,hB.lit hx,Instr.sliceAt,Instr.slice,Sem.run_bind,run_underlying t.out,Result.andThen_ok,Option.map_none,run_sizeOf t.sz,Sem.run_pure]
  simp [Instr.sureAddr,hb,h6,Addr.add]) hd h
def layA (l:Bs)(o1 o2 k:Nat):Bs:=l.take o1++(l.drop o2).take k++l.drop (o1 + k)
theorem layA_len {l:Bs}{o1 o2 k:Nat}(h1:o1 + k<=l.length)(h2:o2 + k<=l.length):(layA l o1 o2 k).length=l.length:=by
 unfold layA
 simp only [List.length_append,List.length_take,List.length_drop]
 omega
theorem al_copyAA {T E T2:TypeId}{b:Nat}[t:TyL P T E 1 b]{x y:Operand}{g n o1 n1 c1 o2 n2 c2:Nat}{T0:TypeId}{l:Bs}{m':List Piece}(k:Nat)(hn:n=l.length)(h:AL P N ops Q s rest ((d,int (k:Nat))::e) m')(hx:ev e x=some (.lit (.slice (some ⟨g,o1,none⟩) n1 c1)):=by exact rfl)(hy:ev e y=some (.lit (.slice (some ⟨g,o2,none⟩) n2 c2)):=by exact rfl)
  (hk:k=min n2 n1:=by omega) (h1:o1 + k<=l.length:=by omega) (h2:o2 + k<=l.length:=by omega)
  (hu:Upd m (.var g T0 (.agg n (l.map u8A))) (.var g T0 (.agg n ((layA l o1 o2 k).map u8A))) m':=by (repeat (first|apply Av.Upd.here|apply Av.Upd.there))) (hd:Nat.blt d N=true:=by exact rfl) :
  AL P N ops Q s (⟨some d,.call ⟨.builtin .copy,#[x,y],#[T,T2]⟩,ty,pos,af,none⟩::rest) e m:=by
 subst hn
 refine al_step (v:=int (k:Nat)) (fun ok w B hS hB=>?_) hd
 obtain⟨pre,post,rfl,rfl⟩:=hu.parts
 obtain⟨cs,hb,hg⟩:=hS.at_ (.var g T0 (.agg l.length (l.map u8A))) (by simp)
 rw [RC] at hg
 have hcs:=RCs_u8_eq hg.2
 subst hcs
 have hcl:(((l.drop o2).take k).map u8v).length=k:=by
  rw [llm,List.length_take,List.length_drop]
  omega
 have hload:=run_loadCells_list (P:=P) w ⟨g,o2,none⟩ (((l.drop o2).take k).map u8v) (fun j v hj=>by
  rw [add_mid,cell_of_row _ _ _ _ _ _ hb]
  have hjk:j < k:=by
   have:=(List.getElem?_eq_some_iff.1 hj).1
   rw [hcl] at this
   exact this
  rw [List.getElem?_map,List.getElem?_take_of_lt hjk,List.getElem?_drop] at hj
  simpa using hj)
 rw [hcl] at hload
 have hrun:=run_storeCells_at (P:=P) g o1 T0 (((l.drop o2).take k).map u8v) 0 (l.map u8v).toArray w hb (by rw [hcl];simp;omega) (fun v hv=>by
  obtain⟨c,_,rfl⟩:=List.mem_map.1 hv
  rfl)
 have e7:((l.map u8v).take o1++((l.drop o2).take k).map u8v++(l.map u8v).drop (o1 + (((l.drop o2).take k).map u8v).length))=(layA l o1 o2 k).map u8v:=by
  rw [hcl]
  simp only [layA,List.map_append,List.map_take,List.map_drop]
 simp only [Nat.add_zero] at hrun
 rw [show (List.take o1 (l.map u8v).toArray.toList++((l.drop o2).take k).map u8v++List.drop (o1 + (((l.drop o2).take k).map u8v).length) (l.map u8v).toArray.toList)=(layA l o1 o2 k).map u8v from e7] at hrun
 obtain⟨f1,f2⟩:=hS.writeVar (v':=.agg l.length ((layA l o1 o2 k).map u8A)) (cs':=(layA l o1 o2 k).map u8v) (by rw [RC];exact⟨by simp [layA_len h1 h2],RCs_u8 _⟩) (fun cs2 hb2=>by
  rw [hb] at hb2
  injection hb2 with hb2
  injection hb2 with hb2
  have:l.map u8v=cs2:=by simpa using congrArg Array.toList hb2
  rw [<- this]
  simp [layA_len h1 h2])
 refine⟨.int .i64 (k:Nat),_,ok,_,?_,RVl rfl,f1,f2,h⟩
 have hk':Nat.min n2 n1=k:=hk.symm
 simp only [execOp,resolve,invoke,builtin,hB.lit hx,hB.lit hy,Builtin.copy_,List.map_toArray,List.map_cons,List.map_nil]
 simp [run_underlying t.out,Builtin.lenOf,run_sizeOf t.size,Builtin.firstCells,hk',hload]
 rw [<- List.map_drop,<- List.map_take,hrun]
 rfl
end
end Av
