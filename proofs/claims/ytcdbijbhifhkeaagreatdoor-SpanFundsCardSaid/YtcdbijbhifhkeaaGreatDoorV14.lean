/- . -/
import Derived.Test.YtcdbijbhifhkeaaGreatDoorV13
namespace Av
open Go Go.RowKit Tw
section
variable {xs:List AV}{x y:Operand}{k:Nat}{E T yT:TypeId}
class ImpT (a:AV)(b:AV):Prop where
 imp:ImpC a b
class ImpTs (aS bs:List AV):Prop where
 imp:∀ ok w cs,RCs ok w aS cs->RCs ok w bs cs
instance (priority:=low){a:AV}:ImpT a a:=⟨λ_ _ _ h=>h⟩
instance {k:Nat}:ImpT (.lit (.slice none 0 0)) (.sl k [] none):=⟨ImpC.nil⟩
instance {k:Nat}{xs:List AV}{id:Option Value}:ImpT (.sl k xs id) (.sl k xs none):=⟨λ_ _ cs h=>by
 rw[RC] at h ⊢;obtain⟨A,c,h1,_,h3⟩:=h;exact⟨A,c,h1,sm,h3⟩⟩
instance {n:Nat}{aS bs:List AV}[h:ImpTs aS bs]:ImpT (.agg n aS) (.agg n bs):=⟨λ_ _ cs hc=>by
 rw[RC] at hc ⊢;exact⟨hc.1,h.imp _ _ _ hc.2⟩⟩
instance : ImpTs [] [] := ⟨λ_ _ _ h => h⟩
instance {a b:AV}{aS bs:List AV}[h:ImpT a b][g:ImpTs aS bs]:ImpTs (a::aS) (b::bs):=⟨λ_ _ cs hc=>by
 rw[RCs] at hc ⊢;obtain⟨c1,c2,e,h1,h2⟩:=hc;exact⟨c1,c2,e,h.imp _ _ _ h1,g.imp _ _ _ h2⟩⟩
class SameAg (a b:AV):Prop where
 out:a.isAgg=b.isAgg
instance {n m:Nat}{aS bs:List AV}:SameAg (.agg n aS) (.agg m bs):=⟨rfl⟩
instance {v:Value}{k:Nat}{xs:List AV}{id:Option Value}:SameAg (.lit v) (.sl k xs id):=⟨rfl⟩
instance {k l:Nat}{xs ys:List AV}{id id':Option Value}:SameAg (.sl k xs id) (.sl l ys id'):=⟨rfl⟩
instance (priority:=low){a:AV}:SameAg a a:=⟨rfl⟩
theorem RV0.impT {ok:Ok}{w:World}{a b:AV}{v:Value}(h:ImpT a b)(g:SameAg a b)(hv:RV0 ok w a v):RV0 ok w b v:=⟨h.imp _ _ _ hv.1,g.out ▸ hv.2⟩
class ImpRs (aS bs:List AV):Prop where
 imp:∀ ok w vs,RVs ok w aS vs->RVs ok w bs vs
instance : ImpRs [] [] := ⟨λ_ _ _ h => h⟩
instance {a b:AV}{aS bs:List AV}[h:ImpT a b][g:SameAg a b][k:ImpRs aS bs]:ImpRs (a::aS) (b::bs):=⟨λok w vs hv=>by
 obtain⟨u,us,e,h1,h2⟩:=hv;exact⟨u,us,e,h1.impT h g,k.imp _ _ _ h2⟩⟩
class ImpR (a b:AV):Prop where
 imp:Imp a b
instance (priority:=low){a:AV}:ImpR a a:=⟨λ_ _ _ h=>h⟩
instance {aS bs:List AV}[h:ImpRs aS bs]:ImpR (.tup aS) (.tup bs):=⟨λok w v hv=>by
 obtain⟨vs,e,h1⟩:=hv;exact⟨vs,e,h.imp _ _ _ h1⟩⟩
instance {n m:Nat}{aS bs:List AV}[h:ImpT (.agg n aS) (.agg m bs)]:ImpR (.agg n aS) (.agg m bs):=⟨λ_ _ _ hv=>RV0.impT h ⟨rfl⟩ hv⟩
instance {k:Nat}:ImpR (.lit (.slice none 0 0)) (.sl k [] none):=⟨Imp.nilN⟩
instance {k:Nat}{xs:List AV}{id:Option Value}:ImpR (.sl k xs id) (.sl k xs none):=⟨Imp.sl⟩
section
variable {P:Program} {N:Nat} {ops:Array Oper} {Q:Exit->Act->World->Prop} {rest:List Oper} {s:Base} {e:Env} {m:List Piece} {d:Nat} {ty:TypeId} {pos:String} {af:Array Edge} {gl:List (Nat × AV)}
theorem P8 {fn:Func}{out:AV}{rs:List ResultVar}{vs:List AV}(h:Imp (L6 vs) out)(hr:fn.results=rs.toArray:=by exact rfl)(hh:Ress P N s e m rs vs:=by
  repeat (first|exact Av.xQ|(apply Av.CU;(first|(apply Av.CV;exact rfl;exact rfl)|(apply Av.RH;exact rfl;(repeat (first|exact Av.Has.here|apply Av.Has.there));exact rfl))))):AE N .ret (bodyPost P fn (Back s λv m'=>v=out/\m'=[])) s e m:=AE.mk λok w a hS ha=>by
 have h1:=(IK (K:=λv m'=>v=L6 vs/\m'=[]) (m:=m) hr hh (.inl rfl) ⟨rfl,rfl⟩ (List.nil_sublist _)).run ok w a hS ha;obtain⟨d,cv,r,v,m'',ok',cv',⟨rfl,rfl⟩,e1,hv,hS'⟩:=h1;exact⟨d,cv,r,out,[],ok',cv',⟨rfl,rfl⟩,e1,h _ _ _ hv,hS'⟩
theorem a2w {f:FuncId}{aS bs:List AV}{m:List Piece}{K:AV->List Piece->Prop}(h:Spec P gl f bs m K)(hi:ImpRs aS bs:=by infer_instance):Spec P gl f aS m K:=Spec.mk λok w c hS hv=>h.run ok w c hS (hi.imp _ _ _ hv)
theorem b3f {f:FuncId}[hf:FnB P f]{xs:List Operand}{ts:Array TypeId}{args:List AV}(args':List AV){pre:Prop}{out:AV}(h:AL P N ops Q s rest ((d,out)::e) m)(hx:evs e xs=some args:=by exact rfl)(hi:ImpRs args args':=by infer_instance)(hg:s.gl=gl:=by assumption)(hc:Ans P gl f args' pre out:=by infer_instance)
  (hp:pre:=by first|exact True.intro|assumption|omega|(simp only[List.length_take,List.length_drop];omega)|(simp only[true_and,and_true];omega)) (hn:args.all U8=true:=by exact rfl) (hd:Nat.blt d N=true:=by exact rfl):AL P N ops Q s (⟨some d,.call ⟨.value (.func f),xs.toArray,ts⟩,ty,pos,af,none⟩::rest) e m:=
 J6 (K:=λv m'=>v=out/\m'=[]) [] m (by rw[hg];exact a2w (hc.spec hp) hi) (λv m1' hh=>by obtain⟨h1,h2⟩:=hh;subst h1 h2;exact h) lpr hx hn hd
theorem b2N {S:TypeId}{bS:Nat}[t:TyL P S E k bS]{ix:Operand}{kd:IntKind}{i:Int}{id:Option Value}{u:AV}(h:AL P N ops Q s rest ((d,.pd u)::e) m)(hx:ev e x=some (.sl k xs id):=by exact rfl)(hi:ev e ix=some (.lit (.int kd i)):=by exact rfl)(hj:i=Int.ofNat i.toNat:=by exact rfl)(hu:xs[i.toNat]?=some u:=by exact rfl)(hd:Nat.blt d N=true:=by exact rfl) :
  AL P N ops Q s (⟨some d,.indexAddr S x ix,ty,pos,af,none⟩::rest) e m:=a0z i.toNat h hx hi hj hu hd
theorem PS {c c2:Code}{Q1:Exit->Act->World->Prop}{α:Type}(I:α->Env)(M:α->List Piece)(h1:AC P N c (Exit.then (λa w=>∃ z ok,Sat N ok w (I z) a/\St s ok (M z) w) Q) s e m)(h2:∀ z,AC P N c2 Q1 s (I z) (M z)):AC P N c (Exit.then (λa w=>c2.wp P Q1 a w) Q) s e m:=AC.mk λok w a hS ha=>
 wp_mono (h1.run ok w a hS ha) λx a' w' hx=>by cases x <;> first|(obtain⟨z,ok',g1,g2⟩:=hx;exact(h2 z).run _ _ _ g2 g1)|exact hx
theorem Dr {a b:Bool}(h:a=true↔b=true):d9 a=d9 b:=by rw[Bool.eq_iff_iff.2 h]
theorem d0N {l:List Oper}{id:Option Value}(t:Nat)(h:xs.length<=maxLen->AL P N ops Q s l e m)(hv:lk e t=some (.sl k xs id):=by exact rfl):AL P N ops Q s l e m:=AL.mk λok w a hS ha=>by
 obtain⟨A,c,_,_,h1,h2,_⟩:=qY (ha.env t _ hv);exact(h om).run ok w a hS ha
theorem IP {c:Code}{id:Option Value}(t:Nat)(h:xs.length<=maxLen->AC P N c Q s e m)(hv:lk e t=some (.sl k xs id):=by exact rfl):AC P N c Q s e m:=AC.mk λok w a hS ha=>by
 obtain⟨A,c,_,_,h1,h2,_⟩:=qY (ha.env t _ hv);exact(h om).run ok w a hS ha
theorem Zj {ok:Ok}{w:World}{k:Nat}{xs:List AV}{id:Option Value}:∀ {ps:List AV} {cs:List Value} {i:Nat},RCs ok w ps cs->ps[i]?=some (.sl k xs id)->xs.length<=maxLen
 | [],cs,i,_,h=>by simp at h
 | p::ps,cs,0,hc,h=>by
  rw[RCs] at hc;obtain⟨c1,c2,rfl,h1,h2⟩:=hc;simp at h;subst h;rw[RC] at h1;obtain⟨A,c,_,_,g1,g2,_⟩:=h1;omega
 | p::ps,cs,i+1,hc,h=>by
  rw[RCs] at hc;obtain⟨c1,c2,rfl,h1,h2⟩:=hc;exact Zj (i:=i) h2 (by simpa using h)
theorem Fs {c:Code}{n:Nat}{ps:List AV}{id:Option Value}(t i:Nat)(h:xs.length<=maxLen->AC P N c Q s e m)(hv:lk e t=some (.agg n ps):=by exact rfl)(hp:ps[i]?=some (.sl k xs id):=by exact rfl):AC P N c Q s e m:=AC.mk λok w a hS ha=>by
 obtain⟨cs,_,h1⟩:=LV (ha.env t _ hv);rw[RC] at h1;exact(h (Zj h1.2 hp)).run ok w a hS ha
theorem BF {n:Nat}(h:n<=maxLen):n<=9223372036854775807:=Nat.le_trans h dc
theorem a6e (a:BitVec 64)(k:Nat)(hk:k<63):(a &&& BitVec.ofInt 64 ((2 ^ k:Nat)-1:Int)).toNat=a.toNat%2 ^ k:=by
 have h1:(BitVec.ofInt 64 ((2 ^ k:Nat)-1:Int)).toNat=2 ^ k-1:=by
  have h2:((2 ^ k:Nat)-1:Int)=((2 ^ k-1:Nat):Int):=by
   have:=Nat.one_le_two_pow (n:=k);omega
  rw[h2,BitVec.ofInt_natCast,BitVec.toNat_ofNat,Nat.mod_eq_of_lt];have:2 ^ k<=2 ^ 64:=Nat.pow_le_pow_right om om;have:=Nat.one_le_two_pow (n:=k);omega
 rw[BitVec.toNat_and,h1,Nat.and_two_pow_sub_one_eq_mod]
theorem a6d (n:Int)(k:Nat)(hk:k<63)(P:Program)(w:World):(Op.intBits .and .i64 n ((2 ^ k:Nat)-1:Int)).run P w=.ok (.int .i64 (n%(2 ^ k:Nat))) w:=by
 have hp:(2:Nat) ^ k<2 ^ 63:=Nat.pow_lt_pow_right om hk;have h0:0<2 ^ k:=Nat.two_pow_pos k;show Result.ok (Value.int .i64 (IntKind.i64.wrap ((BitVec.ofInt 64 n &&& BitVec.ofInt 64 ((2 ^ k:Nat)-1:Int)).toNat:Int))) w=_;rw[a6e _ _ hk,BitVec.toNat_ofInt];have h2:(((n%((2 ^ 64:Nat):Int)).toNat%2 ^ k:Nat):Int)=n%((2 ^ k:Nat):Int):=by
  rw[Int.natCast_emod,Int.toNat_of_nonneg (Int.emod_nonneg _ dc)];refine Int.emod_emod_of_dvd n ?_;exact Int.natCast_dvd_natCast.2 (Nat.pow_dvd_pow 2 om)
 rw[h2];have h3:=Int.emod_nonneg n (b:=((2 ^ k:Nat):Int)) om;have h4:=Int.emod_lt_of_pos n (b:=((2 ^ k:Nat):Int)) om;rw[PX om om]
theorem Ep {n b:Int}(k:Nat)(h:AL P N ops Q s rest ((d,int (n%(2 ^ k:Nat)))::e) m)(hx:ev e x=some (int n):=by exact rfl)(hy:ev e y=some (int b):=by exact rfl)(hb:b=((2 ^ k:Nat)-1:Int):=by exact rfl)(hk:k<63:=by omega)(hd:Nat.blt d N=true:=by exact rfl):AL P N ops Q s (⟨some d,.binOp .and T x y yT,ty,pos,af,none⟩::rest) e m:=by
 subst hb;exact LU rfl hx hy (λw=>a6d n k hk P w) (.inl rfl) hd h
def Dw:BinOp->UInt8->UInt8->Option UInt8
 | .and,a,b=>some (a &&& b)
 | .or,a,b=>some (a ||| b)
 | .xor,a,b=>some (a ^^^ b)
 | _,_,_=>none
theorem b1l {op:BinOp}{a b c:UInt8}(h:Dw op a b=some c)(P:Program)(w:World):(Op.intBits op .u8 a.toNat b.toNat).run P w=.ok (y8 c) w:=by
 have e1:∀ a:UInt8,BitVec.ofInt 8 (a.toNat:Int)=a.toBitVec:=λa=>by
  apply BitVec.eq_of_toNat_eq;rw[BitVec.ofInt_natCast,BitVec.toNat_ofNat,Nat.mod_eq_of_lt a.toNat_lt];rfl
 have e2:∀ c:UInt8,IntKind.u8.wrap (c.toNat:Int)=(c.toNat:Int):=λc=>by
  have:=c.toNat_lt;rw[IntKind.wrap_u8];omega
 unfold Op.intBits;dsimp only;rw[show BitVec.ofInt IntKind.u8.bits (a.toNat:Int)=a.toBitVec from e1 a,show BitVec.ofInt IntKind.u8.bits (b.toNat:Int)=b.toBitVec from e1 b];cases op <;> (first|(cases h;done)|(injection h with h;subst h;rw[y8,<- e2];rfl))
theorem b3l {op:BinOp}{a b c:UInt8}(h:AL P N ops Q s rest ((d,I5 c)::e) m)(hx:ev e x=some (I5 a):=by exact rfl)(hy:ev e y=some (I5 b):=by exact rfl)(hc:Dw op a b=some c:=by exact rfl)(hd:Nat.blt d N=true:=by exact rfl):AL P N ops Q s (⟨some d,.binOp op T x y yT,ty,pos,af,none⟩::rest) e m:=
 LU rfl hx hy (λw=>b1l hc P w) (by cases op <;> simp[Dw] at hc <;> simp) hd h
def vE (l a:Bs):Bs:=a.take l.length++l.drop a.length
theorem Cr (l a:Bs):(vE l a).length=l.length:=by
 simp only[vE,List.length_append,List.length_take,List.length_drop];omega
theorem VH {T2:TypeId}{b:Nat}[t:TyL P T E 1 b]{g n c:Nat}{T0:TypeId}{l a:Bs}{m':List Piece}(hn:n=l.length)(h:AL P N ops Q s rest ((d,int (min a.length n:Nat))::e) m')(hx:ev e x=some (.lit (.slice (some ⟨g,0,none⟩) n c)):=by exact rfl)(hy:ev e y=some (str a):=by exact rfl)
  (hu:Upd m (.var g T0 (.agg n (l.map I5))) (.var g T0 (.agg n ((vE l a).map I5))) m':=by (repeat (first|apply Av.Upd.here|apply Av.Upd.there))) (hd:Nat.blt d N=true:=by exact rfl) :
  AL P N ops Q s (⟨some d,.call ⟨.builtin .copy,#[x,y],#[T,T2]⟩,ty,pos,af,none⟩::rest) e m:=by
 subst hn;refine zQ (v:=int (min a.length l.length:Nat)) (λok w B hS hB=>?_) hd;obtain⟨pre,post,rfl,rfl⟩:=hu.parts;obtain⟨cs,hb,hg⟩:=hS.at_ (.var g T0 (.agg l.length (l.map I5))) sm;rw[RC] at hg;have hcs:=RCs_u8_eq hg.2;subst hcs;have hcl:((a.take l.length).map y8).length=min a.length l.length:=by simp[Nat.min_comm]
 have hrun:=run_storeCells_at (P:=P) g 0 T0 ((a.take l.length).map y8) 0 (l.map y8).toArray w hb (by rw[hcl];simp;omega) (λv hv=>by
  obtain⟨c,_,rfl⟩:=List.mem_map.1 hv;rfl)
 have e7:((l.map y8).take 0++(a.take l.length).map y8++(l.map y8).drop (0+((a.take l.length).map y8).length))=(vE l a).map y8:=by
  rw[List.take_zero,List.nil_append,Nat.zero_add,hcl,vE,List.map_append,<- List.map_drop];congr 2
  rcases Nat.le_total a.length l.length with h|h
  ·rw[Nat.min_eq_left h]
  rw[Nat.min_eq_right h,List.drop_length,List.drop_of_length_le h]
 simp only[Nat.add_zero] at hrun;rw[show (List.take 0 (l.map y8).toArray.toList++(a.take l.length).map y8++List.drop (0+((a.take l.length).map y8).length) (l.map y8).toArray.toList)=(vE l a).map y8 from e7] at hrun;obtain⟨h1,h2⟩:=hS.writeVar (v':=.agg l.length ((vE l a).map I5)) (cs':=(vE l a).map y8) (by rw[RC];exact⟨by simp[Cr],RCs_u8 _⟩) (λcs2 hb2=>by
  rw[hb] at hb2;injection hb2 with hb2
  injection hb2 with hb2
  have:l.map y8=cs2:=by simpa using congrArg Array.toList hb2
  rw[<- this];simp[Cr])
 refine⟨.int .i64 (min a.length l.length:Nat),_,ok,_,?_,RVl rfl,h1,h2,h⟩;have e5:List.take (Nat.min a.length l.length) (List.map (λb:UInt8=>Value.int .u8 (b.toNat:Int)) a)=(a.take l.length).map y8:=by
  rw[<- List.map_take];show (a.take (min a.length l.length)).map y8=_;rw[Nat.min_comm,<- List.take_take,List.take_length]
 simp only[execOp,resolve,invoke,builtin,hB.lit hx,hB.lit hy,Builtin.copy_,List.map_toArray,List.map_cons,List.map_nil];simp[run_underlying t.out,Builtin.lenOf,run_sizeOf t.size,Builtin.firstCells,yQ];rw[e5,hrun];rfl
theorem b2z {n b:Int}(h:AL P N ops Q s rest ((d,int (n%2))::e) m)(hx:ev e x=some (int n):=by exact rfl)(hy:ev e y=some (int b):=by exact rfl)(hb:b=1:=by exact rfl)(hd:Nat.blt d N=true:=by exact rfl):AL P N ops Q s (⟨some d,.binOp .and T x y yT,ty,pos,af,none⟩::rest) e m:=Ep 1 h hx hy hb dc hd
theorem b2M {S:TypeId}{bS:Nat}[t:TyL P S E k bS]{ix:Operand}{kd:IntKind}{j:Nat}{α:Type}{f:α->AV}{l:List α}{id:Option Value}{u:AV}(h:AL P N ops Q s rest ((d,.pd u)::e) m)(hx:ev e x=some (.sl k (l.map f) id):=by exact rfl)(hi:ev e ix=some (.lit (.int kd (j:Int))):=by exact rfl)(hlt:j<l.length:=by assumption)(hu:u=f l[j]:=by exact rfl)(hd:Nat.blt d N=true:=by exact rfl) :
  AL P N ops Q s (⟨some d,.indexAddr S x ix,ty,pos,af,none⟩::rest) e m:=by
 subst hu;exact sJ j hlt h hx hi rfl hd
theorem L8 {G G':Prop}(h:G')(i:Wr G'->G:=by
 intro h;refine kL ?_;first
 | (refine Ao ?_;first|exact a0B h.o|exact a0C h.o|exact b2z h.o|exact al_mask3 h.o|exact al_mask15 h.o|exact al_mask31 h.o|exact al_mask63 h.o|exact al_mask127 h.o|exact b3l h.o|exact al_bit8C h.o)
 | exact b2N h.o|exact b2M h.o):G:=i ⟨h⟩
theorem qH {G G':Prop}(h:G')(i:Wr G'->G:=by
 intro h;refine kO ?_
 (apply zd [];exact zg;(intro _ _;first|(refine L8 ?_;exact j5 (A7 rfl rfl))|(refine D5 ?_;refine L8 ?_;exact j5 (A7 rfl rfl)));exact h.o)):G:=i ⟨h⟩
theorem KI {op:Op}{dst:Option Nat}{g t:Nat}{b:Bool}{p:Prop}[Decidable p](h:AL P N ops Q s (⟨dst,op,ty,pos,af,some (g,b)⟩::rest) ((t,.lit (.bool true))::e) m)(_ht:(ops[g]?).bind (·.dst)=some t:=by exact rfl)(hc:lk e t=some (.lit (.bool (decide p))):=by exact rfl)(hp:p:=by omega):AL P N ops Q s (⟨dst,op,ty,pos,af,some (g,b)⟩::rest) e m:=Er t (λ_=>h) (λhn=>absurd hp hn) hc
theorem KJ {op:Op}{dst:Option Nat}{g t:Nat}{b:Bool}{p:Prop}[Decidable p](h:AL P N ops Q s (⟨dst,op,ty,pos,af,some (g,b)⟩::rest) ((t,.lit (.bool false))::e) m)(_ht:(ops[g]?).bind (·.dst)=some t:=by exact rfl)(hc:lk e t=some (.lit (.bool (decide p))):=by exact rfl)(hp:¬ p:=by omega):AL P N ops Q s (⟨dst,op,ty,pos,af,some (g,b)⟩::rest) e m:=Er t (λh=>absurd h hp) (λ_=>h) hc
theorem zO {c:Operand}{x y:Code}{p:Prop}[Decidable p](h:AC P N x Q s e m)(hc:ev e c=some (.lit (.bool (decide p))):=by exact rfl)(hp:p:=by omega):AC P N (.cond c x y) Q s e m:=G7 (λ_=>h) (λhn=>absurd hp hn) hc
theorem EN {c:Operand}{x y:Code}{p:Prop}[Decidable p](h:AC P N y Q s e m)(hc:ev e c=some (.lit (.bool (decide p))):=by exact rfl)(hp:¬ p:=by omega):AC P N (.cond c x y) Q s e m:=G7 (λh=>absurd h hp) (λ_=>h) hc
theorem Va {G G':Prop}(h:G')(i:Wr G'->G:=by intro h;first|exact W h.o|exact L8 h.o|exact qH h.o):G:=i ⟨h⟩
theorem Za {G G':Prop}(h:G')(i:Wr G'->G:=by intro h;first|exact W h.o|exact L8 h.o|exact qH h.o|exact KI h.o|exact KJ h.o|exact zO h.o|exact EN h.o):G:=i ⟨h⟩
theorem Vz {G G':Prop}(h:G')(i:Wr G'->G:=by intro h;first|exact Va h.o|exact p9 h.o|(simp only[List.set];exact h.o)):G:=i ⟨h⟩
theorem O {G G':Prop}(h:G')(i:Wr G'->G:=by intro h;first|exact Za h.o|exact p9 h.o|(simp only[List.set];exact h.o)):G:=i ⟨h⟩
end
theorem o8 {G:Prop} (i:G:=by (repeat' first|refine O ?_|intro);exact x9 rfl):G:=i
theorem M7 {G:Prop} (i:G:=by (repeat' first|refine Vz ?_|intro);exact x9 rfl):G:=i
end

def yU (ord:List Nat)(o:Oper):Oper:={ o with after:=o.after.map (λe=>{ e with on:=ord.idxOf e.on }),guard:=o.guard.map λg=>(ord.idxOf g.1,g.2) }
def nJ (ord:List Nat)(l:List Oper):List Oper:=ord.map λi=>yU ord (l.getD i default)
def YM (ord:List Nat)(l:List Oper):Bool:=Nat.beq ord.length l.length&&(List.range l.length).all (λi=>Nat.blt (ord.idxOf i) l.length&&Nat.beq (ord.idxOf (ord.getD i 0)) i&&Nat.blt (ord.getD i 0) l.length&&Nat.beq (ord.getD (ord.idxOf i) 0) i) &&
 l.all λo=>o.after.toList.all (λe=>Nat.blt e.on l.length)&&(match o.guard with|some g=>Nat.blt g.1 l.length|none=>true)
structure Perm (ord:List Nat)(l:List Oper):Prop where
 len:ord.length=l.length
 lt:∀ i,i<l.length->ord.idxOf i<l.length
 back:∀ i,i<l.length->ord.getD (ord.idxOf i) 0=i
 olt:∀ j,j<l.length->ord.getD j 0<l.length
 forth:∀ j,j<l.length->ord.idxOf (ord.getD j 0)=j
 edge:∀ o∈l,∀ e∈o.after.toList,e.on<l.length
 gd:∀ o∈l,∀ g,o.guard=some g->g.1<l.length
theorem Perm.of {ord:List Nat}{l:List Oper}(h:YM ord l=true):Perm ord l:=by
 unfold YM at h;simp only[Bool.and_eq_true] at h;obtain⟨⟨h1,h2⟩,h3⟩:=h;have h2':∀ i,i<l.length->((Nat.blt (ord.idxOf i) l.length=true/\Nat.beq (ord.idxOf (ord.getD i 0)) i=true)/\Nat.blt (ord.getD i 0) l.length=true)/\Nat.beq (ord.getD (ord.idxOf i) 0) i=true:=λi hi=>by
  have:=List.all_eq_true.1 h2 i (List.mem_range.2 hi);simpa only [Bool.and_eq_true] using this
 have h3':∀ o∈l,o.after.toList.all (λe=>Nat.blt e.on l.length)=true/\(match o.guard with|some g=>Nat.blt g.1 l.length|none=>true)=true:=λo ho=>by
  have:=List.all_eq_true.1 h3 o ho;simpa only [Bool.and_eq_true] using this
 refine⟨Nat.eq_of_beq_eq_true h1,λi hi=>by simpa[Nat.blt_eq] using (h2' i hi).1.1.1,λi hi=>Nat.eq_of_beq_eq_true (h2' i hi).2,λi hi=>by simpa[Nat.blt_eq] using (h2' i hi).1.2,λi hi=>Nat.eq_of_beq_eq_true (h2' i hi).1.1.2,λo ho e he=>?_,λo ho g hg=>?_⟩
 ·simpa[Nat.blt_eq] using List.all_eq_true.1 (h3' o ho).1 e he
 have:=(h3' o ho).2;rw[hg] at this;simpa[Nat.blt_eq] using this
variable {P:Program} {N:Nat} {Q:Exit->Act->World->Prop} {ord:List Nat} {l:List Oper}
theorem Perm.at_ (h:Perm ord l){j:Nat}(hj:j<l.length):(nJ ord l)[j]?=some (yU ord (l[ord.getD j 0]'(h.olt j hj))):=by
 have hj2:j<ord.length:=by rw[h.len];exact hj
 have hg:ord.getD j 0=ord[j]:=by simp[List.getD,hj2]
 have hlt:=h.olt j hj;unfold nJ;rw[List.getElem?_map,List.getElem?_eq_getElem hj2,Option.map_some];simp only[hg];rw[hg] at hlt;simp[List.getD,hlt]
theorem Perm.length (h:Perm ord l):(nJ ord l).length=l.length:=by simp[nJ,h.len]
theorem NI {ops:List Oper}{listed:Array Bool}{i:Nat}:i∈Region.ready .any ops.toArray listed↔∃ h:i<ops.length,listed.getD i true=false/\∀ e∈ops[i].after.toList,(Region.binds .any e=false\/listed.getD e.on false=true):=by
 unfold Region.ready;rw[List.mem_filter,List.mem_range]
 constructor
 ·rintro⟨h1,h2⟩;have h1':i<ops.length:=by simpa using h1
  refine⟨h1',?_⟩;simp only[List.getElem?_toArray,List.getElem?_eq_getElem h1',Option.map_some,Option.getD_some,Bool.and_eq_true,Bool.not_eq_true'] at h2;refine⟨h2.1,λe he=>?_⟩;have h3:=h2.2;rw[<- Array.all_toList] at h3;have:=List.all_eq_true.1 h3 e he;simpa[Bool.or_eq_true] using this
 rintro⟨h1,h2,h3⟩;refine⟨by simpa using h1,?_⟩;simp only[List.getElem?_toArray,List.getElem?_eq_getElem h1,Option.map_some,Option.getD_some,Bool.and_eq_true,Bool.not_eq_true'];refine⟨h2,?_⟩;rw[<- Array.all_toList];refine List.all_eq_true.2 λe he=>?_;have:=h3 e he;simpa[Bool.or_eq_true] using this
structure Same (ord:List Nat)(n:Nat)(L L':Array Bool):Prop where
 s:L.size=n
 s':L'.size=n
 at_:∀ i,i<n->L'.getD (ord.idxOf i) true=L.getD i true
theorem Sd {L:Array Bool}{i:Nat}(h:i<L.size)(a b:Bool):L.getD i a=L.getD i b:=by simp[Array.getD,h]
theorem Perm.ready (h:Perm ord l){L L':Array Bool}(hs:Same ord l.length L L'){i:Nat}(hi:i<l.length):i∈Region.ready .any l.toArray L↔ord.idxOf i∈Region.ready .any (nJ ord l).toArray L':=by
 have hp:=h.at_ (h.lt i hi);have hb:=h.back i hi;have hlt':ord.idxOf i<(nJ ord l).length:=by rw[h.length];exact h.lt i hi
 have he:(nJ ord l)[ord.idxOf i]=yU ord l[i]:=by
  rw[List.getElem?_eq_getElem hlt'] at hp;injection hp with hp
  rw[hp];simp only[hb]
 rw[NI,NI];have hm:l[i]∈l:=List.getElem_mem hi;have hon:∀ e∈l[i].after.toList,L'.getD (ord.idxOf e.on) false=L.getD e.on false:=λe h2=>by
  have h3:=h.edge _ hm e h2;have:=hs.at_ e.on h3
  rwa [Sd (by rw[hs.s'];exact h.lt _ h3) true false,Sd (by rw[hs.s];exact h3) true false] at this
 have haft:((yU ord l[i]).after).toList=l[i].after.toList.map λe=>{ e with on:=ord.idxOf e.on }:=by simp[yU]
 constructor
 ·rintro⟨_,h1,h2⟩;refine⟨hlt',(hs.at_ i hi).trans h1,λe' he'=>?_⟩;rw[he,haft] at he';obtain⟨e,hm2,rfl⟩:=List.mem_map.1 he';rcases h2 e hm2 with h3|h3
  ·exact .inl h3
  exact .inr ((hon e hm2).trans h3)
 rintro⟨_,h1,h2⟩;refine⟨hi,(hs.at_ i hi).symm.trans h1,λe hm2=>?_⟩;have h4:({ e with on:=ord.idxOf e.on }:Edge)∈(nJ ord l)[ord.idxOf i].after.toList:=by
  rw[he,haft];exact List.mem_map.2 ⟨e,hm2,rfl⟩
 rcases h2 _ h4 with h3|h3
 ·exact .inl h3
 exact .inr ((hon e hm2).symm.trans h3)
theorem Perm.yielded (h:Perm ord l){g:Nat}(hg:g<l.length)(t:Array Value):yielded (nJ ord l).toArray t (ord.idxOf g)=Go.yielded l.toArray t g:=by
 unfold Go.yielded;have e1:(nJ ord l).toArray[ord.idxOf g]?=some (yU ord l[g]):=by
  rw[List.getElem?_toArray,h.at_ (h.lt g hg)];simp only[h.back g hg]
 have e2:l.toArray[g]?=some l[g]:=by rw[List.getElem?_toArray,List.getElem?_eq_getElem hg]
 rw[e1,e2];rfl
theorem Perm.wpOp (h:Perm ord l){i:Nat}(hi:i<l.length){K K':Act->World->Prop}(hk:∀ a w,K' a w->K a w){a:Act}{w:World}(hw:wpOp P (nJ ord l).toArray Q (ord.idxOf i) K' a w):Go.wpOp P l.toArray Q i K a w:=by
 unfold Go.wpOp at hw ⊢;have e1:(nJ ord l).toArray[ord.idxOf i]?=some (yU ord l[i]):=by
  rw[List.getElem?_toArray,h.at_ (h.lt i hi)];simp only[h.back i hi]
 have e2:l.toArray[i]?=some l[i]:=by rw[List.getElem?_toArray,List.getElem?_eq_getElem hi]
 rw[e1] at hw;rw[e2];simp only at hw ⊢;have e3:Region.wanted (yU ord l[i]) (Go.yielded (nJ ord l).toArray a.tmps)=Region.wanted l[i] (Go.yielded l.toArray a.tmps):=by
  unfold Region.wanted;have hgd:=h.gd l[i] (List.getElem_mem hi);cases hg:l[i].guard with
  | none=>simp[yU,hg]
  | some g=>
   have:=h.yielded (hgd g hg) a.tmps;simp[yU,hg,this]
 rw[e3] at hw;split
 ·rename_i hc;rw[if_pos hc] at hw;rcases hw with h1|h1
  ·exact .inl (Oper.wp_mono hk h1)
  exact .inr h1
 rename_i hc;rw[if_neg hc] at hw;exact hk _ _ hw
theorem Perm.wpAny (h:Perm ord l):∀ (fuel:Nat) (L L':Array Bool) (a:Act) (w:World),Same ord l.length L L'->Go.wpAny P .any (nJ ord l).toArray Q fuel L' a w->Go.wpAny P .any l.toArray Q fuel L a w:=by
 have hnil:∀ {L L':Array Bool},Same ord l.length L L'->(Region.ready .any l.toArray L=[]↔Region.ready .any (nJ ord l).toArray L'=[]):=λhs=>by
  constructor
  ·intro he;rw[List.eq_nil_iff_forall_not_mem];intro j hj;have hjl:j<l.length:=by
    obtain⟨h1,_⟩:=NI.1 hj
    rwa [h.length] at h1
   have h2:=(h.ready hs (h.olt j hjl)).2 (by rw[h.forth j hjl];exact hj);rw[he] at h2;cases h2
  intro he;rw[List.eq_nil_iff_forall_not_mem];intro i hi;obtain⟨h1,_⟩:=NI.1 hi;have h2:=(h.ready hs h1).1 hi;rw[he] at h2;cases h2
 intro fuel
 induction fuel with
 | zero=>
  intro L L' a w hs hw;unfold Go.wpAny at hw ⊢;exact⟨(hnil hs).2 hw.1,hw.2⟩
 | succ fuel ih=>
  intro L L' a w hs hw;unfold Go.wpAny at hw ⊢;refine⟨λhe=>hw.1 ((hnil hs).1 he),λi hi=>?_⟩;obtain⟨h1,_⟩:=NI.1 hi;refine h.wpOp h1 (λa' w' hk=>ih _ _ a' w' ?_ hk) (hw.2 _ ((h.ready hs h1).1 hi));refine⟨by simp[hs.s],by simp[hs.s'],λk hk=>?_⟩;have h3:=hs.at_ k hk;by_cases hik:i=k
  ·subst hik;simp[Array.getD,hs.s,hs.s',hk,h.lt i hk]
  have hne:ord.idxOf i≠ord.idxOf k:=λhe=>hik (by rw[<- h.back i h1,he,h.back k hk]);have h4:=h.lt k hk;simp only[Array.getD,Array.size_setIfInBounds,hs.s,hs.s',hk,h4,dite_true] at h3 ⊢;rw[Array.getInternal_eq_getElem,Array.getInternal_eq_getElem,Array.getElem_setIfInBounds,Array.getElem_setIfInBounds,if_neg hne,if_neg hik];exact h3
theorem BX [hm:Mixed P]{s:Base}{e:Env}{m:List Piece}{gl:List (Nat × AV)}{id:Nat}(ord:List Nat){l':List Oper}(hp:YM ord l=true)(hl:nJ ord l=l')(hg:s.gl=gl)(hc:GY N l'=true)(ho:Obl P N Q s gl l' l' 0 m e []):AC P N (.region id l.toArray true) Q s e m:=by
 subst hl;have h:=Perm.of hp;refine AC.mk λok w a hS ha=>wp_region_any hm.out ?_;have h1:=Ej hg hc ho hS ha;have h2:(nJ ord l).toArray.size=l.toArray.size:=by simpa using h.length
 rw[h2] at h1;exact h.wpAny _ _ _ _ _ ⟨sm,sm,λi hi=>by
  have:=h.lt i hi;simp[Array.getD,hi,this]⟩ h1
theorem a3f {P:Program}(w:World)(tS tR e:TypeId)(ht:P.underlying tS=some (.slice e))(size:Nat)(hz:∀ w,(Go.sizeOf e).run P w=.ok size w)
  (a b:Addr) (la ca lb cb:Nat) (hne:a.block≠b.block) (tA tB:TypeId) (kA kB:Nat)
  (hsa:w.shape? a.block=some (tA,kA)) (hsb:w.shape? b.block=some (tB,kB)) (hkA:kA≠0)
  (hfa:w.frozen? b=false) (hfe:w.frozen? { block:=b.block,off:=kB }=false) :
  (Extern.SlicesOverlaps.overlaps #[tS,tS] #[tR] #[.slice (some a) la ca,.slice (some b) lb cb]).run P w=.ok (.bool false) w:=by
 have hnb:(a.block != b.block)=true:=by simpa using hne
 have hnb':(a.block == b.block)=false:=by simpa using hne
 change Sem.run P (α:=Value) (do
  let some t := (#[tS, tS] : Array TypeId)[0]? | stuck "slices.overlaps: no parameter types"
  let .slice elem ← underlying t | stuck "slices.overlaps: slice type expected"
  let size <- sizeOf elem
  match (some a:Option Addr),(some b:Option Addr) with
  | some a,some b=>
   if la=0\/lb=0\/size=0 then pure (Value.bool false)
   else if a.block != b.block&&(<- frozen a)&&(<- frozen b) then unsupported .addressObserved
   else do
    if a.block != b.block then do
     noView a;noView b
     if ← mayBeOne a b then return Value.bool ((← choose (.extern "sameAddr.stringBytes" 2)) == 1)
    pure (Value.bool (a.block == b.block&&a.off<b.off+lb*size&&b.off<a.off+la*size))
  | _,_=>pure (Value.bool false)) w=_
 by_cases h0:la=0\/lb=0\/size=0
 ·simp[run_underlying ht,hz,h0]
 cases kA with
 | zero=>exact absurd rfl hkA
 | succ kA=>
  cases hq:w.frozen? a <;> cases hq2:w.frozen? { block:=a.block,off:=kA+1 } <;>
  simp[run_underlying ht,hz,h0,hnb,hnb',frozen,noView,viewAt,mayBeOne,stringish,shape,Sem.run,hsa,hsb,hfa,hfe,hq,hq2]
theorem a3e {P:Program}(w:World)(tS tR e:TypeId)(ht:P.underlying tS=some (.slice e))(size:Nat)(hz:∀ w,(Go.sizeOf e).run P w=.ok size w)(a b:Addr)(ca lb cb:Nat) :
  (Extern.SlicesOverlaps.overlaps #[tS,tS] #[tR] #[.slice (some a) 0 ca,.slice (some b) lb cb]).run P w=.ok (.bool false) w:=by
 change Sem.run P (α:=Value) (do
  let some t := (#[tS, tS] : Array TypeId)[0]? | stuck "slices.overlaps: no parameter types"
  let .slice elem ← underlying t | stuck "slices.overlaps: slice type expected"
  let size <- sizeOf elem
  match (some a:Option Addr),(some b:Option Addr) with
  | some a,some b=>
   if 0=0\/lb=0\/size=0 then pure (Value.bool false)
   else if a.block != b.block&&(<- frozen a)&&(<- frozen b) then unsupported .addressObserved
   else do
    if a.block != b.block then do
     noView a;noView b
     if ← mayBeOne a b then return Value.bool ((← choose (.extern "sameAddr.stringBytes" 2)) == 1)
    pure (Value.bool (a.block == b.block&&a.off<b.off+lb*size&&b.off<a.off+0*size))
  | _,_=>pure (Value.bool false)) w=_
 simp[run_underlying ht,hz]
theorem a5a {s:Base}{ok:Ok}{m:List Piece}{w:World}{g o n cc c k:Nat}{E tS:TypeId}{b:Nat}{xs ys:List AV}{id:Option Value}{cs:List Value}[t:TyE P tS E k b](tR:TypeId)(hS:St s ok m w)(hm:Piece.buf g E k xs c∈m)(hv:RVs ok w [.sl k ys id,.lit (.slice (some ⟨g,o,none⟩) n cc)] cs) :
  (Extern.SlicesOverlaps.overlaps #[tS,tS] #[tR] cs.toArray).run P w=.ok (.bool false) w:=by
 obtain⟨u1,us,rfl,h1,u2,us2,rfl,h2,rfl⟩:=hv;obtain rfl:=RV0.lit h2;obtain⟨A,c2,rfl,_,_,_,h5,_⟩:=qY (show RV ok w (.sl k ys id) u1 from h1);obtain⟨cs1,cs2,a1,a2,a3,a4,a5⟩:=hS.at_ _ hm;have hk:0<k:=nlb t.k0;rcases Nat.eq_zero_or_pos ys.length with h0|h0
 ·rw[h0];cases A with
  | none=>
   show Sem.run P (α:=Value) (do
    let some t := (#[tS, tS] : Array TypeId)[0]? | stuck "slices.overlaps: no parameter types"
    let .slice elem ← underlying t | stuck "slices.overlaps: slice type expected"
    let size <- sizeOf elem
    pure (Value.bool false)) w=_
   simp[run_underlying t.l.out,run_sizeOf t.l.size]
  | some a=>exact a3e w tS tR E t.l.out k (λ_=>run_sizeOf t.l.size) a ⟨g,o,none⟩ c2 n cc
 obtain⟨b2,o2,es,rfl,e1,e2,e3⟩:=h5 h0;have hl:0<es.length:=by rw[e1];exact Nat.mul_pos h0 hk
 have h6:=e2 0 es[0] (by simp[hl]);have hne:b2≠g:=by
  rintro rfl;exact hS.own _ hm b2 (o2+0) rfl h6.2
 have h7:=h6.1;unfold World.cell? at h7;cases hb:w.heap[b2]? with
 | none=>simp[hb] at h7
 | some ob=>
  cases ob with
  | cells C T fr=>
   have hC:C.size≠0:=by
    intro h8;simp[hb,Array.eq_empty_of_size_eq_zero h8] at h7
   exact a3f w tS tR E t.l.out k (λ_=>run_sizeOf t.l.size) ⟨b2,o2,none⟩ ⟨g,o,none⟩ ys.length c2 n cc hne T E C.size (cs1.length+cs2.length) (by simp[World.shape?,hb]) (by simp[World.shape?,a1]) hC (by simp[World.frozen?,a1]) (by simp[World.frozen?,a1])
  | _=>simp[hb] at h7
end Av

namespace Av
open Go Go.RowKit Tw
theorem ImpC.nilT {k:Nat}:ImpC (.lit (.slice none 0 0)) (.sl k [] (some (.slice none 0 0))):=λok w cs h=>by
 rw[RC] at h;rw[RC];exact⟨none,0,h.1,sm,Nat.le_refl _,by simp[maxLen],sm,sm⟩
theorem a1v {P:Program}{o:Oper}{a:Act}{next next':Act->World->Prop}{Q Q':Exit->Act->World->Prop}{r:Result Go.Next}(hn:∀ a w,next a w->next' a w)(hq:∀ e a w,Q e a w->Q' e a w)(h:o.upon P a next Q r):o.upon P a next' Q' r:=by
 unfold Oper.upon at h ⊢;split at h
 ·exact hn _ _ h
 ·exact hn _ _ h
 ·exact hn _ _ h
 ·refine Calls.mono h λx w' hx=>?_;cases x with
  | returned v=>exact hn _ _ hx
  | panicked c=>exact hq _ _ _ hx
  | outgrown=>exact let ⟨a,w,h⟩:=hx;⟨a,w,hq _ _ _ h⟩
 ·exact Rows.mono h λv w' hx=>hn _ _ hx
 ·exact hq _ _ _ h
 exact h.elim
theorem PY {P:Program}{ops:Array Oper}{Q Q':Exit->Act->World->Prop}(hq:∀ e a w,Q e a w->Q' e a w):∀ (l:List Oper) (a:Act) (w:World),wpList P ops Q l a w->wpList P ops Q' l a w
 | [],a,w,h=>hq _ _ _ h
 | o::l,a,w,h=>by
  unfold wpList at h ⊢;split at h
  ·rename_i hw;rw[if_pos hw];rcases h with h|⟨h1,a',w',h2⟩
   ·exact .inl (a1v (λa w=>PY hq l a w) hq h)
   exact .inr ⟨h1,a',w',hq _ _ _ h2⟩
  rename_i hw;rw[if_neg hw];exact PY hq l _ _ h
section
variable {P:Program} {N:Nat} {ops:Array Oper} {Q:Exit->Act->World->Prop} {l:List Oper} {s:Base} {e:Env} {m:List Piece}
theorem a0t {c2:Code}{Q1:Exit->Act->World->Prop}{α:Type}(I:α->Env)(M:α->List Piece)(h1:AL P N ops (Exit.then (λa w=>∃ z ok,Sat N ok w (I z) a/\St s ok (M z) w) Q) s l e m)(h2:∀ z,AC P N c2 Q1 s (I z) (M z)):AL P N ops (Exit.then (λa w=>c2.wp P Q1 a w) Q) s l e m:=AL.mk λok w a hS ha=>
 PY (λx a' w' hx=>by cases x <;> first|(obtain⟨z,ok',g1,g2⟩:=hx;exact(h2 z).run _ _ _ g2 g1)|exact hx) _ _ _ (h1.run ok w a hS ha)
theorem sO {c c2:Code}{id:Nat}{Q1:Exit->Act->World->Prop}{α:Type}(I:α->Env)(M:α->List Piece)(h1:AC P N c (Exit.inBlock id (Exit.then (λa w=>∃ z ok,Sat N ok w (I z) a/\St s ok (M z) w) Q)) s e m)(h2:∀ z,AC P N c2 Q1 s (I z) (M z)):AC P N c (Exit.inBlock id (Exit.then (λa w=>c2.wp P Q1 a w) Q)) s e m:=AC.mk λok w a hS ha=>
 wp_mono (h1.run ok w a hS ha) λx a' w' hx=>by
  cases x with
  | normal=>obtain⟨z,ok',g1,g2⟩:=hx;exact(h2 z).run _ _ _ g2 g1
  | exit j=>
   by_cases hj:j=id
   ·simp only[Exit.inBlock,hj,if_true] at hx ⊢;obtain⟨z,ok',g1,g2⟩:=hx;exact(h2 z).run _ _ _ g2 g1
   simp only[Exit.inBlock,hj,if_false] at hx ⊢;exact hx
  | _=>exact hx
theorem Y1 {fn:Func}{K:AV->List Piece->Prop}{rs:List ResultVar}{vs:List AV}(out:AV)(m':List Piece)(h:Imp (L6 vs) out)(hK:K out m')(hm:m'.Sublist m)(hr:fn.results=rs.toArray:=by exact rfl)(hh:Ress P N s e m rs vs:=by
  repeat (first|exact Av.xQ|(apply Av.CU;(first|(apply Av.CV;exact rfl;exact rfl)|(apply Av.RH;exact rfl;(repeat (first|exact Av.Has.here|apply Av.Has.there));exact rfl))))):AE N .ret (bodyPost P fn (Back s K)) s e m:=AE.mk λok w a hS ha=>by
 have h1:=(IK (K:=λv m''=>v=L6 vs/\m''=m') (m:=m) hr hh (.inl rfl) ⟨rfl,rfl⟩ hm).run ok w a hS ha;obtain⟨d,cv,r,v,m'',ok',cv',⟨rfl,rfl⟩,e1,hv,hS'⟩:=h1;exact⟨d,cv,r,out,m'',ok',cv',hK,e1,h _ _ _ hv,hS'⟩
end
end Av
