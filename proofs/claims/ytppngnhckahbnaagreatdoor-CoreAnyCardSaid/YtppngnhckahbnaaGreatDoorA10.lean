/- Rows of one's own that are written in place. No program is named. -/
import Derived.Test.YtppngnhckahbnaaGreatDoorA09
namespace Av
open Go Go.RowKit Tw
abbrev w32A (x:W32):AV:=.lit (w32v x)
class Siz (ps:List AV)(k:outParam Nat):Prop where
 out:∀ p ∈ ps,p.size=k
instance {α:Type}{f:α→Value}{l:List α}:Siz (l.map fun x=>.lit (f x)) 1:=⟨fun p hp=>by obtain⟨a,_,rfl⟩:=List.mem_map.1 hp;rfl⟩
instance {v:Value}{l:List AV}[h:Siz l 1]:Siz (.lit v::l) 1:=⟨fun p hp=>by
 rcases List.mem_cons.1 hp with rfl|hp
 ·rfl
 ·exact h.out p hp⟩
instance : Siz [] 1 := ⟨by simp⟩
instance {a b:List AV}{k:Nat}[h:Siz a k][g:Siz b k]:Siz (a++b) k:=⟨fun p hp=>(List.mem_append.1 hp).elim (h.out p) (g.out p)⟩
instance {a:List AV}{k i:Nat}[h:Siz a k]:Siz (a.take i) k:=⟨fun p hp=>h.out p (List.mem_of_mem_take hp)⟩
instance {a:List AV}{k i:Nat}[h:Siz a k]:Siz (a.drop i) k:=⟨fun p hp=>h.out p (List.mem_of_mem_drop hp)⟩
instance {n:Nat}{v:Value}:Siz (List.replicate n (.lit v)) 1:=⟨fun p hp=>by rw [(List.mem_replicate.1 hp).2];rfl⟩
section
variable {P:Program} {N:Nat} {ops:Array Oper} {Q:Exit→Act→World→Prop} {rest:List Oper} {s:Base} {e:Env} {m:List Piece} {d:Nat} {ty:TypeId} {pos:String} {af:Array Edge}
theorem RCs.set {ok:Ok}{w:World}{k i:Nat}{as:List AV}{cs c:List Value}{u:AV}(h:RCs ok w as cs)(hk:∀ a ∈ as,a.size=k)(hi:i < as.length)(hu:RC ok w u c)(_hc:u.size=k):RCs ok w (as.set i u) (cs.take (i * k)++c++cs.drop (i * k + k)):=by
 have he:as=as.take i++(as[i]::as.drop (i + 1)):=by
  rw [← List.drop_eq_getElem_cons hi,List.take_append_drop]
 rw [he] at h
 obtain⟨x,dd,rfl,h1,h2⟩:=h.split
 rw [RCs] at h2
 obtain⟨c0,y,rfl,h3,h4⟩:=h2
 have hx:x.length=i * k:=by
  rw [h1.len (fun a ha=>hk a (List.mem_of_mem_take ha))]
  simp [Nat.min_eq_left (Nat.le_of_lt hi)]
 have hc0:c0.length=k:=by rw [h3.len,hk _ (List.getElem_mem hi)]
 have e1:(x++(c0++y)).take (i * k)=x:=by rw [← hx,List.take_left]
 have e2:(x++(c0++y)).drop (i * k + k)=y:=by
  rw [← List.append_assoc,show i * k + k=(x++c0).length by simp [hx,hc0],List.drop_left]
 rw [e1,e2,List.set_eq_take_append_cons_drop,if_pos hi,List.append_assoc]
 exact h1.append (by rw [RCs];exact⟨c,y,rfl,hu,h4⟩)
theorem al_loadE {T:TypeId}{a:Bool}{k:Nat}[t:Ty P T a k]{x:Operand}{g j n:Nat}{T0:TypeId}{ps:List AV}{u:AV}(hu:ps[j]?=some u)(h:AL P N ops Q s rest ((d,u)::e) m)(hx:ev e x=some (.lit (.pointer (some ⟨g,0 + j * k,none⟩))):=by exact rfl)
  (hm:Has m (.var g T0 (.agg n ps)):=by (repeat (first|exact Av.Has.here|apply Av.Has.there))) (hk:Siz ps k:=by infer_instance) (ha:u.isAgg=a:=by exact rfl) (hd:Nat.blt d N=true:=by exact rfl):AL P N ops Q s (⟨some d,.load T x,ty,pos,af,none⟩::rest) e m:=
 al_val (fun ok w A hS hA=>by
  obtain⟨cs,hb,hg⟩:=hS.at_ _ hm.mem
  rw [RC] at hg
  obtain⟨hlt,he⟩:=List.getElem?_eq_some_iff.1 hu
  obtain⟨x',c,y,e1,e2,e3,e4⟩:=hg.2.at_ hk.out hlt
  rw [he] at e4
  have hr:=run_loadVar_es (P:=P) t (b:=g) (o:=0 + j * k) (fun i v hv=>by rw [Nat.zero_add,← e2];exact var_cells hb e1 i v hv) e4 e3 ha
  exact⟨_,by simp [execOp,hA.lit hx,Instr.loadAt,Instr.sureAddr] at hr ⊢;simp [hr],RV.of0 (ha ▸ RV0.mk e4)⟩) hd h
theorem al_storeE {T:TypeId}{a:Bool}{k:Nat}[t:Ty P T a k]{x y:Operand}{g j n:Nat}{T0:TypeId}{ps:List AV}{u:AV}{m':List Piece}(hj:j < ps.length)(h:AL P N ops Q s rest e m')(hx:ev e x=some (.lit (.pointer (some ⟨g,0 + j * k,none⟩))):=by exact rfl)
  (hy:ev e y=some u:=by exact rfl) (hu:Upd m (.var g T0 (.agg n ps)) (.var g T0 (.agg n (ps.set j u))) m':=by (repeat (first|apply Av.Upd.here|apply Av.Upd.there))) (hk:Siz ps k:=by infer_instance) (hsz:Nat.beq u.size k=true:=by exact rfl) (hn:noTup u=true:=by exact rfl) :
  AL P N ops Q s (⟨none,.store T x y,ty,pos,af,none⟩::rest) e m:=
 al_skip (fun ok w A hS hA=>by
  obtain⟨pre,post,rfl,rfl⟩:=hu.parts
  obtain⟨cs,hb,hg⟩:=hS.at_ (.var g T0 (.agg n ps)) (by simp)
  rw [RC] at hg
  have hv0:=(hA.eval hy).to0 (by rintro vs rfl;simp [noTup] at hn)
  have hsz:=Nat.eq_of_beq_eq_true hsz
  have hlen:(A.eval y).cells.toList.length=k:=by rw [hv0.1.len,hsz]
  have hz:(A.eval y).cells.size=k:=by simpa using hlen
  have hset:=hg.2.set hk.out hj hv0.1 hsz
  have hcl:=hg.2.len hk.out
  have hle:j * k + k≤ps.length * k:=by
   have:=Nat.mul_le_mul_right k (show j + 1≤ps.length from hj)
   rw [Nat.add_mul] at this
   omega
  have hrun:=run_storeVar_at (P:=P) t.sz (v:=A.eval y) (o:=j * k) hb hz (by simp;omega) (hv0.1.one)
  have hl2:(cs.take (j * k)++(A.eval y).cells.toList++cs.drop (j * k + k)).length=cs.length:=by
   simp at hlen ⊢
   omega
  obtain⟨h1,h2⟩:=hS.writeVar (v':=.agg n (ps.set j u)) (cs':=cs.take (j * k)++(A.eval y).cells.toList++cs.drop (j * k + k)) (by rw [RC];exact⟨by rw [hl2];exact hg.1,hset⟩) (fun cs2 hb2=>by
   rw [hb] at hb2
   injection hb2 with hb2
   injection hb2 with hb2
   have:cs=cs2:=by simpa using congrArg Array.toList hb2
   subst this
   exact hl2)
  simp only at hrun
  exact⟨_,ok,by simp [execOp,hA.lit hx,Instr.storeAt,Instr.sureAddr,hrun],h1,h2⟩) h
theorem al_bit32 {op:BinOp}{T yT:TypeId}{x y:Operand}{a b c:W32}(h:AL P N ops Q s rest ((d,w32A c)::e) m)(hx:ev e x=some (w32A a):=by exact rfl)(hy:ev e y=some (w32A b):=by exact rfl)(hc:bit32 op a b=some c:=by exact rfl)(hd:Nat.blt d N=true:=by exact rfl):AL P N ops Q s (⟨some d,.binOp op T x y yT,ty,pos,af,none⟩::rest) e m:=by
 have hb:∀ z:W32,IntKind.u32.wrap (z.toNat:Int)=(z.toNat:Int):=fun z=>by
  rw [wrap_u32];simp
 have key:∀ w,(binOp op T (w32v a) (w32v b)).run P w=.ok (w32v c) w:=fun w=>by
  cases op <;> (first|(cases hc;done)|(injection hc with hc;subst hc;simp only [binOp,w32v,Op.intBits,ofInt_nat,ne_eq,not_true,if_false];exact congrArg (fun n=>Result.ok (Value.int IntKind.u32 n) w) (hb _)))
 exact al_lit rfl (fun ok w A hA=>Av.run_bin hA hx hy (key w)) hd h
theorem al_add32 {T yT:TypeId}{x y:Operand}{a b:W32}(h:AL P N ops Q s rest ((d,w32A (a + b))::e) m)(hx:ev e x=some (w32A a):=by exact rfl)(hy:ev e y=some (w32A b):=by exact rfl)(hd:Nat.blt d N=true:=by exact rfl):AL P N ops Q s (⟨some d,.binOp .add T x y yT,ty,pos,af,none⟩::rest) e m:=by
 have h1:IntKind.u32.wrap ((a.toNat:Int) + (b.toNat:Int))=((a + b).toNat:Int):=by
  rw [← Int.natCast_add,wrap_u32,BitVec.ofNat_add]
  simp
 exact al_lit rfl (fun ok w A hA=>Av.run_bin hA hx hy (by rw [run_arith rfl,h1];rfl)) hd h
theorem al_shr32 {T yT:TypeId}{yk:IntKind}{x y:Operand}{a:W32}{b:Int}(n:Nat)(h:AL P N ops Q s rest ((d,w32A (a >>> n))::e) m)(hx:ev e x=some (w32A a):=by exact rfl)(hy:ev e y=some (.lit (.int yk b)):=by exact rfl)(hb:b=(n:Int):=by first|exact rfl|omega)(hn:n < 32:=by omega)(hd:Nat.blt d N=true:=by exact rfl):AL P N ops Q s (⟨some d,.binOp .shr T x y yT,ty,pos,af,none⟩::rest) e m:=by
 have e1:Int.fdiv (a.toNat:Int) (2 ^ n)=((a >>> n).toNat:Int):=by
  rw [show ((2:Int) ^ n)=((2 ^ n:Nat):Int) by simp,Int.fdiv_eq_ediv_of_nonneg _ (Int.natCast_nonneg _),BitVec.toNat_ushiftRight,Nat.shiftRight_eq_div_pow]
  simp
 exact al_shift rfl hx hy (fun w=>by
  subst hb
  have h0:¬ ((n:Int) < 0):=by omega
  have h2:min n IntKind.u32.bits=n:=by show min n 32=n;omega
  simp only [Op.shift,h0,if_false,Int.toNat_natCast,h2,e1]
  rfl) (.inr rfl) hd h
theorem al_shl32 {T yT:TypeId}{yk:IntKind}{x y:Operand}{a:W32}{b:Int}(n:Nat)(h:AL P N ops Q s rest ((d,w32A (a <<< n))::e) m)(hx:ev e x=some (w32A a):=by exact rfl)(hy:ev e y=some (.lit (.int yk b)):=by exact rfl)(hb:b=(n:Int):=by first|exact rfl|omega)(hn:n < 32:=by omega)(hd:Nat.blt d N=true:=by exact rfl):AL P N ops Q s (⟨some d,.binOp .shl T x y yT,ty,pos,af,none⟩::rest) e m:=by
 have e1:IntKind.u32.wrap ((a.toNat:Int) * 2 ^ n)=((a <<< n).toNat:Int):=by
  rw [show (a.toNat:Int) * 2 ^ n=((a.toNat * 2 ^ n:Nat):Int) by simp,wrap_u32,BitVec.toNat_shiftLeft,Nat.shiftLeft_eq,BitVec.toNat_ofNat]
 exact al_shift rfl hx hy (fun w=>by
  subst hb
  have h0:¬ ((n:Int) < 0):=by omega
  have h1:min n IntKind.u32.bits=n:=by show min n 32=n;omega
  simp only [Op.shift,h0,if_false,Int.toNat_natCast,h1,e1]
  rfl) (.inl rfl) hd h
theorem al_conv32 {S D:TypeId}{a:Bool}{kz:Nat}[tS:Ty P S a kz][t:TyI P D .u32]{x:Operand}{b:UInt8}(h:AL P N ops Q s rest ((d,w32A (b32 b))::e) m)(hx:ev e x=some (.lit (u8v b)):=by exact rfl)(hd:Nat.blt d N=true:=by exact rfl):AL P N ops Q s (⟨some d,.convert S D x,ty,pos,af,none⟩::rest) e m:=by
 refine al_convI (k':=.u32) ?_ hx hd
 have:Value.int .u32 (IntKind.u32.wrap (b.toNat:Int))=w32v (b32 b):=by rw [wrap_u32];rfl
 rw [this]
 exact h
theorem run_not32 {P:Program}(a:W32)(w:World):(Op.unary .xor (w32v a)).run P w=.ok (w32v (~~~ a)) w:=by
 have hb:∀ z:W32,IntKind.u32.wrap (z.toNat:Int)=(z.toNat:Int):=fun z=>by
  rw [wrap_u32];simp
 have hm:(if IntKind.u32.signed then (-1:Int) else IntKind.u32.max)=((BitVec.allOnes 32).toNat:Int):=by decide
 show (Op.intBits .xor .u32 (if IntKind.u32.signed then (-1:Int) else IntKind.u32.max) (a.toNat:Int)).run P w=_
 rw [hm]
 have e:BitVec.allOnes 32 ^^^ a = ~~~ a:=by rw [BitVec.allOnes_xor]
 rw [← e]
 simp only [w32v,Op.intBits,ofInt_nat]
 exact congrArg (fun n=>Result.ok (Value.int IntKind.u32 n) w) (hb _)
theorem al_not32 {T:TypeId}{x:Operand}{a:W32}(h:AL P N ops Q s rest ((d,w32A (~~~ a))::e) m)(hx:ev e x=some (w32A a):=by exact rfl)(hd:Nat.blt d N=true:=by exact rfl):AL P N ops Q s (⟨some d,.unOp .xor T x,ty,pos,af,none⟩::rest) e m:=
 al_lit rfl (fun ok w A hA=>by
  simp [execOp,hA.lit hx,run_not32]) hd h
end
end Av

namespace Av
open Go Go.RowKit Tw
section
variable {s:Base} {ok:Ok} {m:List Piece} {w w':World}
theorem St.writeBlk {g:Nat}{p p':Piece}{pre post:List Piece}{C:Array Value}(h:St s ok (pre++p::post) w)(hb:p.blk=some g)(ho:∀ b j,p.owns b j↔b=g)(hb':p'.blk=some g)(ho':∀ b j,p'.owns b j→b=g)(hat:∀ ok' w',Stp ok w ok' w'→w'.heap[g]?=(w.setRow g C).heap[g]?→p'.at_ ok' w') :
  St s ok (pre++p'::post) (w.setRow g C)∧Stp ok w ok (w.setRow g C):=by
 have hpm:p ∈ pre++p::post:=by simp
 have hst:Stp ok w ok (w.setRow g C):=⟨by simp,fun b j u h1 h2=>by
  have hne:b≠g:=by
   rintro rfl
   exact h.own _ hpm b j ((ho _ _).2 rfl) h2
  exact⟨(cell_block (setRow_other w g b _ hne)).trans h1,h2⟩⟩
 exact⟨h.write (g:=g) hb (.inl hb') hst (hat _ _ hst rfl) (fun b j hbj=>h.own _ hpm b j ((ho _ _).2 (ho' b j hbj))) (by simp) rfl rfl rfl (fun b hne=>setRow_other w g b _ hne) (fun _ _ _=>Iff.rfl),hst⟩
theorem St.freeze {g:Nat}{E:TypeId}{k c n:Nat}{xs:List AV}{pre post:List Piece}(h:St s ok (pre++.buf g E k xs c::post) w)(hn:n=xs.length)(hc:n≤c) :
  ∃ ok',St s ok' (pre++.tail E k (.slice (some ⟨g,0,none⟩) n c)::post) w∧Stp ok w ok' w∧RV ok' w (.sl k xs (some (.slice (some ⟨g,0,none⟩) n c))) (.slice (some ⟨g,0,none⟩) n c):=by
 subst hn
 have hpm:Piece.buf g E k xs c ∈ pre++.buf g E k xs c::post:=by simp
 obtain⟨cs1,cs2,h1,h2,h3,h4,h5⟩:=h.at_ _ hpm
 have hl:=h2.len h3
 have hst:Stp ok w (fun b j=>ok b j∨(b=g∧j < xs.length * k)) w:=⟨Nat.le_refl _,fun b j u h1 h2=>⟨h1,.inl h2⟩⟩
 refine⟨_,h.write (g:=g) (p':=.tail E k (.slice (some ⟨g,0,none⟩) xs.length c)) rfl ?_ hst ?_ ?_ rfl rfl rfl rfl (fun _ _=>rfl) (fun b j hne=>⟨fun h=>h.elim id (fun h=>absurd h.1 hne),.inl⟩),hst,?_⟩
 ·by_cases hq:xs.length=c
  ·right;simp [Piece.blk,tailBlk,hq]
  ·left;simp [Piece.blk,tailBlk,beq_ff hq]
 ·by_cases hq:xs.length=c
  ·exact .inl ⟨_,_,by rw [hq]⟩
  ·exact .inr ⟨g,xs.length,c,_,(0,0),rfl,h1,by omega,h5,by simpa using h4,.inl rfl⟩
 ·rintro b j ⟨a,n',c',he,hne,rfl,hi⟩ ho
  injection he with e1 e2 e3
  injection e1 with e1
  subst e1 e2 e3
  rcases ho with ho|⟨_,ho⟩
  ·exact h.own _ hpm g j rfl ho
  ·omega
 ·refine RV.sl rfl (fun v hv=>by injection hv with hv;exact hv.symm) hc h5 (fun _=>⟨g,0,cs1,rfl,hl,fun j v hj=>?_,h2.stp hst⟩) h3
  have hj':j < cs1.length:=(List.getElem?_eq_some_iff.1 hj).1
  rw [Nat.zero_add,cell_of_row _ _ _ _ _ _ h1]
  refine⟨?_,.inr ⟨rfl,by omega⟩⟩
  simp only [List.getElem?_toArray]
  rw [List.getElem?_append_left hj']
  exact hj
end
section
variable {P:Program} {N:Nat} {ops:Array Oper} {Q:Exit→Act→World→Prop} {rest:List Oper} {s:Base} {e:Env} {m:List Piece} {d:Nat} {ty:TypeId} {pos:String} {af:Array Edge}
theorem al_freeze {l:List Oper}{g n c:Nat}{E:TypeId}{k:Nat}{xs:List AV}{m':List Piece}(t:Nat)(h:AL P N ops Q s l ((t,.sl k xs (some (.slice (some ⟨g,0,none⟩) n c)))::e) m')(hv:lk e t=some (.lit (.slice (some ⟨g,0,none⟩) n c)):=by exact rfl)
  (hm:Upd m (.buf g E k xs c) (.tail E k (.slice (some ⟨g,0,none⟩) n c)) m':=by (repeat (first|apply Av.Upd.here|apply Av.Upd.there))) (hn:n=xs.length:=by first|exact rfl|(simp;done)|(simp;omega)) (hc:n≤c:=by omega):AL P N ops Q s l e m:=AL.mk fun ok w a hS ha=>by
 obtain⟨pre,post,rfl,rfl⟩:=hm.parts
 obtain⟨ok',h1,h2,h3⟩:=hS.freeze hn hc
 exact h.run ok' w a h1 ((ha.stp h2).also (by rw [RV.lit (ha.env t _ hv)];exact h3))
theorem al_idxB {S E:TypeId}{k bS:Nat}[t:TyL P S E k bS]{x ix:Operand}{kd:IntKind}{i:Int}{g o n c:Nat}(j:Nat)(h:AL P N ops Q s rest ((d,.lit (.pointer (some ⟨g,o + j * k,none⟩)))::e) m)(hx:ev e x=some (.lit (.slice (some ⟨g,o,none⟩) n c)):=by exact rfl)(hi:ev e ix=some (.lit (.int kd i)):=by exact rfl)(hj:i=(j:Int):=by first|exact rfl|omega)(hlt:j < n:=by first|omega|(simp only [List.length_map];omega))(hd:Nat.blt d N=true:=by exact rfl) :
  AL P N ops Q s (⟨some d,.indexAddr S x ix,ty,pos,af,none⟩::rest) e m:=by
 subst hj
 have hin:(0:Int)≤(j:Int)∧(j:Int) < (n:Nat):=by omega
 exact al_lit rfl (fun ok w B hB=>by
  simp only [execOp,hB.lit hx,hB.lit hi,Instr.indexAt,asIntOf,Sem.run_bind,Sem.run_pure,Result.andThen_ok,run_underlying t.out,hin,and_self,if_true,run_sizeOf t.size,Int.toNat_natCast,add_mid]) hd h
theorem al_sliceL {S E:TypeId}{k bS:Nat}[t:TyL P S E k bS]{x:Operand}{xl xh:Option Operand}{il ih:Int}{A:Option Addr}{n c:Nat}(lo hi:Nat)(h:AL P N ops Q s rest ((d,.lit (.slice (if c=lo then A else A.map (·.add (lo * k))) (hi - lo) (c - lo)))::e) m)
  (hx:ev e x=some (.lit (.slice A n c)):=by exact rfl) (hl:bnd e 0 xl=some il:=by exact rfl) (hh:bnd e n xh=some ih:=by exact rfl) (h1:il=(lo:Int):=by first|exact rfl|omega) (h2:ih=(hi:Int):=by first|exact rfl|omega) (h3:lo≤hi:=by omega) (h4:hi≤c:=by omega) (hd:Nat.blt d N=true:=by exact rfl):AL P N ops Q s (⟨some d,.slice S x xl xh none,ty,pos,af,none⟩::rest) e m:=
 al_lit rfl (fun ok w B hB=>by
  subst h1 h2
  have hb:=run_bounds (P:=P) (w:=w) (sl:=true) (bnd_spec hB hl) (bnd_spec hB hh) h3 h4
  simp only [execOp,hB.lit hx,Instr.sliceAt,Instr.slice,Sem.run_bind,run_underlying t.out,Result.andThen_ok,Option.map_none,hb,run_sizeOf t.size,Sem.run_pure]) hd h
theorem al_sliceP {S E:TypeId}{k bS:Nat}[t:TyL P S E k bS]{x:Operand}{xl xh:Option Operand}{il ih:Int}{g o n c:Nat}(lo hi:Nat)(h:AL P N ops Q s rest ((d,.lit (.slice (some ⟨g,o + lo * k,none⟩) (hi - lo) (c - lo)))::e) m)
  (hx:ev e x=some (.lit (.slice (some ⟨g,o,none⟩) n c)):=by exact rfl) (hl:bnd e 0 xl=some il:=by exact rfl) (hh:bnd e n xh=some ih:=by exact rfl) (h1:il=(lo:Int):=by first|exact rfl|omega) (h2:ih=(hi:Int):=by first|exact rfl|omega) (h3:lo≤hi:=by omega) (h4:hi≤c:=by omega) (h5:lo < c:=by omega) (hd:Nat.blt d N=true:=by exact rfl):AL P N ops Q s (⟨some d,.slice S x xl xh none,ty,pos,af,none⟩::rest) e m:=
 al_sliceL lo hi (by
  rw [if_neg (by omega)]
  simp only [Option.map_some,add_mid]
  exact h) hx hl hh h1 h2 h3 h4 hd
theorem al_sliceL3 {S E:TypeId}{k bS:Nat}[t:TyL P S E k bS]{x xh xm:Operand}{xl:Option Operand}{il ih im:Int}{kd kd':IntKind}{A:Option Addr}{n c:Nat}(lo hi mx:Nat)(h:AL P N ops Q s rest ((d,.lit (.slice (if mx=lo then A else A.map (·.add (lo * k))) (hi - lo) (mx - lo)))::e) m)
  (hx:ev e x=some (.lit (.slice A n c)):=by exact rfl) (hl:bnd e 0 xl=some il:=by exact rfl) (hh:ev e xh=some (.lit (.int kd ih)):=by exact rfl) (hm:ev e xm=some (.lit (.int kd' im)):=by exact rfl) (h1:il=(lo:Int):=by first|exact rfl|omega) (h2:ih=(hi:Int):=by first|exact rfl|omega) (h5:im=(mx:Int):=by first|exact rfl|omega) (h3:lo≤hi:=by omega) (h4:hi≤mx:=by omega) (h6:mx≤c:=by omega) (hd:Nat.blt d N=true:=by exact rfl):AL P N ops Q s (⟨some d,.slice S x xl (some xh) (some xm),ty,pos,af,none⟩::rest) e m:=
 al_lit rfl (fun ok w B hB=>by
  subst h1 h2 h5
  have hb:(Instr.sliceBounds true n c (xl.map B.eval) (some (.int kd (hi:Int))) (some (.int kd' (mx:Int)))).run P w=.ok (lo,hi,mx) w:=by
   rcases bnd_spec hB hl with⟨e1,rfl⟩|⟨kd,e1⟩ <;> rw [e1] <;> simp [Instr.sliceBounds,Instr.sliceBound,asIntOf,h3,h4,h6]
  simp only [execOp,hB.lit hx,hB.lit hh,hB.lit hm,Instr.sliceAt,Instr.slice,Sem.run_bind,run_underlying t.out,Result.andThen_ok,Option.map_some,hb,run_sizeOf t.size,Sem.run_pure]) hd h
theorem al_capL {T E:TypeId}{k b:Nat}[t:TyL P T E k b]{x:Operand}{A:Option Addr}{n c:Nat}(h:AL P N ops Q s rest ((d,int c)::e) m)(hx:ev e x=some (.lit (.slice A n c)):=by exact rfl)(hd:Nat.blt d N=true:=by exact rfl):AL P N ops Q s (⟨some d,.call ⟨.builtin .cap,#[x],#[T]⟩,ty,pos,af,none⟩::rest) e m:=
 al_lit rfl (fun ok w B hB=>by simp [execOp,resolve,invoke,builtin,hB.lit hx,Builtin.cap_,run_underlying t.out,goInt]) hd h
theorem al_storeB {T:TypeId}{a:Bool}{kk:Nat}[t:Ty P T a kk]{x z:Operand}{g j off k c:Nat}{E:TypeId}{xs:List AV}{y y' u:AV}{m':List Piece}(hy:xs[j]?=some y)(h:AL P N ops Q s rest e m')(hx:ev e x=some (.lit (.pointer (some ⟨g,0 + j * k + off,none⟩))):=by exact rfl)
  (hz:ev e z=some u:=by exact rfl) (hm:Upd m (.buf g E k xs c) (.buf g E k (xs.set j y') c) m':=by (repeat (first|apply Av.Upd.here|apply Av.Upd.there))) (hv:putV u 8 y off=some y':=by exact rfl) (hk:Nat.beq u.size kk=true:=by exact rfl) (hn:noTup u=true:=by exact rfl):AL P N ops Q s (⟨none,.store T x z,ty,pos,af,none⟩::rest) e m:=
 al_skip (fun ok w A hS hA=>by
  obtain⟨pre,post,rfl,rfl⟩:=hm.parts
  obtain⟨cs1,cs2,h1,h2,h3,h4,h5⟩:=hS.at_ (.buf g E k xs c) (by simp)
  obtain⟨hlt,he⟩:=List.getElem?_eq_some_iff.1 hy
  have hv0:=(hA.eval hz).to0 (by rintro vs rfl;simp [noTup] at hn)
  obtain⟨x',c',yy,e1,f2,f3,f4⟩:=h2.at_ h3 hlt
  rw [he] at f4
  obtain⟨p,q,r,rfl,g2,g3,g4,g5,g6⟩:=putV_spec hv0.1 hv f4
  have hk:=Nat.eq_of_beq_eq_true hk
  have hlen:(A.eval z).cells.toList.length=kk:=by rw [hv0.1.len,hk]
  have hsz:(A.eval z).cells.size=kk:=by simpa using hlen
  have hsy:y'.size=k:=by rw [g5,← he];exact h3 _ (List.getElem_mem hlt)
  have hset:=h2.set h3 hlt g4 hsy
  have hlk:(p++q++r).length=k:=f3
  have hC:(cs1++cs2).toArray.toList.take (0 + j * k + off)++(A.eval z).cells.toList++(cs1++cs2).toArray.toList.drop (0 + j * k + off + kk)=(cs1.take (j * k)++(p++(A.eval z).cells.toList++r)++cs1.drop (j * k + k))++cs2:=by
   have ex:cs1.take (j * k)=x':=by rw [e1,← f2,List.append_assoc,List.take_left]
   have ey:cs1.drop (j * k + k)=yy:=by rw [e1,← f2,← hlk,← List.length_append,List.drop_left]
   have hq:q.length=kk:=by rw [g3,hk]
   rw [ex,ey]
   simp only [e1]
   have e2:x'++(p++q++r)++yy++cs2=(x'++p)++(q++(r++yy++cs2)):=by simp
   rw [e2,show 0 + j * k + off=(x'++p).length by simp [f2,g2],List.take_left,← hq,← List.length_append,← List.append_assoc (x'++p) q,List.drop_left]
   simp
  have hsz2:0 + j * k + off + kk≤(cs1++cs2).toArray.size:=by
   have:(p++q++r).length=k:=hlk
   have e3:cs1.length=x'.length + k + yy.length:=by rw [e1];simp only [List.length_append] at this ⊢;omega
   have hq:q.length=kk:=by rw [g3,hk]
   simp only [List.length_append] at this
   simp
   omega
  have hrun:=run_storeVar_at (P:=P) t.sz (v:=A.eval z) (o:=0 + j * k + off) h1 hsz hsz2 (hv0.1.one)
  rw [hC] at hrun
  obtain⟨r1,r2⟩:=hS.writeBlk (g:=g) (p':=.buf g E k (xs.set j y') c) (C:=((cs1.take (j * k)++(p++(A.eval z).cells.toList++r)++cs1.drop (j * k + k))++cs2).toArray) rfl (fun _ _=>Iff.rfl) rfl (fun _ _ h=>h) (fun ok' w' hst hh=>by
   refine⟨_,cs2,hh.trans (setRow_heap w g _ _ E (0,0) h1),hset.stp hst,fun x hx=>?_,?_,h5⟩
   ·rcases List.mem_or_eq_of_mem_set hx with hx|rfl
    ·exact h3 x hx
    ·exact hsy
   ·rw [← h4]
    have hl:=hset.len (k:=k) (fun x hx=>by
     rcases List.mem_or_eq_of_mem_set hx with hx|rfl
     ·exact h3 x hx
     ·exact hsy)
    rw [hl,h2.len h3]
    simp)
  rw [Nat.zero_add] at hrun
  generalize ((cs1.take (j * k)++(p++(A.eval z).cells.toList++r)++cs1.drop (j * k + k))++cs2).toArray=CC at hrun r1 r2
  exact⟨_,ok,by simp [execOp,hA.lit hx,Instr.storeAt,Instr.sureAddr,hrun],r1,r2⟩) h
end
end Av
