/- A text appended to an own row of bytes; own bytes as a text; numbers of 64 bits out of bytes. No program is named. -/
import Derived.Deep.OwnRows
import Derived.Lib.AppendStr
import Derived.Lib.UnsafeStr
import Derived.Lib.Builder
import Derived.Test.YtndhpgclmgpmoaaGreatDoorA09
import Derived.Test.YtndhpgclmgpmoaaGreatDoorA23
namespace Go.Proofs.YtndhpgclmgpmoaaGreatDoor
open Go Go.RowKit Tw Av
abbrev mpEn (e:MpE):MapEntry:=⟨.int .i64 e.1,sv e.2.1,e.2.2⟩
abbrev mpO (es:List MpE)(ck:Nat):Obj:=.map (es.map mpEn).toArray ck
abbrev mpV (g:Nat):AV:=.lit (.map (some g))
class TyMp (P:Program)(T:TypeId)(K V:outParam TypeId):Prop where
 out:P.underlying T=some (.map K V)
 key:P.underlying K=some (.int .i64)
 val:(P.info? V).map (·.zero)=some (some (sv []))
theorem findNow_mp (a:Int):∀ (es:List MpE) (i:Nat),Instr.findNow (.int .i64) (.int .i64 a) (es.map mpEn) i=some (if mpI es a < es.length then some (mpI es a + i,sv ((mpF es a).getD [])) else none)
 | [],i=>rfl
 | e::es,i=>by
  rw [List.map_cons]
  unfold Instr.findNow
  have h1:Instr.sameNow (.int .i64) (.int .i64 a) (mpEn e).key=some (a == e.1):=by simp [Instr.sameNow]
  rw [h1,mpI_cons,mpF_cons]
  by_cases h:e.1=a
  ·subst h
   simp
  ·have h2:(a == e.1)=false:=by simpa using fun h'=>h h'.symm
   rw [h2,if_neg h,if_neg h]
   dsimp only
   rw [findNow_mp a es (i + 1)]
   by_cases hl:mpI es a < es.length
   ·rw [if_pos hl,if_pos (by simpa using hl)]
    congr 3
    omega
   ·rw [if_neg hl,if_neg (by simpa using hl)]
theorem mpF_at:∀ {es:List MpE} {a:Int},(mpF es a).isSome=decide (mpI es a < es.length)
 | [],a=>rfl
 | e::es,a=>by
  rw [mpF_cons,mpI_cons]
  by_cases h:e.1=a
  ·rw [if_pos h,if_pos h]
   simp
  ·rw [if_neg h,if_neg h,mpF_at]
   simp
section
variable {P:Program} {N:Nat} {ops:Array Oper} {Q:Exit->Act->World->Prop} {rest:List Oper} {s:Av.Base} {e:Av.Env} {m:List Av.Piece} {d:Nat} {ty:TypeId} {pos:String} {af:Array Edge}
theorem run_find {T K V:TypeId}[t:TyMp P T K V]{a:Int}{es:List MpE}{w:World}:(Instr.findKey K (.int .i64 a) (es.map mpEn)).run P w=.ok (if mpI es a < es.length then some (mpI es a,sv ((mpF es a).getD [])) else none) w:=by
 unfold Instr.findKey
 simp only [Sem.run_bind,run_underlying t.key,Result.andThen_ok,findNow_mp,Nat.add_zero,Sem.run_pure]
theorem run_checkKey {T K V:TypeId}[t:TyMp P T K V]{a:Int}{b:Bool}{w:World}:(Instr.checkKey b 10000 K (.int .i64 a)).run P w=.ok () w:=by
 unfold Instr.checkKey
 simp only [Sem.run_bind,run_underlying t.key,Result.andThen_ok,Sem.run_pure]
theorem mp_zero {T K V:TypeId}[t:TyMp P T K V]:∃ i,P.info? V=some i/\i.zero=some (sv []):=by
 have:=t.val
 cases h:P.info? V with
 | none=>rw [h] at this;cases this
 | some i=>
  rw [h] at this
  exact⟨i,rfl,by simpa using this⟩
theorem al_lookup {T K V:TypeId}[t:TyMp P T K V]{x i:Operand}{g:Nat}{a:Int}{es:List MpE}{ck:Nat}(h:AL P N ops Q s rest ((d,.tup [str ((mpF es a).getD []),boo (mpF es a).isSome])::e) m)(hx:ev e x=some (mpV g):=by exact rfl)(hi:ev e i=some (int a):=by exact rfl)
  (hm:Has m (.obj g (mpO es ck)):=by (repeat (first|exact Av.Has.here|apply Av.Has.there))) (hd:Nat.blt d N=true:=by exact rfl):AL P N ops Q s (⟨some d,.lookup T x i true,ty,pos,af,none⟩::rest) e m:=
 al_val (fun ok w A hS hA=>by
  obtain⟨ho,_⟩:=hS.at_ _ hm.mem
  obtain⟨iz,q1,q2⟩:=mp_zero (P:=P) (T:=T)
  have h1:=run_find (P:=P) (T:=T) (a:=a) (es:=es) (w:=w)
  have h2:=run_checkKey (P:=P) (T:=T) (a:=a) (b:=(es.map mpEn).toArray.isEmpty) (w:=w)
  have h3:=mpF_at (es:=es) (a:=a)
  refine⟨.tuple #[sv ((mpF es a).getD []),.bool (mpF es a).isSome],?_,⟨_,rfl,_,_,rfl,RV0.of_lit rfl,_,_,rfl,RV0.of_lit rfl,rfl⟩⟩
  have hg:(getObj g).run P w=.ok (mpO es ck) w:=by simp [getObj,Sem.run,ho]
  simp only [execOp,hA.lit hx,hA.lit hi,Instr.lookup,Sem.run_bind,run_underlying t.out,Result.andThen_ok,hg,h2,Sem.run_pure]
  by_cases hl:mpI es a < es.length
  ·rw [if_pos hl] at h1
   rw [dT hl] at h3
   rw [h3]
   simp [h1]
  ·rw [if_neg hl] at h1
   rw [dZ hl] at h3
   have h4:mpF es a=none:=by simpa using h3
   rw [h4]
   simp [h1,zeroValue,typeInfo,q1,q2]) hd h
theorem mapErase {α β:Type}(f:α->β):∀ (l:List α) (i:Nat),(l.eraseIdx i).map f=(l.map f).eraseIdx i
 | [],_=>rfl
 | _::_,0=>rfl
 | a::l,i + 1=>by simp [mapErase f l i]
theorem run_setMap {g:Nat}{o o':Obj}{w:World}(ho:w.heap[g]?=some o)(hn:Obj.notCells o=true):(setObj g o').run P w=.ok () { w with heap:=w.heap.setIfInBounds g o' }:=by
 cases o <;> first|(simp [setObj,Sem.run,ho];done)|cases hn
theorem al_mapPut {T K V:TypeId}[t:TyMp P T K V]{x i y:Operand}{g:Nat}{a:Int}{b:Bs}{es:List MpE}{ck:Nat}{pre post:List Av.Piece}(h:AL P N ops Q s rest e (pre++.obj g (mpO (mpP es ck a b) (mpC es ck a))::post))(hm:m=pre++.obj g (mpO es ck)::post)(hx:ev e x=some (mpV g):=by exact rfl)(hi:ev e i=some (int a):=by exact rfl)(hy:ev e y=some (str b):=by exact rfl) :
  AL P N ops Q s (⟨none,.mapUpdate T x i y,ty,pos,af,none⟩::rest) e m:=
 al_skip (fun ok w A hS hA=>by
  subst hm
  obtain⟨ho,hno⟩:=hS.at_ (.obj g (mpO es ck)) (by simp)
  obtain⟨g1,g2⟩:=hS.setObj (o':=mpO (mpP es ck a b) (mpC es ck a)) rfl
  have h1:=run_find (P:=P) (T:=T) (a:=a) (es:=es) (w:=w)
  have h2:=run_checkKey (P:=P) (T:=T) (a:=a) (b:=false) (w:=w)
  have h3:=run_setMap (P:=P) (o':=mpO (mpP es ck a b) (mpC es ck a)) ho hno
  refine⟨_,ok,?_,g1,g2⟩
  have hg:(getObj g).run P w=.ok (mpO es ck) w:=by simp [getObj,Sem.run,ho]
  simp only [execOp,hA.lit hx,hA.lit hi,hA.lit hy,Instr.mapUpdate,Sem.run_bind,run_underlying t.out,Result.andThen_ok,hg,h2,h1]
  by_cases hl:mpI es a < es.length
  ·rw [if_pos hl]
   have h5:(es[mpI es a]'hl).1=a:=of_decide_eq_true (List.findIdx_getElem (w:=hl))
   have h6:(es.map mpEn).modify (mpI es a) (fun e=>{ key:=.int .i64 a,val:=sv b,born:=e.born })=(mpP es ck a b).map mpEn:=by
    apply List.ext_getElem
    ·simp [mpP,hl]
    ·intro i hi1 hi2
     simp [mpP,hl,List.getElem_modify]
     split <;> rfl
   have h8:mpC es ck a=ck:=if_pos hl
   rw [h8] at h3 ⊢
   simp [hl,h5,Instr.keyThatStays,Instr.sameBits,h6]
   rw [h3]
   rfl
  ·rw [if_neg hl]
   have h7:Obj.map ((es.map mpEn).toArray.push { key:=.int .i64 a,val:=sv b,born:=ck }) (ck + 1)=mpO (mpP es ck a b) (mpC es ck a):=by
    unfold mpC mpP
    rw [if_neg hl,if_neg hl]
    simp [mpO]
   simp only [h7,h3,Result.andThen_ok,Sem.run_pure]) h
theorem al_mapDel {T K V S:TypeId}[t:TyMp P T K V]{x i:Operand}{g:Nat}{a:Int}{es:List MpE}{ck:Nat}{pre post:List Av.Piece}(h:AL P N ops Q s rest e (pre++.obj g (mpO (mpD es a) ck)::post))(hm:m=pre++.obj g (mpO es ck)::post)(hx:ev e x=some (mpV g):=by exact rfl)(hi:ev e i=some (int a):=by exact rfl) :
  AL P N ops Q s (⟨none,.call ⟨.builtin .delete,#[x,i],#[T,S]⟩,ty,pos,af,none⟩::rest) e m:=
 al_none (fun ok w A hS hA=>by
  subst hm
  obtain⟨ho,hno⟩:=hS.at_ (.obj g (mpO es ck)) (by simp)
  obtain⟨g1,g2⟩:=hS.setObj (o':=mpO (mpD es a) ck) rfl
  have h1:=run_find (P:=P) (T:=T) (a:=a) (es:=es) (w:=w)
  have h2:=run_checkKey (P:=P) (T:=T) (a:=a) (b:=(es.map mpEn).toArray.isEmpty) (w:=w)
  have h3:=run_setMap (P:=P) (o':=mpO (mpD es a) ck) ho hno
  refine⟨.tuple #[],_,ok,?_,g1,g2⟩
  have hg:(getObj g).run P w=.ok (mpO es ck) w:=by simp [getObj,Sem.run,ho]
  have hx':=hA.lit hx
  have hi':=hA.lit hi
  simp only [execOp,resolve,invoke,builtin,List.map_toArray,List.map_cons,List.map_nil,hx',hi',Builtin.delete_,List.getElem?_toArray,List.getElem?_cons_zero,List.getElem?_cons_succ,Sem.run_bind,run_underlying t.out,Result.andThen_ok,hg,h2,h1,Sem.run_pure]
  by_cases hl:mpI es a < es.length
  ·rw [if_pos hl]
   have h7:Obj.map ((es.map mpEn).toArray.eraseIdxIfInBounds (mpI es a)) ck=mpO (mpD es a) ck:=by
    simp [mpO,mpD,Array.eraseIdxIfInBounds,hl,mapErase]
   simp only [h7,h3,Sem.run_bind,Result.andThen_ok,Sem.run_pure]
  ·rw [if_neg hl]
   have h7:mpD es a=es:=List.eraseIdx_of_length_le (by omega)
   rw [h7] at h3 ⊢
   simp only [Sem.run_bind,h3,Result.andThen_ok,Sem.run_pure]) h
theorem al_makeMap {T K V:TypeId}[TyMp P T K V](h:∀ g,AL P N ops Q s rest ((d,mpV g)::e) (.obj g (mpO [] 0)::m))(hd:Nat.blt d N=true:=by exact rfl):AL P N ops Q s (⟨some d,.makeMap T none,ty,pos,af,none⟩::rest) e m:=
 al_stepV (fun ok w A hS hA=>by
  obtain⟨ok',g1,g2⟩:=hS.newObj (o:=mpO [] 0) rfl
  exact⟨_,.map (some w.heap.size),w.alloc (mpO [] 0),ok',_,by simp [execOp,Instr.makeMap,newObj,Sem.run];rfl,RVl rfl,g1,g2,h w.heap.size⟩) hd
theorem bytes_rcs {ok:Ok}{w:World}:∀ l:Bs,RCs ok w (l.map fun c=>AV.lit (u8v c)) (l.map u8v)
 | []=>by rw [List.map_nil,RCs];rfl
 | c::l=>by
  rw [List.map_cons,RCs]
  exact⟨[u8v c],l.map u8v,rfl,by rw [RC];exact⟨rfl,rfl⟩,bytes_rcs l⟩
theorem al_makeZ {T E:TypeId}[t:TyE P T E 1 1][tz:TyO P E (.lit (u8v 0))]{x y:Operand}{q:Int}(h:AL P N ops Q s rest ((d,.sl 1 ((List.replicate q.toNat (0:UInt8)).map fun c=>.lit (u8v c)) none)::e) m)
  (hx:ev e x=some (int q):=by exact rfl) (hy:ev e y=some (int q):=by exact rfl) (hq:0<=q/\q<=1048576:=by first|omega|decide) (hd:Nat.blt d N=true:=by exact rfl):AL P N ops Q s (⟨some d,.makeSlice T x y,ty,pos,af,none⟩::rest) e m:=by
 refine al_step (v:=.sl 1 ((List.replicate q.toNat (0:UInt8)).map fun c=>.lit (u8v c)) none) (fun ok w A hS hA=>?_) hd
 obtain⟨i,z,q1,q2,hzk,hik,hib⟩:=t.zero
 have e1:=tz.out
 rw [q1,show cellsA 8 (.lit (u8v 0))=some [u8v 0] from rfl] at e1
 have e2:z.cells.toList=[u8v 0]/\isAggV z=false:=by simpa [q2,AV.isAgg] using e1
 have hz1:z=u8v 0:=by
  have:=cells_of_not e2.2
  rw [this] at e2
  simpa using e2.1
 subst hz1
 have hn:((q.toNat:Nat):Int)=q:=by omega
 have hr:=run_make_row (P:=P) T E i (u8v 0) t.l.out q1 q2 hik rfl .i64 .i64 q.toNat (by rw [hib];omega) (by omega) w
 rw [hn] at hr
 have hE:=Ext.alloc w (.cells (madeCells #[u8v 0] q.toNat) E)
 have hblk:(w.alloc (.cells (madeCells #[u8v 0] q.toNat) E)).heap[w.heap.size]?=some (.cells (madeCells #[u8v 0] q.toNat) E (0,0)):=heap_alloc_new w _
 have hcl:(madeCells #[u8v 0] q.toNat).toList=(List.replicate q.toNat (0:UInt8)).map u8v:=by
  apply List.ext_getElem
  ·simp [madeCells]
  ·intro j h1 h2
   simp [madeCells,Nat.mod_one]
 refine⟨.slice (some ⟨w.heap.size,0,none⟩) q.toNat q.toNat,_,ok,m,by simp [execOp,hA.lit hx,hA.lit hy,hr],?_,hS.ext hE,Ext.astp hE ok,h⟩
 refine RV.sl (by simp) (by simp) (Nat.le_refl _) (by simp only [maxLen];omega) (fun hp=>⟨w.heap.size,0,(List.replicate q.toNat (0:UInt8)).map u8v,rfl,by simp,fun j v hj=>?_,bytes_rcs _⟩) (fun x hx=>by
  obtain⟨c,_,rfl⟩:=List.mem_map.1 hx
  rfl)
 rw [Nat.zero_add,cell_of_row _ _ _ _ _ _ hblk]
 refine⟨?_,hS.fresh _ _ (Nat.le_refl _)⟩
 rw [<- hcl] at hj
 simpa using hj
theorem al_callF {f:FuncId}[hf:FnB P f]{xs:List Operand}{ts:Array TypeId}{args:List AV}(pre m1 post:List Av.Piece){K:AV->List Av.Piece->Prop}{gl:List (Nat × AV)}(hc:Av.Spec P gl f args m1 K)(h:∀ v m1',K v m1'->AL P N ops Q s rest ((d,v)::e) (pre++(m1'++post)))
  (hm:m=pre++(m1++post):=by exact rfl) (hg:s.gl=gl:=by assumption) (hx:evs e xs=some args:=by exact rfl) (hn:args.all noTup=true:=by exact rfl) (hd:Nat.blt d N=true:=by exact rfl):AL P N ops Q s (⟨some d,.call ⟨.value (.func f),xs.toArray,ts⟩,ty,pos,af,none⟩::rest) e m:=by
 subst hm hg
 refine al_callK m1 (pre++post) hc (fun v m1' hk=>?_) (List.perm_append_comm_assoc _ _ _) hx hn hd
 exact al_st (fun ok w hS=>hS.perm (List.perm_append_comm_assoc _ _ _)) (h v m1' hk)
theorem al_callEnd {f:FuncId}[hf:FnB P f]{xs:List Operand}{ts:Array TypeId}{args:List AV}(pre m1:List Av.Piece){K:AV->List Av.Piece->Prop}{gl:List (Nat × AV)}(hc:Av.Spec P gl f args m1 K)(h:∀ v m1',K v m1'->AL P N ops Q s rest ((d,v)::e) (pre++m1'))
  (hm:m=pre++m1:=by exact rfl) (hg:s.gl=gl:=by assumption) (hx:evs e xs=some args:=by exact rfl) (hn:args.all noTup=true:=by exact rfl) (hd:Nat.blt d N=true:=by exact rfl):AL P N ops Q s (⟨some d,.call ⟨.value (.func f),xs.toArray,ts⟩,ty,pos,af,none⟩::rest) e m:=by
 subst hm hg
 refine al_callK m1 pre hc (fun v m1' hk=>?_) List.perm_append_comm hx hn hd
 exact al_st (fun ok w hS=>hS.perm List.perm_append_comm) (h v m1' hk)
theorem al_callVW {f:FuncId}[hf:FnB P f]{x:Operand}{xs:List Operand}{ts:Array TypeId}{args:List AV}{cs:List Value}{K:AV->List Av.Piece->Prop}{gl:List (Nat × AV)}(hc:Av.Spec P gl f (args++cs.map .lit) m K)(h:∀ v m1',K v m1'->AL P N ops Q s rest ((d,v)::e) m1')
  (hg:s.gl=gl:=by assumption) (h0:ev e x=some (fnv f cs):=by exact rfl) (hx:evs e xs=some args:=by exact rfl) (hn:args.all noTup=true:=by exact rfl) (hcs:∀ v ∈ cs,v.oneCell'=true:=by simp [Value.oneCell']) (hd:Nat.blt d N=true:=by exact rfl) :
  AL P N ops Q s (⟨some d,.call ⟨.value x,xs.toArray,ts⟩,ty,pos,af,none⟩::rest) e m:=by
 subst hg
 refine al_callV m [] hc (fun v m1' hk=>?_) (by simp) h0 hx hn hcs hd
 rw [List.append_nil]
 exact h v m1' hk
theorem al_callW {f:FuncId}[hf:FnB P f]{xs:List Operand}{ts:Array TypeId}{args:List AV}{K:AV->List Av.Piece->Prop}{gl:List (Nat × AV)}(hc:Av.Spec P gl f args m K)(h:∀ v m1',K v m1'->AL P N ops Q s rest ((d,v)::e) m1')
  (hg:s.gl=gl:=by assumption) (hx:evs e xs=some args:=by exact rfl) (hn:args.all noTup=true:=by exact rfl) (hd:Nat.blt d N=true:=by exact rfl):AL P N ops Q s (⟨some d,.call ⟨.value (.func f),xs.toArray,ts⟩,ty,pos,af,none⟩::rest) e m:=by
 subst hg
 refine al_callK m [] hc (fun v m1' hk=>?_) (by simp) hx hn hd
 rw [List.append_nil]
 exact h v m1' hk
theorem al_swp {l:List Oper}(A B:List Av.Piece)(h:AL P N ops Q s l e (B++A))(hm:m=A++B:=by exact rfl):AL P N ops Q s l e m:=by
 subst hm
 exact al_st (fun ok w hS=>hS.perm List.perm_append_comm) h
theorem ae_ord {x:Exit}(m' l:List Av.Piece)(h:AE N x Q s e m')(hp:m'.Perm l)(hm:l.Sublist m):AE N x Q s e m:=ae_st (fun _ _ hS=>(hS.less hm).perm hp) h
theorem al_ord {l':List Oper}(m' l:List Av.Piece)(h:AL P N ops Q s l' e m')(hp:m'.Perm l)(hm:l.Sublist m):AL P N ops Q s l' e m:=al_st (fun _ _ hS=>(hS.less hm).perm hp) h
theorem ac_ord {c:Code}(m' l:List Av.Piece)(h:AC P N c Q s e m')(hp:m'.Perm l)(hm:l.Sublist m):AC P N c Q s e m:=ac_st (fun _ _ hS=>(hS.less hm).perm hp) h
end
end Go.Proofs.YtndhpgclmgpmoaaGreatDoor

namespace Av
open Go Go.RowKit Tw
abbrev bytA (l:Bs):List AV:=l.map fun c=>.lit (u8v c)
theorem strCells_eq (l:Bs):Lib.strCells ⟨l.toArray⟩=l.map u8v:=by simp [Lib.strCells,u8v]
theorem RCs_byt {ok:Ok}{w:World}(l:Bs):RCs ok w (bytA l) (l.map u8v):=by
 induction l with
 | nil=>rw [show bytA []=[] from rfl,RCs];rfl
 | cons c l ih=>
  rw [show bytA (c::l)=.lit (u8v c)::bytA l from rfl,RCs]
  exact⟨[u8v c],l.map u8v,rfl,by rw [RC];exact⟨rfl,rfl⟩,ih⟩
theorem byt_sz (l:Bs):∀ x ∈ bytA l,x.size=1:=by
 intro x hx
 obtain⟨c,_,rfl⟩:=List.mem_map.1 hx
 rfl
theorem bytA_len (l:Bs):(bytA l).length=l.length:=llm _
theorem ba_size (l:Bs):(⟨l.toArray⟩:ByteArray).size=l.length:=by simp [ByteArray.size]
section
variable {P:Program} {N:Nat} {ops:Array Oper} {Q:Exit->Act->World->Prop} {rest:List Oper} {s:Base} {e:Env} {m:List Piece} {d:Nat} {ty:TypeId} {pos:String} {af:Array Edge}
theorem al_appendBS {T U E:TypeId}[t:TyE P T E 1 1][tu:TyT P U]{xo yo:Operand}{g n c:Nat}{l:Bs}{xs:List AV}{M:Nat->Nat->List Piece}(h:∀ g' c',n + l.length<=c'->AL P N ops Q s rest ((d,.lit (.slice (some ⟨g',0,none⟩) (n + l.length) c'))::e) (M g' c'))(hx:ev e xo=some (.lit (.slice (some ⟨g,0,none⟩) n c)):=by exact rfl)(hy:ev e yo=some (str l):=by exact rfl)
  (hm:∀ g' c',Upd m (.buf g E 1 xs c) (.buf g' E 1 (xs++bytA l) c') (M g' c'):=by intro g' c';(repeat (first|apply Av.Upd.here|apply Av.Upd.there))) (hn:n=xs.length:=by first|exact rfl|(simp;done)|(simp;omega)) (hnc:n<=c:=by omega)
  (hb:n + l.length<=140737488355328:=by omega) (hd:Nat.blt d N=true:=by exact rfl) :
  AL P N ops Q s (⟨some d,.call ⟨.builtin .append,#[xo,yo],#[T,U]⟩,ty,pos,af,none⟩::rest) e m:=by
 subst hn
 refine al_stepV (fun ok w B hS hB=>?_) hd
 obtain⟨i,z,q1,q2,hzk,hik,hib⟩:=t.zero
 have hg1:=hB.lit hx
 have hg2:=hB.lit hy
 have hs:=ba_size l
 obtain⟨pre,post,hm1,_⟩:=(hm g c).parts
 have hS0:=hS
 rw [hm1] at hS
 obtain⟨cs1,cs2,a1,a2,a3,a4,a5⟩:=hS.at_ (.buf g E 1 xs c) (by simp)
 have hcl:=a2.len a3
 rw [Nat.mul_one] at hcl
 by_cases hroom:xs.length + l.length<=c
 ·obtain⟨pre',post',hm1',hm2'⟩:=(hm g c).parts
  rw [hm1'] at hS0
  obtain⟨w',r1,r2,r3⟩:=St.overB (P:=P) hS0 (RCs_byt l) (byt_sz l) (Nat.le_refl _) (by rw [bytA_len];exact hroom)
  have ho:over xs xs.length (bytA l)=xs++bytA l:=by
   unfold over
   rw [List.take_length,List.drop_of_length_le (by omega),List.append_nil]
  rw [ho] at r2
  have hf:=Lib.run_firstCells_string (P:=P) w i.size ⟨l.toArray⟩
  rw [hs,strCells_eq] at hf
  rw [Nat.mul_one] at r1
  have hr:(Builtin.append_ #[T,U] ty #[.slice (some ⟨g,0,none⟩) xs.length c,.string ⟨l.toArray⟩]).run P w=.ok (.slice (some ⟨g,0,none⟩) (xs.length + l.length) c) w':=by
   simp [Builtin.append_,run_underlying t.l.out,run_underlying tu.out,Go.sizeOf,typeInfo,q1,Builtin.lenOf,hs,hroom,hik,add_mid]
   rw [hik] at hf
   simp [hf,r1]
  exact⟨_,.slice (some ⟨g,0,none⟩) (xs.length + l.length) c,w',ok,_,by simp [execOp,resolve,invoke,builtin,hg1,hg2,hr],RVl rfl,by rw [hm2'];exact r2,r3,h g c hroom⟩
 ·have holds:∀ j v,cs1[j]?=some v->w.cell? ((⟨g,0,none⟩:Addr).add j)=some v:=fun j v hj=>by
   rw [add_mid,cell_of_row _ _ _ _ _ _ a1]
   have hj':j < cs1.length:=(List.getElem?_eq_some_iff.1 hj).1
   simp only [Nat.zero_add,List.getElem?_toArray]
   rw [List.getElem?_append_left hj']
   exact hj
  have hr:=Lib.run_append_grow_string (P:=P) w T U ty E i z t.l.out tu.out q1 q2 ⟨g,0,none⟩ xs.length c cs1 (by rw [hik,Nat.mul_one];exact hcl) holds ⟨l.toArray⟩ (by rw [hs];omega) (by rw [hs];omega) (by rw [hs,hib];exact growslice_fits (by omega) (by omega))
  rw [hs,strCells_eq] at hr
  have hge:=grownCap_ge w (xs.length + l.length) c E
  have hle:=grownCap_le_maxLen w (xs.length + l.length) c E (by simp [maxLen];omega)
  generalize grownCap w (xs.length + l.length) c E=c' at hr hge hle
  obtain⟨pre',post',hm1',hm2'⟩:=(hm w.heap.size c').parts
  have hE:Ext w (w.drew.alloc (.cells (cs1.toArray++(l.map u8v).toArray++Builtin.zeroCells z.cells (c' - (xs.length + l.length))) E)):=Ext.trans' (Ext.drew w) (Ext.alloc w.drew _)
  have hblk:(w.drew.alloc (.cells (cs1.toArray++(l.map u8v).toArray++Builtin.zeroCells z.cells (c' - (xs.length + l.length))) E)).heap[w.heap.size]?=some (.cells ((cs1++l.map u8v)++(Builtin.zeroCells z.cells (c' - (xs.length + l.length))).toList).toArray E (0,0)):=by
   rw [show ((cs1++l.map u8v)++(Builtin.zeroCells z.cells (c' - (xs.length + l.length))).toList).toArray=cs1.toArray++(l.map u8v).toArray++Builtin.zeroCells z.cells (c' - (xs.length + l.length)) by apply Array.ext';simp]
   exact heap_alloc_new w.drew _
  rw [hm1'] at hS0
  have hd:=hS0.less (m':=pre'++post') (by simp)
  obtain⟨ok',r1,r2⟩:=St.newBuf hd hE (by simp) hblk (a2.append (RCs_byt l)) (fun x hx=>(List.mem_append.1 hx).elim (a3 x) (byt_sz l x)) (c:=c') (by
   simp only [List.length_append,Array.length_toList,size_zeroCells,hzk,hcl,List.length_map]
   omega) hle
  exact⟨_,.slice (some ⟨w.heap.size,0,none⟩) (xs.length + l.length) c',_,ok',_,by simp [execOp,resolve,invoke,builtin,hg1,hg2,hr],RVl rfl,by rw [hm2'];exact r1.perm List.perm_middle,r2,h _ _ hge⟩
theorem al_appendNS {T U E:TypeId}[t:TyE P T E 1 1][tu:TyT P U]{xo yo:Operand}{l:Bs}(h:∀ g' c',l.length<=c'->AL P N ops Q s rest ((d,.lit (.slice (some ⟨g',0,none⟩) l.length c'))::e) (.buf g' E 1 (bytA l) c'::m))(hx:ev e xo=some (.lit (.slice none 0 0)):=by exact rfl)(hy:ev e yo=some (str l):=by exact rfl)
  (h0:0 < l.length:=by omega) (hb:l.length<=140737488355328:=by omega) (hd:Nat.blt d N=true:=by exact rfl) :
  AL P N ops Q s (⟨some d,.call ⟨.builtin .append,#[xo,yo],#[T,U]⟩,ty,pos,af,none⟩::rest) e m:=by
 refine al_stepV (fun ok w B hS hB=>?_) hd
 obtain⟨i,z,q1,q2,hzk,hik,hib⟩:=t.zero
 have hg1:=hB.lit hx
 have hg2:=hB.lit hy
 have hs:=ba_size l
 have hr:=run_append_nil_string (P:=P) w T U ty E i z t.l.out tu.out q1 q2 ⟨l.toArray⟩ (by rw [hs];exact h0) (by rw [hs];omega) (by rw [hs,hib];omega)
 have e1:((⟨l.toArray⟩:ByteArray).data.map fun b=>Value.int .u8 b.toNat)=(l.map u8v).toArray:=by apply Array.ext';simp [u8v]
 rw [e1,hs] at hr
 have hge:=grownCap_ge w l.length 0 E
 have hle:=grownCap_le_maxLen w l.length 0 E (by simp [maxLen];omega)
 generalize grownCap w l.length 0 E=c' at hr hge hle
 have hE:Ext w (w.drew.alloc (.cells ((l.map u8v).toArray++Builtin.zeroCells z.cells (c' - l.length)) E)):=Ext.trans' (Ext.drew w) (Ext.alloc w.drew _)
 have hblk:(w.drew.alloc (.cells ((l.map u8v).toArray++Builtin.zeroCells z.cells (c' - l.length)) E)).heap[w.heap.size]?=some (.cells (l.map u8v++(Builtin.zeroCells z.cells (c' - l.length)).toList).toArray E (0,0)):=by
  rw [show (l.map u8v++(Builtin.zeroCells z.cells (c' - l.length)).toList).toArray=(l.map u8v).toArray++Builtin.zeroCells z.cells (c' - l.length) by apply Array.ext';simp]
  exact heap_alloc_new w.drew _
 obtain⟨ok',r1,r2⟩:=St.newBuf hS hE (by simp) hblk (RCs_byt l) (byt_sz l) (c:=c') (by
  simp only [Array.length_toList,size_zeroCells,hzk,List.length_map]
  omega) hle
 exact⟨_,.slice (some ⟨w.heap.size,0,none⟩) l.length c',_,ok',_,by simp [execOp,resolve,invoke,builtin,hg1,hg2,hr],RVl rfl,r1,r2,h _ _ hge⟩
theorem al_appendNE {T U E:TypeId}[t:TyE P T E 1 1][tu:TyT P U]{xo yo:Operand}(h:AL P N ops Q s rest ((d,.lit (.slice none 0 0))::e) m)(hx:ev e xo=some (.lit (.slice none 0 0)):=by exact rfl)(hy:ev e yo=some (str []):=by exact rfl)(hd:Nat.blt d N=true:=by exact rfl) :
  AL P N ops Q s (⟨some d,.call ⟨.builtin .append,#[xo,yo],#[T,U]⟩,ty,pos,af,none⟩::rest) e m:=
 al_lit rfl (fun ok w B hB=>by
  obtain⟨i,z,q1,q2,hzk,hik,hib⟩:=t.zero
  have hf:=Lib.run_firstCells_string (P:=P) w i.size ⟨#[]⟩
  have hr:(Builtin.append_ #[T,U] ty #[.slice none 0 0,.string ⟨#[]⟩]).run P w=.ok (.slice none 0 0) w:=by
   have hs:(⟨#[]⟩:ByteArray).size=0:=rfl
   rw [hs] at hf
   simp [Builtin.append_,run_underlying t.l.out,run_underlying tu.out,Go.sizeOf,typeInfo,q1,Builtin.lenOf,hs,hf]
  simp [execOp,resolve,invoke,builtin,hB.lit hx,hB.lit hy,hr]) hd h
theorem al_toUnsafe {S D t:TypeId}{j:TypeInfo}{x:Operand}{g n:Nat}{T0:TypeId}{ps:List AV}(hs:P.underlying S=some (.pointer t))(hD:P.underlying D=some .unsafePointer)(hi:P.info? t=some j)(hj:j.size≠0)(hn:0 < n)(h:AL P N ops Q s rest ((d,.lit (.pointer (some ⟨g,0,none⟩)))::e) m)(hx:ev e x=some (.lit (.pointer (some ⟨g,0,none⟩))):=by exact rfl)
  (hm:Has m (.var g T0 (.agg n ps)):=by (repeat (first|exact Av.Has.here|apply Av.Has.there))) (hd:Nat.blt d N=true:=by exact rfl):AL P N ops Q s (⟨some d,.convert S D x,ty,pos,af,none⟩::rest) e m:=
 al_val (v:=.lit (.pointer (some ⟨g,0,none⟩))) (fun ok w a hS hA=>by
  obtain⟨cs,h1,h2⟩:=hS.at_ _ hm.mem
  rw [RC] at h2
  have hsh:w.shape? g=some (T0,n):=by simp [World.shape?,h1,h2.1]
  exact⟨_,by simp [execOp,hA.lit hx,Lib.run_to_unsafe w ⟨g,0,none⟩ hs hD hi hj hsh hn],RVl rfl⟩) hd h
theorem al_fromUnsafe {S D u:TypeId}{j:TypeInfo}{x:Operand}{g n:Nat}{T0:TypeId}{ps:List AV}(hs:P.underlying S=some .unsafePointer)(hD:P.underlying D=some (.pointer u))(hi:P.info? u=some j)(hl:liesAt P P.depth T0 (n / P.cellsOf T0) 0 u 1=true)(h:AL P N ops Q s rest ((d,.lit (.pointer (some ⟨g,0,none⟩)))::e) m)(hx:ev e x=some (.lit (.pointer (some ⟨g,0,none⟩))):=by exact rfl)
  (hm:Has m (.var g T0 (.agg n ps)):=by (repeat (first|exact Av.Has.here|apply Av.Has.there))) (hd:Nat.blt d N=true:=by exact rfl):AL P N ops Q s (⟨some d,.convert S D x,ty,pos,af,none⟩::rest) e m:=
 al_val (v:=.lit (.pointer (some ⟨g,0,none⟩))) (fun ok w a hS hA=>by
  obtain⟨cs,h1,h2⟩:=hS.at_ _ hm.mem
  rw [RC] at h2
  have hsh:w.shape? g=some (T0,n):=by simp [World.shape?,h1,h2.1]
  exact⟨_,by simp [execOp,hA.lit hx,Lib.run_from_unsafe w ⟨g,0,none⟩ hs hD hi hsh hl],RVl rfl⟩) hd h
theorem al_ptrSame {T yT E:TypeId}{j:TypeInfo}{x y:Operand}{p:Addr}(hp:P.underlying T=some (.pointer E))(hi:P.info? E=some j)(h:AL P N ops Q s rest ((d,boo false)::e) m)(hx:ev e x=some (.lit (.pointer (some p))):=by exact rfl)(hy:ev e y=some (.lit (.pointer (some p))):=by exact rfl)(hd:Nat.blt d N=true:=by exact rfl) :
  AL P N ops Q s (⟨some d,.binOp .neq T x y yT,ty,pos,af,none⟩::rest) e m:=
 al_lit rfl (fun ok w a ha=>by
  have hg:(eqGuard .neq T x y (.pointer (some p)) (.pointer (some p))).run P w=.ok () w:=by
   unfold eqGuard
   split <;> rfl
  simp [execOp,ha.lit hx,ha.lit hy,hg,Lib.run_neq_ptr_same w p hp hi]) hd h
theorem al_sliceData {T:TypeId}{x:Operand}{g n c:Nat}(h:AL P N ops Q s rest ((d,.lit (.pointer (some ⟨g,0,none⟩)))::e) m)(hc:c≠0)(hx:ev e x=some (.lit (.slice (some ⟨g,0,none⟩) n c)):=by exact rfl)(hd:Nat.blt d N=true:=by exact rfl) :
  AL P N ops Q s (⟨some d,.call ⟨.builtin .unsafeSliceData,#[x],#[T]⟩,ty,pos,af,none⟩::rest) e m:=
 al_lit rfl (fun ok w a ha=>by simp [execOp,resolve,invoke,builtin,ha.lit hx,Lib.run_unsafeSliceData_row w _ _ _ _ _ hc]) hd h
theorem al_sliceDataN {T:TypeId}{x:Operand}(h:AL P N ops Q s rest ((d,.lit (.pointer none))::e) m)(hx:ev e x=some (.lit (.slice none 0 0)):=by exact rfl)(hd:Nat.blt d N=true:=by exact rfl) :
  AL P N ops Q s (⟨some d,.call ⟨.builtin .unsafeSliceData,#[x],#[T]⟩,ty,pos,af,none⟩::rest) e m:=
 al_lit rfl (fun ok w a ha=>by simp [execOp,resolve,invoke,builtin,ha.lit hx,Lib.run_unsafeSliceData_nil]) hd h
theorem al_unsafeStrN {T U:TypeId}{x y:Operand}(h:AL P N ops Q s rest ((d,str [])::e) m)(hx:ev e x=some (.lit (.pointer none)):=by exact rfl)(hy:ev e y=some (int 0):=by exact rfl)(hd:Nat.blt d N=true:=by exact rfl) :
  AL P N ops Q s (⟨some d,.call ⟨.builtin .unsafeString,#[x,y],#[T,U]⟩,ty,pos,af,none⟩::rest) e m:=
 al_lit rfl (fun ok w a ha=>by simp [execOp,resolve,invoke,builtin,ha.lit hx,ha.lit hy,Lib.run_unsafeString_none];rfl) hd h
theorem freeze_heap (w:World)(a:Addr)(n b:Nat)(h:b≠a.block):(w.freeze a n).heap[b]?=w.heap[b]?:=by
 unfold World.freeze
 split
 ·rfl
 ·simp only [Array.getElem?_modify]
  rw [if_neg (fun e=>h e.symm)]
theorem freeze_cell (w:World)(a:Addr)(n b j:Nat):(w.freeze a n).cell? ⟨b,j,none⟩=w.cell? ⟨b,j,none⟩:=by
 by_cases hb:b=a.block
 ·unfold World.freeze
  split
  ·rfl
  ·simp only [World.cell?,Array.getElem?_modify,hb,if_true]
   cases hh:w.heap[a.block]? with
   | none=>rfl
   | some o=>cases o <;> rfl
 ·exact cell_block (freeze_heap w a n b hb)
theorem freeze_rest (w:World)(a:Addr)(n:Nat):(w.freeze a n).heap.size=w.heap.size/\(w.freeze a n).os=w.os/\(w.freeze a n).tape=w.tape/\(w.freeze a n).output=w.output:=by
 unfold World.freeze
 split
 ·exact⟨rfl,rfl,rfl,rfl⟩
 ·exact⟨by simp,rfl,rfl,rfl⟩
theorem al_unsafeStr {T U E:TypeId}{x y:Operand}{g c:Nat}{l:Bs}{m':List Piece}(hp:P.underlying T=some (.pointer E))(hc:P.cellsOf E=1)(h0:l≠[])(h:AL P N ops Q s rest ((d,str l)::e) m')(hx:ev e x=some (.lit (.pointer (some ⟨g,0,none⟩))):=by exact rfl)(hy:ev e y=some (int l.length):=by exact rfl)
  (hm:Upd m (.buf g E 1 (bytA l) c) (.tail E 1 (.slice none 0 0)) m':=by (repeat (first|apply Av.Upd.here|apply Av.Upd.there))) (hl:l.length<=9223372036854775807:=by omega) (hd:Nat.blt d N=true:=by exact rfl) :
  AL P N ops Q s (⟨some d,.call ⟨.builtin .unsafeString,#[x,y],#[T,U]⟩,ty,pos,af,none⟩::rest) e m:=by
 refine al_step (v:=str l) (fun ok w a hS ha=>?_) hd
 obtain⟨pre,post,rfl,rfl⟩:=hm.parts
 obtain⟨cs1,cs2,h1,h2,h3,h4,h5⟩:=hS.at_ (.buf g E 1 (bytA l) c) (by simp)
 have hcs:cs1=l.map u8v:=RCs_u8_eq h2
 subst hcs
 have hsh:w.shape? g=some (E,(l.map u8v++cs2).length):=by simp [World.shape?,h1]
 have hr:=Lib.run_unsafeString_row (P:=P) w T U ty E hp hc g _ hsh l h0 (by simp) hl (fun j x hj=>by
  rw [add_mid,cell_of_row _ _ _ _ _ _ h1]
  have hj':j < (l.map u8v).length:=by simpa using (List.getElem?_eq_some_iff.1 hj).1
  simp only [Nat.zero_add,List.getElem?_toArray]
  rw [List.getElem?_append_left hj',List.getElem?_map,hj]
  rfl)
 have hst:Stp ok w ok (w.freeze ⟨g,0,none⟩ l.length):=⟨by rw [(freeze_rest _ _ _).1];exact Nat.le_refl _,fun b j v g1 g2=>⟨by rw [freeze_cell];exact g1,g2⟩⟩
 obtain⟨f1,f2,f3,f4⟩:=freeze_rest w ⟨g,0,none⟩ l.length
 refine⟨.string ⟨l.toArray⟩,_,ok,_,by simp [execOp,resolve,invoke,builtin,ha.lit hx,ha.lit hy,hr],RVl rfl,?_,hst,h⟩
 refine hS.write (g:=g) (p':=.tail E 1 (.slice none 0 0)) rfl (.inr rfl) hst (.inl ⟨none,0,rfl⟩) (fun b j hb=>?_) f1 f2 f3 f4 (fun b hne=>freeze_heap w _ _ b hne) (fun _ _ _=>Iff.rfl)
 obtain⟨a,n',c',he,hne,_⟩:=hb
 injection he with _ h1 h2
 omega
end
end Av
