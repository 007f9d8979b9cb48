/- numbers of 256 bits in plain words: four of 64 bits, the least first; 32 of 8. No program is named. -/
import Derived.Lib.AppendStr
import Derived.Lib.UnsafeStr
import Derived.Lib.Builder
import Derived.Test.YtlkkekpcofjbeaaGreatDoorA23
namespace Av
open Go Go.RowKit Tw
theorem ImpC.nilT {k:Nat}:ImpC (.lit (.slice none 0 0)) (.sl k [] (some (.slice none 0 0))):=fun ok w cs h=>by
 rw [RC] at h
 rw [RC]
 exact⟨none,0,h.1,by simp,Nat.le_refl _,by simp [maxLen],by simp,by simp⟩
theorem upon_mono {P:Program}{o:Oper}{a:Act}{next next':Act->World->Prop}{Q Q':Exit->Act->World->Prop}{r:Result Go.Next}(hn:∀ a w,next a w->next' a w)(hq:∀ e a w,Q e a w->Q' e a w)(h:o.upon P a next Q r):o.upon P a next' Q' r:=by
 unfold Oper.upon at h ⊢
 split at h
 ·exact hn _ _ h
 ·exact hn _ _ h
 ·exact hn _ _ h
 ·refine Calls.mono h fun x w' hx=>?_
  cases x with
  | returned v=>exact hn _ _ hx
  | panicked c=>exact hq _ _ _ hx
  | outgrown=>exact let ⟨a,w,h⟩:=hx;⟨a,w,hq _ _ _ h⟩
 ·exact Rows.mono h fun v w' hx=>hn _ _ hx
 ·exact hq _ _ _ h
 ·exact h.elim
theorem wpList_mono {P:Program}{ops:Array Oper}{Q Q':Exit->Act->World->Prop}(hq:∀ e a w,Q e a w->Q' e a w):∀ (l:List Oper) (a:Act) (w:World),wpList P ops Q l a w->wpList P ops Q' l a w
 | [],a,w,h=>hq _ _ _ h
 | o::l,a,w,h=>by
  unfold wpList at h ⊢
  split at h
  ·rename_i hw
   rw [if_pos hw]
   rcases h with h|⟨h1,a',w',h2⟩
   ·exact .inl (upon_mono (fun a w=>wpList_mono hq l a w) hq h)
   ·exact .inr ⟨h1,a',w',hq _ _ _ h2⟩
  ·rename_i hw
   rw [if_neg hw]
   exact wpList_mono hq l _ _ h
section
variable {P:Program} {N:Nat} {ops:Array Oper} {Q:Exit->Act->World->Prop} {l:List Oper} {s:Base} {e:Env} {m:List Piece}
theorem al_mid {c2:Code}{Q1:Exit->Act->World->Prop}{α:Type}(I:α->Env)(M:α->List Piece)(h1:AL P N ops (Exit.then (fun a w=>∃ z ok,Sat N ok w (I z) a/\St s ok (M z) w) Q) s l e m)(h2:∀ z,AC P N c2 Q1 s (I z) (M z)):AL P N ops (Exit.then (fun a w=>c2.wp P Q1 a w) Q) s l e m:=AL.mk fun ok w a hS ha=>
 wpList_mono (fun x a' w' hx=>by cases x <;> first|(obtain⟨z,ok',g1,g2⟩:=hx;exact (h2 z).run _ _ _ g2 g1)|exact hx) _ _ _ (h1.run ok w a hS ha)
theorem ac_midB {c c2:Code}{id:Nat}{Q1:Exit->Act->World->Prop}{α:Type}(I:α->Env)(M:α->List Piece)(h1:AC P N c (Exit.inBlock id (Exit.then (fun a w=>∃ z ok,Sat N ok w (I z) a/\St s ok (M z) w) Q)) s e m)(h2:∀ z,AC P N c2 Q1 s (I z) (M z)):AC P N c (Exit.inBlock id (Exit.then (fun a w=>c2.wp P Q1 a w) Q)) s e m:=AC.mk fun ok w a hS ha=>
 wp_mono (h1.run ok w a hS ha) fun x a' w' hx=>by
  cases x with
  | normal=>obtain⟨z,ok',g1,g2⟩:=hx;exact (h2 z).run _ _ _ g2 g1
  | exit j=>
   by_cases hj:j=id
   ·simp only [Exit.inBlock,hj,if_true] at hx ⊢
    obtain⟨z,ok',g1,g2⟩:=hx
    exact (h2 z).run _ _ _ g2 g1
   ·simp only [Exit.inBlock,hj,if_false] at hx ⊢
    exact hx
  | _=>exact hx
theorem reIKm {fn:Func}{K:AV->List Piece->Prop}{rs:List ResultVar}{vs:List AV}(out:AV)(m':List Piece)(h:Imp (outOf vs) out)(hK:K out m')(hm:m'.Sublist m)(hr:fn.results=rs.toArray:=by exact rfl)(hh:Ress P N s e m rs vs:=by
  repeat (first|exact Av.ress_nil|(apply Av.ress_cons;(first|(apply Av.res_tmp;exact rfl;exact rfl)|(apply Av.res_cell;exact rfl;(repeat (first|exact Av.Has.here|apply Av.Has.there));exact rfl))))):AE N .ret (bodyPost P fn (Back s K)) s e m:=AE.mk fun ok w a hS ha=>by
 have h1:=(ae_ret (K:=fun v m''=>v=outOf vs/\m''=m') (m:=m) hr hh (.inl rfl) ⟨rfl,rfl⟩ hm).run ok w a hS ha
 obtain⟨d,cv,r,v,m'',ok',cv',⟨rfl,rfl⟩,e1,hv,hS'⟩:=h1
 exact⟨d,cv,r,out,m'',ok',cv',hK,e1,h _ _ _ hv,hS'⟩
end

abbrev bytA (l:Bs):List AV:=l.map fun c=>.lit (u8v c)
theorem strCells_eq (l:Bs):Lib.strCells ⟨l.toArray⟩=l.map u8v:=by simp [Lib.strCells,u8v]
theorem RCs_byt {ok:Ok}{w:World}(l:Bs):RCs ok w (bytA l) (l.map u8v):=by
 induction l with
 | nil=>rw [show bytA []=[] from rfl,RCs];rfl
 | cons c l ih=>
  rw [show bytA (c::l)=.lit (u8v c)::bytA l from rfl,RCs]
  exact⟨[u8v c],l.map u8v,rfl,by rw [RC];exact⟨rfl,rfl⟩,ih⟩
theorem byt_sz (l:Bs):∀ x ∈ bytA l,x.size=1:=by
 intro x hx
 obtain⟨c,_,rfl⟩:=List.mem_map.1 hx
 rfl
theorem bytA_len (l:Bs):(bytA l).length=l.length:=llm _
theorem ba_size (l:Bs):(⟨l.toArray⟩:ByteArray).size=l.length:=by simp [ByteArray.size]
section
variable {P:Program} {N:Nat} {ops:Array Oper} {Q:Exit->Act->World->Prop} {rest:List Oper} {s:Base} {e:Env} {m:List Piece} {d:Nat} {ty:TypeId} {pos:String} {af:Array Edge}
theorem al_appendBS {T U E:TypeId}[t:TyE P T E 1 1][tu:TyT P U]{xo yo:Operand}{g n c:Nat}{l:Bs}{xs:List AV}{M:Nat->Nat->List Piece}(h:∀ g' c',n + l.length<=c'->AL P N ops Q s rest ((d,.lit (.slice (some ⟨g',0,none⟩) (n + l.length) c'))::e) (M g' c'))(hx:ev e xo=some (.lit (.slice (some ⟨g,0,none⟩) n c)):=by exact rfl)(hy:ev e yo=some (str l):=by exact rfl)
  (hm:∀ g' c',Upd m (.buf g E 1 xs c) (.buf g' E 1 (xs++bytA l) c') (M g' c'):=by intro g' c';(repeat (first|apply Av.Upd.here|apply Av.Upd.there))) (hn:n=xs.length:=by first|exact rfl|(simp;done)|(simp;omega)) (hnc:n<=c:=by omega)
  (hb:n + l.length<=140737488355328:=by omega) (hd:Nat.blt d N=true:=by exact rfl) :
  AL P N ops Q s (⟨some d,.call ⟨.builtin .append,#[xo,yo],#[T,U]⟩,ty,pos,af,none⟩::rest) e m:=by
 subst hn
 refine al_stepV (fun ok w B hS hB=>?_) hd
 obtain⟨i,z,q1,q2,hzk,hik,hib⟩:=t.zero
 have hg1:=hB.lit hx
 have hg2:=hB.lit hy
 have hs:=ba_size l
 obtain⟨pre,post,hm1,_⟩:=(hm g c).parts
 have hS0:=hS
 rw [hm1] at hS
 obtain⟨cs1,cs2,a1,a2,a3,a4,a5⟩:=hS.at_ (.buf g E 1 xs c) (by simp)
 have hcl:=a2.len a3
 rw [Nat.mul_one] at hcl
 by_cases hroom:xs.length + l.length<=c
 ·obtain⟨pre',post',hm1',hm2'⟩:=(hm g c).parts
  rw [hm1'] at hS0
  obtain⟨w',r1,r2,r3⟩:=St.overB (P:=P) hS0 (RCs_byt l) (byt_sz l) (Nat.le_refl _) (by rw [bytA_len];exact hroom)
  have ho:over xs xs.length (bytA l)=xs++bytA l:=by
   unfold over
   rw [List.take_length,List.drop_of_length_le (by omega),List.append_nil]
  rw [ho] at r2
  have hf:=Lib.run_firstCells_string (P:=P) w i.size ⟨l.toArray⟩
  rw [hs,strCells_eq] at hf
  rw [Nat.mul_one] at r1
  have hr:(Builtin.append_ #[T,U] ty #[.slice (some ⟨g,0,none⟩) xs.length c,.string ⟨l.toArray⟩]).run P w=.ok (.slice (some ⟨g,0,none⟩) (xs.length + l.length) c) w':=by
   simp [Builtin.append_,run_underlying t.l.out,run_underlying tu.out,Go.sizeOf,typeInfo,q1,Builtin.lenOf,hs,hroom,hik,add_mid]
   rw [hik] at hf
   simp [hf,r1]
  exact⟨_,.slice (some ⟨g,0,none⟩) (xs.length + l.length) c,w',ok,_,by simp [execOp,resolve,invoke,builtin,hg1,hg2,hr],RVl rfl,by rw [hm2'];exact r2,r3,h g c hroom⟩
 ·have holds:∀ j v,cs1[j]?=some v->w.cell? ((⟨g,0,none⟩:Addr).add j)=some v:=fun j v hj=>by
   rw [add_mid,cell_of_row _ _ _ _ _ _ a1]
   have hj':j < cs1.length:=(List.getElem?_eq_some_iff.1 hj).1
   simp only [Nat.zero_add,List.getElem?_toArray]
   rw [List.getElem?_append_left hj']
   exact hj
  have hr:=Lib.run_append_grow_string (P:=P) w T U ty E i z t.l.out tu.out q1 q2 ⟨g,0,none⟩ xs.length c cs1 (by rw [hik,Nat.mul_one];exact hcl) holds ⟨l.toArray⟩ (by rw [hs];omega) (by rw [hs];omega) (by rw [hs,hib];exact growslice_fits (by omega) (by omega))
  rw [hs,strCells_eq] at hr
  have hge:=grownCap_ge w (xs.length + l.length) c E
  have hle:=grownCap_le_maxLen w (xs.length + l.length) c E (by simp [maxLen];omega)
  generalize grownCap w (xs.length + l.length) c E=c' at hr hge hle
  obtain⟨pre',post',hm1',hm2'⟩:=(hm w.heap.size c').parts
  have hE:Ext w (w.drew.alloc (.cells (cs1.toArray++(l.map u8v).toArray++Builtin.zeroCells z.cells (c' - (xs.length + l.length))) E)):=Ext.trans' (Ext.drew w) (Ext.alloc w.drew _)
  have hblk:(w.drew.alloc (.cells (cs1.toArray++(l.map u8v).toArray++Builtin.zeroCells z.cells (c' - (xs.length + l.length))) E)).heap[w.heap.size]?=some (.cells ((cs1++l.map u8v)++(Builtin.zeroCells z.cells (c' - (xs.length + l.length))).toList).toArray E (0,0)):=by
   rw [show ((cs1++l.map u8v)++(Builtin.zeroCells z.cells (c' - (xs.length + l.length))).toList).toArray=cs1.toArray++(l.map u8v).toArray++Builtin.zeroCells z.cells (c' - (xs.length + l.length)) by apply Array.ext';simp]
   exact heap_alloc_new w.drew _
  rw [hm1'] at hS0
  have hd:=hS0.less (m':=pre'++post') (by simp)
  obtain⟨ok',r1,r2⟩:=St.newBuf hd hE (by simp) hblk (a2.append (RCs_byt l)) (fun x hx=>(List.mem_append.1 hx).elim (a3 x) (byt_sz l x)) (c:=c') (by
   simp only [List.length_append,Array.length_toList,size_zeroCells,hzk,hcl,List.length_map]
   omega) hle
  exact⟨_,.slice (some ⟨w.heap.size,0,none⟩) (xs.length + l.length) c',_,ok',_,by simp [execOp,resolve,invoke,builtin,hg1,hg2,hr],RVl rfl,by rw [hm2'];exact r1.perm List.perm_middle,r2,h _ _ hge⟩
theorem al_appendNS {T U E:TypeId}[t:TyE P T E 1 1][tu:TyT P U]{xo yo:Operand}{l:Bs}(h:∀ g' c',l.length<=c'->AL P N ops Q s rest ((d,.lit (.slice (some ⟨g',0,none⟩) l.length c'))::e) (.buf g' E 1 (bytA l) c'::m))(hx:ev e xo=some (.lit (.slice none 0 0)):=by exact rfl)(hy:ev e yo=some (str l):=by exact rfl)
  (h0:0 < l.length:=by omega) (hb:l.length<=140737488355328:=by omega) (hd:Nat.blt d N=true:=by exact rfl) :
  AL P N ops Q s (⟨some d,.call ⟨.builtin .append,#[xo,yo],#[T,U]⟩,ty,pos,af,none⟩::rest) e m:=by
 refine al_stepV (fun ok w B hS hB=>?_) hd
 obtain⟨i,z,q1,q2,hzk,hik,hib⟩:=t.zero
 have hg1:=hB.lit hx
 have hg2:=hB.lit hy
 have hs:=ba_size l
 have hr:=run_append_nil_string (P:=P) w T U ty E i z t.l.out tu.out q1 q2 ⟨l.toArray⟩ (by rw [hs];exact h0) (by rw [hs];omega) (by rw [hs,hib];omega)
 have e1:((⟨l.toArray⟩:ByteArray).data.map fun b=>Value.int .u8 b.toNat)=(l.map u8v).toArray:=by apply Array.ext';simp [u8v]
 rw [e1,hs] at hr
 have hge:=grownCap_ge w l.length 0 E
 have hle:=grownCap_le_maxLen w l.length 0 E (by simp [maxLen];omega)
 generalize grownCap w l.length 0 E=c' at hr hge hle
 have hE:Ext w (w.drew.alloc (.cells ((l.map u8v).toArray++Builtin.zeroCells z.cells (c' - l.length)) E)):=Ext.trans' (Ext.drew w) (Ext.alloc w.drew _)
 have hblk:(w.drew.alloc (.cells ((l.map u8v).toArray++Builtin.zeroCells z.cells (c' - l.length)) E)).heap[w.heap.size]?=some (.cells (l.map u8v++(Builtin.zeroCells z.cells (c' - l.length)).toList).toArray E (0,0)):=by
  rw [show (l.map u8v++(Builtin.zeroCells z.cells (c' - l.length)).toList).toArray=(l.map u8v).toArray++Builtin.zeroCells z.cells (c' - l.length) by apply Array.ext';simp]
  exact heap_alloc_new w.drew _
 obtain⟨ok',r1,r2⟩:=St.newBuf hS hE (by simp) hblk (RCs_byt l) (byt_sz l) (c:=c') (by
  simp only [Array.length_toList,size_zeroCells,hzk,List.length_map]
  omega) hle
 exact⟨_,.slice (some ⟨w.heap.size,0,none⟩) l.length c',_,ok',_,by simp [execOp,resolve,invoke,builtin,hg1,hg2,hr],RVl rfl,r1,r2,h _ _ hge⟩
theorem al_appendNE {T U E:TypeId}[t:TyE P T E 1 1][tu:TyT P U]{xo yo:Operand}(h:AL P N ops Q s rest ((d,.lit (.slice none 0 0))::e) m)(hx:ev e xo=some (.lit (.slice none 0 0)):=by exact rfl)(hy:ev e yo=some (str []):=by exact rfl)(hd:Nat.blt d N=true:=by exact rfl) :
  AL P N ops Q s (⟨some d,.call ⟨.builtin .append,#[xo,yo],#[T,U]⟩,ty,pos,af,none⟩::rest) e m:=
 al_lit rfl (fun ok w B hB=>by
  obtain⟨i,z,q1,q2,hzk,hik,hib⟩:=t.zero
  have hf:=Lib.run_firstCells_string (P:=P) w i.size ⟨#[]⟩
  have hr:(Builtin.append_ #[T,U] ty #[.slice none 0 0,.string ⟨#[]⟩]).run P w=.ok (.slice none 0 0) w:=by
   have hs:(⟨#[]⟩:ByteArray).size=0:=rfl
   rw [hs] at hf
   simp [Builtin.append_,run_underlying t.l.out,run_underlying tu.out,Go.sizeOf,typeInfo,q1,Builtin.lenOf,hs,hf]
  simp [execOp,resolve,invoke,builtin,hB.lit hx,hB.lit hy,hr]) hd h
theorem al_toUnsafe {S D t:TypeId}{j:TypeInfo}{x:Operand}{g n:Nat}{T0:TypeId}{ps:List AV}(hs:P.underlying S=some (.pointer t))(hD:P.underlying D=some .unsafePointer)(hi:P.info? t=some j)(hj:j.size≠0)(hn:0 < n)(h:AL P N ops Q s rest ((d,.lit (.pointer (some ⟨g,0,none⟩)))::e) m)(hx:ev e x=some (.lit (.pointer (some ⟨g,0,none⟩))):=by exact rfl)
  (hm:Has m (.var g T0 (.agg n ps)):=by (repeat (first|exact Av.Has.here|apply Av.Has.there))) (hd:Nat.blt d N=true:=by exact rfl):AL P N ops Q s (⟨some d,.convert S D x,ty,pos,af,none⟩::rest) e m:=
 al_val (v:=.lit (.pointer (some ⟨g,0,none⟩))) (fun ok w a hS hA=>by
  obtain⟨cs,h1,h2⟩:=hS.at_ _ hm.mem
  rw [RC] at h2
  have hsh:w.shape? g=some (T0,n):=by simp [World.shape?,h1,h2.1]
  exact⟨_,by simp [execOp,hA.lit hx,Lib.run_to_unsafe w ⟨g,0,none⟩ hs hD hi hj hsh hn],RVl rfl⟩) hd h
theorem al_fromUnsafe {S D u:TypeId}{j:TypeInfo}{x:Operand}{g n:Nat}{T0:TypeId}{ps:List AV}(hs:P.underlying S=some .unsafePointer)(hD:P.underlying D=some (.pointer u))(hi:P.info? u=some j)(hl:liesAt P P.depth T0 (n / P.cellsOf T0) 0 u 1=true)(h:AL P N ops Q s rest ((d,.lit (.pointer (some ⟨g,0,none⟩)))::e) m)(hx:ev e x=some (.lit (.pointer (some ⟨g,0,none⟩))):=by exact rfl)
  (hm:Has m (.var g T0 (.agg n ps)):=by (repeat (first|exact Av.Has.here|apply Av.Has.there))) (hd:Nat.blt d N=true:=by exact rfl):AL P N ops Q s (⟨some d,.convert S D x,ty,pos,af,none⟩::rest) e m:=
 al_val (v:=.lit (.pointer (some ⟨g,0,none⟩))) (fun ok w a hS hA=>by
  obtain⟨cs,h1,h2⟩:=hS.at_ _ hm.mem
  rw [RC] at h2
  have hsh:w.shape? g=some (T0,n):=by simp [World.shape?,h1,h2.1]
  exact⟨_,by simp [execOp,hA.lit hx,Lib.run_from_unsafe w ⟨g,0,none⟩ hs hD hi hsh hl],RVl rfl⟩) hd h
theorem al_ptrSame {T yT E:TypeId}{j:TypeInfo}{x y:Operand}{p:Addr}(hp:P.underlying T=some (.pointer E))(hi:P.info? E=some j)(h:AL P N ops Q s rest ((d,boo false)::e) m)(hx:ev e x=some (.lit (.pointer (some p))):=by exact rfl)(hy:ev e y=some (.lit (.pointer (some p))):=by exact rfl)(hd:Nat.blt d N=true:=by exact rfl) :
  AL P N ops Q s (⟨some d,.binOp .neq T x y yT,ty,pos,af,none⟩::rest) e m:=
 al_lit rfl (fun ok w a ha=>by
  have hg:(eqGuard .neq T x y (.pointer (some p)) (.pointer (some p))).run P w=.ok () w:=by
   unfold eqGuard
   split <;> rfl
  simp [execOp,ha.lit hx,ha.lit hy,hg,Lib.run_neq_ptr_same w p hp hi]) hd h
theorem al_sliceData {T:TypeId}{x:Operand}{g n c:Nat}(h:AL P N ops Q s rest ((d,.lit (.pointer (some ⟨g,0,none⟩)))::e) m)(hc:c≠0)(hx:ev e x=some (.lit (.slice (some ⟨g,0,none⟩) n c)):=by exact rfl)(hd:Nat.blt d N=true:=by exact rfl) :
  AL P N ops Q s (⟨some d,.call ⟨.builtin .unsafeSliceData,#[x],#[T]⟩,ty,pos,af,none⟩::rest) e m:=
 al_lit rfl (fun ok w a ha=>by simp [execOp,resolve,invoke,builtin,ha.lit hx,Lib.run_unsafeSliceData_row w _ _ _ _ _ hc]) hd h
theorem al_sliceDataN {T:TypeId}{x:Operand}(h:AL P N ops Q s rest ((d,.lit (.pointer none))::e) m)(hx:ev e x=some (.lit (.slice none 0 0)):=by exact rfl)(hd:Nat.blt d N=true:=by exact rfl) :
  AL P N ops Q s (⟨some d,.call ⟨.builtin .unsafeSliceData,#[x],#[T]⟩,ty,pos,af,none⟩::rest) e m:=
 al_lit rfl (fun ok w a ha=>by simp [execOp,resolve,invoke,builtin,ha.lit hx,Lib.run_unsafeSliceData_nil]) hd h
theorem al_unsafeStrN {T U:TypeId}{x y:Operand}(h:AL P N ops Q s rest ((d,str [])::e) m)(hx:ev e x=some (.lit (.pointer none)):=by exact rfl)(hy:ev e y=some (int 0):=by exact rfl)(hd:Nat.blt d N=true:=by exact rfl) :
  AL P N ops Q s (⟨some d,.call ⟨.builtin .unsafeString,#[x,y],#[T,U]⟩,ty,pos,af,none⟩::rest) e m:=
 al_lit rfl (fun ok w a ha=>by simp [execOp,resolve,invoke,builtin,ha.lit hx,ha.lit hy,Lib.run_unsafeString_none];rfl) hd h
theorem freeze_heap (w:World)(a:Addr)(n b:Nat)(h:b≠a.block):(w.freeze a n).heap[b]?=w.heap[b]?:=by
 unfold World.freeze
 split
 ·rfl
 ·simp only [Array.getElem?_modify]
  rw [if_neg (fun e=>h e.symm)]
theorem freeze_cell (w:World)(a:Addr)(n b j:Nat):(w.freeze a n).cell? ⟨b,j,none⟩=w.cell? ⟨b,j,none⟩:=by
 by_cases hb:b=a.block
 ·unfold World.freeze
  split
  ·rfl
  ·simp only [World.cell?,Array.getElem?_modify,hb,if_true]
   cases hh:w.heap[a.block]? with
   | none=>rfl
   | some o=>cases o <;> rfl
 ·exact cell_block (freeze_heap w a n b hb)
theorem freeze_rest (w:World)(a:Addr)(n:Nat):(w.freeze a n).heap.size=w.heap.size/\(w.freeze a n).os=w.os/\(w.freeze a n).tape=w.tape/\(w.freeze a n).output=w.output:=by
 unfold World.freeze
 split
 ·exact⟨rfl,rfl,rfl,rfl⟩
 ·exact⟨by simp,rfl,rfl,rfl⟩
theorem al_unsafeStr {T U E:TypeId}{x y:Operand}{g c:Nat}{l:Bs}{m':List Piece}(hp:P.underlying T=some (.pointer E))(hc:P.cellsOf E=1)(h0:l≠[])(h:AL P N ops Q s rest ((d,str l)::e) m')(hx:ev e x=some (.lit (.pointer (some ⟨g,0,none⟩))):=by exact rfl)(hy:ev e y=some (int l.length):=by exact rfl)
  (hm:Upd m (.buf g E 1 (bytA l) c) (.tail E 1 (.slice none 0 0)) m':=by (repeat (first|apply Av.Upd.here|apply Av.Upd.there))) (hl:l.length<=9223372036854775807:=by omega) (hd:Nat.blt d N=true:=by exact rfl) :
  AL P N ops Q s (⟨some d,.call ⟨.builtin .unsafeString,#[x,y],#[T,U]⟩,ty,pos,af,none⟩::rest) e m:=by
 refine al_step (v:=str l) (fun ok w a hS ha=>?_) hd
 obtain⟨pre,post,rfl,rfl⟩:=hm.parts
 obtain⟨cs1,cs2,h1,h2,h3,h4,h5⟩:=hS.at_ (.buf g E 1 (bytA l) c) (by simp)
 have hcs:cs1=l.map u8v:=RCs_u8_eq h2
 subst hcs
 have hsh:w.shape? g=some (E,(l.map u8v++cs2).length):=by simp [World.shape?,h1]
 have hr:=Lib.run_unsafeString_row (P:=P) w T U ty E hp hc g _ hsh l h0 (by simp) hl (fun j x hj=>by
  rw [add_mid,cell_of_row _ _ _ _ _ _ h1]
  have hj':j < (l.map u8v).length:=by simpa using (List.getElem?_eq_some_iff.1 hj).1
  simp only [Nat.zero_add,List.getElem?_toArray]
  rw [List.getElem?_append_left hj',List.getElem?_map,hj]
  rfl)
 have hst:Stp ok w ok (w.freeze ⟨g,0,none⟩ l.length):=⟨by rw [(freeze_rest _ _ _).1];exact Nat.le_refl _,fun b j v g1 g2=>⟨by rw [freeze_cell];exact g1,g2⟩⟩
 obtain⟨f1,f2,f3,f4⟩:=freeze_rest w ⟨g,0,none⟩ l.length
 refine⟨.string ⟨l.toArray⟩,_,ok,_,by simp [execOp,resolve,invoke,builtin,ha.lit hx,ha.lit hy,hr],RVl rfl,?_,hst,h⟩
 refine hS.write (g:=g) (p':=.tail E 1 (.slice none 0 0)) rfl (.inr rfl) hst (.inl ⟨none,0,rfl⟩) (fun b j hb=>?_) f1 f2 f3 f4 (fun b hne=>freeze_heap w _ _ b hne) (fun _ _ _=>Iff.rfl)
 obtain⟨a,n',c',he,hne,_⟩:=hb
 injection he with _ h1 h2
 omega
end

class W64 (k:IntKind)(B:outParam Int):Prop where
 w:∀ c:Int,0<=c->c<=B->k.wrap c=c
 b:k.bits=64
 u:B<=18446744073709551615
instance : W64 .i64 9223372036854775807 := ⟨fun c h0 h1 => wrap64_id (by omega) (by omega), rfl, by decide⟩
theorem wrap_u64 (n:Nat)(h:n < 18446744073709551616):IntKind.u64.wrap (n:Int)=n:=by
 show (IntKind.u64.wrap (n:Int))=n
 simp [IntKind.wrap,IntKind.bits,IntKind.signed]
 omega
instance : W64 .u64 18446744073709551615 := ⟨fun c h0 h1 => by
 obtain⟨n,rfl⟩:=Int.eq_ofNat_of_zero_le h0
 exact wrap_u64 n (by omega),rfl,by decide⟩
theorem or_run {k:IntKind}{B:Int}[hk:W64 k B]{m c:Nat}(hc:c < 256)(hm:((m * 256 + c:Nat):Int)<=B)(P:Program)(w:World):(Op.intBits .or k ((m:Int) * 256) (c:Int)).run P w=.ok (.int k ((m:Int) * 256 + c)) w:=by
 have hu:=hk.u
 have hb:=hk.b
 have e1:((m:Int) * 256)=((m * 256:Nat):Int):=by simp
 have e2:(BitVec.ofInt k.bits ((m:Int) * 256) ||| BitVec.ofInt k.bits (c:Int)).toNat=m * 256 + c:=by
  rw [BitVec.toNat_or,e1,BitVec.ofInt_natCast,BitVec.ofInt_natCast,BitVec.toNat_ofNat,BitVec.toNat_ofNat,hb,Nat.mod_eq_of_lt (by omega),Nat.mod_eq_of_lt (by omega)]
  have:=Nat.two_pow_add_eq_or_of_lt (i:=8) (b:=c) (by omega) m
  rw [show m * 256=2 ^ 8 * m by omega]
  exact this.symm
 show Result.ok (Value.int k (k.wrap ((BitVec.ofInt k.bits ((m:Int) * 256) ||| BitVec.ofInt k.bits (c:Int)).toNat:Int))) w=_
 rw [e2,hk.w _ (by omega) hm]
 simp
section
variable {P:Program} {N:Nat} {ops:Array Oper} {Q:Exit->Act->World->Prop} {rest:List Oper} {s:Base} {e:Env} {m:List Piece} {d:Nat} {ty:TypeId} {pos:String} {af:Array Edge}
theorem al_shl8 {T yT:TypeId}{k yk:IntKind}{B:Int}[hk:W64 k B]{x y:Operand}{a:Int}(h:AL P N ops Q s rest ((d,.lit (.int k (a * 256)))::e) m)(hx:ev e x=some (.lit (.int k a)):=by exact rfl)(hy:ev e y=some (.lit (.int yk 8)):=by exact rfl)(h0:0<=a:=by omega)(h1:a * 256<=B:=by omega)(hd:Nat.blt d N=true:=by exact rfl) :
  AL P N ops Q s (⟨some d,.binOp .shl T x y yT,ty,pos,af,none⟩::rest) e m:=
 al_shift rfl hx hy (fun w=>by
  have hb:=hk.b
  have h2:min (8:Int).toNat k.bits=8:=by rw [hb];rfl
  have h3:¬ ((8:Int) < 0):=by omega
  have e1:k.wrap (a * 256)=a * 256:=hk.w _ (by omega) h1
  simp only [Op.shift,h3,if_false,h2]
  show Result.ok (Value.int k (k.wrap (a * 2 ^ 8))) w=_
  rw [show (2:Int) ^ 8=256 from rfl,e1]) (.inl rfl) hd h
theorem al_orB {T yT:TypeId}{k:IntKind}{B:Int}[hk:W64 k B]{x y:Operand}{a c:Int}(h:AL P N ops Q s rest ((d,.lit (.int k (a * 256 + c)))::e) m)(hx:ev e x=some (.lit (.int k (a * 256))):=by exact rfl)(hy:ev e y=some (.lit (.int k c)):=by exact rfl)(h0:0<=a:=by omega)(h1:0<=c:=by omega)(h2:c < 256:=by omega)(h3:a * 256 + c<=B:=by omega)(hd:Nat.blt d N=true:=by exact rfl) :
  AL P N ops Q s (⟨some d,.binOp .or T x y yT,ty,pos,af,none⟩::rest) e m:=by
 obtain⟨m,rfl⟩:=Int.eq_ofNat_of_zero_le h0
 obtain⟨n,rfl⟩:=Int.eq_ofNat_of_zero_le h1
 exact al_bits rfl hx hy (fun w=>or_run (by omega) (by simpa using h3) P w) (.inr (.inl rfl)) hd h
theorem al_shl8I {T yT:TypeId}{yk:IntKind}{x y:Operand}{a:Int}(h:AL P N ops Q s rest ((d,.lit (.int .i64 (a * 256)))::e) m)(hx:ev e x=some (.lit (.int .i64 a)):=by exact rfl)(hy:ev e y=some (.lit (.int yk 8)):=by exact rfl)(h0:0<=a:=by omega)(h1:a * 256<=9223372036854775807:=by omega)(hd:Nat.blt d N=true:=by exact rfl) :
  AL P N ops Q s (⟨some d,.binOp .shl T x y yT,ty,pos,af,none⟩::rest) e m:=al_shl8 h hx hy h0 h1 hd
theorem al_orBI {T yT:TypeId}{x y:Operand}{a c:Int}(h:AL P N ops Q s rest ((d,.lit (.int .i64 (a * 256 + c)))::e) m)(hx:ev e x=some (.lit (.int .i64 (a * 256))):=by exact rfl)(hy:ev e y=some (.lit (.int .i64 c)):=by exact rfl)(h0:0<=a:=by omega)(h1:0<=c:=by omega)(h2:c < 256:=by omega)(h3:a * 256 + c<=9223372036854775807:=by omega)(hd:Nat.blt d N=true:=by exact rfl) :
  AL P N ops Q s (⟨some d,.binOp .or T x y yT,ty,pos,af,none⟩::rest) e m:=al_orB h hx hy h0 h1 h2 h3 hd
theorem al_shl8U {T yT:TypeId}{yk:IntKind}{x y:Operand}{a:Int}(h:AL P N ops Q s rest ((d,.lit (.int .u64 (a * 256)))::e) m)(hx:ev e x=some (.lit (.int .u64 a)):=by exact rfl)(hy:ev e y=some (.lit (.int yk 8)):=by exact rfl)(h0:0<=a:=by omega)(h1:a * 256<=18446744073709551615:=by omega)(hd:Nat.blt d N=true:=by exact rfl) :
  AL P N ops Q s (⟨some d,.binOp .shl T x y yT,ty,pos,af,none⟩::rest) e m:=al_shl8 h hx hy h0 h1 hd
theorem al_orBU {T yT:TypeId}{x y:Operand}{a c:Int}(h:AL P N ops Q s rest ((d,.lit (.int .u64 (a * 256 + c)))::e) m)(hx:ev e x=some (.lit (.int .u64 (a * 256))):=by exact rfl)(hy:ev e y=some (.lit (.int .u64 c)):=by exact rfl)(h0:0<=a:=by omega)(h1:0<=c:=by omega)(h2:c < 256:=by omega)(h3:a * 256 + c<=18446744073709551615:=by omega)(hd:Nat.blt d N=true:=by exact rfl) :
  AL P N ops Q s (⟨some d,.binOp .or T x y yT,ty,pos,af,none⟩::rest) e m:=al_orB h hx hy h0 h1 h2 h3 hd
theorem al_arithU {op:BinOp}{T yT:TypeId}{x y:Operand}{i j c:Int}(h:AL P N ops Q s rest ((d,.lit (.int .u64 c))::e) m)(hx:ev e x=some (.lit (.int .u64 i)):=by exact rfl)(hy:ev e y=some (.lit (.int .u64 j)):=by exact rfl)(hc:arith op i j=some c:=by exact rfl)
  (h1:0<=c:=by omega) (h2:c<=18446744073709551615:=by omega) (hd:Nat.blt d N=true:=by exact rfl) :
  AL P N ops Q s (⟨some d,.binOp op T x y yT,ty,pos,af,none⟩::rest) e m:=
 al_lit rfl (fun ok w a ha=>run_bin ha hx hy (by rw [run_arith hc,(inferInstance:W64 .u64 _).w _ h1 h2])) hd h
theorem al_idxSC {T:TypeId}[t:TyT P T]{x ix:Operand}{kd:IntKind}{i:Int}{b:Bs}{c:UInt8}(h:AL P N ops Q s rest ((d,.lit (u8v c))::e) m)(hx:ev e x=some (str b):=by exact rfl)(hi:ev e ix=some (.lit (.int kd i)):=by exact rfl)(hj:i=Int.ofNat i.toNat:=by exact rfl)(hc:b[i.toNat]?=some c:=by exact rfl)(hd:Nat.blt d N=true:=by exact rfl) :
  AL P N ops Q s (⟨some d,.index T x ix,ty,pos,af,none⟩::rest) e m:=al_idxS i.toNat h hc hx hi hj hd
end
theorem op6 {G G':Prop}(h:G')(i:Wr G'->G:=by
 intro h
 refine kL ?_
 first
 | (refine kBin ?_;first|exact al_shl8I h.o|exact al_shl8U h.o|exact al_orBI h.o|exact al_orBU h.o|exact al_arithU h.o)
 | (refine kConv ?_;first|exact al_convB h.o|exact al_convU h.o)
 | exact al_idxSC h.o):G:=i ⟨h⟩
theorem ob6 {G G':Prop}(h:G')(i:Wr G'->G:=by
 intro h
 refine kO ?_
 (apply obl_read [];exact rfl;exact rfl;kernel_rfl;(intro _ _;first|(refine op6 ?_;exact al_nil (ae_got rfl rfl))|(refine al_on ?_;refine op6 ?_;exact al_nil (ae_got rfl rfl)));exact h.o)):G:=i ⟨h⟩
theorem Ya {G G':Prop}(h:G')(i:Wr G'->G:=by intro h;first|exact W h.o|exact op2 h.o|exact op6 h.o|exact ob4 h.o|exact ob6 h.o|exact gdT h.o|exact gdF h.o|exact cdT h.o|exact cdF h.o):G:=i ⟨h⟩
theorem Yz {G G':Prop}(h:G')(i:Wr G'->G:=by intro h;first|exact Ya h.o|exact ob2 h.o|(simp only [List.set];exact h.o)):G:=i ⟨h⟩

structure Wd where
 n:Nat
 lt:n < 115792089237316195423570985008687907853269984665640564039457584007913129639936
deriving DecidableEq
theorem Wd.ext' {a b:Wd}(h:a.n=b.n):a=b:=by cases a;cases b;cases h;rfl
def wZ:Wd:=⟨0,by decide⟩
def wOf (n:Nat):Wd:=if h:n < 115792089237316195423570985008687907853269984665640564039457584007913129639936 then ⟨n,h⟩ else wZ
def wIs (n:Nat):Bool:=decide (n < 115792089237316195423570985008687907853269984665640564039457584007913129639936)
theorem wOf_n {n:Nat}(h:n < 115792089237316195423570985008687907853269984665640564039457584007913129639936):(wOf n).n=n:=by rw [wOf,dif_pos h]
theorem wOf_big {n:Nat}(h:¬ n < 115792089237316195423570985008687907853269984665640564039457584007913129639936):wOf n=wZ:=by rw [wOf,dif_neg h]
def lm (n i:Nat):Nat:=n / 18446744073709551616 ^ i % 18446744073709551616
theorem lm_lt (n i:Nat):lm n i < 18446744073709551616:=Nat.mod_lt _ (by decide)
theorem lm0 (n:Nat):lm n 0=n % 18446744073709551616:=by unfold lm;rw [Nat.pow_zero,Nat.div_one]
theorem lm1 (n:Nat):lm n 1=n / 18446744073709551616 % 18446744073709551616:=by unfold lm;rw [Nat.pow_one]
theorem lm2 (n:Nat):lm n 2=n / 340282366920938463463374607431768211456 % 18446744073709551616:=rfl
theorem lm3 (n:Nat):lm n 3=n / 6277101735386680763835789423207666416102355444464034512896 % 18446744073709551616:=rfl
theorem lm_z (i:Nat):lm 0 i=0:=by unfold lm;rw [Nat.zero_div]
theorem of_lms {n m:Nat}(hn:n < 115792089237316195423570985008687907853269984665640564039457584007913129639936)(hm:m < 115792089237316195423570985008687907853269984665640564039457584007913129639936)(h0:lm n 0=lm m 0)(h1:lm n 1=lm m 1)(h2:lm n 2=lm m 2)(h3:lm n 3=lm m 3):n=m:=by
 rw [lm0,lm0] at h0
 rw [lm1,lm1] at h1
 rw [lm2,lm2] at h2
 rw [lm3,lm3] at h3
 omega
abbrev u6 (n:Nat):AV:=.lit (.int .u64 (n:Int))
abbrev widN (n:Nat):AV:=.agg 4 [u6 (lm n 0),u6 (lm n 1),u6 (lm n 2),u6 (lm n 3)]
abbrev widA (a:Wd):AV:=widN a.n
def wj (a b c d:Nat):Nat:=a + 18446744073709551616 * b + 340282366920938463463374607431768211456 * c + 6277101735386680763835789423207666416102355444464034512896 * d
theorem wj_lm {a b c d:Nat}(ha:a < 18446744073709551616)(hb:b < 18446744073709551616)(hc:c < 18446744073709551616)(hd:d < 18446744073709551616) :
  wj a b c d < 115792089237316195423570985008687907853269984665640564039457584007913129639936/\lm (wj a b c d) 0=a/\lm (wj a b c d) 1=b/\lm (wj a b c d) 2=c/\lm (wj a b c d) 3=d:=by
 rw [lm0,lm1,lm2,lm3]
 unfold wj
 omega
theorem lm_wj (a:Wd):wj (lm a.n 0) (lm a.n 1) (lm a.n 2) (lm a.n 3)=a.n:=by
 have:=a.lt
 rw [lm0,lm1,lm2,lm3]
 unfold wj
 omega
theorem add_lm (a b:Wd):∃ c0 c1 c2 c3:Nat,c0=(lm a.n 0 + lm b.n 0 + 0) / 18446744073709551616/\c1=(lm a.n 1 + lm b.n 1 + c0) / 18446744073709551616/\c2=(lm a.n 2 + lm b.n 2 + c1) / 18446744073709551616/\c3=(lm a.n 3 + lm b.n 3 + c2) / 18446744073709551616/\c0<=1/\c1<=1/\c2<=1/\c3<=1 /\
  (c3=0↔a.n + b.n < 115792089237316195423570985008687907853269984665640564039457584007913129639936) /\
  lm (a.n + b.n) 0=(lm a.n 0 + lm b.n 0 + 0) % 18446744073709551616/\lm (a.n + b.n) 1=(lm a.n 1 + lm b.n 1 + c0) % 18446744073709551616/\lm (a.n + b.n) 2=(lm a.n 2 + lm b.n 2 + c1) % 18446744073709551616/\lm (a.n + b.n) 3=(lm a.n 3 + lm b.n 3 + c2) % 18446744073709551616:=by
 refine⟨_,_,_,_,rfl,rfl,rfl,rfl,?_⟩
 have ha:=lm_wj a
 have hb:=lm_wj b
 have h0:=lm_lt a.n 0
 have h1:=lm_lt a.n 1
 have h2:=lm_lt a.n 2
 have h3:=lm_lt a.n 3
 have g0:=lm_lt b.n 0
 have g1:=lm_lt b.n 1
 have g2:=lm_lt b.n 2
 have g3:=lm_lt b.n 3
 rw [lm0 (a.n + b.n),lm1 (a.n + b.n),lm2 (a.n + b.n),lm3 (a.n + b.n)]
 generalize lm a.n 0=x0 at *
 generalize lm a.n 1=x1 at *
 generalize lm a.n 2=x2 at *
 generalize lm a.n 3=x3 at *
 generalize lm b.n 0=y0 at *
 generalize lm b.n 1=y1 at *
 generalize lm b.n 2=y2 at *
 generalize lm b.n 3=y3 at *
 unfold wj at ha hb
 generalize hc0:(x0 + y0 + 0) / 18446744073709551616=c0
 generalize hc1:(x1 + y1 + c0) / 18446744073709551616=c1
 generalize hc2:(x2 + y2 + c1) / 18446744073709551616=c2
 generalize hc3:(x3 + y3 + c2) / 18446744073709551616=c3
 have b0:c0<=1:=by omega
 have b1:c1<=1:=by omega
 have b2:c2<=1:=by omega
 have b3:c3<=1:=by omega
 rw [<- ha,<- hb]
 refine⟨b0,b1,b2,b3,by omega,?_,?_,?_,?_⟩ <;> omega
def bor (x y b:Nat):Nat:=if x < y + b then 1 else 0
theorem sub_lm (a b:Wd):∃ c0 c1 c2 c3:Nat,c0=bor (lm a.n 0) (lm b.n 0) 0/\c1=bor (lm a.n 1) (lm b.n 1) c0/\c2=bor (lm a.n 2) (lm b.n 2) c1/\c3=bor (lm a.n 3) (lm b.n 3) c2/\c0<=1/\c1<=1/\c2<=1/\c3<=1 /\
  (c3=0↔b.n<=a.n)/\(b.n<=a.n ->
  lm (a.n - b.n) 0=(lm a.n 0 + 18446744073709551616 - lm b.n 0 - 0) % 18446744073709551616/\lm (a.n - b.n) 1=(lm a.n 1 + 18446744073709551616 - lm b.n 1 - c0) % 18446744073709551616/\lm (a.n - b.n) 2=(lm a.n 2 + 18446744073709551616 - lm b.n 2 - c1) % 18446744073709551616/\lm (a.n - b.n) 3=(lm a.n 3 + 18446744073709551616 - lm b.n 3 - c2) % 18446744073709551616):=by
 refine⟨_,_,_,_,rfl,rfl,rfl,rfl,?_⟩
 have ha:=lm_wj a
 have hb:=lm_wj b
 have h0:=lm_lt a.n 0
 have h1:=lm_lt a.n 1
 have h2:=lm_lt a.n 2
 have h3:=lm_lt a.n 3
 have g0:=lm_lt b.n 0
 have g1:=lm_lt b.n 1
 have g2:=lm_lt b.n 2
 have g3:=lm_lt b.n 3
 rw [lm0 (a.n - b.n),lm1 (a.n - b.n),lm2 (a.n - b.n),lm3 (a.n - b.n)]
 generalize lm a.n 0=x0 at *
 generalize lm a.n 1=x1 at *
 generalize lm a.n 2=x2 at *
 generalize lm a.n 3=x3 at *
 generalize lm b.n 0=y0 at *
 generalize lm b.n 1=y1 at *
 generalize lm b.n 2=y2 at *
 generalize lm b.n 3=y3 at *
 unfold wj at ha hb
 have key:∀ x y b c:Nat,x < 18446744073709551616->y < 18446744073709551616->b<=1->bor x y b=c->c<=1/\(x + 18446744073709551616 - y - b) % 18446744073709551616 + y + b=x + 18446744073709551616 * c:=by
  intro x y b c hx hy hb hc
  unfold bor at hc
  split at hc <;> omega
 generalize hc0:bor x0 y0 0=c0
 generalize hc1:bor x1 y1 c0=c1
 generalize hc2:bor x2 y2 c1=c2
 generalize hc3:bor x3 y3 c2=c3
 obtain⟨b0,k0⟩:=key x0 y0 0 c0 h0 g0 (by omega) hc0
 obtain⟨b1,k1⟩:=key x1 y1 c0 c1 h1 g1 b0 hc1
 obtain⟨b2,k2⟩:=key x2 y2 c1 c2 h2 g2 b1 hc2
 obtain⟨b3,k3⟩:=key x3 y3 c2 c3 h3 g3 b2 hc3
 have m0:=Nat.mod_lt (x0 + 18446744073709551616 - y0 - 0) (show 0 < 18446744073709551616 by decide)
 have m1:=Nat.mod_lt (x1 + 18446744073709551616 - y1 - c0) (show 0 < 18446744073709551616 by decide)
 have m2:=Nat.mod_lt (x2 + 18446744073709551616 - y2 - c1) (show 0 < 18446744073709551616 by decide)
 have m3:=Nat.mod_lt (x3 + 18446744073709551616 - y3 - c2) (show 0 < 18446744073709551616 by decide)
 generalize (x0 + 18446744073709551616 - y0 - 0) % 18446744073709551616=d0 at *
 generalize (x1 + 18446744073709551616 - y1 - c0) % 18446744073709551616=d1 at *
 generalize (x2 + 18446744073709551616 - y2 - c1) % 18446744073709551616=d2 at *
 generalize (x3 + 18446744073709551616 - y3 - c2) % 18446744073709551616=d3 at *
 rw [<- ha,<- hb]
 clear hc0 hc1 hc2 hc3 key ha hb
 refine⟨b0,b1,b2,b3,by omega,fun hle=>?_⟩
 have hd:(x0 + 18446744073709551616 * x1 + 340282366920938463463374607431768211456 * x2 + 6277101735386680763835789423207666416102355444464034512896 * x3) - (y0 + 18446744073709551616 * y1 + 340282366920938463463374607431768211456 * y2 + 6277101735386680763835789423207666416102355444464034512896 * y3)=d0 + 18446744073709551616 * d1 + 340282366920938463463374607431768211456 * d2 + 6277101735386680763835789423207666416102355444464034512896 * d3:=by omega
 rw [hd]
 clear hd hle k0 k1 k2 k3
 refine⟨?_,?_,?_,?_⟩ <;> omega
end Av
