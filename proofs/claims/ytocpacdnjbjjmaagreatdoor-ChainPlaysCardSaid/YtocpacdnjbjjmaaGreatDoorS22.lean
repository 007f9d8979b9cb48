/- . -/
import Derived.Lib.AppendStr
import Derived.Lib.UnsafeStr
import Derived.Lib.Builder
import Derived.Test.YtocpacdnjbjjmaaGreatDoorS21
namespace Av
open Go Go.RowKit Tw
abbrev iP (l:Bs):List AV:=l.map fun c=>.lit (j6 c)
theorem strCells_eq (l:Bs):Lib.strCells ⟨l.toArray⟩=l.map j6:=by simp[Lib.strCells,j6]
theorem RCs_byt {ok:Ok}{w:World}(l:Bs):RCs ok w (iP l) (l.map j6):=by
 induction l with
 | nil=>rw[show iP []=[] from rfl,RCs];rfl
 | cons c l ih=>
  rw[show iP (c::l)=.lit (j6 c)::iP l from rfl,RCs];exact⟨[j6 c],l.map j6,rfl,by rw[RC];exact⟨rfl,rfl⟩,ih⟩
theorem WF (l:Bs):∀ x∈iP l,x.size=1:=by
 intro x hx;obtain⟨c,_,rfl⟩:=List.mem_map.1 hx;rfl
theorem Ny (l:Bs):(iP l).length=l.length:=llm _
theorem Pf (l:Bs):(⟨l.toArray⟩:ByteArray).size=l.length:=by simp[ByteArray.size]
section
variable {P:Program} {N:Nat} {ops:Array Oper} {Q:Exit->Act->World->Prop} {rest:List Oper} {s:Base} {e:Env} {m:List Piece} {d:Nat} {ty:TypeId} {pos:String} {af:Array Edge}
theorem a8J {T U E:TypeId}[t:TyE P T E 1 1][tu:TyT P U]{xo yo:Operand}{g n c:Nat}{l:Bs}{xs:List AV}{M:Nat->Nat->List Piece}(h:∀ g' c',n+l.length<=c'->AL P N ops Q s rest ((d,.lit (.slice (some ⟨g',0,none⟩) (n+l.length) c'))::e) (M g' c'))(hx:ev e xo=some (.lit (.slice (some ⟨g,0,none⟩) n c)):=by exact rfl)(hy:ev e yo=some (str l):=by exact rfl)
  (hm:∀ g' c',Upd m (.buf g E 1 xs c) (.buf g' E 1 (xs++iP l) c') (M g' c'):=by intro g' c';(repeat (first|apply Av.Upd.here|apply Av.Upd.there))) (hn:n=xs.length:=by first|exact rfl|(simp;done)|(simp;omega)) (hnc:n<=c:=by omega)
  (hb:n+l.length<=140737488355328:=by omega) (hd:Nat.blt d N=true:=by exact rfl) :
  AL P N ops Q s (⟨some d,.call ⟨.builtin .append,#[xo,yo],#[T,U]⟩,ty,pos,af,none⟩::rest) e m:=by
 subst hn;refine iR (fun ok w B hS hB=>?_) hd;obtain⟨i,z,q1,q2,hzk,hik,hib⟩:=t.zero;have hg1:=hB.lit hx;have hg2:=hB.lit hy;have hs:=Pf l;obtain⟨pre,post,hm1,_⟩:=(hm g c).parts;have hS0:=hS;rw[hm1] at hS;obtain⟨cs1,cs2,a1,a2,a3,a4,a5⟩:=hS.at_ (.buf g E 1 xs c) sm;have hcl:=a2.len a3;rw[Nat.mul_one] at hcl;by_cases hroom:xs.length+l.length<=c
 ·obtain⟨pre',post',hm1',hm2'⟩:=(hm g c).parts;rw[hm1'] at hS0;obtain⟨w',r1,r2,r3⟩:=St.overB (P:=P) hS0 (RCs_byt l) (WF l) (Nat.le_refl _) (by rw[Ny];exact hroom);have ho:over xs xs.length (iP l)=xs++iP l:=by
   unfold over;rw[List.take_length,List.drop_of_length_le om,List.append_nil]
  rw[ho] at r2;have hf:=Lib.run_firstCells_string (P:=P) w i.size ⟨l.toArray⟩;rw[hs,strCells_eq] at hf;rw[Nat.mul_one] at r1;have hr:(Builtin.append_ #[T,U] ty #[.slice (some ⟨g,0,none⟩) xs.length c,.string ⟨l.toArray⟩]).run P w=.ok (.slice (some ⟨g,0,none⟩) (xs.length+l.length) c) w':=by
   simp[Builtin.append_,run_underlying t.l.out,run_underlying tu.out,Go.sizeOf,typeInfo,q1,Builtin.lenOf,hs,hroom,hik,add_mid];rw[hik] at hf;simp[hf,r1]
  exact⟨_,.slice (some ⟨g,0,none⟩) (xs.length+l.length) c,w',ok,_,by simp[execOp,resolve,invoke,builtin,hg1,hg2,hr],RVl rfl,by rw[hm2'];exact r2,r3,h g c hroom⟩
 ·have holds:∀ j v,cs1[j]?=some v->w.cell? ((⟨g,0,none⟩:Addr).add j)=some v:=fun j v hj=>by
   rw[add_mid,cell_of_row _ _ _ _ _ _ a1];have hj':j<cs1.length:=(List.getElem?_eq_some_iff.1 hj).1;simp only[Nat.zero_add,List.getElem?_toArray];rw[List.getElem?_append_left hj'];exact hj
  have hr:=Lib.run_append_grow_string (P:=P) w T U ty E i z t.l.out tu.out q1 q2 ⟨g,0,none⟩ xs.length c cs1 (by rw[hik,Nat.mul_one];exact hcl) holds ⟨l.toArray⟩ (by rw[hs];omega) (by rw[hs];omega) (by rw[hs,hib];exact growslice_fits om om);rw[hs,strCells_eq] at hr;have hge:=grownCap_ge w (xs.length+l.length) c E;have hle:=grownCap_le_maxLen w (xs.length+l.length) c E (by simp[maxLen];omega);generalize grownCap w (xs.length+l.length) c E=c' at hr hge hle;obtain⟨pre',post',hm1',hm2'⟩:=(hm w.heap.size c').parts;have hE:Ext w (w.drew.alloc (.cells (cs1.toArray++(l.map j6).toArray++Builtin.zeroCells z.cells (c'-(xs.length+l.length))) E)):=Ext.trans' (Ext.drew w) (Ext.alloc w.drew _);have hblk:(w.drew.alloc (.cells (cs1.toArray++(l.map j6).toArray++Builtin.zeroCells z.cells (c'-(xs.length+l.length))) E)).heap[w.heap.size]?=some (.cells ((cs1++l.map j6)++(Builtin.zeroCells z.cells (c'-(xs.length+l.length))).toList).toArray E (0,0)):=by
   rw[show ((cs1++l.map j6)++(Builtin.zeroCells z.cells (c'-(xs.length+l.length))).toList).toArray=cs1.toArray++(l.map j6).toArray++Builtin.zeroCells z.cells (c'-(xs.length+l.length)) by apply Array.ext';simp];exact heap_alloc_new w.drew _
  rw[hm1'] at hS0;have hd:=hS0.less (m':=pre'++post') sm;obtain⟨ok',r1,r2⟩:=St.newBuf hd hE sm hblk (a2.append (RCs_byt l)) (fun x hx=>(List.mem_append.1 hx).elim (a3 x) (WF l x)) (c:=c') (by
   simp only[List.length_append,Array.length_toList,size_zeroCells,hzk,hcl,List.length_map];omega) hle
  exact⟨_,.slice (some ⟨w.heap.size,0,none⟩) (xs.length+l.length) c',_,ok',_,by simp[execOp,resolve,invoke,builtin,hg1,hg2,hr],RVl rfl,by rw[hm2'];exact r1.perm List.perm_middle,r2,h _ _ hge⟩
theorem a8H {T U E:TypeId}[t:TyE P T E 1 1][tu:TyT P U]{xo yo:Operand}{l:Bs}(h:∀ g' c',l.length<=c'->AL P N ops Q s rest ((d,.lit (.slice (some ⟨g',0,none⟩) l.length c'))::e) (.buf g' E 1 (iP l) c'::m))(hx:ev e xo=some (.lit (.slice none 0 0)):=by exact rfl)(hy:ev e yo=some (str l):=by exact rfl)
  (h0:0<l.length:=by omega) (hb:l.length<=140737488355328:=by omega) (hd:Nat.blt d N=true:=by exact rfl) :
  AL P N ops Q s (⟨some d,.call ⟨.builtin .append,#[xo,yo],#[T,U]⟩,ty,pos,af,none⟩::rest) e m:=by
 refine iR (fun ok w B hS hB=>?_) hd;obtain⟨i,z,q1,q2,hzk,hik,hib⟩:=t.zero;have hg1:=hB.lit hx;have hg2:=hB.lit hy;have hs:=Pf l;have hr:=run_append_nil_string (P:=P) w T U ty E i z t.l.out tu.out q1 q2 ⟨l.toArray⟩ (by rw[hs];exact h0) (by rw[hs];omega) (by rw[hs,hib];omega);have e1:((⟨l.toArray⟩:ByteArray).data.map fun b=>Value.int .u8 b.toNat)=(l.map j6).toArray:=by apply Array.ext';simp[j6]
 rw[e1,hs] at hr;have hge:=grownCap_ge w l.length 0 E;have hle:=grownCap_le_maxLen w l.length 0 E (by simp[maxLen];omega);generalize grownCap w l.length 0 E=c' at hr hge hle;have hE:Ext w (w.drew.alloc (.cells ((l.map j6).toArray++Builtin.zeroCells z.cells (c'-l.length)) E)):=Ext.trans' (Ext.drew w) (Ext.alloc w.drew _);have hblk:(w.drew.alloc (.cells ((l.map j6).toArray++Builtin.zeroCells z.cells (c'-l.length)) E)).heap[w.heap.size]?=some (.cells (l.map j6++(Builtin.zeroCells z.cells (c'-l.length)).toList).toArray E (0,0)):=by
  rw[show (l.map j6++(Builtin.zeroCells z.cells (c'-l.length)).toList).toArray=(l.map j6).toArray++Builtin.zeroCells z.cells (c'-l.length) by apply Array.ext';simp];exact heap_alloc_new w.drew _
 obtain⟨ok',r1,r2⟩:=St.newBuf hS hE sm hblk (RCs_byt l) (WF l) (c:=c') (by
  simp only[Array.length_toList,size_zeroCells,hzk,List.length_map];omega) hle
 exact⟨_,.slice (some ⟨w.heap.size,0,none⟩) l.length c',_,ok',_,by simp[execOp,resolve,invoke,builtin,hg1,hg2,hr],RVl rfl,r1,r2,h _ _ hge⟩
theorem a8I {T U E:TypeId}[t:TyE P T E 1 1][tu:TyT P U]{xo yo:Operand}(h:AL P N ops Q s rest ((d,.lit (.slice none 0 0))::e) m)(hx:ev e xo=some (.lit (.slice none 0 0)):=by exact rfl)(hy:ev e yo=some (str []):=by exact rfl)(hd:Nat.blt d N=true:=by exact rfl) :
  AL P N ops Q s (⟨some d,.call ⟨.builtin .append,#[xo,yo],#[T,U]⟩,ty,pos,af,none⟩::rest) e m:=
 N9 rfl (fun ok w B hB=>by
  obtain⟨i,z,q1,q2,hzk,hik,hib⟩:=t.zero;have hf:=Lib.run_firstCells_string (P:=P) w i.size ⟨#[]⟩;have hr:(Builtin.append_ #[T,U] ty #[.slice none 0 0,.string ⟨#[]⟩]).run P w=.ok (.slice none 0 0) w:=by
   have hs:(⟨#[]⟩:ByteArray).size=0:=rfl;rw[hs] at hf;simp[Builtin.append_,run_underlying t.l.out,run_underlying tu.out,Go.sizeOf,typeInfo,q1,Builtin.lenOf,hs,hf]
  simp[execOp,resolve,invoke,builtin,hB.lit hx,hB.lit hy,hr]) hd h
theorem a7q {S D t:TypeId}{j:TypeInfo}{x:Operand}{g n:Nat}{T0:TypeId}{ps:List AV}(hs:P.underlying S=some (.pointer t))(hD:P.underlying D=some .unsafePointer)(hi:P.info? t=some j)(hj:j.size≠0)(hn:0<n)(h:AL P N ops Q s rest ((d,.lit (.pointer (some ⟨g,0,none⟩)))::e) m)(hx:ev e x=some (.lit (.pointer (some ⟨g,0,none⟩))):=by exact rfl)
  (hm:Has m (.var g T0 (.agg n ps)):=by (repeat (first|exact Av.Has.here|apply Av.Has.there))) (hd:Nat.blt d N=true:=by exact rfl):AL P N ops Q s (⟨some d,.convert S D x,ty,pos,af,none⟩::rest) e m:=
 bF (v:=.lit (.pointer (some ⟨g,0,none⟩))) (fun ok w a hS hA=>by
  obtain⟨cs,h1,h2⟩:=hS.at_ _ hm.mem;rw[RC] at h2;have M8:w.shape? g=some (T0,n):=by simp[World.shape?,h1,h2.1]
  exact⟨_,by simp[execOp,hA.lit hx,Lib.run_to_unsafe w ⟨g,0,none⟩ hs hD hi hj M8 hn],RVl rfl⟩) hd h
theorem a8h {S D u:TypeId}{j:TypeInfo}{x:Operand}{g n:Nat}{T0:TypeId}{ps:List AV}(hs:P.underlying S=some .unsafePointer)(hD:P.underlying D=some (.pointer u))(hi:P.info? u=some j)(hl:liesAt P P.depth T0 (n / P.cellsOf T0) 0 u 1=true)(h:AL P N ops Q s rest ((d,.lit (.pointer (some ⟨g,0,none⟩)))::e) m)(hx:ev e x=some (.lit (.pointer (some ⟨g,0,none⟩))):=by exact rfl)
  (hm:Has m (.var g T0 (.agg n ps)):=by (repeat (first|exact Av.Has.here|apply Av.Has.there))) (hd:Nat.blt d N=true:=by exact rfl):AL P N ops Q s (⟨some d,.convert S D x,ty,pos,af,none⟩::rest) e m:=
 bF (v:=.lit (.pointer (some ⟨g,0,none⟩))) (fun ok w a hS hA=>by
  obtain⟨cs,h1,h2⟩:=hS.at_ _ hm.mem;rw[RC] at h2;have M8:w.shape? g=some (T0,n):=by simp[World.shape?,h1,h2.1]
  exact⟨_,by simp[execOp,hA.lit hx,Lib.run_from_unsafe w ⟨g,0,none⟩ hs hD hi M8 hl],RVl rfl⟩) hd h
theorem a7C {T yT E:TypeId}{j:TypeInfo}{x y:Operand}{p:Addr}(hp:P.underlying T=some (.pointer E))(hi:P.info? E=some j)(h:AL P N ops Q s rest ((d,j3 false)::e) m)(hx:ev e x=some (.lit (.pointer (some p))):=by exact rfl)(hy:ev e y=some (.lit (.pointer (some p))):=by exact rfl)(hd:Nat.blt d N=true:=by exact rfl) :
  AL P N ops Q s (⟨some d,.binOp .neq T x y yT,ty,pos,af,none⟩::rest) e m:=
 N9 rfl (fun ok w a ha=>by
  have hg:(eqGuard .neq T x y (.pointer (some p)) (.pointer (some p))).run P w=.ok () w:=by
   unfold eqGuard;split <;> rfl
  simp[execOp,ha.lit hx,ha.lit hy,hg,Lib.run_neq_ptr_same w p hp hi]) hd h
theorem a7u {T:TypeId}{x:Operand}{g n c:Nat}(h:AL P N ops Q s rest ((d,.lit (.pointer (some ⟨g,0,none⟩)))::e) m)(hc:c≠0)(hx:ev e x=some (.lit (.slice (some ⟨g,0,none⟩) n c)):=by exact rfl)(hd:Nat.blt d N=true:=by exact rfl) :
  AL P N ops Q s (⟨some d,.call ⟨.builtin .unsafeSliceData,#[x],#[T]⟩,ty,pos,af,none⟩::rest) e m:=
 N9 rfl (fun ok w a ha=>by simp[execOp,resolve,invoke,builtin,ha.lit hx,Lib.run_unsafeSliceData_row w _ _ _ _ _ hc]) hd h
theorem a7t {T:TypeId}{x:Operand}(h:AL P N ops Q s rest ((d,.lit (.pointer none))::e) m)(hx:ev e x=some (.lit (.slice none 0 0)):=by exact rfl)(hd:Nat.blt d N=true:=by exact rfl) :
  AL P N ops Q s (⟨some d,.call ⟨.builtin .unsafeSliceData,#[x],#[T]⟩,ty,pos,af,none⟩::rest) e m:=
 N9 rfl (fun ok w a ha=>by simp[execOp,resolve,invoke,builtin,ha.lit hx,Lib.run_unsafeSliceData_nil]) hd h
theorem a7o {T U:TypeId}{x y:Operand}(h:AL P N ops Q s rest ((d,str [])::e) m)(hx:ev e x=some (.lit (.pointer none)):=by exact rfl)(hy:ev e y=some (int 0):=by exact rfl)(hd:Nat.blt d N=true:=by exact rfl) :
  AL P N ops Q s (⟨some d,.call ⟨.builtin .unsafeString,#[x,y],#[T,U]⟩,ty,pos,af,none⟩::rest) e m:=
 N9 rfl (fun ok w a ha=>by simp[execOp,resolve,invoke,builtin,ha.lit hx,ha.lit hy,Lib.run_unsafeString_none];rfl) hd h
theorem Ir (w:World)(a:Addr)(n b:Nat)(h:b≠a.block):(w.freeze a n).heap[b]?=w.heap[b]?:=by
 unfold World.freeze;split
 ·rfl
 ·simp only[Array.getElem?_modify];rw[if_neg (fun e=>h e.symm)]
theorem a3S (w:World)(a:Addr)(n b j:Nat):(w.freeze a n).cell? ⟨b,j,none⟩=w.cell? ⟨b,j,none⟩:=by
 by_cases hb:b=a.block
 ·unfold World.freeze;split
  ·rfl
  ·simp only[World.cell?,Array.getElem?_modify,hb,if_true];cases hh:w.heap[a.block]? with
   | none=>rfl
   | some o=>cases o <;> rfl
 ·exact wI (Ir w a n b hb)
theorem Iq (w:World)(a:Addr)(n:Nat):(w.freeze a n).heap.size=w.heap.size/\(w.freeze a n).os=w.os/\(w.freeze a n).tape=w.tape/\(w.freeze a n).output=w.output:=by
 unfold World.freeze;split
 ·exact⟨rfl,rfl,rfl,rfl⟩
 ·exact⟨sm,rfl,rfl,rfl⟩
theorem a7p {T U E:TypeId}{x y:Operand}{g c:Nat}{l:Bs}{m':List Piece}(hp:P.underlying T=some (.pointer E))(hc:P.cellsOf E=1)(h0:l≠[])(h:AL P N ops Q s rest ((d,str l)::e) m')(hx:ev e x=some (.lit (.pointer (some ⟨g,0,none⟩))):=by exact rfl)(hy:ev e y=some (int l.length):=by exact rfl)
  (hm:Upd m (.buf g E 1 (iP l) c) (.tail E 1 (.slice none 0 0)) m':=by (repeat (first|apply Av.Upd.here|apply Av.Upd.there))) (hl:l.length<=9223372036854775807:=by omega) (hd:Nat.blt d N=true:=by exact rfl) :
  AL P N ops Q s (⟨some d,.call ⟨.builtin .unsafeString,#[x,y],#[T,U]⟩,ty,pos,af,none⟩::rest) e m:=by
 refine wM (v:=str l) (fun ok w a hS ha=>?_) hd;obtain⟨pre,post,rfl,rfl⟩:=hm.parts;obtain⟨cs1,cs2,h1,h2,h3,h4,h5⟩:=hS.at_ (.buf g E 1 (iP l) c) sm;have hcs:cs1=l.map j6:=RCs_u8_eq h2;subst hcs;have M8:w.shape? g=some (E,(l.map j6++cs2).length):=by simp[World.shape?,h1]
 have hr:=Lib.run_unsafeString_row (P:=P) w T U ty E hp hc g _ M8 l h0 sm hl (fun j x hj=>by
  rw[add_mid,cell_of_row _ _ _ _ _ _ h1];have hj':j<(l.map j6).length:=by simpa using (List.getElem?_eq_some_iff.1 hj).1
  simp only[Nat.zero_add,List.getElem?_toArray];rw[List.getElem?_append_left hj',List.getElem?_map,hj];rfl)
 have hst:Stp ok w ok (w.freeze ⟨g,0,none⟩ l.length):=⟨by rw[(Iq _ _ _).1];exact Nat.le_refl _,fun b j v g1 g2=>⟨by rw[a3S];exact g1,g2⟩⟩;obtain⟨f1,f2,f3,f4⟩:=Iq w ⟨g,0,none⟩ l.length;refine⟨.string ⟨l.toArray⟩,_,ok,_,by simp[execOp,resolve,invoke,builtin,ha.lit hx,ha.lit hy,hr],RVl rfl,?_,hst,h⟩;refine hS.write (g:=g) (p':=.tail E 1 (.slice none 0 0)) rfl (.inr rfl) hst (.inl ⟨none,0,rfl⟩) (fun b j hb=>?_) f1 f2 f3 f4 (fun b hne=>Ir w _ _ b hne) (fun _ _ _=>Iff.rfl);obtain⟨a,n',c',he,hne,_⟩:=hb;injection he with _ h1 h2
 omega
end

class W64 (k:IntKind)(B:outParam Int):Prop where
 w:∀ c:Int,0<=c->c<=B->k.wrap c=c
 b:k.bits=64
 u:B<=18446744073709551615
instance : W64 .i64 9223372036854775807 := ⟨fun c h0 h1 => rR om om, rfl, by decide⟩
theorem wrap_u64 (n:Nat)(h:n<18446744073709551616):IntKind.u64.wrap (n:Int)=n:=by
 show (IntKind.u64.wrap (n:Int))=n;simp[IntKind.wrap,IntKind.bits,IntKind.signed];omega
instance : W64 .u64 18446744073709551615 := ⟨fun c h0 h1 => by
 obtain⟨n,rfl⟩:=Int.eq_ofNat_of_zero_le h0;exact wrap_u64 n om,rfl,dc⟩
theorem a1p {k:IntKind}{B:Int}[hk:W64 k B]{m c:Nat}(hc:c<256)(hm:((m*256+c:Nat):Int)<=B)(P:Program)(w:World):(Op.intBits .or k ((m:Int)*256) (c:Int)).run P w=.ok (.int k ((m:Int)*256+c)) w:=by
 have hu:=hk.u;have hb:=hk.b;have e1:((m:Int)*256)=((m*256:Nat):Int):=by simp
 have e2:(BitVec.ofInt k.bits ((m:Int)*256) ||| BitVec.ofInt k.bits (c:Int)).toNat=m*256+c:=by
  rw[BitVec.toNat_or,e1,BitVec.ofInt_natCast,BitVec.ofInt_natCast,BitVec.toNat_ofNat,BitVec.toNat_ofNat,hb,Nat.mod_eq_of_lt om,Nat.mod_eq_of_lt om];have:=Nat.two_pow_add_eq_or_of_lt (i:=8) (b:=c) om m;rw[show m*256=2 ^ 8*m by omega];exact this.symm
 show Result.ok (Value.int k (k.wrap ((BitVec.ofInt k.bits ((m:Int)*256) ||| BitVec.ofInt k.bits (c:Int)).toNat:Int))) w=_;rw[e2,hk.w _ om hm];simp
section
variable {P:Program} {N:Nat} {ops:Array Oper} {Q:Exit->Act->World->Prop} {rest:List Oper} {s:Base} {e:Env} {m:List Piece} {d:Nat} {ty:TypeId} {pos:String} {af:Array Edge}
theorem Qc {T yT:TypeId}{k yk:IntKind}{B:Int}[hk:W64 k B]{x y:Operand}{a:Int}(h:AL P N ops Q s rest ((d,.lit (.int k (a*256)))::e) m)(hx:ev e x=some (.lit (.int k a)):=by exact rfl)(hy:ev e y=some (.lit (.int yk 8)):=by exact rfl)(h0:0<=a:=by omega)(h1:a*256<=B:=by omega)(hd:Nat.blt d N=true:=by exact rfl) :
  AL P N ops Q s (⟨some d,.binOp .shl T x y yT,ty,pos,af,none⟩::rest) e m:=
 CP rfl hx hy (fun w=>by
  have hb:=hk.b;have h2:min (8:Int).toNat k.bits=8:=by rw[hb];rfl
  have h3:¬ ((8:Int)<0):=om
  have e1:k.wrap (a*256)=a*256:=hk.w _ om h1;simp only[Op.shift,h3,if_false,h2];show Result.ok (Value.int k (k.wrap (a*2 ^ 8))) w=_;rw[show (2:Int) ^ 8=256 from rfl,e1]) (.inl rfl) hd h
theorem Qe {T yT:TypeId}{k:IntKind}{B:Int}[hk:W64 k B]{x y:Operand}{a c:Int}(h:AL P N ops Q s rest ((d,.lit (.int k (a*256+c)))::e) m)(hx:ev e x=some (.lit (.int k (a*256))):=by exact rfl)(hy:ev e y=some (.lit (.int k c)):=by exact rfl)(h0:0<=a:=by omega)(h1:0<=c:=by omega)(h2:c<256:=by omega)(h3:a*256+c<=B:=by omega)(hd:Nat.blt d N=true:=by exact rfl) :
  AL P N ops Q s (⟨some d,.binOp .or T x y yT,ty,pos,af,none⟩::rest) e m:=by
 obtain⟨m,rfl⟩:=Int.eq_ofNat_of_zero_le h0;obtain⟨n,rfl⟩:=Int.eq_ofNat_of_zero_le h1;exact CS rfl hx hy (fun w=>a1p om (by simpa using h3) P w) (.inr (.inl rfl)) hd h
theorem a7z {T yT:TypeId}{yk:IntKind}{x y:Operand}{a:Int}(h:AL P N ops Q s rest ((d,.lit (.int .i64 (a*256)))::e) m)(hx:ev e x=some (.lit (.int .i64 a)):=by exact rfl)(hy:ev e y=some (.lit (.int yk 8)):=by exact rfl)(h0:0<=a:=by omega)(h1:a*256<=9223372036854775807:=by omega)(hd:Nat.blt d N=true:=by exact rfl) :
  AL P N ops Q s (⟨some d,.binOp .shl T x y yT,ty,pos,af,none⟩::rest) e m:=Qc h hx hy h0 h1 hd
theorem a7I {T yT:TypeId}{x y:Operand}{a c:Int}(h:AL P N ops Q s rest ((d,.lit (.int .i64 (a*256+c)))::e) m)(hx:ev e x=some (.lit (.int .i64 (a*256))):=by exact rfl)(hy:ev e y=some (.lit (.int .i64 c)):=by exact rfl)(h0:0<=a:=by omega)(h1:0<=c:=by omega)(h2:c<256:=by omega)(h3:a*256+c<=9223372036854775807:=by omega)(hd:Nat.blt d N=true:=by exact rfl) :
  AL P N ops Q s (⟨some d,.binOp .or T x y yT,ty,pos,af,none⟩::rest) e m:=Qe h hx hy h0 h1 h2 h3 hd
theorem a7y {T yT:TypeId}{yk:IntKind}{x y:Operand}{a:Int}(h:AL P N ops Q s rest ((d,.lit (.int .u64 (a*256)))::e) m)(hx:ev e x=some (.lit (.int .u64 a)):=by exact rfl)(hy:ev e y=some (.lit (.int yk 8)):=by exact rfl)(h0:0<=a:=by omega)(h1:a*256<=18446744073709551615:=by omega)(hd:Nat.blt d N=true:=by exact rfl) :
  AL P N ops Q s (⟨some d,.binOp .shl T x y yT,ty,pos,af,none⟩::rest) e m:=Qc h hx hy h0 h1 hd
theorem a7H {T yT:TypeId}{x y:Operand}{a c:Int}(h:AL P N ops Q s rest ((d,.lit (.int .u64 (a*256+c)))::e) m)(hx:ev e x=some (.lit (.int .u64 (a*256))):=by exact rfl)(hy:ev e y=some (.lit (.int .u64 c)):=by exact rfl)(h0:0<=a:=by omega)(h1:0<=c:=by omega)(h2:c<256:=by omega)(h3:a*256+c<=18446744073709551615:=by omega)(hd:Nat.blt d N=true:=by exact rfl) :
  AL P N ops Q s (⟨some d,.binOp .or T x y yT,ty,pos,af,none⟩::rest) e m:=Qe h hx hy h0 h1 h2 h3 hd
theorem a8E {op:BinOp}{T yT:TypeId}{x y:Operand}{i j c:Int}(h:AL P N ops Q s rest ((d,.lit (.int .u64 c))::e) m)(hx:ev e x=some (.lit (.int .u64 i)):=by exact rfl)(hy:ev e y=some (.lit (.int .u64 j)):=by exact rfl)(hc:arith op i j=some c:=by exact rfl)
  (h1:0<=c:=by omega) (h2:c<=18446744073709551615:=by omega) (hd:Nat.blt d N=true:=by exact rfl) :
  AL P N ops Q s (⟨some d,.binOp op T x y yT,ty,pos,af,none⟩::rest) e m:=
 N9 rfl (fun ok w a ha=>jW ha hx hy (by rw[zV hc,(inferInstance:W64 .u64 _).w _ h1 h2])) hd h
theorem OM {T:TypeId}[t:TyT P T]{x ix:Operand}{kd:IntKind}{i:Int}{b:Bs}{c:UInt8}(h:AL P N ops Q s rest ((d,.lit (j6 c))::e) m)(hx:ev e x=some (str b):=by exact rfl)(hi:ev e ix=some (.lit (.int kd i)):=by exact rfl)(hj:i=Int.ofNat i.toNat:=by exact rfl)(hc:b[i.toNat]?=some c:=by exact rfl)(hd:Nat.blt d N=true:=by exact rfl) :
  AL P N ops Q s (⟨some d,.index T x ix,ty,pos,af,none⟩::rest) e m:=rQ i.toNat h hc hx hi hj hd
end
theorem SI {G G':Prop}(h:G')(i:Wr G'->G:=by
 intro h;refine kL ?_;first
 | (refine UB ?_;first|exact a7z h.o|exact a7y h.o|exact a7I h.o|exact a7H h.o|exact a8E h.o)
 | (refine Gr ?_;first|exact al_convB h.o|exact al_convU h.o)
 | exact OM h.o):G:=i ⟨h⟩
theorem ob6 {G G':Prop}(h:G')(i:Wr G'->G:=by
 intro h;refine kO ?_
 (apply u7 [];exact rfl;exact rfl;kernel_rfl;(intro _ _;first|(refine SI ?_;exact j4 (o7 rfl rfl))|(refine bQ ?_;refine SI ?_;exact j4 (o7 rfl rfl)));exact h.o)):G:=i ⟨h⟩
theorem Ya {G G':Prop}(h:G')(i:Wr G'->G:=by intro h;first|exact W h.o|exact R9 h.o|exact SI h.o|exact vR h.o|exact ob6 h.o|exact yA h.o|exact yB h.o|exact tH h.o|exact wJ h.o):G:=i ⟨h⟩
theorem Yz {G G':Prop}(h:G')(i:Wr G'->G:=by intro h;first|exact Ya h.o|exact G5 h.o|(simp only[List.set];exact h.o)):G:=i ⟨h⟩

structure Wd where
 n:Nat
 lt:n<115792089237316195423570985008687907853269984665640564039457584007913129639936
deriving DecidableEq
def wZ:Wd:=⟨0,dc⟩
def X4 (n:Nat):Wd:=if h:n<115792089237316195423570985008687907853269984665640564039457584007913129639936 then ⟨n,h⟩ else wZ
def T9 (n:Nat):Bool:=decide (n<115792089237316195423570985008687907853269984665640564039457584007913129639936)
theorem oK {n:Nat}(h:n<115792089237316195423570985008687907853269984665640564039457584007913129639936):(X4 n).n=n:=by rw[X4,dif_pos h]
theorem Vs (a:Wd):X4 a.n=a:=by rw[X4,dif_pos a.lt]
theorem YG {n:Nat}(h:¬ n<115792089237316195423570985008687907853269984665640564039457584007913129639936):X4 n=wZ:=by rw[X4,dif_neg h]
def lm (n i:Nat):Nat:=n / 18446744073709551616 ^ i%18446744073709551616
theorem iJ (n i:Nat):lm n i<18446744073709551616:=Nat.mod_lt _ dc
theorem BM (n:Nat):lm n 0=n%18446744073709551616:=by unfold lm;rw[Nat.pow_zero,Nat.div_one]
theorem BL (n:Nat):lm n 1=n / 18446744073709551616%18446744073709551616:=by unfold lm;rw[Nat.pow_one]
theorem BK (n:Nat):lm n 2=n / 340282366920938463463374607431768211456%18446744073709551616:=rfl
theorem BJ (n:Nat):lm n 3=n / 6277101735386680763835789423207666416102355444464034512896%18446744073709551616:=rfl
theorem vV (i:Nat):lm 0 i=0:=by unfold lm;rw[Nat.zero_div]
theorem a1x {n m:Nat}(hn:n<115792089237316195423570985008687907853269984665640564039457584007913129639936)(hm:m<115792089237316195423570985008687907853269984665640564039457584007913129639936)(h0:lm n 0=lm m 0)(h1:lm n 1=lm m 1)(h2:lm n 2=lm m 2)(h3:lm n 3=lm m 3):n=m:=by
 rw[BM,BM] at h0;rw[BL,BL] at h1;rw[BK,BK] at h2;rw[BJ,BJ] at h3;omega
abbrev u6 (n:Nat):AV:=.lit (.int .u64 (n:Int))
abbrev U5 (n:Nat):AV:=.agg 4 [u6 (lm n 0),u6 (lm n 1),u6 (lm n 2),u6 (lm n 3)]
abbrev C9 (a:Wd):AV:=U5 a.n
def wj (a b c d:Nat):Nat:=a+18446744073709551616*b+340282366920938463463374607431768211456*c+6277101735386680763835789423207666416102355444464034512896*d
theorem Ut {a b c d:Nat}(ha:a<18446744073709551616)(hb:b<18446744073709551616)(hc:c<18446744073709551616)(hd:d<18446744073709551616) :
  wj a b c d<115792089237316195423570985008687907853269984665640564039457584007913129639936/\lm (wj a b c d) 0=a/\lm (wj a b c d) 1=b/\lm (wj a b c d) 2=c/\lm (wj a b c d) 3=d:=by
 rw[BM,BL,BK,BJ];unfold wj;omega
theorem MG (a:Wd):wj (lm a.n 0) (lm a.n 1) (lm a.n 2) (lm a.n 3)=a.n:=by
 have:=a.lt;rw[BM,BL,BK,BJ];unfold wj;omega
theorem a8Y (a b:Wd):∃ c0 c1 c2 c3:Nat,c0=(lm a.n 0+lm b.n 0+0) / 18446744073709551616/\c1=(lm a.n 1+lm b.n 1+c0) / 18446744073709551616/\c2=(lm a.n 2+lm b.n 2+c1) / 18446744073709551616/\c3=(lm a.n 3+lm b.n 3+c2) / 18446744073709551616/\c0<=1/\c1<=1/\c2<=1/\c3<=1 /\
  (c3=0↔a.n+b.n<115792089237316195423570985008687907853269984665640564039457584007913129639936) /\
  lm (a.n+b.n) 0=(lm a.n 0+lm b.n 0+0)%18446744073709551616/\lm (a.n+b.n) 1=(lm a.n 1+lm b.n 1+c0)%18446744073709551616/\lm (a.n+b.n) 2=(lm a.n 2+lm b.n 2+c1)%18446744073709551616/\lm (a.n+b.n) 3=(lm a.n 3+lm b.n 3+c2)%18446744073709551616:=by
 refine⟨_,_,_,_,rfl,rfl,rfl,rfl,?_⟩;have ha:=MG a;have hb:=MG b;have h0:=iJ a.n 0;have h1:=iJ a.n 1;have h2:=iJ a.n 2;have h3:=iJ a.n 3;have g0:=iJ b.n 0;have g1:=iJ b.n 1;have g2:=iJ b.n 2;have g3:=iJ b.n 3;rw[BM (a.n+b.n),BL (a.n+b.n),BK (a.n+b.n),BJ (a.n+b.n)];generalize lm a.n 0=x0 at *;generalize lm a.n 1=x1 at *;generalize lm a.n 2=x2 at *;generalize lm a.n 3=x3 at *;generalize lm b.n 0=y0 at *;generalize lm b.n 1=y1 at *;generalize lm b.n 2=y2 at *;generalize lm b.n 3=y3 at *;unfold wj at ha hb;generalize hc0:(x0+y0+0) / 18446744073709551616=c0;generalize hc1:(x1+y1+c0) / 18446744073709551616=c1;generalize hc2:(x2+y2+c1) / 18446744073709551616=c2;generalize hc3:(x3+y3+c2) / 18446744073709551616=c3;have b0:c0<=1:=by omega
 have b1:c1<=1:=om
 have b2:c2<=1:=om
 have b3:c3<=1:=om
 rw[<- ha,<- hb];refine⟨b0,b1,b2,b3,om,?_,?_,?_,?_⟩ <;> omega
def nG (x y b:Nat):Nat:=if x<y+b then 1 else 0
theorem Yb (a b:Wd):∃ c0 c1 c2 c3:Nat,c0=nG (lm a.n 0) (lm b.n 0) 0/\c1=nG (lm a.n 1) (lm b.n 1) c0/\c2=nG (lm a.n 2) (lm b.n 2) c1/\c3=nG (lm a.n 3) (lm b.n 3) c2/\c0<=1/\c1<=1/\c2<=1/\c3<=1 /\
  (c3=0↔b.n<=a.n)/\(b.n<=a.n ->
  lm (a.n-b.n) 0=(lm a.n 0+18446744073709551616-lm b.n 0-0)%18446744073709551616/\lm (a.n-b.n) 1=(lm a.n 1+18446744073709551616-lm b.n 1-c0)%18446744073709551616/\lm (a.n-b.n) 2=(lm a.n 2+18446744073709551616-lm b.n 2-c1)%18446744073709551616/\lm (a.n-b.n) 3=(lm a.n 3+18446744073709551616-lm b.n 3-c2)%18446744073709551616):=by
 refine⟨_,_,_,_,rfl,rfl,rfl,rfl,?_⟩;have ha:=MG a;have hb:=MG b;have h0:=iJ a.n 0;have h1:=iJ a.n 1;have h2:=iJ a.n 2;have h3:=iJ a.n 3;have g0:=iJ b.n 0;have g1:=iJ b.n 1;have g2:=iJ b.n 2;have g3:=iJ b.n 3;rw[BM (a.n-b.n),BL (a.n-b.n),BK (a.n-b.n),BJ (a.n-b.n)];generalize lm a.n 0=x0 at *;generalize lm a.n 1=x1 at *;generalize lm a.n 2=x2 at *;generalize lm a.n 3=x3 at *;generalize lm b.n 0=y0 at *;generalize lm b.n 1=y1 at *;generalize lm b.n 2=y2 at *;generalize lm b.n 3=y3 at *;unfold wj at ha hb;have key:∀ x y b c:Nat,x<18446744073709551616->y<18446744073709551616->b<=1->nG x y b=c->c<=1/\(x+18446744073709551616-y-b)%18446744073709551616+y+b=x+18446744073709551616*c:=by
  intro x y b c hx hy hb hc;unfold nG at hc;split at hc <;> omega
 generalize hc0:nG x0 y0 0=c0;generalize hc1:nG x1 y1 c0=c1;generalize hc2:nG x2 y2 c1=c2;generalize hc3:nG x3 y3 c2=c3;obtain⟨b0,k0⟩:=key x0 y0 0 c0 h0 g0 om hc0;obtain⟨b1,k1⟩:=key x1 y1 c0 c1 h1 g1 b0 hc1;obtain⟨b2,k2⟩:=key x2 y2 c1 c2 h2 g2 b1 hc2;obtain⟨b3,k3⟩:=key x3 y3 c2 c3 h3 g3 b2 hc3;have m0:=Nat.mod_lt (x0+18446744073709551616-y0-0) (show 0<18446744073709551616 by decide);have m1:=Nat.mod_lt (x1+18446744073709551616-y1-c0) (show 0<18446744073709551616 by decide);have m2:=Nat.mod_lt (x2+18446744073709551616-y2-c1) (show 0<18446744073709551616 by decide);have m3:=Nat.mod_lt (x3+18446744073709551616-y3-c2) (show 0<18446744073709551616 by decide);generalize (x0+18446744073709551616-y0-0)%18446744073709551616=d0 at *;generalize (x1+18446744073709551616-y1-c0)%18446744073709551616=d1 at *;generalize (x2+18446744073709551616-y2-c1)%18446744073709551616=d2 at *;generalize (x3+18446744073709551616-y3-c2)%18446744073709551616=d3 at *;rw[<- ha,<- hb];clear hc0 hc1 hc2 hc3 key ha hb;refine⟨b0,b1,b2,b3,om,fun hle=>?_⟩;have hd:(x0+18446744073709551616*x1+340282366920938463463374607431768211456*x2+6277101735386680763835789423207666416102355444464034512896*x3)-(y0+18446744073709551616*y1+340282366920938463463374607431768211456*y2+6277101735386680763835789423207666416102355444464034512896*y3)=d0+18446744073709551616*d1+340282366920938463463374607431768211456*d2+6277101735386680763835789423207666416102355444464034512896*d3:=by omega
 rw[hd];clear hd hle k0 k1 k2 k3;refine⟨?_,?_,?_,?_⟩ <;> omega

def K6:Bs->Nat
 | []=>0
 | c::l=>c.toNat+256*K6 l
def dg (n i:Nat):Nat:=n / 256 ^ i%256
theorem uS (n i:Nat):dg n i<256:=Nat.mod_lt _ dc
def I6 (n k:Nat):Bs:=(List.range k).map fun i=>UInt8.ofNat (dg n i)
theorem aR (n k:Nat):(I6 n k).length=k:=by simp[I6]
theorem VO {n k i:Nat}(h:i<k):(I6 n k)[i]?=some (UInt8.ofNat (dg n i)):=by simp[I6,h]
theorem Lt (n k:Nat):I6 n (k+1)=I6 n k++[UInt8.ofNat (dg n k)]:=by simp[I6,List.range_succ]
theorem Dx (i:Nat):0<256 ^ i:=Nat.pow_pos dc
theorem BN:∀ l:Bs,K6 l<256 ^ l.length
 | []=>by simp[K6]
 | c::l=>by
  have:=BN l;have:=c.toNat_lt;rw[K6,List.length_cons,Nat.pow_succ];omega
theorem BO:∀ a b:Bs,K6 (a++b)=K6 a+256 ^ a.length*K6 b
 | [],b=>by simp[K6]
 | c::a,b=>by
  rw[List.cons_append,K6,K6,BO a b,List.length_cons,Nat.pow_succ,Nat.mul_add,Nat.mul_comm (256 ^ a.length) 256,Nat.mul_assoc];omega
theorem Gf {l:Bs}{i:Nat}{c:UInt8}(h:l[i]?=some c):K6 (l.take (i+1))=K6 (l.take i)+256 ^ i*c.toNat:=by
 have hi:i<l.length:=by
  rcases Nat.lt_or_ge i l.length with h1|h1
  ·exact h1
  ·rw[List.getElem?_eq_none h1] at h;cases h
 rw[List.getElem?_eq_getElem hi] at h;injection h with h
 rw[List.take_succ_eq_append_getElem hi,BO,List.length_take,Nat.min_eq_left om,h];simp[K6]
theorem SK (n i:Nat):(UInt8.ofNat (dg n i)).toNat=dg n i:=by
 have:=uS n i;rw[UInt8.toNat_ofNat'];exact Nat.mod_eq_of_lt this
theorem TK (n k:Nat):n%256 ^ (k+1)=n%256 ^ k+256 ^ k*dg n k:=by
 rw[Nat.pow_succ,Nat.mod_mul];rfl
theorem FY (n:Nat):∀ k,K6 (I6 n k)=n%256 ^ k
 | 0=>by simp[I6,K6,Nat.mod_one]
 | k+1=>by
  rw[Lt,BO,FY n k,aR,TK,K6,K6,SK,Nat.mul_zero,Nat.add_zero]
theorem a2x (n k:Nat)(c:UInt8):K6 (I6 n k++[c])=n%256 ^ k+256 ^ k*c.toNat:=by
 rw[BO,FY,aR];simp[K6]
def X9 (n:Nat):Bs:=(I6 n 32).reverse
def iQ (s:Bs):Nat:=K6 s.reverse
theorem yO (n:Nat):(X9 n).length=32:=by simp[X9,aR]
theorem a6S (a:Wd):iQ (X9 a.n)=a.n:=by
 rw[iQ,X9,List.reverse_reverse,FY];exact Nat.mod_eq_of_lt a.lt
theorem a6R {s:Bs}(h:s.length=32):iQ s<115792089237316195423570985008687907853269984665640564039457584007913129639936:=by
 have:=BN s.reverse;rw[List.length_reverse,h] at this;exact this
def Y8 (a b i:Nat):Nat:=(a%256 ^ i+b%256 ^ i) / 256 ^ i
theorem Mg (a b:Nat):Y8 a b 0=0:=by simp[Y8,Nat.mod_one]
theorem CY (a b i:Nat):Y8 a b i<=1/\(dg a i+dg b i+Y8 a b i)%256=dg (a+b) i/\(dg a i+dg b i+Y8 a b i) / 256=Y8 a b (i+1):=by
 have hp:=Dx i;have e1:Y8 a b (i+1)=(dg a i+dg b i+Y8 a b i) / 256:=by
  unfold Y8;rw[TK,TK,Nat.pow_succ,<- Nat.div_div_eq_div_mul];congr 1
  rw[show a%256 ^ i+256 ^ i*dg a i+(b%256 ^ i+256 ^ i*dg b i)=(a%256 ^ i+b%256 ^ i)+256 ^ i*(dg a i+dg b i) by rw[Nat.mul_add];omega,Nat.add_mul_div_left _ _ hp];omega
 have e2:(a+b) / 256 ^ i=a / 256 ^ i+b / 256 ^ i+Y8 a b i:=by
  have ha:=Nat.div_add_mod a (256 ^ i);have hb:=Nat.div_add_mod b (256 ^ i)
  conv=>lhs;rw[<- ha,<- hb]
  rw[show 256 ^ i*(a / 256 ^ i)+a%256 ^ i+(256 ^ i*(b / 256 ^ i)+b%256 ^ i)=(a%256 ^ i+b%256 ^ i)+256 ^ i*(a / 256 ^ i+b / 256 ^ i) by rw[Nat.mul_add];omega,Nat.add_mul_div_left _ _ hp];unfold Y8;omega
 refine⟨?_,?_,e1.symm⟩
 ·unfold Y8;have h1:=Nat.mod_lt a hp;have h2:=Nat.mod_lt b hp;have:(a%256 ^ i+b%256 ^ i) / 256 ^ i<2:=by
   rw[Nat.div_lt_iff_lt_mul hp];omega
  omega
 ·unfold dg;rw[e2];omega
theorem a5X (a b:Wd):Y8 a.n b.n 32=(a.n+b.n) / 256 ^ 32:=by
 unfold Y8;rw[Nat.mod_eq_of_lt a.lt,Nat.mod_eq_of_lt b.lt]
theorem a8Z (a b:Wd):K6 (I6 (a.n+b.n) 32++[UInt8.ofNat (Y8 a.n b.n 32)])=a.n+b.n:=by
 have h1:=(CY a.n b.n 32).1;have h2:Y8 a.n b.n 32<2 ^ 8:=by omega
 rw[a2x,UInt8.toNat_ofNat',Nat.mod_eq_of_lt h2,a5X];exact Nat.mod_add_div _ _
theorem Yc {a b d:Nat}(h:a=d+b)(i:Nat):∃ n:Int,n=(dg a i:Int)-dg b i-Y8 d b i/\((n<0/\n+256=dg d i/\Y8 d b (i+1)=1)\/(0<=n/\n=dg d i/\Y8 d b (i+1)=0)):=by
 obtain⟨h1,h2,h3⟩:=CY d b i;rw[<- h] at h2;have:=uS d i;have:=uS b i;exact⟨_,rfl,om⟩
theorem Yd {n:Nat}(h:n<115792089237316195423570985008687907853269984665640564039457584007913129639936):K6 (I6 n 32)=n:=by
 rw[FY];exact Nat.mod_eq_of_lt h
theorem B_pow (i:Nat):(18446744073709551616:Nat) ^ i=256 ^ (8*i):=by rw[Nat.pow_mul]
theorem Fy (n i:Nat):lm n (i / 8) / 256 ^ (i%8)%256=dg n i:=by
 unfold lm dg;have hr:i%8<8:=Nat.mod_lt _ dc;have e1:(18446744073709551616:Nat)=256 ^ (i%8)*(256*256 ^ (7-i%8)):=by
  rw[<- Nat.pow_succ',<- Nat.pow_add,show i%8+(7-i%8+1)=8 by omega]
 conv=>lhs;rw[e1]
 rw[Nat.mod_mul_right_div_self,Nat.mod_mul_right_mod,<- e1,Nat.div_div_eq_div_mul,B_pow,<- Nat.pow_add,show 8*(i / 8)+i%8=i by omega]
theorem a2o {m d i j:Nat}(hm:m<256 ^ i)(hd:d<256):lm (m+256 ^ i*d) j=if j=i / 8 then lm m j+256 ^ (i%8)*d else lm m j:=by
 have hr:i%8<8:=Nat.mod_lt _ dc;have hi:256 ^ i=18446744073709551616 ^ (i / 8)*256 ^ (i%8):=by rw[B_pow,<- Nat.pow_add,show 8*(i / 8)+i%8=i by omega]
 have hB:256 ^ (i%8)*256<=18446744073709551616:=by
  rw[<- Nat.pow_succ,show (18446744073709551616:Nat)=256 ^ 8 from rfl];exact Nat.pow_le_pow_right dc om
 have hX:256 ^ (i%8)*d+256 ^ (i%8)<=256 ^ (i%8)*256:=by
  rw[show 256 ^ (i%8)*d+256 ^ (i%8)=256 ^ (i%8)*(d+1) by rw[Nat.mul_add,Nat.mul_one]];exact Nat.mul_le_mul_left _ om
 generalize hq:i / 8=q at *;generalize hR:256 ^ (i%8)=R at *;rw[hi] at hm ⊢;unfold lm;have hPq:0<18446744073709551616 ^ q:=Nat.pow_pos dc;rcases Nat.lt_trichotomy j q with h|h|h
 ·rw[if_neg om,show q=j+(q-j-1+1) by omega,Nat.pow_add,Nat.pow_succ,Nat.mul_assoc,Nat.mul_assoc,Nat.add_mul_div_left _ _ (Nat.pow_pos dc)];rw[show 18446744073709551616 ^ (q-j-1)*18446744073709551616*(R*d)=18446744073709551616*(18446744073709551616 ^ (q-j-1)*(R*d)) by rw[Nat.mul_comm (18446744073709551616 ^ (q-j-1)) 18446744073709551616,Nat.mul_assoc],Nat.add_mul_mod_self_left]
 ·subst h;have hmq:m / 18446744073709551616 ^ j<R:=by
   rw[Nat.div_lt_iff_lt_mul hPq,Nat.mul_comm];exact hm
  rw[if_pos rfl,Nat.mul_assoc,Nat.add_mul_div_left _ _ hPq,Nat.mod_eq_of_lt om,Nat.mod_eq_of_lt om]
 ·have hlt:m+18446744073709551616 ^ q*R*d<18446744073709551616 ^ j:=by
   have e1:18446744073709551616 ^ q*R*d+18446744073709551616 ^ q*R<=18446744073709551616 ^ q*18446744073709551616:=by
    rw[Nat.mul_assoc,<- Nat.mul_add];exact Nat.mul_le_mul_left _ om
   have e2:18446744073709551616 ^ q*18446744073709551616<=18446744073709551616 ^ j:=by
    rw[<- Nat.pow_succ];exact Nat.pow_le_pow_right dc om
   omega
  rw[if_neg om,Nat.div_eq_of_lt hlt,Nat.div_eq_of_lt om]
theorem a2n {m i:Nat}(hm:m<256 ^ i):lm m (i / 8)<256 ^ (i%8):=by
 have hi:256 ^ i=18446744073709551616 ^ (i / 8)*256 ^ (i%8):=by rw[B_pow,<- Nat.pow_add,show 8*(i / 8)+i%8=i by omega]
 unfold lm;refine Nat.lt_of_le_of_lt (Nat.mod_le _ _) ?_;rw[Nat.div_lt_iff_lt_mul (Nat.pow_pos dc),Nat.mul_comm,<- hi];exact hm
theorem a1q {x d r:Nat}(hx:x<256 ^ r):x ||| (256 ^ r*d)=x+256 ^ r*d:=by
 have e:(256:Nat) ^ r=2 ^ (8*r):=by rw[Nat.pow_mul]
 rw[e] at hx ⊢;rw[Nat.or_comm,<- Nat.two_pow_add_eq_or_of_lt hx d,Nat.add_comm]
theorem Ll (n i:Nat):n / 256 ^ i=256*(n / 256 ^ (i+1))+dg n i:=by
 unfold dg;rw[Nat.pow_succ,<- Nat.div_div_eq_div_mul];omega
theorem Fv {a b P:Nat}(h:a / P<b / P):a<b:=by
 rcases Nat.lt_or_ge a b with h1|h1
 ·exact h1
 ·have:=Nat.div_le_div_right (c:=P) h1;omega
def tF (a b:Wd):Int:=if a.n<b.n then -1 else if b.n<a.n then 1 else 0
end Av

namespace Go.Proofs.YtocpacdnjbjjmaaGreatDoor
open Go Go.RowKit Tw Av
def U3 (n:Nat):Bs:=(I6 n 8).reverse
def pO (s:Bs):Nat:=K6 s.reverse
theorem yP (n:Nat):(U3 n).length=8:=by simp[U3,aR]
theorem FT {n:Nat}(h:n<18446744073709551616):pO (U3 n)=n:=by
 rw[pO,U3,List.reverse_reverse,FY];exact Nat.mod_eq_of_lt h
structure MkX where
 e:Int
 b:Int
 c:Int
deriving DecidableEq
def iH:MkX:=⟨0,0,0⟩
def JB:Bs:=List.replicate 32 0
def J9 (m:MkX):Bs:=U3 m.e.toNat++U3 m.b.toNat++U3 m.c.toNat++JB++U3 m.e.toNat
def qR (s:Bs):MkX:=⟨pO (s.take 8),pO ((s.drop 8).take 8),pO ((s.drop 16).take 8)⟩
def LJ (m:MkX):Bool:=decide (m.e<=1099511627776/\m.b<=1099511627776/\m.c<=1099511627776)
def Q4 (s:Bs):Option MkX:=if s.length=64/\LJ (qR s)=true/\J9 (qR s)=s then some (qR s) else none
def rC (a b:Bs):MkX:=if ((Q4 a).getD iH).e<((Q4 b).getD iH).e then (Q4 b).getD iH else (Q4 a).getD iH
structure MkB (m:MkX):Prop where
 e:0<=m.e/\m.e<=1099511627776
 b:0<=m.b/\m.b<=1099511627776
 c:0<=m.c/\m.c<=1099511627776
theorem FN (m:MkX):(J9 m).length=64:=by
 unfold J9 JB;simp[yP]
theorem FM (m:MkX):(J9 m).take 8=U3 m.e.toNat/\((J9 m).drop 8).take 8=U3 m.b.toNat/\((J9 m).drop 16).take 8=U3 m.c.toNat/\(J9 m).drop 56=U3 m.e.toNat:=by
 have h1:=yP m.e.toNat;have h2:=yP m.b.toNat;have h3:=yP m.c.toNat;have hz:JB.length=32:=by simp[JB]
 unfold J9;generalize U3 m.e.toNat=A at *;generalize U3 m.b.toNat=B at *;generalize U3 m.c.toNat=C at *;refine⟨?_,?_,?_,?_⟩
 ·rw[laa,laa,laa,List.take_left' h1]
 ·rw[laa,laa,laa,List.drop_left' h1,List.take_left' h2]
 ·rw[laa,laa,List.drop_left' (by rw[lla];omega),List.take_left' h3]
 ·rw[List.drop_left' (by simp only[List.length_append];omega)]
theorem a0n {m:MkX}(h:MkB m):qR (J9 m)=m:=by
 obtain⟨a,b,c,_⟩:=FM m;unfold qR;rw[a,b,c,FT (by have:=h.e;omega),FT (by have:=h.b;omega),FT (by have:=h.c;omega)];have h1:((m.e.toNat:Nat):Int)=m.e:=by have:=h.e;omega
 have h2:((m.b.toNat:Nat):Int)=m.b:=by have:=h.b;omega
 have h3:((m.c.toNat:Nat):Int)=m.c:=by have:=h.c;omega
 rw[h1,h2,h3]
theorem Wq {m:MkX}(h:MkB m):Q4 (J9 m)=some m:=by
 unfold Q4;rw[a0n h,if_pos ⟨FN m,dT ⟨h.e.2,h.b.2,h.c.2⟩,rfl⟩]
theorem Ws {s:Bs}{m:MkX}(h:Q4 s=some m):J9 m=s:=by
 unfold Q4 at h;split at h
 ·rename_i hh;injection h with h
  rw[<- h];exact hh.2.2
 ·cases h
end Go.Proofs.YtocpacdnjbjjmaaGreatDoor
