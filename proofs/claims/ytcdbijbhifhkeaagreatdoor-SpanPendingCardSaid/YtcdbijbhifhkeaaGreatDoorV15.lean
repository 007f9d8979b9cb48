/- . -/
import Derived.Lib.AppendStr
import Derived.Lib.UnsafeStr
import Derived.Lib.Builder
import Derived.Test.YtcdbijbhifhkeaaGreatDoorV14
namespace Av
open Go Go.RowKit Tw
section
variable {l:Bs}{x xo y yo:Operand}{E T U:TypeId}{j:TypeInfo}
abbrev nQ (l:Bs):List AV:=l.map λc=>.lit (y8 c)
theorem strCells_eq (l:Bs):Lib.strCells ⟨l.toArray⟩=l.map y8:=by simp[Lib.strCells,y8]
theorem RCs_byt {ok:Ok}{w:World}(l:Bs):RCs ok w (nQ l) (l.map y8):=by
 induction l with
 | nil=>rw[show nQ []=[] from rfl,RCs];rfl
 | cons c l ih=>
  rw[show nQ (c::l)=.lit (y8 c)::nQ l from rfl,RCs];exact⟨[y8 c],l.map y8,rfl,by rw[RC];exact⟨rfl,rfl⟩,ih⟩
theorem Dk (l:Bs):∀ x∈nQ l,x.size=1:=by
 intro x hx;obtain⟨c,_,rfl⟩:=List.mem_map.1 hx;rfl
theorem Zc (l:Bs):(nQ l).length=l.length:=llm _
theorem Zy (l:Bs):(⟨l.toArray⟩:ByteArray).size=l.length:=by simp[ByteArray.size]
section
variable {P:Program} {N:Nat} {ops:Array Oper} {Q:Exit->Act->World->Prop} {rest:List Oper} {s:Base} {e:Env} {m:List Piece} {d:Nat} {ty:TypeId} {pos:String} {af:Array Edge}
theorem b3r [t:TyE P T E 1 1][tu:TyT P U]{g n c:Nat}{xs:List AV}{M:Nat->Nat->List Piece}(h:∀ g' c',n+l.length<=c'->AL P N ops Q s rest ((d,.lit (.slice (some ⟨g',0,none⟩) (n+l.length) c'))::e) (M g' c'))(hx:ev e xo=some (.lit (.slice (some ⟨g,0,none⟩) n c)):=by exact rfl)(hy:ev e yo=some (str l):=by exact rfl)
  (hm:∀ g' c',Upd m (.buf g E 1 xs c) (.buf g' E 1 (xs++nQ l) c') (M g' c'):=by intro g' c';(repeat (first|apply Av.Upd.here|apply Av.Upd.there))) (hn:n=xs.length:=by first|exact rfl|(simp;done)|(simp;omega)) (hnc:n<=c:=by omega)
  (hb:n+l.length<=140737488355328:=by omega) (hd:Nat.blt d N=true:=by exact rfl) :
  AL P N ops Q s (⟨some d,.call ⟨.builtin .append,#[xo,yo],#[T,U]⟩,ty,pos,af,none⟩::rest) e m:=by
 subst hn;refine mK (λok w B hS hB=>?_) hd;obtain⟨i,z,q1,q2,hzk,hik,hib⟩:=t.zero;have hg1:=hB.lit hx;have hg2:=hB.lit hy;have hs:=Zy l;obtain⟨pre,post,hm1,_⟩:=(hm g c).parts;have hS0:=hS;rw[hm1] at hS;obtain⟨cs1,cs2,a1,a2,a3,a4,a5⟩:=hS.at_ (.buf g E 1 xs c) sm;have hcl:=a2.len a3;rw[Nat.mul_one] at hcl;by_cases hroom:xs.length+l.length<=c
 ·obtain⟨pre',post',hm1',hm2'⟩:=(hm g c).parts;rw[hm1'] at hS0;obtain⟨w',r1,r2,r3⟩:=St.overB (P:=P) hS0 (RCs_byt l) (Dk l) (Nat.le_refl _) (by rw[Zc];exact hroom);have ho:over xs xs.length (nQ l)=xs++nQ l:=by
   unfold over;rw[List.take_length,List.drop_of_length_le om,List.append_nil]
  rw[ho] at r2;have hf:=Lib.run_firstCells_string (P:=P) w i.size ⟨l.toArray⟩;rw[hs,strCells_eq] at hf;rw[Nat.mul_one] at r1;have hr:(Builtin.append_ #[T,U] ty #[.slice (some ⟨g,0,none⟩) xs.length c,.string ⟨l.toArray⟩]).run P w=.ok (.slice (some ⟨g,0,none⟩) (xs.length+l.length) c) w':=by
   simp[Builtin.append_,run_underlying t.l.out,run_underlying tu.out,Go.sizeOf,typeInfo,q1,Builtin.lenOf,hs,hroom,hik,add_mid];rw[hik] at hf;simp[hf,r1]
  exact⟨_,.slice (some ⟨g,0,none⟩) (xs.length+l.length) c,w',ok,_,by simp[execOp,resolve,invoke,builtin,hg1,hg2,hr],RVl rfl,by rw[hm2'];exact r2,r3,h g c hroom⟩
 have holds:∀ j v,cs1[j]?=some v->w.cell? ((⟨g,0,none⟩:Addr).add j)=some v:=λj v hj=>by
  rw[add_mid,cell_of_row _ _ _ _ _ _ a1];have hj':j<cs1.length:=(List.getElem?_eq_some_iff.1 hj).1;simp only[Nat.zero_add,List.getElem?_toArray];rw[List.getElem?_append_left hj'];exact hj
 have hr:=Lib.run_append_grow_string (P:=P) w T U ty E i z t.l.out tu.out q1 q2 ⟨g,0,none⟩ xs.length c cs1 (by rw[hik,Nat.mul_one];exact hcl) holds ⟨l.toArray⟩ (by rw[hs];omega) (by rw[hs];omega) (by rw[hs,hib];exact growslice_fits om om);rw[hs,strCells_eq] at hr;have hge:=grownCap_ge w (xs.length+l.length) c E;have hle:=grownCap_le_maxLen w (xs.length+l.length) c E (by simp[maxLen];omega);generalize grownCap w (xs.length+l.length) c E=c' at hr hge hle;obtain⟨pre',post',hm1',hm2'⟩:=(hm w.heap.size c').parts;have hE:Ext w (w.drew.alloc (.cells (cs1.toArray++(l.map y8).toArray++Builtin.zeroCells z.cells (c'-(xs.length+l.length))) E)):=Ext.trans' (Ext.drew w) (Ext.alloc w.drew _);have hblk:(w.drew.alloc (.cells (cs1.toArray++(l.map y8).toArray++Builtin.zeroCells z.cells (c'-(xs.length+l.length))) E)).heap[w.heap.size]?=some (.cells ((cs1++l.map y8)++(Builtin.zeroCells z.cells (c'-(xs.length+l.length))).toList).toArray E (0,0)):=by
  rw[show ((cs1++l.map y8)++(Builtin.zeroCells z.cells (c'-(xs.length+l.length))).toList).toArray=cs1.toArray++(l.map y8).toArray++Builtin.zeroCells z.cells (c'-(xs.length+l.length)) by apply Array.ext';simp];exact heap_alloc_new w.drew _
 rw[hm1'] at hS0;have hd:=hS0.less (m':=pre'++post') sm;obtain⟨ok',r1,r2⟩:=St.newBuf hd hE sm hblk (a2.append (RCs_byt l)) (λx hx=>(List.mem_append.1 hx).elim (a3 x) (Dk l x)) (c:=c') (by
  simp only[List.length_append,Array.length_toList,size_zeroCells,hzk,hcl,List.length_map];omega) hle
 exact⟨_,.slice (some ⟨w.heap.size,0,none⟩) (xs.length+l.length) c',_,ok',_,by simp[execOp,resolve,invoke,builtin,hg1,hg2,hr],RVl rfl,by rw[hm2'];exact r1.perm List.perm_middle,r2,h _ _ hge⟩
theorem b3p [t:TyE P T E 1 1][tu:TyT P U](h:∀ g' c',l.length<=c'->AL P N ops Q s rest ((d,.lit (.slice (some ⟨g',0,none⟩) l.length c'))::e) (.buf g' E 1 (nQ l) c'::m))(hx:ev e xo=some (.lit (.slice none 0 0)):=by exact rfl)(hy:ev e yo=some (str l):=by exact rfl)
  (h0:0<l.length:=by omega) (hb:l.length<=140737488355328:=by omega) (hd:Nat.blt d N=true:=by exact rfl) :
  AL P N ops Q s (⟨some d,.call ⟨.builtin .append,#[xo,yo],#[T,U]⟩,ty,pos,af,none⟩::rest) e m:=by
 refine mK (λok w B hS hB=>?_) hd;obtain⟨i,z,q1,q2,hzk,hik,hib⟩:=t.zero;have hg1:=hB.lit hx;have hg2:=hB.lit hy;have hs:=Zy l;have hr:=run_append_nil_string (P:=P) w T U ty E i z t.l.out tu.out q1 q2 ⟨l.toArray⟩ (by rw[hs];exact h0) (by rw[hs];omega) (by rw[hs,hib];omega);have e1:((⟨l.toArray⟩:ByteArray).data.map λb=>Value.int .u8 b.toNat)=(l.map y8).toArray:=by apply Array.ext';simp[y8]
 rw[e1,hs] at hr;have hge:=grownCap_ge w l.length 0 E;have hle:=grownCap_le_maxLen w l.length 0 E (by simp[maxLen];omega);generalize grownCap w l.length 0 E=c' at hr hge hle;have hE:Ext w (w.drew.alloc (.cells ((l.map y8).toArray++Builtin.zeroCells z.cells (c'-l.length)) E)):=Ext.trans' (Ext.drew w) (Ext.alloc w.drew _);have hblk:(w.drew.alloc (.cells ((l.map y8).toArray++Builtin.zeroCells z.cells (c'-l.length)) E)).heap[w.heap.size]?=some (.cells (l.map y8++(Builtin.zeroCells z.cells (c'-l.length)).toList).toArray E (0,0)):=by
  rw[show (l.map y8++(Builtin.zeroCells z.cells (c'-l.length)).toList).toArray=(l.map y8).toArray++Builtin.zeroCells z.cells (c'-l.length) by apply Array.ext';simp];exact heap_alloc_new w.drew _
 obtain⟨ok',r1,r2⟩:=St.newBuf hS hE sm hblk (RCs_byt l) (Dk l) (c:=c') (by
  simp only[Array.length_toList,size_zeroCells,hzk,List.length_map];omega) hle
 exact⟨_,.slice (some ⟨w.heap.size,0,none⟩) l.length c',_,ok',_,by simp[execOp,resolve,invoke,builtin,hg1,hg2,hr],RVl rfl,r1,r2,h _ _ hge⟩
theorem b3q [t:TyE P T E 1 1][tu:TyT P U](h:AL P N ops Q s rest ((d,.lit (.slice none 0 0))::e) m)(hx:ev e xo=some (.lit (.slice none 0 0)):=by exact rfl)(hy:ev e yo=some (str []):=by exact rfl)(hd:Nat.blt d N=true:=by exact rfl) :
  AL P N ops Q s (⟨some d,.call ⟨.builtin .append,#[xo,yo],#[T,U]⟩,ty,pos,af,none⟩::rest) e m:=
 R8 rfl (λok w B hB=>by
  obtain⟨i,z,q1,q2,hzk,hik,hib⟩:=t.zero;have hf:=Lib.run_firstCells_string (P:=P) w i.size ⟨#[]⟩;have hr:(Builtin.append_ #[T,U] ty #[.slice none 0 0,.string ⟨#[]⟩]).run P w=.ok (.slice none 0 0) w:=by
   have hs:(⟨#[]⟩:ByteArray).size=0:=rfl;rw[hs] at hf;simp[Builtin.append_,run_underlying t.l.out,run_underlying tu.out,Go.sizeOf,typeInfo,q1,Builtin.lenOf,hs,hf]
  simp[execOp,resolve,invoke,builtin,hB.lit hx,hB.lit hy,hr]) hd h
theorem b1U {S D t:TypeId}{g n:Nat}{T0:TypeId}{ps:List AV}(hs:P.underlying S=some (.pointer t))(hD:P.underlying D=some .unsafePointer)(hi:P.info? t=some j)(hj:j.size≠0)(hn:0<n)(h:AL P N ops Q s rest ((d,.lit (.pointer (some ⟨g,0,none⟩)))::e) m)(hx:ev e x=some (.lit (.pointer (some ⟨g,0,none⟩))):=by exact rfl)
  (hm:Has m (.var g T0 (.agg n ps)):=by (repeat (first|exact Av.Has.here|apply Av.Has.there))) (hd:Nat.blt d N=true:=by exact rfl):AL P N ops Q s (⟨some d,.convert S D x,ty,pos,af,none⟩::rest) e m:=
 dR (v:=.lit (.pointer (some ⟨g,0,none⟩))) (λok w a hS hA=>by
  obtain⟨cs,h1,h2⟩:=hS.at_ _ hm.mem;rw[RC] at h2;have hsh:w.shape? g=some (T0,n):=by simp[World.shape?,h1,h2.1]
  exact⟨_,by simp[execOp,hA.lit hx,Lib.run_to_unsafe w ⟨g,0,none⟩ hs hD hi hj hsh hn],RVl rfl⟩) hd h
theorem b2P {S D u:TypeId}{g n:Nat}{T0:TypeId}{ps:List AV}(hs:P.underlying S=some .unsafePointer)(hD:P.underlying D=some (.pointer u))(hi:P.info? u=some j)(hl:liesAt P P.depth T0 (n / P.cellsOf T0) 0 u 1=true)(h:AL P N ops Q s rest ((d,.lit (.pointer (some ⟨g,0,none⟩)))::e) m)(hx:ev e x=some (.lit (.pointer (some ⟨g,0,none⟩))):=by exact rfl)
  (hm:Has m (.var g T0 (.agg n ps)):=by (repeat (first|exact Av.Has.here|apply Av.Has.there))) (hd:Nat.blt d N=true:=by exact rfl):AL P N ops Q s (⟨some d,.convert S D x,ty,pos,af,none⟩::rest) e m:=
 dR (v:=.lit (.pointer (some ⟨g,0,none⟩))) (λok w a hS hA=>by
  obtain⟨cs,h1,h2⟩:=hS.at_ _ hm.mem;rw[RC] at h2;have hsh:w.shape? g=some (T0,n):=by simp[World.shape?,h1,h2.1]
  exact⟨_,by simp[execOp,hA.lit hx,Lib.run_from_unsafe w ⟨g,0,none⟩ hs hD hi hsh hl],RVl rfl⟩) hd h
theorem b2k {yT:TypeId}{p:Addr}(hp:P.underlying T=some (.pointer E))(hi:P.info? E=some j)(h:AL P N ops Q s rest ((d,d9 false)::e) m)(hx:ev e x=some (.lit (.pointer (some p))):=by exact rfl)(hy:ev e y=some (.lit (.pointer (some p))):=by exact rfl)(hd:Nat.blt d N=true:=by exact rfl) :
  AL P N ops Q s (⟨some d,.binOp .neq T x y yT,ty,pos,af,none⟩::rest) e m:=
 R8 rfl (λok w a ha=>by
  have hg:(eqGuard .neq T x y (.pointer (some p)) (.pointer (some p))).run P w=.ok () w:=by
   unfold eqGuard;split <;> rfl
  simp[execOp,ha.lit hx,ha.lit hy,hg,Lib.run_neq_ptr_same w p hp hi]) hd h
theorem b2a {g n c:Nat}(h:AL P N ops Q s rest ((d,.lit (.pointer (some ⟨g,0,none⟩)))::e) m)(hc:c≠0)(hx:ev e x=some (.lit (.slice (some ⟨g,0,none⟩) n c)):=by exact rfl)(hd:Nat.blt d N=true:=by exact rfl) :
  AL P N ops Q s (⟨some d,.call ⟨.builtin .unsafeSliceData,#[x],#[T]⟩,ty,pos,af,none⟩::rest) e m:=
 R8 rfl (λok w a ha=>by simp[execOp,resolve,invoke,builtin,ha.lit hx,Lib.run_unsafeSliceData_row w _ _ _ _ _ hc]) hd h
theorem b1Z (h:AL P N ops Q s rest ((d,.lit (.pointer none))::e) m)(hx:ev e x=some (.lit (.slice none 0 0)):=by exact rfl)(hd:Nat.blt d N=true:=by exact rfl) :
  AL P N ops Q s (⟨some d,.call ⟨.builtin .unsafeSliceData,#[x],#[T]⟩,ty,pos,af,none⟩::rest) e m:=
 R8 rfl (λok w a ha=>by simp[execOp,resolve,invoke,builtin,ha.lit hx,Lib.run_unsafeSliceData_nil]) hd h
theorem b1S (h:AL P N ops Q s rest ((d,str [])::e) m)(hx:ev e x=some (.lit (.pointer none)):=by exact rfl)(hy:ev e y=some (int 0):=by exact rfl)(hd:Nat.blt d N=true:=by exact rfl) :
  AL P N ops Q s (⟨some d,.call ⟨.builtin .unsafeString,#[x,y],#[T,U]⟩,ty,pos,af,none⟩::rest) e m:=
 R8 rfl (λok w a ha=>by simp[execOp,resolve,invoke,builtin,ha.lit hx,ha.lit hy,Lib.run_unsafeString_none];rfl) hd h
theorem Sj (w:World)(a:Addr)(n b:Nat)(h:b≠a.block):(w.freeze a n).heap[b]?=w.heap[b]?:=by
 unfold World.freeze;split
 ·rfl
 simp only[Array.getElem?_modify];rw[if_neg (λe=>h e.symm)]
theorem a7U (w:World)(a:Addr)(n b j:Nat):(w.freeze a n).cell? ⟨b,j,none⟩=w.cell? ⟨b,j,none⟩:=by
 by_cases hb:b=a.block
 ·unfold World.freeze;split
  ·rfl
  simp only[World.cell?,Array.getElem?_modify,hb,if_true];cases hh:w.heap[a.block]? with
  | none=>rfl
  | some o=>cases o <;> rfl
 exact HZ (Sj w a n b hb)
theorem Si (w:World)(a:Addr)(n:Nat):(w.freeze a n).heap.size=w.heap.size/\(w.freeze a n).os=w.os/\(w.freeze a n).tape=w.tape/\(w.freeze a n).output=w.output:=by
 unfold World.freeze;split
 ·exact⟨rfl,rfl,rfl,rfl⟩
 exact⟨sm,rfl,rfl,rfl⟩
theorem b1T {g c:Nat}{m':List Piece}(hp:P.underlying T=some (.pointer E))(hc:P.cellsOf E=1)(h0:l≠[])(h:AL P N ops Q s rest ((d,str l)::e) m')(hx:ev e x=some (.lit (.pointer (some ⟨g,0,none⟩))):=by exact rfl)(hy:ev e y=some (int l.length):=by exact rfl)
  (hm:Upd m (.buf g E 1 (nQ l) c) (.tail E 1 (.slice none 0 0)) m':=by (repeat (first|apply Av.Upd.here|apply Av.Upd.there))) (hl:l.length<=9223372036854775807:=by omega) (hd:Nat.blt d N=true:=by exact rfl) :
  AL P N ops Q s (⟨some d,.call ⟨.builtin .unsafeString,#[x,y],#[T,U]⟩,ty,pos,af,none⟩::rest) e m:=by
 refine zQ (v:=str l) (λok w a hS ha=>?_) hd;obtain⟨pre,post,rfl,rfl⟩:=hm.parts;obtain⟨cs1,cs2,h1,h2,h3,h4,h5⟩:=hS.at_ (.buf g E 1 (nQ l) c) sm;have hcs:cs1=l.map y8:=RCs_u8_eq h2;subst hcs;have hsh:w.shape? g=some (E,(l.map y8++cs2).length):=by simp[World.shape?,h1]
 have hr:=Lib.run_unsafeString_row (P:=P) w T U ty E hp hc g _ hsh l h0 sm hl (λj x hj=>by
  rw[add_mid,cell_of_row _ _ _ _ _ _ h1];have hj':j<(l.map y8).length:=by simpa using (List.getElem?_eq_some_iff.1 hj).1
  simp only[Nat.zero_add,List.getElem?_toArray];rw[List.getElem?_append_left hj',List.getElem?_map,hj];rfl)
 have hst:Stp ok w ok (w.freeze ⟨g,0,none⟩ l.length):=⟨by rw[(Si _ _ _).1];exact Nat.le_refl _,λb j v g1 g2=>⟨by rw[a7U];exact g1,g2⟩⟩;obtain⟨f1,f2,f3,f4⟩:=Si w ⟨g,0,none⟩ l.length;refine⟨.string ⟨l.toArray⟩,_,ok,_,by simp[execOp,resolve,invoke,builtin,ha.lit hx,ha.lit hy,hr],RVl rfl,?_,hst,h⟩;refine hS.write (g:=g) (p':=.tail E 1 (.slice none 0 0)) rfl (.inr rfl) hst (.inl ⟨none,0,rfl⟩) (λb j hb=>?_) f1 f2 f3 f4 (λb hne=>Sj w _ _ b hne) (λ_ _ _=>Iff.rfl);obtain⟨a,n',c',he,hne,_⟩:=hb;injection he with _ h1 h2
 omega
end
end

section
variable {B a:Int}{k yk:IntKind}{x y:Operand}{T yT:TypeId}
class W64 (k:IntKind)(B:outParam Int):Prop where
 w:∀ c:Int,0<=c->c<=B->k.wrap c=c
 b:k.bits=64
 u:B<=18446744073709551615
instance : W64 .i64 9223372036854775807 := ⟨λc h0 h1 => PX om om, rfl, by decide⟩
theorem wrap_u64 (n:Nat)(h:n<18446744073709551616):IntKind.u64.wrap (n:Int)=n:=by
 show (IntKind.u64.wrap (n:Int))=n;simp[IntKind.wrap,IntKind.bits,IntKind.signed];omega
instance : W64 .u64 18446744073709551615 := ⟨λc h0 h1 => by
 obtain⟨n,rfl⟩:=Int.eq_ofNat_of_zero_le h0;exact wrap_u64 n om,rfl,dc⟩
theorem a5g [hk:W64 k B]{m c:Nat}(hc:c<256)(hm:((m*256+c:Nat):Int)<=B)(P:Program)(w:World):(Op.intBits .or k ((m:Int)*256) (c:Int)).run P w=.ok (.int k ((m:Int)*256+c)) w:=by
 have hu:=hk.u;have hb:=hk.b;have e1:((m:Int)*256)=((m*256:Nat):Int):=by simp
 have e2:(BitVec.ofInt k.bits ((m:Int)*256) ||| BitVec.ofInt k.bits (c:Int)).toNat=m*256+c:=by
  rw[BitVec.toNat_or,e1,BitVec.ofInt_natCast,BitVec.ofInt_natCast,BitVec.toNat_ofNat,BitVec.toNat_ofNat,hb,Nat.mod_eq_of_lt om,Nat.mod_eq_of_lt om];have:=Nat.two_pow_add_eq_or_of_lt (i:=8) (b:=c) om m;rw[show m*256=2 ^ 8*m by omega];exact this.symm
 show Result.ok (Value.int k (k.wrap ((BitVec.ofInt k.bits ((m:Int)*256) ||| BitVec.ofInt k.bits (c:Int)).toNat:Int))) w=_;rw[e2,hk.w _ om hm];simp
section
variable {P:Program} {N:Nat} {ops:Array Oper} {Q:Exit->Act->World->Prop} {rest:List Oper} {s:Base} {e:Env} {m:List Piece} {d:Nat} {ty:TypeId} {pos:String} {af:Array Edge}
theorem a0p [hk:W64 k B](h:AL P N ops Q s rest ((d,.lit (.int k (a*256)))::e) m)(hx:ev e x=some (.lit (.int k a)):=by exact rfl)(hy:ev e y=some (.lit (.int yk 8)):=by exact rfl)(h0:0<=a:=by omega)(h1:a*256<=B:=by omega)(hd:Nat.blt d N=true:=by exact rfl) :
  AL P N ops Q s (⟨some d,.binOp .shl T x y yT,ty,pos,af,none⟩::rest) e m:=
 LK rfl hx hy (λw=>by
  have hb:=hk.b;have h2:min (8:Int).toNat k.bits=8:=by rw[hb];rfl
  have h3:¬ ((8:Int)<0):=om
  have e1:k.wrap (a*256)=a*256:=hk.w _ om h1;simp only[Op.shift,h3,if_false,h2];show Result.ok (Value.int k (k.wrap (a*2 ^ 8))) w=_;rw[show (2:Int) ^ 8=256 from rfl,e1]) (.inl rfl) hd h
theorem a0q [hk:W64 k B]{c:Int}(h:AL P N ops Q s rest ((d,.lit (.int k (a*256+c)))::e) m)(hx:ev e x=some (.lit (.int k (a*256))):=by exact rfl)(hy:ev e y=some (.lit (.int k c)):=by exact rfl)(h0:0<=a:=by omega)(h1:0<=c:=by omega)(h2:c<256:=by omega)(h3:a*256+c<=B:=by omega)(hd:Nat.blt d N=true:=by exact rfl) :
  AL P N ops Q s (⟨some d,.binOp .or T x y yT,ty,pos,af,none⟩::rest) e m:=by
 obtain⟨m,rfl⟩:=Int.eq_ofNat_of_zero_le h0;obtain⟨n,rfl⟩:=Int.eq_ofNat_of_zero_le h1;exact LU rfl hx hy (λw=>a5g om (by simpa using h3) P w) (.inr (.inl rfl)) hd h
theorem b2g (h:AL P N ops Q s rest ((d,.lit (.int .i64 (a*256)))::e) m)(hx:ev e x=some (.lit (.int .i64 a)):=by exact rfl)(hy:ev e y=some (.lit (.int yk 8)):=by exact rfl)(h0:0<=a:=by omega)(h1:a*256<=9223372036854775807:=by omega)(hd:Nat.blt d N=true:=by exact rfl) :
  AL P N ops Q s (⟨some d,.binOp .shl T x y yT,ty,pos,af,none⟩::rest) e m:=a0p h hx hy h0 h1 hd
theorem b2q {c:Int}(h:AL P N ops Q s rest ((d,.lit (.int .i64 (a*256+c)))::e) m)(hx:ev e x=some (.lit (.int .i64 (a*256))):=by exact rfl)(hy:ev e y=some (.lit (.int .i64 c)):=by exact rfl)(h0:0<=a:=by omega)(h1:0<=c:=by omega)(h2:c<256:=by omega)(h3:a*256+c<=9223372036854775807:=by omega)(hd:Nat.blt d N=true:=by exact rfl) :
  AL P N ops Q s (⟨some d,.binOp .or T x y yT,ty,pos,af,none⟩::rest) e m:=a0q h hx hy h0 h1 h2 h3 hd
theorem b2f (h:AL P N ops Q s rest ((d,.lit (.int .u64 (a*256)))::e) m)(hx:ev e x=some (.lit (.int .u64 a)):=by exact rfl)(hy:ev e y=some (.lit (.int yk 8)):=by exact rfl)(h0:0<=a:=by omega)(h1:a*256<=18446744073709551615:=by omega)(hd:Nat.blt d N=true:=by exact rfl) :
  AL P N ops Q s (⟨some d,.binOp .shl T x y yT,ty,pos,af,none⟩::rest) e m:=a0p h hx hy h0 h1 hd
theorem b2p {c:Int}(h:AL P N ops Q s rest ((d,.lit (.int .u64 (a*256+c)))::e) m)(hx:ev e x=some (.lit (.int .u64 (a*256))):=by exact rfl)(hy:ev e y=some (.lit (.int .u64 c)):=by exact rfl)(h0:0<=a:=by omega)(h1:0<=c:=by omega)(h2:c<256:=by omega)(h3:a*256+c<=18446744073709551615:=by omega)(hd:Nat.blt d N=true:=by exact rfl) :
  AL P N ops Q s (⟨some d,.binOp .or T x y yT,ty,pos,af,none⟩::rest) e m:=a0q h hx hy h0 h1 h2 h3 hd
theorem a0O {op:BinOp}{i j c:Int}(h:AL P N ops Q s rest ((d,.lit (.int .u64 c))::e) m)(hx:ev e x=some (.lit (.int .u64 i)):=by exact rfl)(hy:ev e y=some (.lit (.int .u64 j)):=by exact rfl)(hc:arith op i j=some c:=by exact rfl)
  (h1:0<=c:=by omega) (h2:c<=18446744073709551615:=by omega) (hd:Nat.blt d N=true:=by exact rfl) :
  AL P N ops Q s (⟨some d,.binOp op T x y yT,ty,pos,af,none⟩::rest) e m:=
 R8 rfl (λok w a ha=>AO ha hx hy (by rw[QV hc,(inferInstance:W64 .u64 _).w _ h1 h2])) hd h
theorem a0y [t:TyT P T]{ix:Operand}{kd:IntKind}{i:Int}{b:Bs}{c:UInt8}(h:AL P N ops Q s rest ((d,.lit (y8 c))::e) m)(hx:ev e x=some (str b):=by exact rfl)(hi:ev e ix=some (.lit (.int kd i)):=by exact rfl)(hj:i=Int.ofNat i.toNat:=by exact rfl)(hc:b[i.toNat]?=some c:=by exact rfl)(hd:Nat.blt d N=true:=by exact rfl) :
  AL P N ops Q s (⟨some d,.index T x ix,ty,pos,af,none⟩::rest) e m:=EO i.toNat h hc hx hi hj hd
end
theorem YU {G G':Prop}(h:G')(i:Wr G'->G:=by
 intro h;refine kL ?_;first
 | (refine Ao ?_;first|exact b2g h.o|exact b2f h.o|exact b2q h.o|exact b2p h.o|exact a0O h.o)
 | (refine Qo ?_;first|exact al_convB h.o|exact al_convU h.o)
 | exact a0y h.o):G:=i ⟨h⟩
theorem ob6 {G G':Prop}(h:G')(i:Wr G'->G:=by
 intro h;refine kO ?_
 (apply zd [];exact zg;(intro _ _;first|(refine YU ?_;exact j5 (A7 rfl rfl))|(refine D5 ?_;refine YU ?_;exact j5 (A7 rfl rfl)));exact h.o)):G:=i ⟨h⟩
theorem Ya {G G':Prop}(h:G')(i:Wr G'->G:=by intro h;first|exact W h.o|exact L8 h.o|exact YU h.o|exact qH h.o|exact ob6 h.o|exact KI h.o|exact KJ h.o|exact zO h.o|exact EN h.o):G:=i ⟨h⟩
theorem Yz {G G':Prop}(h:G')(i:Wr G'->G:=by intro h;first|exact Ya h.o|exact p9 h.o|(simp only[List.set];exact h.o)):G:=i ⟨h⟩
theorem bH {G:Prop} (i:G:=by (repeat' first|refine Yz ?_|intro);exact x9 rfl):G:=i
end
end Av

namespace Go.Proofs.Z
open Go Go.RowKit Tw Av Go.Proofs.Tryz
def GL:List (Nat × AV):=[(1,.agg 8 (h0.words.map λx=>.lit (dU x))),(2,.agg 64 (xX.map λx=>.lit (dU x)))]
def r9 (c:Int)(s:Bs):Bs:=xJ (UInt8.ofNat c.toNat) s
def QI (c:Int)(n:Nat):Bs:=QH (UInt8.ofNat c.toNat) n
def y9 (c:Int)(n:Int):Bs:=He (UInt8.ofNat c.toNat) n
instance {c:Int}{s:Bs}:LenLe (r9 c s) 16777219:=⟨by simp[r9,xJ,gQ,List.length_take];omega⟩
instance {c:Int}{n:Nat}:LenLe (QI c n) 16777219:=⟨by unfold QI QH;simp[xJ,gQ,List.length_take];omega⟩
instance {c:Int}{n:Int}:LenLe (y9 c n) 16777219:=⟨by unfold y9 He QH;simp[xJ,gQ,List.length_take];omega⟩
instance {s:Bs}:LenLe (s.take gQ) 16777215:=⟨by simp[gQ,List.length_take];omega⟩
instance {h:Hsh}:LenLe h.l 32:=⟨by rw[h.len];exact Nat.le_refl _⟩
theorem MK (n:Nat):UInt8.ofNat (IntKind.u8.wrap (n:Int)).toNat=UInt8.ofNat n:=by
 rw[IntKind.wrap_u8];apply UInt8.toNat_inj.1;simp;omega
theorem WI (c:Int)(s:Bs)(n:Nat)(hn:n=(s.take gQ).length):[UInt8.ofNat c.toNat,UInt8.ofNat (IntKind.u8.wrap ((n:Int) / 65536)).toNat,UInt8.ofNat (IntKind.u8.wrap ((n:Int) / 256)).toNat,UInt8.ofNat (IntKind.u8.wrap (n:Int)).toNat]++s.take gQ=r9 c s:=by
 subst hn;have e1:=MK ((s.take gQ).length / 65536);have e2:=MK ((s.take gQ).length / 256);have e3:=MK (s.take gQ).length;simp only[Int.natCast_ediv,Int.cast_ofNat_Int] at e1 e2;rw[e1,e2,e3];rfl
instance c1W {c n:Int}:Ans prog GL 210 [.lit (.int .u8 c),int n] True (.agg 4 [.lit (.int .u8 c),.lit (.int .u8 (IntKind.u8.wrap (n / 65536))),.lit (.int .u8 (IntKind.u8.wrap (n / 256))),.lit (.int .u8 (IntKind.u8.wrap n))]):=⟨λ_=>by
 refine zc func210 ntmps210 λ_ hs=>?_;exact bH⟩
instance b9q {c:Int}{s:Bs}:Ans prog GL 164 [.lit (.int .u8 c),str s] (0<=c/\c<256) (str (r9 c s)):=⟨λhc=>by
 have e1:(s.take (min s.length 16777215)).drop 0=s.take gQ:=by
  unfold gQ;rw[List.drop_zero];rcases Nat.le_total s.length 16777215 with h|h
  ·rw[Nat.min_eq_left h,List.take_length,List.take_of_length_le h]
  rw[Nat.min_eq_right h]
 refine zc func164 ntmps164 λ_ hs=>?_;repeat' first|refine Yz ?_|intro
 refine dG 0 (min s.length 16777215) ?_;rw[e1];repeat' first|refine Yz ?_|intro
 refine x9 ?_;exact congrArg str (WI c s _ rfl)⟩
theorem Vx:∀ (f n:Nat),n<256 ^ f->aM (f+1) n=aM f n
 | 0,n,h=>by
  have:n=0:=by simpa using h
  subst this;rfl
 | f+1,n,h=>by
  have h1:=Vx f (n / 256) (by rw[Nat.pow_succ] at h;omega);show (if n=0 then [] else aM (f+1) (n / 256)++[UInt8.ofNat n])=if n=0 then [] else aM f (n / 256)++[UInt8.ofNat n]
  rw[h1]
theorem Vv {x:Nat}(h:x<256 ^ 8):aM 8 x=if x=0 then [] else aM 8 (x / 256)++[UInt8.ofNat x]:=by
 have h1:=Vx 7 (x / 256) om;show (if x=0 then [] else aM 7 (x / 256)++[UInt8.ofNat x])=_;rw[<- h1]
theorem a9M {x:Nat}(h:x<256 ^ 8):0<(aM 8 x).length↔x≠0:=by
 rw[Vv h];by_cases h0:x=0 <;> simp[h0]
theorem a2K {n r:Nat}:((n:Int) / ((2 ^ (8*r):Nat):Int))=((n / 256 ^ r:Nat):Int):=by
 rw[Nat.pow_mul,<- Int.natCast_ediv]
theorem WE {x:Nat}:IntKind.u8.wrap (x:Int)=((x%256:Nat):Int):=by
 rw[IntKind.wrap_u8];omega
theorem WF {x:Nat}:AV.lit (.int .u8 ((x%256:Nat):Int))=I5 (UInt8.ofNat x):=by
 unfold I5 y8;rw[UInt8.toNat_ofNat']
instance c2q {n:Nat}:Ans prog GL 220 [.lit (.int .u64 (n:Int))] (n<18446744073709551616) (str (digits n)):=⟨λhn=>by
 refine zc func220 ntmps220 λ_ hs=>?_;repeat' first|refine Yz ?_|intro
 refine sP 3 (Imp.nil (k:=1)) ?_;refine eO (λok w h=>h.full 5 1 none 0) ?_;refine H7 (α:=Nat × Bs × Value) (λx=>[(0,.lit (.int .u64 (n:Int))),(3,.sl 1 (x.2.1.map I5) (some x.2.2)),(4,int ((x.1:Int)*8-8))])
  (λx=>[.tail 5 1 x.2.2]) (λx=>x.1<=8/\x.2.1.length+x.1<=8/\x.2.1=aM 8 (n / 256 ^ x.1)) (λx=>x.1) (8,[],.slice none 0 0) za slr ⟨Nat.le_refl _,Nat.le_refl _,by show []=aM 8 (n / 18446744073709551616);rw[Nat.div_eq_of_lt hn];rfl⟩ ?_
 rintro⟨r,l,v⟩ ⟨h1,h2,h3⟩;dsimp only at h1 h2 h3 ⊢;repeat' first|refine Yz ?_|intro
 refine G7 (λhr=>?_) (λhr=>?_)
 ·obtain⟨r,rfl⟩:∃ q,r=q+1:=⟨r-1,om⟩;repeat' first|refine Yz ?_|intro
  refine PP (n:=8*r) ?_ rfl rfl (by show ((r+1:Nat):Int)*8-8=((8*r:Nat):Int);omega) (Nat.ble_eq_true_of_le (show 8*r<=64 by omega));rw[a2K];have hx8:n / 256 ^ r<256 ^ 8:=Nat.lt_of_le_of_lt (Nat.div_le_self _ _) hn;have h3':l=aM 8 (n / 256 ^ r / 256):=by rw[h3,Nat.div_div_eq_div_mul,Nat.pow_succ]
  generalize hx:n / 256 ^ r=x at *;have hst:=Vv hx8;have hsm:=a9M (x:=x / 256) om;rw[<- h3'] at hst hsm;have e:∀ y:Nat,x%256=y->l.map I5++[.lit (.int .u8 (y:Int))]=(l++[UInt8.ofNat x]).map I5:=λy hy=>by
   rw[<- hy,WF,List.map_append];rfl
  refine EQ ?_;rw[WE];have hI:((r+1:Nat):Int)*8-8-8=(r:Int)*8-8:=by omega
  generalize hy:x%256=y at *;by_cases hz:y=0
  ·subst hz;repeat' first|refine Yz ?_|intro
   refine G7 (λhl=>?_) (λhl=>?_)
   ·have hl:0<l.length:=by simpa using hl
    repeat' first|refine Yz ?_|intro
    refine aP (λv'=>?_);rw[e 0 rfl];repeat' first|refine Yz ?_|intro
    rw[hI];exact y7 (r,l++[UInt8.ofNat x],v') za slr ⟨om,by simp;omega,by show l++[UInt8.ofNat x]=aM 8 (n / 256 ^ r);rw[hx,hst,if_neg om]⟩ (Nat.lt_succ_self r)
   have hl:¬ 0<l.length:=by simpa using hl
   repeat' first|refine Yz ?_|intro
   rw[hI];exact y7 (r,l,v) za slr ⟨om,by dsimp only;omega,by show l=aM 8 (n / 256 ^ r);rw[hx,hst,if_pos om];exact List.eq_nil_of_length_eq_zero om⟩ (Nat.lt_succ_self r)
  repeat' first|refine Yz ?_|intro
  refine aP (λv'=>?_);rw[e y rfl];repeat' first|refine Yz ?_|intro
  rw[hI];exact y7 (r,l++[UInt8.ofNat x],v') za slr ⟨om,by simp;omega,by show l++[UInt8.ofNat x]=aM 8 (n / 256 ^ r);rw[hx,hst,if_neg om]⟩ (Nat.lt_succ_self r)
 obtain rfl:r=0:=by omega
 repeat' first|refine Yz ?_|intro
 refine x9 ?_;rw[h3,Nat.pow_zero,Nat.div_one];rfl⟩
instance c0R {c n:Int}:Ans prog GL 180 [.lit (.int .u8 c),.lit (.int .u64 n)] ((0<=c/\c<256)/\0<=n/\n<18446744073709551616) (str (QI c n.toNat)):=⟨λhp=>by
 obtain⟨hc,h0,hn⟩:=hp;obtain⟨n,rfl⟩:=Int.eq_ofNat_of_zero_le h0;have hn:n<18446744073709551616:=by omega
 refine zc func180 ntmps180 λ_ hs=>?_;exact bH⟩
instance c1V {c n:Int}:Ans prog GL 122 [.lit (.int .u8 c),int n] ((0<=c/\c<256)/\n<=9223372036854775807) (str (y9 c n)):=⟨λhp=>by
 obtain⟨hc,hn⟩:=hp;have h1:(0<=c/\c<256)/\0<=max n 0/\max n 0<18446744073709551616:=⟨hc,om,om⟩;refine zc func122 ntmps122 λ_ hs=>?_;repeat' first|refine Yz ?_|intro
 refine x9 ?_;have e:(max n 0).toNat=n.toNat:=by omega
 show str (QI c (max n 0).toNat)=_;rw[e];rfl⟩
end Go.Proofs.Z

namespace Av
open Go Go.RowKit Tw
theorem UD:∀ (pre:List AV) (i:Nat) (p:AV) (post:List AV) (j:Nat),j<p.size->wJ (pre++p::post) i ((pre.map AV.size).sum+j)=some (i+pre.length,p,j)
 | [],i,p,post,j,h=>by
  have hb:Nat.ble p.size j=false:=by
   cases hh:Nat.ble p.size j with
   | false=>rfl
   | true=>have:=nlb hh;omega
  simp[wJ,hb]
 | q::pre,i,p,post,j,h=>by
  have hb:Nat.ble q.size (((q::pre).map AV.size).sum+j)=true:=Nat.ble_eq_true_of_le (by simp;omega);rw[List.cons_append,wJ,hb,cond_true];have e:((q::pre).map AV.size).sum+j-q.size=(pre.map AV.size).sum+j:=by simp;omega
  rw[e,UD pre (i+1) p post j h];simp;omega
theorem Hm:∀ ps:List AV,(∀ p∈ps,p.size=1)->(ps.map AV.size).sum=ps.length
 | [],_=>rfl
 | p::ps,h=>by rw[List.map_cons,List.sum_cons,h p sm,Hm ps λq hq=>h q (by simp[hq]),List.length_cons,Nat.add_comm]
theorem set_mid {α:Type}(pre post:List α)(a b:α):(pre++a::post).set pre.length b=pre++b::post:=by simp
instance {l:List AV}{i:Nat}{v:Value}[h:Siz l 1]:Siz (l.set i (.lit v)) 1:=⟨λp hp=>(List.mem_or_eq_of_mem_set hp).elim (h.out p) λe=>by rw[e];rfl⟩
section
variable {n k j o:Nat} {pre post ps:List AV} {u:AV}
theorem Bp (hs:Siz ps 1)(hj:j<ps.length):wJ ps 0 j=some (j,ps[j],0):=by
 have h:=UD (ps.take j) 0 ps[j] (ps.drop (j+1)) 0 (by rw[hs.out _ (List.getElem_mem hj)];omega);rw[Hm _ (λp hp=>hs.out p (List.mem_of_mem_take hp)),<- List.drop_eq_getElem_cons hj,List.take_append_drop] at h;simpa[Nat.min_eq_left (Nat.le_of_lt hj)] using h
theorem Bb (hs:Siz ps 1)(hu:ps[j]?=some u)(ha:u.isAgg=false)(hk:ps.length=k)(ho:o=(pre.map AV.size).sum+j):jT false 1 8 (.agg n (pre++.agg k ps::post)) o=some u:=by
 subst ho hk;obtain⟨hj,rfl⟩:=List.getElem?_eq_some_iff.1 hu;have h1:wJ (pre++.agg ps.length ps::post) 0 ((pre.map AV.size).sum+j)=some (0+pre.length,.agg ps.length ps,j):=UD pre 0 _ post j hj;have h3:jT false 1 6 ps[j] 0=some ps[j]:=by
  unfold jT;rw[hs.out _ (List.getElem_mem hj),ha];rfl
 unfold jT;rw[show ((AV.agg n (pre++AV.agg ps.length ps::post)).isAgg == false)=false from rfl,Bool.and_false,cond_false];dsimp only;rw[h1];dsimp only;unfold jT;rw[show ((AV.agg ps.length ps).isAgg == false)=false from rfl,Bool.and_false,cond_false];dsimp only;rw[Bp hs hj];exact h3
theorem a7L (hs:Siz ps 1)(hu:ps[j]?=some u)(ha:u.isAgg=false)(ho:o=j):jT false 1 8 (.agg k ps) o=some u:=by
 subst ho;obtain⟨hj,rfl⟩:=List.getElem?_eq_some_iff.1 hu;have h3:jT false 1 7 ps[o] 0=some ps[o]:=by
  unfold jT;rw[hs.out _ (List.getElem_mem hj),ha];rfl
 unfold jT;rw[show ((AV.agg k ps).isAgg == false)=false from rfl,Bool.and_false,cond_false];dsimp only;rw[Bp hs hj];exact h3
theorem Mi (hs:Siz ps 1)(hj:j<ps.length)(hz:u.size=1)(ha:u.isAgg=false)(hp:ps[j].isAgg=false)(hk:ps.length=k)(ho:o=(pre.map AV.size).sum+j):uP u 8 (.agg n (pre++.agg k ps::post)) o=some (.agg n (pre++.agg k (ps.set j u)::post)):=by
 subst ho hk;have h1:wJ (pre++.agg ps.length ps::post) 0 ((pre.map AV.size).sum+j)=some (0+pre.length,.agg ps.length ps,j):=UD pre 0 _ post j hj;have h3:uP u 6 ps[j] 0=some u:=by
  unfold uP;rw[hs.out _ (List.getElem_mem hj),ha,hz,hp];rfl
 have h4:uP u 7 (.agg ps.length ps) j=some (.agg ps.length (ps.set j u)):=by
  unfold uP;rw[show ((AV.agg ps.length ps).isAgg == u.isAgg)=false by rw[ha];rfl,Bool.and_false,cond_false];dsimp only;rw[Bp hs hj];dsimp only;rw[h3]
 unfold uP;rw[show ((AV.agg n (pre++AV.agg ps.length ps::post)).isAgg == u.isAgg)=false by rw[ha];rfl,Bool.and_false,cond_false];dsimp only;rw[h1];dsimp only;rw[h4];dsimp only;rw[Nat.zero_add,set_mid]
end
end Av
namespace Go.Proofs.Z
open Go Go.RowKit Tw Av
theorem MF (blk:Bs):∀ k,(ws blk k).length=k
 | 0=>rfl
 | k+1=>by simp[ws,MF blk k]
def wA (blk:Bs)(k:Nat):List AV:=(ws blk k).map (λx=>.lit (dU x))++List.replicate (64-k) (.lit (dU 0))
instance {blk:Bs}{k:Nat}:Siz (wA blk k) 1:=by unfold wA;infer_instance
theorem VZ (blk:Bs)(k:Nat)(h:k<=64):(wA blk k).length=64:=by simp[wA,MF];omega
theorem MJ (blk:Bs)(k j:Nat)(h:j<k):(wA blk k)[j]?=some (bW ((ws blk k).getD j 0)):=by
 have hl:=MF blk k;simp[wA,List.getElem?_append,hl,h]
def JS (blk:Bs)(k:Nat):W32:=if k<16 then MI blk k else Pb (ws blk k) k
theorem Gg (blk:Bs)(k:Nat)(h:k<64):(wA blk k).set k (bW (JS blk k))=wA blk (k+1):=by
 have hl:=MF blk k;have hx:ws blk (k+1)=ws blk k++[JS blk k]:=rfl;unfold wA;rw[hx,List.set_append,if_neg (by simp[hl]),List.map_append,List.length_map,hl,Nat.sub_self,show 64-k=(64-(k+1))+1 by omega,List.replicate_succ];simp
theorem a1s (blk:Bs)(k:Nat)(h:k<64):(wA blk k).set k (bW 0)=wA blk k:=by
 have hl:=MF blk k;unfold wA;rw[List.set_append,if_neg (by simp[hl]),List.length_map,hl,Nat.sub_self,show 64-k=(64-(k+1))+1 by omega,List.replicate_succ];simp
abbrev zI (x:H8):AV:=.agg 8 (x.words.map λx=>.lit (dU x))
abbrev dC (x:H8)(buf:Bs)(n:Nat):AV:=.agg 74 [zI x,.agg 64 (buf.map I5),int n,d9 true]
theorem rO:Av.Spec Tryz.prog GL 240 [] [] λu m'=>∃ g,u=ptr g/\m'=[.var g 341 (dC h0 (zeros 64) 0)]:=by
 refine qE Tryz.func240 rfl Tryz.ntmps240 rfl (λ_ hs=>?_);repeat' first|refine Yz ?_|intro
 refine a0v (g:=1) (o:=0) (v:=zI h0) (u:=zI h0) ?_ rfl (by rw[hs];exact List.mem_cons_self) rfl;repeat' first|refine Yz ?_|intro
 exact j4 _ ⟨_,rfl,rfl⟩ slr
theorem a3A:∀ n:Fin 32,0<n.val->(BitVec.ofInt 64 (IntKind.u64.wrap (-(n.val:Int))) &&& BitVec.ofInt 64 31).toNat=32-n.val:=by decide +kernel
instance b9S {x:W32}{q:Int}:Ans Tryz.prog GL 309 [bW x,int q] (-32<q/\q<0) (bW (oC x (-q).toNat)):=⟨λhq=>by
 obtain⟨n,rfl⟩:∃ n:Nat,q=-(n:Int):=⟨(-q).toNat,om⟩;have hn:0<n/\n<32:=by omega
 refine qE Tryz.func309 rfl Tryz.ntmps309 rfl (λ_ hs=>?_);repeat' first|refine Yz ?_|intro
 refine LU (v:=.int .u64 ((32-n:Nat):Int)) rfl rfl rfl (λw=>?_) (.inl rfl) rfl ?_
 ·have h:=a3A ⟨n,hn.2⟩ hn.1;simp only[Op.intBits];show Result.ok (Value.int .u64 (IntKind.u64.wrap ((BitVec.ofInt 64 (IntKind.u64.wrap (-(n:Int))) &&& BitVec.ofInt 64 31).toNat:Int))) w=_;rw[h,IntKind.wrap_u64];dsimp only;congr 2
  omega
 repeat' first|refine Yz ?_|intro
 refine PQ (32-n) ?_;repeat' first|refine Yz ?_|intro
 refine VF n ?_;repeat' (first|refine Y8 ?_|refine aB ?_|refine W ?_|refine p9 (λ_=>?_)|intro _)
 refine x9 ?_;show bW _=_;rw[Int.neg_neg,Int.toNat_natCast,oC,BitVec.or_comm]⟩
end Go.Proofs.Z

namespace Av
open Go Go.RowKit Tw
section
variable {P:Program} {N:Nat} {ops:Array Oper} {Q:Exit->Act->World->Prop} {rest:List Oper} {s:Base} {e:Env} {m:List Piece} {d:Nat} {ty:TypeId} {pos:String} {af:Array Edge}
theorem VE {T E:TypeId}{n k:Nat}[t:TyA P T n E k]{x:Operand}{xl xh:Option Operand}{il ih:Int}{g o:Nat}(lo hi:Nat)(h:AL P N ops Q s rest ((d,.lit (.slice (some ⟨g,o+lo*k,none⟩) (hi-lo) (n-lo)))::e) m)
  (hx:ev e x=some (.lit (.pointer (some ⟨g,o,none⟩))):=by exact rfl) (hl:qM e 0 xl=some il:=by exact rfl) (hh:qM e n xh=some ih:=by exact rfl) (h1:il=(lo:Int):=by first|exact rfl|omega) (h2:ih=(hi:Int):=by first|exact rfl|omega) (h3:lo<=hi:=by omega) (h4:hi<=n:=by omega) (h5:lo<n:=by omega) (hd:Nat.blt d N=true:=by exact rfl) :
  AL P N ops Q s (⟨some d,.slice T x xl xh none,ty,pos,af,none⟩::rest) e m:=
 R8 rfl (λok w B hB=>by
  subst h1 h2;have hb:=QU (P:=P) (w:=w) (sl:=false) (zP hB hl) (zP hB hh) h3 h4;have h6:¬ n=lo:=by omega
  simp only[execOp,hB.lit hx,Instr.sliceAt,Instr.slice,Sem.run_bind,run_underlying t.out,Result.andThen_ok,Option.map_none,run_sizeOf t.sz,Sem.run_pure];simp[Instr.sureAddr,hb,h6,Addr.add]) hd h
def BH (l:Bs)(o1 o2 k:Nat):Bs:=l.take o1++(l.drop o2).take k++l.drop (o1+k)
theorem Qf {l:Bs}{o1 o2 k:Nat}(h1:o1+k<=l.length)(h2:o2+k<=l.length):(BH l o1 o2 k).length=l.length:=by
 unfold BH;simp only[List.length_append,List.length_take,List.length_drop];omega
theorem b2V {T E T2:TypeId}{b:Nat}[t:TyL P T E 1 b]{x y:Operand}{g n o1 n1 c1 o2 n2 c2:Nat}{T0:TypeId}{l:Bs}{m':List Piece}(k:Nat)(hn:n=l.length)(h:AL P N ops Q s rest ((d,int (k:Nat))::e) m')(hx:ev e x=some (.lit (.slice (some ⟨g,o1,none⟩) n1 c1)):=by exact rfl)(hy:ev e y=some (.lit (.slice (some ⟨g,o2,none⟩) n2 c2)):=by exact rfl)
  (hk:k=min n2 n1:=by omega) (h1:o1+k<=l.length:=by omega) (h2:o2+k<=l.length:=by omega)
  (hu:Upd m (.var g T0 (.agg n (l.map I5))) (.var g T0 (.agg n ((BH l o1 o2 k).map I5))) m':=by (repeat (first|apply Av.Upd.here|apply Av.Upd.there))) (hd:Nat.blt d N=true:=by exact rfl) :
  AL P N ops Q s (⟨some d,.call ⟨.builtin .copy,#[x,y],#[T,T2]⟩,ty,pos,af,none⟩::rest) e m:=by
 subst hn;refine zQ (v:=int (k:Nat)) (λok w B hS hB=>?_) hd;obtain⟨pre,post,rfl,rfl⟩:=hu.parts;obtain⟨cs,hb,hg⟩:=hS.at_ (.var g T0 (.agg l.length (l.map I5))) sm;rw[RC] at hg;have hcs:=RCs_u8_eq hg.2;subst hcs;have hcl:(((l.drop o2).take k).map y8).length=k:=by
  rw[llm,List.length_take,List.length_drop];omega
 have hload:=run_loadCells_list (P:=P) w ⟨g,o2,none⟩ (((l.drop o2).take k).map y8) (λj v hj=>by
  rw[add_mid,cell_of_row _ _ _ _ _ _ hb];have hjk:j<k:=by
   have:=(List.getElem?_eq_some_iff.1 hj).1;rw[hcl] at this;exact this
  rw[List.getElem?_map,List.getElem?_take_of_lt hjk,List.getElem?_drop] at hj;simpa using hj)
 rw[hcl] at hload;have hrun:=run_storeCells_at (P:=P) g o1 T0 (((l.drop o2).take k).map y8) 0 (l.map y8).toArray w hb (by rw[hcl];simp;omega) (λv hv=>by
  obtain⟨c,_,rfl⟩:=List.mem_map.1 hv;rfl)
 have e7:((l.map y8).take o1++((l.drop o2).take k).map y8++(l.map y8).drop (o1+(((l.drop o2).take k).map y8).length))=(BH l o1 o2 k).map y8:=by
  rw[hcl];simp only[BH,List.map_append,List.map_take,List.map_drop]
 simp only[Nat.add_zero] at hrun;rw[show (List.take o1 (l.map y8).toArray.toList++((l.drop o2).take k).map y8++List.drop (o1+(((l.drop o2).take k).map y8).length) (l.map y8).toArray.toList)=(BH l o1 o2 k).map y8 from e7] at hrun;obtain⟨f1,f2⟩:=hS.writeVar (v':=.agg l.length ((BH l o1 o2 k).map I5)) (cs':=(BH l o1 o2 k).map y8) (by rw[RC];exact⟨by simp[Qf h1 h2],RCs_u8 _⟩) (λcs2 hb2=>by
  rw[hb] at hb2;injection hb2 with hb2
  injection hb2 with hb2
  have:l.map y8=cs2:=by simpa using congrArg Array.toList hb2
  rw[<- this];simp[Qf h1 h2])
 refine⟨.int .i64 (k:Nat),_,ok,_,?_,RVl rfl,f1,f2,h⟩;have hk':Nat.min n2 n1=k:=hk.symm;simp only[execOp,resolve,invoke,builtin,hB.lit hx,hB.lit hy,Builtin.copy_,List.map_toArray,List.map_cons,List.map_nil];simp[run_underlying t.out,Builtin.lenOf,run_sizeOf t.size,Builtin.firstCells,hk',hload];rw[<- List.map_drop,<- List.map_take,hrun];rfl
end
end Av
