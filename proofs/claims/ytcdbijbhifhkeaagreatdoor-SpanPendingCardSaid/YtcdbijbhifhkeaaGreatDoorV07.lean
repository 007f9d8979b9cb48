/- . -/
import Derived.Lib.AppendZeros
import Derived.Test.YtcdbijbhifhkeaaGreatDoorV06
namespace Av
open Go Go.RowKit Tw
section
variable {xs:List AV}{bS k:Nat}{E S T:TypeId}{x:Operand}{A:Option Addr}{ih il:Int}{xl:Option Operand}
section
variable {s:Base} {ok:Ok} {m:List Piece} {w w':World}
theorem St.writeBlk {g:Nat}{p p':Piece}{pre post:List Piece}{C:Array Value}(h:St s ok (pre++p::post) w)(hb:p.blk=some g)(ho:∀ b j,p.owns b j↔b=g)(hb':p'.blk=some g)(ho':∀ b j,p'.owns b j->b=g)(hat:∀ ok' w',Stp ok w ok' w'->w'.heap[g]?=(w.setRow g C).heap[g]?->p'.at_ ok' w') :
  St s ok (pre++p'::post) (w.setRow g C)/\Stp ok w ok (w.setRow g C):=by
 have hpm:p∈pre++p::post:=sm
 have hst:Stp ok w ok (w.setRow g C):=⟨sm,λb j u h1 h2=>by
  have hne:b≠g:=by
   rintro rfl;exact h.own _ hpm b j ((ho _ _).2 rfl) h2
  exact⟨(HZ (setRow_other w g b _ hne)).trans h1,h2⟩⟩
 exact⟨h.write (g:=g) hb (.inl hb') hst (hat _ _ hst rfl) (λb j hbj=>h.own _ hpm b j ((ho _ _).2 (ho' b j hbj))) sm rfl rfl rfl (λb hne=>setRow_other w g b _ hne) (λ_ _ _=>Iff.rfl),hst⟩
theorem St.freeze {g:Nat}{c n:Nat}{pre post:List Piece}(h:St s ok (pre++.buf g E k xs c::post) w)(hn:n=xs.length)(hc:n<=c) :
  ∃ ok',St s ok' (pre++.tail E k (.slice (some ⟨g,0,none⟩) n c)::post) w/\Stp ok w ok' w/\RV ok' w (.sl k xs (some (.slice (some ⟨g,0,none⟩) n c))) (.slice (some ⟨g,0,none⟩) n c):=by
 subst hn;have hpm:Piece.buf g E k xs c∈pre++.buf g E k xs c::post:=by simp
 obtain⟨cs1,cs2,h1,h2,h3,h4,h5⟩:=h.at_ _ hpm;have hl:=h2.len h3;have hst:Stp ok w (λb j=>ok b j\/(b=g/\j<xs.length*k)) w:=⟨Nat.le_refl _,λb j u h1 h2=>⟨h1,.inl h2⟩⟩;refine⟨_,h.write (g:=g) (p':=.tail E k (.slice (some ⟨g,0,none⟩) xs.length c)) rfl ?_ hst ?_ ?_ rfl rfl rfl rfl (λ_ _=>rfl) (λb j hne=>⟨λh=>h.elim id (λh=>absurd h.1 hne),.inl⟩),hst,?_⟩
 ·by_cases hq:xs.length=c
  ·right;simp[Piece.blk,qX,hq]
  left;simp[Piece.blk,qX,qN hq]
 ·by_cases hq:xs.length=c
  ·exact .inl ⟨_,_,by rw[hq]⟩
  exact .inr ⟨g,xs.length,c,_,(0,0),rfl,h1,om,h5,by simpa using h4,.inl rfl⟩
 ·rintro b j ⟨a,n',c',he,hne,rfl,hi⟩ ho;injection he with e1 e2 e3
  injection e1 with e1
  subst e1 e2 e3;rcases ho with ho|⟨_,ho⟩
  ·exact h.own _ hpm g j rfl ho
  omega
 refine RV.sl rfl (λv hv=>by injection hv with hv;exact hv.symm) hc h5 (λ_=>⟨g,0,cs1,rfl,hl,λj v hj=>?_,h2.stp hst⟩) h3;have hj':j<cs1.length:=(List.getElem?_eq_some_iff.1 hj).1;rw[Nat.zero_add,cell_of_row _ _ _ _ _ _ h1];refine⟨?_,.inr ⟨rfl,om⟩⟩;simp only[List.getElem?_toArray];rw[List.getElem?_append_left hj'];exact hj
end
section
variable {P:Program} {N:Nat} {ops:Array Oper} {Q:Exit->Act->World->Prop} {rest:List Oper} {s:Base} {e:Env} {m:List Piece} {d:Nat} {ty:TypeId} {pos:String} {af:Array Edge}
theorem yH {l:List Oper}{g n c:Nat}{m':List Piece}(t:Nat)(h:AL P N ops Q s l ((t,.sl k xs (some (.slice (some ⟨g,0,none⟩) n c)))::e) m')(hv:lk e t=some (.lit (.slice (some ⟨g,0,none⟩) n c)):=by exact rfl)
  (hm:Upd m (.buf g E k xs c) (.tail E k (.slice (some ⟨g,0,none⟩) n c)) m':=by (repeat (first|apply Av.Upd.here|apply Av.Upd.there))) (hn:n=xs.length:=by first|exact rfl|(simp;done)|(simp;omega)) (hc:n<=c:=by omega):AL P N ops Q s l e m:=AL.mk λok w a hS ha=>by
 obtain⟨pre,post,rfl,rfl⟩:=hm.parts;obtain⟨ok',h1,h2,h3⟩:=hS.freeze hn hc;exact h.run ok' w a h1 ((ha.stp h2).also (by rw[RV.lit (ha.env t _ hv)];exact h3))
theorem LP [t:TyL P S E k bS]{ix:Operand}{kd:IntKind}{i:Int}{g o n c:Nat}(j:Nat)(h:AL P N ops Q s rest ((d,.lit (.pointer (some ⟨g,o+j*k,none⟩)))::e) m)(hx:ev e x=some (.lit (.slice (some ⟨g,o,none⟩) n c)):=by exact rfl)(hi:ev e ix=some (.lit (.int kd i)):=by exact rfl)(hj:i=(j:Int):=by first|exact rfl|omega)(hlt:j<n:=by first|omega|(simp only[List.length_map];omega))(hd:Nat.blt d N=true:=by exact rfl) :
  AL P N ops Q s (⟨some d,.indexAddr S x ix,ty,pos,af,none⟩::rest) e m:=by
 subst hj;have hin:(0:Int)<=(j:Int)/\(j:Int)<(n:Nat):=by omega
 exact R8 rfl (λok w B hB=>by
  simp only[execOp,hB.lit hx,hB.lit hi,Instr.indexAt,asIntOf,Sem.run_bind,Sem.run_pure,Result.andThen_ok,run_underlying t.out,hin,and_self,if_true,run_sizeOf t.size,Int.toNat_natCast,add_mid]) hd h
theorem LH [t:TyL P S E k bS]{xh:Option Operand}{n c:Nat}(lo hi:Nat)(h:AL P N ops Q s rest ((d,.lit (.slice (if c=lo then A else A.map (·.add (lo*k))) (hi-lo) (c-lo)))::e) m)
  (hx:ev e x=some (.lit (.slice A n c)):=by exact rfl) (hl:qM e 0 xl=some il:=by exact rfl) (hh:qM e n xh=some ih:=by exact rfl) (h1:il=(lo:Int):=by first|exact rfl|omega) (h2:ih=(hi:Int):=by first|exact rfl|omega) (h3:lo<=hi:=by omega) (h4:hi<=c:=by omega) (hd:Nat.blt d N=true:=by exact rfl):AL P N ops Q s (⟨some d,.slice S x xl xh none,ty,pos,af,none⟩::rest) e m:=
 R8 rfl (λok w B hB=>by
  subst h1 h2;have hb:=QU (P:=P) (w:=w) (sl:=true) (zP hB hl) (zP hB hh) h3 h4;simp only[execOp,hB.lit hx,Instr.sliceAt,Instr.slice,Sem.run_bind,run_underlying t.out,Result.andThen_ok,Option.map_none,hb,run_sizeOf t.size,Sem.run_pure]) hd h
theorem iR [t:TyL P S E k bS]{xh:Option Operand}{g o n c:Nat}(lo hi:Nat)(h:AL P N ops Q s rest ((d,.lit (.slice (some ⟨g,o+lo*k,none⟩) (hi-lo) (c-lo)))::e) m)
  (hx:ev e x=some (.lit (.slice (some ⟨g,o,none⟩) n c)):=by exact rfl) (hl:qM e 0 xl=some il:=by exact rfl) (hh:qM e n xh=some ih:=by exact rfl) (h1:il=(lo:Int):=by first|exact rfl|omega) (h2:ih=(hi:Int):=by first|exact rfl|omega) (h3:lo<=hi:=by omega) (h4:hi<=c:=by omega) (h5:lo<c:=by omega) (hd:Nat.blt d N=true:=by exact rfl):AL P N ops Q s (⟨some d,.slice S x xl xh none,ty,pos,af,none⟩::rest) e m:=
 LH lo hi (by
  rw[if_neg om];simp only[Option.map_some,add_mid];exact h) hx hl hh h1 h2 h3 h4 hd
theorem b1Y [t:TyL P S E k bS]{xh xm:Operand}{im:Int}{kd kd':IntKind}{n c:Nat}(lo hi mx:Nat)(h:AL P N ops Q s rest ((d,.lit (.slice (if mx=lo then A else A.map (·.add (lo*k))) (hi-lo) (mx-lo)))::e) m)
  (hx:ev e x=some (.lit (.slice A n c)):=by exact rfl) (hl:qM e 0 xl=some il:=by exact rfl) (hh:ev e xh=some (.lit (.int kd ih)):=by exact rfl) (hm:ev e xm=some (.lit (.int kd' im)):=by exact rfl) (h1:il=(lo:Int):=by first|exact rfl|omega) (h2:ih=(hi:Int):=by first|exact rfl|omega) (h5:im=(mx:Int):=by first|exact rfl|omega) (h3:lo<=hi:=by omega) (h4:hi<=mx:=by omega) (h6:mx<=c:=by omega) (hd:Nat.blt d N=true:=by exact rfl):AL P N ops Q s (⟨some d,.slice S x xl (some xh) (some xm),ty,pos,af,none⟩::rest) e m:=
 R8 rfl (λok w B hB=>by
  subst h1 h2 h5;have hb:(Instr.sliceBounds true n c (xl.map B.eval) (some (.int kd (hi:Int))) (some (.int kd' (mx:Int)))).run P w=.ok (lo,hi,mx) w:=by
   rcases zP hB hl with⟨e1,rfl⟩|⟨kd,e1⟩ <;> rw[e1] <;> simp[Instr.sliceBounds,Instr.sliceBound,asIntOf,h3,h4,h6]
  simp only[execOp,hB.lit hx,hB.lit hh,hB.lit hm,Instr.sliceAt,Instr.slice,Sem.run_bind,run_underlying t.out,Result.andThen_ok,Option.map_some,hb,run_sizeOf t.size,Sem.run_pure]) hd h
theorem b3b {b:Nat}[t:TyL P T E k b]{n c:Nat}(h:AL P N ops Q s rest ((d,int c)::e) m)(hx:ev e x=some (.lit (.slice A n c)):=by exact rfl)(hd:Nat.blt d N=true:=by exact rfl):AL P N ops Q s (⟨some d,.call ⟨.builtin .cap,#[x],#[T]⟩,ty,pos,af,none⟩::rest) e m:=
 R8 rfl (λok w B hB=>by simp[execOp,resolve,invoke,builtin,hB.lit hx,Builtin.cap_,run_underlying t.out,goInt]) hd h
theorem a0w {a:Bool}{kk:Nat}[t:Ty P T a kk]{g j off c:Nat}{y u:AV}(hy:xs[j]?=some y)(h:AL P N ops Q s rest ((d,u)::e) m)(hx:ev e x=some (.lit (.pointer (some ⟨g,0+j*k+off,none⟩))):=by exact rfl)
  (hm:Has m (.buf g E k xs c):=by (repeat (first|exact Av.Has.here|apply Av.Has.there))) (hv:jT a kk 8 y off=some u:=by exact rfl) (hd:Nat.blt d N=true:=by exact rfl):AL P N ops Q s (⟨some d,.load T x,ty,pos,af,none⟩::rest) e m:=
 dR (λok w A hS hA=>by
  obtain⟨cs1,cs2,h1,h2,h3,h4,h5⟩:=hS.at_ _ hm.mem;obtain⟨hlt,he⟩:=List.getElem?_eq_some_iff.1 hy;obtain⟨x',c',y',rfl,f2,f3,f4⟩:=h2.at_ h3 hlt;rw[he] at f4;obtain⟨p,q,r,rfl,g2,g3,g4,g5⟩:=EH hv f4;have hr:=JD (P:=P) t (b:=g) (o:=0+j*k+off) (λi v hv=>by
   rw[Nat.zero_add,show j*k+off=(x'++p).length by simp[f2,g2]];exact QA (c:=q) (y:=r++y'++cs2) h1 sm i v hv) g4 g3 g5
  rw[Nat.zero_add] at hr;exact⟨_,by simp[execOp,hA.lit hx,Instr.loadAt,Instr.sureAddr,hr],RV.of0 (g5 ▸ RV0.mk g4)⟩) hd h
theorem En {a:Bool}{kk:Nat}[t:Ty P T a kk]{z:Operand}{g j off c:Nat}{y y' u:AV}{m':List Piece}(hy:xs[j]?=some y)(h:AL P N ops Q s rest e m')(hx:ev e x=some (.lit (.pointer (some ⟨g,0+j*k+off,none⟩))):=by exact rfl)
  (hz:ev e z=some u:=by exact rfl) (hm:Upd m (.buf g E k xs c) (.buf g E k (xs.set j y') c) m':=by (repeat (first|apply Av.Upd.here|apply Av.Upd.there))) (hv:uP u 8 y off=some y':=by exact rfl) (hk:Nat.beq u.size kk=true:=by exact rfl) (hn:U8 u=true:=by exact rfl):AL P N ops Q s (⟨none,.store T x z,ty,pos,af,none⟩::rest) e m:=
 LJ (λok w A hS hA=>by
  obtain⟨pre,post,rfl,rfl⟩:=hm.parts;obtain⟨cs1,cs2,h1,h2,h3,h4,h5⟩:=hS.at_ (.buf g E k xs c) sm;obtain⟨hlt,he⟩:=List.getElem?_eq_some_iff.1 hy;have hv0:=(hA.eval hz).to0 (by rintro vs rfl;simp[U8] at hn);obtain⟨x',c',yy,e1,f2,f3,f4⟩:=h2.at_ h3 hlt;rw[he] at f4;obtain⟨p,q,r,rfl,g2,g3,g4,g5,g6⟩:=YD hv0.1 hv f4;have hk:=Nat.eq_of_beq_eq_true hk;have hlen:(A.eval z).cells.toList.length=kk:=by rw[hv0.1.len,hk]
  have hsz:(A.eval z).cells.size=kk:=by simpa using hlen
  have hsy:y'.size=k:=by rw[g5,<- he];exact h3 _ (List.getElem_mem hlt)
  have hset:=h2.set h3 hlt g4 hsy;have hlk:(p++q++r).length=k:=f3;have hC:(cs1++cs2).toArray.toList.take (0+j*k+off)++(A.eval z).cells.toList++(cs1++cs2).toArray.toList.drop (0+j*k+off+kk)=(cs1.take (j*k)++(p++(A.eval z).cells.toList++r)++cs1.drop (j*k+k))++cs2:=by
   have ex:cs1.take (j*k)=x':=by rw[e1,<- f2,laa,List.take_left]
   have ey:cs1.drop (j*k+k)=yy:=by rw[e1,<- f2,<- hlk,<- lla,List.drop_left]
   have hq:q.length=kk:=by rw[g3,hk]
   rw[ex,ey];simp only[e1];have e2:x'++(p++q++r)++yy++cs2=(x'++p)++(q++(r++yy++cs2)):=by simp
   rw[e2,show 0+j*k+off=(x'++p).length by simp[f2,g2],List.take_left,<- hq,<- List.length_append,<- List.append_assoc (x'++p) q,List.drop_left];simp
  have hsz2:0+j*k+off+kk<=(cs1++cs2).toArray.size:=by
   have:(p++q++r).length=k:=hlk;have e3:cs1.length=x'.length+k+yy.length:=by rw[e1];simp only[List.length_append] at this ⊢;omega
   have hq:q.length=kk:=by rw[g3,hk]
   simp only[List.length_append] at this;simp;omega
  have hrun:=WV (P:=P) t.sz (v:=A.eval z) (o:=0+j*k+off) h1 hsz hsz2 (hv0.1.one);rw[hC] at hrun;obtain⟨r1,r2⟩:=hS.writeBlk (g:=g) (p':=.buf g E k (xs.set j y') c) (C:=((cs1.take (j*k)++(p++(A.eval z).cells.toList++r)++cs1.drop (j*k+k))++cs2).toArray) rfl (λ_ _=>Iff.rfl) rfl (λ_ _ h=>h) (λok' w' hst hh=>by
   refine⟨_,cs2,hh.trans (setRow_heap w g _ _ E (0,0) h1),hset.stp hst,λx hx=>?_,?_,h5⟩
   ·rcases List.mem_or_eq_of_mem_set hx with hx|rfl
    ·exact h3 x hx
    exact hsy
   rw[<- h4];have hl:=hset.len (k:=k) (λx hx=>by
    rcases List.mem_or_eq_of_mem_set hx with hx|rfl
    ·exact h3 x hx
    exact hsy)
   rw[hl,h2.len h3];simp)
  rw[Nat.zero_add] at hrun;generalize ((cs1.take (j*k)++(p++(A.eval z).cells.toList++r)++cs1.drop (j*k+k))++cs2).toArray=CC at hrun r1 r2;exact⟨_,ok,by simp[execOp,hA.lit hx,Instr.storeAt,Instr.sureAddr,hrun],r1,r2⟩) h
end
end

section
variable {cs:List Value}{xs ys zs:List AV}{j k:Nat}{E T:TypeId}{xo yo:Operand}
def over {α:Type}(xs:List α)(j:Nat)(zs:List α):List α:=xs.take j++zs++xs.drop (j+zs.length)
section
variable {ok:Ok} {w:World}
theorem RCs.take (h:RCs ok w xs cs)(hk:∀ x∈xs,x.size=k)(hj:j<=xs.length):RCs ok w (xs.take j) (cs.take (j*k)):=by
 have he:xs=xs.take j++xs.drop j:=(List.take_append_drop _ _).symm;rw[he] at h;obtain⟨c,d,rfl,h1,_⟩:=h.split;have hl:=h1.len (k:=k) (λx hx=>hk x (List.mem_of_mem_take hx));have:(xs.take j).length=j:=by simp;omega
 rw[this] at hl
 rwa [<- hl,List.take_left]
theorem RCs.drop (h:RCs ok w xs cs)(hk:∀ x∈xs,x.size=k)(hj:j<=xs.length):RCs ok w (xs.drop j) (cs.drop (j*k)):=by
 have he:xs=xs.take j++xs.drop j:=(List.take_append_drop _ _).symm;rw[he] at h;obtain⟨c,d,rfl,h1,h2⟩:=h.split;have hl:=h1.len (k:=k) (λx hx=>hk x (List.mem_of_mem_take hx));have:(xs.take j).length=j:=by simp;omega
 rw[this] at hl
 rwa [<- hl,List.drop_left]
theorem a5d {cs1 cs2 news:List Value}(h:RCs ok w xs cs1)(hz:RCs ok w zs news)(hk:∀ x∈xs,x.size=k)(hkz:∀ x∈zs,x.size=k)(hj:j<=xs.length) :
  ∃ c1 c2,(cs1++cs2).take (j*k)++news++(cs1++cs2).drop (j*k+news.length)=c1++c2/\RCs ok w (over xs j zs) c1/\(j*k+news.length<=cs1.length+cs2.length->c1.length+c2.length=cs1.length+cs2.length):=by
 have hl:=h.len hk;have hlz:=hz.len hkz;have hjk:j*k<=cs1.length:=by rw[hl];exact Nat.mul_le_mul_right k hj
 have e1:(cs1++cs2).take (j*k)=cs1.take (j*k):=List.take_append_of_le_length hjk;have hto:=h.take hk hj;have hlt:(cs1.take (j*k)).length=j*k:=by simp;omega
 rcases Nat.lt_or_ge xs.length (j+zs.length) with hlt2|hge
 ·refine⟨cs1.take (j*k)++news,(cs1++cs2).drop (j*k+news.length),by rw[e1],?_,λhf=>by simp only[List.length_append,List.length_drop,hlt];omega⟩;unfold over;rw[List.drop_of_length_le om,List.append_nil];exact hto.append hz
 have hd:=h.drop hk hge;have hle:(j+zs.length)*k<=cs1.length:=by rw[hl];exact Nat.mul_le_mul_right k hge
 have e2:(cs1++cs2).drop (j*k+news.length)=cs1.drop ((j+zs.length)*k)++cs2:=by
  rw[hlz,<- Nat.add_mul];exact List.drop_append_of_le_length hle
 rw[Nat.add_mul] at hle;refine⟨cs1.take (j*k)++news++cs1.drop ((j+zs.length)*k),cs2,by rw[e1,e2];simp,?_,λhf=>by
  rw[Nat.add_mul] at *;simp only[List.length_append,List.length_drop,hlt,hlz];omega⟩
 unfold over;exact(hto.append hz).append hd
theorem a5c (hk:∀ x∈xs,x.size=k)(hkz:∀ x∈zs,x.size=k):∀ x∈over xs j zs,x.size=k:=λx hx=>by
 unfold over at hx;rcases List.mem_append.1 hx with hx|hx
 ·rcases List.mem_append.1 hx with hx|hx
  ·exact hk x (List.mem_of_mem_take hx)
  exact hkz x hx
 exact hk x (List.mem_of_mem_drop hx)
theorem RCs.run {a n:Nat}(h:RCs ok w xs cs)(hk:∀ x∈xs,x.size=k)(hn:a+n<=xs.length):RCs ok w ((xs.drop a).take n) ((cs.drop (a*k)).take (n*k)):=
 (h.drop hk om).take (λx hx=>hk x (List.mem_of_mem_drop hx)) (by simp;omega)
end
section
variable {P:Program} {N:Nat} {ops:Array Oper} {Q:Exit->Act->World->Prop} {rest:List Oper} {s:Base} {e:Env} {m:List Piece} {d:Nat} {ty:TypeId} {pos:String} {af:Array Edge}
theorem St.overB {ok:Ok}{w:World}{g:Nat}{c:Nat}{news:List Value}{pre post:List Piece}(hS:St s ok (pre++.buf g E k xs c::post) w)(hz:RCs ok w zs news)(hkz:∀ x∈zs,x.size=k)(hj:j<=xs.length)(hc:j+zs.length<=c) :
  ∃ w',(storeCells ⟨g,j*k,none⟩ news).run P w=.ok () w'/\St s ok (pre++.buf g E k (over xs j zs) c::post) w'/\Stp ok w ok w':=by
 obtain⟨cs1,cs2,h1,h2,h3,h4,h5⟩:=hS.at_ (.buf g E k xs c) sm;have hlz:=hz.len hkz;have hfit:j*k+news.length<=(cs1++cs2).toArray.size:=by
  have:=Nat.mul_le_mul_right k hc;rw[Nat.add_mul] at this;simp;omega
 have hrun:=run_storeCells_at P g (j*k) E news 0 (cs1++cs2).toArray w h1 (by simpa using hfit) (RCs.one hz);simp only[Nat.add_zero] at hrun;obtain⟨c1,c2,e1,e2,e3⟩:=a5d (cs2:=cs2) h2 hz h3 hkz hj;rw[e1] at hrun;obtain⟨r1,r2⟩:=hS.writeBlk (g:=g) (p':=.buf g E k (over xs j zs) c) (C:=(c1++c2).toArray) rfl (λ_ _=>Iff.rfl) rfl (λ_ _ h=>h) (λok' w' hst hh=>⟨c1,c2,hh.trans (setRow_heap w g _ _ E (0,0) h1),e2.stp hst,a5c h3 hkz,by rw[e3 (by simpa using hfit),h4],h5⟩);exact⟨_,hrun,r1,r2⟩
theorem Ev {b:Nat}[t:TyE P T E k b](h:∀ g,AL P N ops Q s rest ((d,.lit (.slice (some ⟨g,0,none⟩) 0 0))::e) (.buf g E k [] 0::m))(hd:Nat.blt d N=true:=by exact rfl) :
  AL P N ops Q s (⟨some d,.buildSlice T 0 #[],ty,pos,af,none⟩::rest) e m:=
 mK (λok w A hS hA=>by
  have hE:=Ext.alloc w (.cells #[] E);have hk:∀ b j,b<w.heap.size->((ok b j/\b≠w.heap.size)↔ok b j):=λb j hb=>⟨λh=>h.1,λh=>⟨h,om⟩⟩;have hf:∀ b j,(w.alloc (.cells #[] E)).heap.size<=b->(ok b j/\b≠w.heap.size):=λb j hb=>by
   have:w.heap.size+1<=b:=by simpa using hb
   exact⟨hS.fresh b j om,om⟩
  obtain⟨g1,g2⟩:=hS.grow (new:=[.buf w.heap.size E k [] 0]) (ok':=λb j=>ok b j/\b≠w.heap.size) hE hk hf (λp hp=>by
   obtain rfl:p=_:=by simpa using hp
   exact⟨[],[],heap_alloc_new w _,by rw[RCs],sm,sm,by simp[maxLen]⟩) (λp hp g hg=>by
   obtain rfl:p=_:=by simpa using hp
   injection hg with hg
   omega) (λp hp b j hb=>by
   obtain rfl:p=_:=by simpa using hp
   intro ho;exact ho.2 hb) sm
  refine⟨_,.slice (some ⟨w.heap.size,0,none⟩) 0 0,w.alloc (.cells #[] E),_,_,?_,RVl rfl,g1,g2,h w.heap.size⟩;simp[execOp,Instr.buildSlice,run_underlying t.l.out,run_sizeOf t.l.size,Instr.fill,newRow,newObj,Sem.run];have:(Array.map (λ_=>(default:Value)) (Array.range 0))=#[]:=by apply Array.ext';simp
  rw[this]) hd
theorem St.newBuf {ok:Ok}{w w':World}{c:Nat}{cs1 cs2:List Value}(h:St s ok m w)(he:Ext w w')(hsz:w'.heap.size=w.heap.size+1)(hb:w'.heap[w.heap.size]?=some (.cells (cs1++cs2).toArray E (0,0)))(hx:RCs ok w xs cs1)(hk:∀ x∈xs,x.size=k)(hl:cs1.length+cs2.length=c*k)(hc:c<=maxLen) :
  ∃ ok',St s ok' (.buf w.heap.size E k xs c::m) w'/\Stp ok w ok' w':=by
 have hk':∀ b j,b<w.heap.size->((ok b j/\b≠w.heap.size)↔ok b j):=λb j hb=>⟨λh=>h.1,λh=>⟨h,om⟩⟩;have hf:∀ b j,w'.heap.size<=b->(ok b j/\b≠w.heap.size):=λb j hb=>⟨h.fresh b j om,om⟩;have t:Turn ok m w (λb j=>ok b j/\b≠w.heap.size) w':=Turn.ext hf he hk';exact⟨_,h.grow (new:=[.buf w.heap.size E k xs c]) he hk' hf (λp hp=>by
  obtain rfl:p=_:=by simpa using hp
  exact⟨cs1,cs2,hb,hx.stp t.stp,hk,hl,hc⟩) (λp hp g hg=>by
  obtain rfl:p=_:=by simpa using hp
  injection hg with hg
  omega) (λp hp b j hb=>by
  obtain rfl:p=_:=by simpa using hp
  intro ho;exact ho.2 hb) sm⟩
theorem IG {b:Nat}[t:TyE P T E k b]{g n c:Nat}{id:Option Value}{M:Nat->Nat->List Piece}(h:∀ g' c',n+ys.length<=c'->AL P N ops Q s rest ((d,.lit (.slice (some ⟨g',0,none⟩) (n+ys.length) c'))::e) (M g' c'))(hx:ev e xo=some (.lit (.slice (some ⟨g,0,none⟩) n c)):=by exact rfl)(hy:ev e yo=some (.sl k ys id):=by exact rfl)
  (hm:∀ g' c',Upd m (.buf g E k xs c) (.buf g' E k (xs++ys) c') (M g' c'):=by intro g' c';(repeat (first|apply Av.Upd.here|apply Av.Upd.there))) (hn:n=xs.length:=by first|exact rfl|(simp;done)|(simp;omega)) (hnc:n<=c:=by omega)
  (hb:(n+ys.length)*b<=140737488355328:=by first|omega|(simp;done)|(simp;omega)) (hl:n+ys.length<=maxLen:=by first|(simp[maxLen];done)|(simp[maxLen];omega)) (hd:Nat.blt d N=true:=by exact rfl) :
  AL P N ops Q s (⟨some d,.call ⟨.builtin .append,#[xo,yo],#[T,T]⟩,ty,pos,af,none⟩::rest) e m:=by
 subst hn;refine mK (λok w B hS hB=>?_) hd;obtain⟨A2,c2,f1,_,f3,f4,f5,f6⟩:=qY (hB.eval hy);obtain⟨i,z,q1,q2,hzk,hik,hib⟩:=t.zero;have hg1:=hB.lit hx;have hsm:xs.length+ys.length<=9223372036854775807:=by simpa[maxLen] using hl
 rcases Nat.eq_zero_or_pos ys.length with h0|h0
 ·have hys:ys=[]:=List.eq_nil_of_length_eq_zero h0;subst hys;have hrun:(Builtin.append_ #[T,T] ty #[.slice (some ⟨g,0,none⟩) xs.length c,.slice A2 0 c2]).run P w=.ok (.slice (some ⟨g,0,none⟩) xs.length c) w:=by
   cases A2 <;> simp[Builtin.append_,run_underlying t.l.out,Go.sizeOf,typeInfo,q1,Builtin.lenOf,Builtin.firstCells,hnc,storeCells,loadCells,loadCellsFrom]
  obtain⟨pre,post,hm1,hm2⟩:=(hm g c).parts;rw[List.append_nil] at hm2;exact⟨_,.slice (some ⟨g,0,none⟩) xs.length c,w,ok,_,by simp[execOp,resolve,invoke,builtin,hg1,f1,hrun],RVl rfl,by rw[hm2,<- hm1];exact hS,Stp.refl _ _,h g c hnc⟩
 obtain⟨b2,o2,es2,rfl,e2,e3,e4⟩:=f5 h0;have rO:∀ j u,es2[j]?=some u->w.cell? ((⟨b2,o2,none⟩:Addr).add j)=some u:=λj u hj=>by rw[add_mid];exact(e3 j u hj).1
 have hl2:es2.length=ys.length*i.size:=by rw[e2,hik]
 obtain⟨pre,post,hm1,_⟩:=(hm g c).parts;have hS0:=hS;rw[hm1] at hS;obtain⟨cs1,cs2,a1,a2,a3,a4,a5⟩:=hS.at_ (.buf g E k xs c) sm;have hcl:=a2.len a3;by_cases hroom:xs.length+ys.length<=c
 ·obtain⟨pre',post',hm1',hm2'⟩:=(hm g c).parts;rw[hm1'] at hS0;obtain⟨w',r1,r2,r3⟩:=St.overB (P:=P) hS0 e4 f6 (Nat.le_refl _) hroom;have ho:over xs xs.length ys=xs++ys:=by
   unfold over;rw[List.take_length,List.drop_of_length_le om,List.append_nil]
  rw[ho] at r2;refine⟨_,.slice (some ⟨g,0,none⟩) (xs.length+ys.length) c,w',ok,_,?_,RVl rfl,by rw[hm2'];exact r2,r3,h g c hroom⟩;have hf:=run_firstCells_some (P:=P) w i.size ys.length ⟨b2,o2,none⟩ ys.length c2 es2 hl2 rO;rw[hik] at hf;have hr:(Builtin.append_ #[T,T] ty #[.slice (some ⟨g,0,none⟩) xs.length c,.slice (some ⟨b2,o2,none⟩) ys.length c2]).run P w=.ok (.slice (some ⟨g,0,none⟩) (xs.length+ys.length) c) w':=by
   simp[Builtin.append_,run_underlying t.l.out,Go.sizeOf,typeInfo,q1,Builtin.lenOf,hroom,hik,hf,add_mid,r1]
  simp[execOp,resolve,invoke,builtin,hg1,f1,hr]
 have holds:∀ j v,cs1[j]?=some v->w.cell? ((⟨g,0,none⟩:Addr).add j)=some v:=λj v hj=>by
  rw[add_mid,cell_of_row _ _ _ _ _ _ a1];have hj':j<cs1.length:=(List.getElem?_eq_some_iff.1 hj).1;simp only[Nat.zero_add,List.getElem?_toArray];rw[List.getElem?_append_left hj'];exact hj
 have hr:=run_append_grow (P:=P) w T ty E i z t.l.out q1 q2 ⟨g,0,none⟩ xs.length c cs1 (by rw[hik];exact hcl) holds ⟨b2,o2,none⟩ ys.length c2 es2 hl2 rO om om (by rw[hib];exact growslice_fits om hb);have hge:=grownCap_ge w (xs.length+ys.length) c E;have hle:=grownCap_le_maxLen w (xs.length+ys.length) c E hl;generalize grownCap w (xs.length+ys.length) c E=c' at hr hge hle;obtain⟨pre',post',hm1',hm2'⟩:=(hm w.heap.size c').parts;have hE:Ext w (w.drew.alloc (.cells (cs1.toArray++es2.toArray++Builtin.zeroCells z.cells (c'-(xs.length+ys.length))) E)):=Ext.trans' (Ext.drew w) (Ext.alloc w.drew _);have hblk:(w.drew.alloc (.cells (cs1.toArray++es2.toArray++Builtin.zeroCells z.cells (c'-(xs.length+ys.length))) E)).heap[w.heap.size]?=some (.cells ((cs1++es2)++(Builtin.zeroCells z.cells (c'-(xs.length+ys.length))).toList).toArray E (0,0)):=by
  rw[show ((cs1++es2)++(Builtin.zeroCells z.cells (c'-(xs.length+ys.length))).toList).toArray=cs1.toArray++es2.toArray++Builtin.zeroCells z.cells (c'-(xs.length+ys.length)) by apply Array.ext';simp];exact heap_alloc_new w.drew _
 rw[hm1'] at hS0;have hd:=hS0.less (m':=pre'++post') sm;obtain⟨ok',r1,r2⟩:=St.newBuf hd hE sm hblk (a2.append e4) (λx hx=>(List.mem_append.1 hx).elim (a3 x) (f6 x)) (c:=c') (by
  simp only[List.length_append,Array.length_toList,size_zeroCells,hzk,hcl,e2,<- Nat.add_mul];congr 1
  omega) hle
 refine⟨_,.slice (some ⟨w.heap.size,0,none⟩) (xs.length+ys.length) c',_,ok',_,by simp[execOp,resolve,invoke,builtin,hg1,f1,hr],RVl rfl,by rw[hm2'];exact r1.perm List.perm_middle,r2,h _ _ hge⟩
theorem VI {b:Nat}[t:TyE P T E k b]{id:Option Value}(h:∀ g' c',ys.length<=c'->AL P N ops Q s rest ((d,.lit (.slice (some ⟨g',0,none⟩) ys.length c'))::e) (.buf g' E k ys c'::m))(hx:ev e xo=some (.lit (.slice none 0 0)):=by exact rfl)(hy:ev e yo=some (.sl k ys id):=by exact rfl)
  (h0:0<ys.length:=by simp) (hb:ys.length*b<=140737488355328:=by first|omega|(simp;done)|(simp;omega)) (hl:ys.length<=maxLen:=by first|(simp[maxLen];done)|(simp[maxLen];omega)) (hd:Nat.blt d N=true:=by exact rfl) :
  AL P N ops Q s (⟨some d,.call ⟨.builtin .append,#[xo,yo],#[T,T]⟩,ty,pos,af,none⟩::rest) e m:=by
 refine mK (λok w B hS hB=>?_) hd;obtain⟨A2,c2,f1,_,f3,f4,f5,f6⟩:=qY (hB.eval hy);obtain⟨i,z,q1,q2,hzk,hik,hib⟩:=t.zero;have hg1:=hB.lit hx;obtain⟨b2,o2,es2,rfl,e2,e3,e4⟩:=f5 h0;have rO:∀ j u,es2[j]?=some u->w.cell? ((⟨b2,o2,none⟩:Addr).add j)=some u:=λj u hj=>by rw[add_mid];exact(e3 j u hj).1
 have hr:=run_append_nil (P:=P) w T ty E i z t.l.out q1 q2 ⟨b2,o2,none⟩ ys.length c2 es2 (by rw[e2,hik]) rO h0 (by simp only[maxLen] at hl;omega) (by rw[hib];omega);have hge:=grownCap_ge w ys.length 0 E;have hle:=grownCap_le_maxLen w ys.length 0 E hl;generalize grownCap w ys.length 0 E=c' at hr hge hle;have hE:Ext w (w.drew.alloc (.cells (es2.toArray++Builtin.zeroCells z.cells (c'-ys.length)) E)):=Ext.trans' (Ext.drew w) (Ext.alloc w.drew _);have hblk:(w.drew.alloc (.cells (es2.toArray++Builtin.zeroCells z.cells (c'-ys.length)) E)).heap[w.heap.size]?=some (.cells (es2++(Builtin.zeroCells z.cells (c'-ys.length)).toList).toArray E (0,0)):=by
  rw[show (es2++(Builtin.zeroCells z.cells (c'-ys.length)).toList).toArray=es2.toArray++Builtin.zeroCells z.cells (c'-ys.length) by apply Array.ext';simp];exact heap_alloc_new w.drew _
 obtain⟨ok',r1,r2⟩:=St.newBuf hS hE sm hblk e4 f6 (c:=c') (by
  simp only[Array.length_toList,size_zeroCells,hzk,e2,<- Nat.add_mul];congr 1
  omega) hle
 exact⟨_,.slice (some ⟨w.heap.size,0,none⟩) ys.length c',_,ok',_,by simp[execOp,resolve,invoke,builtin,hg1,f1,hr],RVl rfl,r1,r2,h _ _ hge⟩
theorem a0E {T2:TypeId}{b:Nat}[t:TyE P T E k b]{g o n cc c:Nat}{id:Option Value}{m':List Piece}(h:AL P N ops Q s rest ((d,int ((min ys.length n:Nat):Int))::e) m')(hx:ev e xo=some (.lit (.slice (some ⟨g,o,none⟩) n cc)):=by exact rfl)(hy:ev e yo=some (.sl k ys id):=by exact rfl)
  (ho:o=j*k:=by first|exact rfl|simp) (hm:Upd m (.buf g E k xs c) (.buf g E k (over xs j (ys.take n)) c) m':=by (repeat (first|apply Av.Upd.here|apply Av.Upd.there))) (hj:j<=xs.length:=by first|omega|(simp;done)|(simp;omega)) (hc:j+n<=c:=by omega) (hd:Nat.blt d N=true:=by exact rfl) :
  AL P N ops Q s (⟨some d,.call ⟨.builtin .copy,#[xo,yo],#[T,T2]⟩,ty,pos,af,none⟩::rest) e m:=by
 refine zQ (v:=int ((min ys.length n:Nat):Int)) (λok w B hS hB=>?_) hd;obtain⟨A2,c2,f1,_,f3,f4,f5,f6⟩:=qY (hB.eval hy);obtain⟨i,z,q1,q2,hzk,hik,hib⟩:=t.zero;have hg1:=hB.lit hx;subst ho;obtain⟨pre,post,rfl,rfl⟩:=hm.parts;have key:∃ news,RCs ok w (ys.take n) news/\(Builtin.firstCells k (Nat.min ys.length n) (.slice A2 ys.length c2)).run P w=.ok news.toArray w:=by
  rcases Nat.eq_zero_or_pos ys.length with h0|h0
  ·have hys:ys=[]:=List.eq_nil_of_length_eq_zero h0;subst hys;refine⟨[],by simp[RCs],?_⟩;cases A2 <;> simp[Builtin.firstCells,loadCells,loadCellsFrom]
  obtain⟨b2,o2,es2,rfl,e2,e3,e4⟩:=f5 h0;have hmin:Nat.min ys.length n<=ys.length:=Nat.min_le_left _ _;have ht:ys.take n=ys.take (Nat.min ys.length n):=by
   rcases Nat.le_total ys.length n with h|h
   ·rw[List.take_of_length_le h,show Nat.min ys.length n=ys.length from Nat.min_eq_left h,List.take_length]
   rw[show Nat.min ys.length n=n from Nat.min_eq_right h]
  have h1:=e4.take f6 hmin;refine⟨_,by rw[ht];exact h1,?_⟩;refine run_firstCells_some (P:=P) w k _ ⟨b2,o2,none⟩ ys.length c2 _ ?_ (λq v hq=>?_)
  ·simp only[List.length_take,e2];have:=Nat.mul_le_mul_right k hmin;omega
  rw[add_mid];have hlt:=(List.getElem?_eq_some_iff.1 hq).1;rw[List.getElem?_take_of_lt (by simp at hlt;omega)] at hq;exact(e3 q v hq).1
 obtain⟨news,hn1,hn2⟩:=key;obtain⟨w',r1,r2,r3⟩:=St.overB (P:=P) hS hn1 (λx hx=>f6 x (List.mem_of_mem_take hx)) hj (by simp;omega);refine⟨.int .i64 (min ys.length n:Nat),w',ok,_,?_,RVl rfl,r2,r3,h⟩;simp only[execOp,resolve,invoke,builtin,hg1,f1,Builtin.copy_,List.map_toArray,List.map_cons,List.map_nil];simp[run_underlying t.l.out,Builtin.lenOf,run_sizeOf t.l.size];have hn2':=hn2
 try simp at hn2'
 rw[hn2'];simp[r1,goInt]
 done
theorem LQ {T2:TypeId}{b:Nat}[t:TyE P T E k b]{g g2 o o2 j2 n n2 cc cc2 c c2:Nat}{m':List Piece}(h:AL P N ops Q s rest ((d,int ((min n2 n:Nat):Int))::e) m')(hx:ev e xo=some (.lit (.slice (some ⟨g,o,none⟩) n cc)):=by exact rfl)(hy:ev e yo=some (.lit (.slice (some ⟨g2,o2,none⟩) n2 cc2)):=by exact rfl)
  (ho:o=j*k:=by first|exact rfl|simp) (ho2:o2=j2*k:=by first|exact rfl|simp) (hm2:Has m (.buf g2 E k ys c2):=by (repeat (first|exact Av.Has.here|apply Av.Has.there))) (hm:Upd m (.buf g E k xs c) (.buf g E k (over xs j ((ys.drop j2).take (min n2 n))) c) m':=by (repeat (first|apply Av.Upd.here|apply Av.Upd.there))) (hj:j<=xs.length:=by first|omega|(simp;done)|(simp;omega)) (hc:j+n<=c:=by omega) (hj2:j2+min n2 n<=ys.length:=by first|omega|(simp;done)|(simp;omega)) (hd:Nat.blt d N=true:=by exact rfl) :
  AL P N ops Q s (⟨some d,.call ⟨.builtin .copy,#[xo,yo],#[T,T2]⟩,ty,pos,af,none⟩::rest) e m:=by
 refine zQ (v:=int ((min n2 n:Nat):Int)) (λok w B hS hB=>?_) hd;have hg1:=hB.lit hx;have hg2:=hB.lit hy;subst ho ho2;obtain⟨cs1,cs2,a1,a2,a3,a4,a5⟩:=hS.at_ _ hm2.mem;obtain⟨pre,post,rfl,rfl⟩:=hm.parts;have h1:=a2.run (a:=j2) (n:=min n2 n) a3 hj2;have hcl:=a2.len a3;have hlen:((cs1.drop (j2*k)).take (min n2 n*k)).length=min n2 n*k:=by
  have:=Nat.mul_le_mul_right k hj2;rw[Nat.add_mul] at this;simp only[List.length_take,List.length_drop,hcl];omega
 have hf:(Builtin.firstCells k (Nat.min n2 n) (.slice (some ⟨g2,j2*k,none⟩) n2 cc2)).run P w=.ok ((cs1.drop (j2*k)).take (min n2 n*k)).toArray w:=by
  refine run_firstCells_some (P:=P) w k _ ⟨g2,j2*k,none⟩ n2 cc2 _ (by rw[hlen]) (λq v hq=>?_);rw[add_mid,cell_of_row _ _ _ _ _ _ a1];have hlt:=(List.getElem?_eq_some_iff.1 hq).1;rw[hlen] at hlt;rw[List.getElem?_take_of_lt hlt,List.getElem?_drop] at hq;have hq':=(List.getElem?_eq_some_iff.1 hq).1;simp only[List.getElem?_toArray];rw[List.getElem?_append_left hq'];exact hq
 obtain⟨w',r1,r2,r3⟩:=St.overB (P:=P) hS h1 (λx hx=>a3 x (List.mem_of_mem_drop (List.mem_of_mem_take hx))) hj (by simp;omega);refine⟨.int .i64 (min n2 n:Nat),w',ok,_,?_,RVl rfl,r2,r3,h⟩;simp only[execOp,resolve,invoke,builtin,hg1,hg2,Builtin.copy_,List.map_toArray,List.map_cons,List.map_nil];simp[run_underlying t.l.out,Builtin.lenOf,run_sizeOf t.l.size]
 try simp at hf
 rw[hf];simp[r1,goInt]
 done
end
end
end Av
