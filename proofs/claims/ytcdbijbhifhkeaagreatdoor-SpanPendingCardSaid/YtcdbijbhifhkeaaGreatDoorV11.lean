/- . -/
import Derived.Laws.StructEq
import Derived.ChangeKeysEq
import Derived.Test.YtcdbijbhifhkeaaGreatDoorV10
namespace Av
open Go Go.RowKit Tw
section
variable {o:Oper}{x y:Operand}{T:TypeId}{ts:Array TypeId}{xs:Array Operand}{fn:Func}
class Mixed (P:Program):Prop where
 out:P.follows .mixedOrders=true
section
variable {P:Program} {N:Nat} {Q:Exit->Act->World->Prop} {e:Env} {s:Base} {m T:List Piece} {gl:List (Nat × AV)} {l os:List Oper} {i:Nat} {E:Env} {rs:List Rec} {d:Nat} {op:Op} {ty:TypeId} {pos:String} {af:Array Edge} {gd:Option (Nat × Bool)} {C D:List Piece} {x:AV}
theorem A7 (ho:o.dst=some d)(hx:lk e d=some x):AE N .normal (Exit.then (Got s o m x) Q) s e m:=AE.mk λok w a hS ha=>⟨ha.defers,ok,hS,λd' hd'=>by
 rw[ho] at hd';injection hd' with hd'
 subst hd';exact ha.env d x hx⟩
theorem jJ (ho:o.dst=none):AE N .normal (Exit.then (Got s o m x) Q) s e m:=AE.mk λok w a hS ha=>⟨ha.defers,ok,hS,λd' hd'=>by rw[ho] at hd';cases hd'⟩
theorem a5t (h:AE N .normal Q s E T):Obl P N Q s gl l [] i T E rs:=by
 unfold Obl;exact h
theorem E8 (F:List Nat)(h1:dM T F=some C)(h2:iE 0 F=true)(h3:wP l i F false rs=true)(hop:∀ s':Base,s'.gl=gl->AL P N l.toArray (Exit.then (Got s' ⟨some d,op,ty,pos,af,gd⟩ C x) λ_ _ _=>False) s' [⟨some d,op,ty,pos,af,gd⟩] (pick E (rJ l ⟨some d,op,ty,pos,af,gd⟩)) C)
  (hrest:Obl P N Q s gl l os (i+1) T ((d,x)::E) (rs++[⟨F,C,C,[],false,false,x⟩])):Obl P N Q s gl l (⟨some d,op,ty,pos,af,gd⟩::os) i T E rs:=by
 unfold Obl;exact .inl ⟨F,C,C,x,false,h1,rfl,λ_=>rfl,h2,h3,hop,hrest⟩
theorem zd (F:List Nat)(h:dM T F=some C/\iE 0 F=true/\wP l i F false rs=true)(hop:∀ s':Base,s'.gl=gl->AL P N l.toArray (Exit.then (Got s' ⟨some d,op,ty,pos,af,gd⟩ C x) λ_ _ _=>False) s' [⟨some d,op,ty,pos,af,gd⟩] (pick E (rJ l ⟨some d,op,ty,pos,af,gd⟩)) C)(hrest:Obl P N Q s gl l os (i+1) T ((d,x)::E) (rs++[⟨F,C,C,[],false,false,x⟩])):Obl P N Q s gl l (⟨some d,op,ty,pos,af,gd⟩::os) i T E rs:=E8 F h.1 h.2.1 h.2.2 hop hrest
theorem lX (F:List Nat)(h1:dM T F=some C)(h2:iE 0 F=true)(h3:wP l i F true rs=true)(hop:∀ s':Base,s'.gl=gl->AL P N l.toArray (Exit.then (Got s' ⟨some d,op,ty,pos,af,gd⟩ D x) λ_ _ _=>False) s' [⟨some d,op,ty,pos,af,gd⟩] (pick E (rJ l ⟨some d,op,ty,pos,af,gd⟩)) C)
  (hl:Nat.beq D.length C.length=true) {T':List Piece} (hT:X9 T F D=T') (hrest:Obl P N Q s gl l os (i+1) T' ((d,x)::E) (rs++[⟨F,C,D,[],true,false,x⟩])):Obl P N Q s gl l (⟨some d,op,ty,pos,af,gd⟩::os) i T E rs:=by
 subst hT;unfold Obl;exact .inl ⟨F,C,D,x,true,h1,Nat.eq_of_beq_eq_true hl,sm,h2,h3,hop,by simpa[Q0] using hrest⟩
theorem iX (F:List Nat)(h1:dM T F=some C)(h2:iE 0 F=true)(h3:wP l i F true rs=true)(hop:∀ s':Base,s'.gl=gl->AL P N l.toArray (Exit.then (Got s' ⟨none,op,ty,pos,af,gd⟩ D (.tup [])) λ_ _ _=>False) s' [⟨none,op,ty,pos,af,gd⟩] (pick E (rJ l ⟨none,op,ty,pos,af,gd⟩)) C)
  (hl:Nat.beq D.length C.length=true) {T':List Piece} (hT:X9 T F D=T') (hrest:Obl P N Q s gl l os (i+1) T' E (rs++[⟨F,C,D,[],true,false,.tup []⟩])):Obl P N Q s gl l (⟨none,op,ty,pos,af,gd⟩::os) i T E rs:=by
 subst hT;unfold Obl;exact .inl ⟨F,C,D,.tup [],true,h1,Nat.eq_of_beq_eq_true hl,sm,h2,h3,hop,by simpa[Q0] using hrest⟩
theorem aH (F:List Nat)(h1:dM T F=some C)(h2:iE 0 F=true)(h3:wP l i F true rs=true)(h4:Qh l i=true)(hop:∀ s':Base,s'.gl=gl->AL P N l.toArray (Exit.then (λa w=>∃ D N' x,D.length=C.length/\Got s' ⟨some d,op,ty,pos,af,gd⟩ (D++N') x a w/\Obl P N Q s gl l os (i+1) (X9 T F D++N') ((d,x)::E) (rs++[⟨F,C,D,N',true,true,x⟩])) λ_ _ _=>False) s' [⟨some d,op,ty,pos,af,gd⟩] (pick E (rJ l ⟨some d,op,ty,pos,af,gd⟩)) C) :
  Obl P N Q s gl l (⟨some d,op,ty,pos,af,gd⟩::os) i T E rs:=by
 unfold Obl;exact .inr (.inl ⟨F,C,h1,h2,h3,.inl h4,hop⟩)
def PT (P:Program):List TypeId->Prop
 | []=>True
 | T::Ts=>(∃ z,TyO P T z)/\PT P Ts
def UA (l:List Oper):List TypeId:=(List.range l.length).filterMap λi=>bif uZ l i then (l[i]?).bind λo=>(match o.op with|.alloc T=>some T|_=>none) else none
theorem Fw {Ts:List TypeId}(h:PT P Ts)(hT:UA l=Ts):ZZ P l:=λk o T ho hf hop=>by
 have h1:T∈UA l:=by
  refine List.mem_filterMap.2 ⟨k,by simpa using (List.getElem?_eq_some_iff.1 ho).1,?_⟩;rw[hf,cond_true,ho];simp[hop]
 rw[hT] at h1;clear hT
 induction Ts with
 | nil=>simp at h1
 | cons a Ts ih=>
  rcases List.mem_cons.1 h1 with rfl|h1
  ·exact h.1
  exact ih h.2 h1
theorem NT (Ts:List TypeId)(F:List Nat)(h1:dM T F=some C)(h2:iE 0 F=true)(h3:wP l i F true rs=true)(h4:Af l i=true)(hT:UA l=Ts)(hz:PT P Ts)(hop:∀ s':Base,s'.gl=gl->AL P N l.toArray (Exit.then (λa w=>∃ D N' x,D.length=C.length/\Got s' ⟨some d,op,ty,pos,af,gd⟩ (D++N') x a w/\Obl P N Q s gl l os (i+1) (X9 T F D++N') ((d,x)::E) (rs++[⟨F,C,D,N',true,true,x⟩])) λ_ _ _=>False) s' [⟨some d,op,ty,pos,af,gd⟩] (pick E (rJ l ⟨some d,op,ty,pos,af,gd⟩)) C) :
  Obl P N Q s gl l (⟨some d,op,ty,pos,af,gd⟩::os) i T E rs:=by
 unfold Obl;exact .inr (.inl ⟨F,C,h1,h2,h3,.inr ⟨h4,Fw hz hT⟩,hop⟩)
theorem YW {Ty:TypeId}{z:AV}[t:TyO P Ty z](Ts:List TypeId)(h3:uZ l i=true)(h4:Af l i=true)(hT:UA l=Ts)(hz:PT P Ts)(h:∀ g,Obl P N Q s gl l os (i+1) (T++[.var g Ty z]) ((d,ptr g)::E) (rs++[⟨[],[],[],[.var g Ty z],true,true,ptr g⟩])) :
  Obl P N Q s gl l (⟨some d,.alloc Ty,ty,pos,af,gd⟩::os) i T E rs:=by
 unfold Obl;exact .inr (.inr ⟨d,Ty,z,h3,rfl,rfl,.inr ⟨h4,Fw hz hT⟩,t,h⟩)
theorem W9 {K:List Piece->List Piece->AV->Prop}(D N':List Piece)(ho:o.dst=some d)(hx:lk e d=some x)(hm:m.Perm (D++N'))(hl:Nat.beq D.length C.length=true)(h:K D N' x):AE N .normal (Exit.then (λa w=>∃ D N' x,D.length=C.length/\Got s o (D++N') x a w/\K D N' x) Q) s e m:=AE.mk λok w a hS ha=>
 ⟨D,N',x,Nat.eq_of_beq_eq_true hl,⟨ha.defers,ok,hS.perm hm.symm,λd' hd'=>by
  rw[ho] at hd';injection hd' with hd'
  subst hd';exact ha.env d x hx⟩,h⟩
theorem b3R [hm:Mixed P]{id:Nat}(hg:s.gl=gl)(hc:GY N l=true)(ho:Obl P N Q s gl l l 0 m e []):AC P N (.region id l.toArray true) Q s e m:=b3S hm.out hg hc ho
end
structure Wr (p:Prop):Prop where
 o:p
section
variable {P:Program} {N:Nat} {ops:Array Oper} {Q:Exit->Act->World->Prop} {rest l:List Oper} {s:Base} {e:Env} {m:List Piece} {dst:Option Nat} {ty:TypeId} {pos:String} {af:Array Edge}
/- which kind of step is next -/
theorem kL (h:AL P N ops Q s l e m):AL P N ops Q s l e m:=h
theorem kG {op:Op}{g:Nat × Bool}(h:AL P N ops Q s (⟨dst,op,ty,pos,af,some g⟩::rest) e m):AL P N ops Q s (⟨dst,op,ty,pos,af,some g⟩::rest) e m:=h
theorem a6N (h:AL P N ops Q s (⟨dst,.move x,ty,pos,af,none⟩::rest) e m):AL P N ops Q s (⟨dst,.move x,ty,pos,af,none⟩::rest) e m:=h
theorem a6O (h:AL P N ops Q s (⟨dst,.load T x,ty,pos,af,none⟩::rest) e m):AL P N ops Q s (⟨dst,.load T x,ty,pos,af,none⟩::rest) e m:=h
theorem a6L (h:AL P N ops Q s (⟨dst,.store T x y,ty,pos,af,none⟩::rest) e m):AL P N ops Q s (⟨dst,.store T x y,ty,pos,af,none⟩::rest) e m:=h
theorem a6P {i:Nat}(h:AL P N ops Q s (⟨dst,.fieldAddr T x i,ty,pos,af,none⟩::rest) e m):AL P N ops Q s (⟨dst,.fieldAddr T x i,ty,pos,af,none⟩::rest) e m:=h
theorem a6R {f:FuncId}(h:AL P N ops Q s (⟨dst,.call ⟨.value (.func f),xs,ts⟩,ty,pos,af,none⟩::rest) e m):AL P N ops Q s (⟨dst,.call ⟨.value (.func f),xs,ts⟩,ty,pos,af,none⟩::rest) e m:=h
theorem a6Q (h:AL P N ops Q s (⟨dst,.call ⟨.value x,xs,ts⟩,ty,pos,af,none⟩::rest) e m):AL P N ops Q s (⟨dst,.call ⟨.value x,xs,ts⟩,ty,pos,af,none⟩::rest) e m:=h
theorem a6S {b:Builtin}(h:AL P N ops Q s (⟨dst,.call ⟨.builtin b,xs,ts⟩,ty,pos,af,none⟩::rest) e m):AL P N ops Q s (⟨dst,.call ⟨.builtin b,xs,ts⟩,ty,pos,af,none⟩::rest) e m:=h
theorem Ao {op:BinOp}{yT:TypeId}(h:AL P N ops Q s (⟨dst,.binOp op T x y yT,ty,pos,af,none⟩::rest) e m):AL P N ops Q s (⟨dst,.binOp op T x y yT,ty,pos,af,none⟩::rest) e m:=h
theorem kUn {op:UnOp}(h:AL P N ops Q s (⟨dst,.unOp op T x,ty,pos,af,none⟩::rest) e m):AL P N ops Q s (⟨dst,.unOp op T x,ty,pos,af,none⟩::rest) e m:=h
theorem Qo {S D:TypeId}(h:AL P N ops Q s (⟨dst,.convert S D x,ty,pos,af,none⟩::rest) e m):AL P N ops Q s (⟨dst,.convert S D x,ty,pos,af,none⟩::rest) e m:=h
theorem a6M {z:Operand}(h:AL P N ops Q s (⟨dst,.pick x y z,ty,pos,af,none⟩::rest) e m):AL P N ops Q s (⟨dst,.pick x y z,ty,pos,af,none⟩::rest) e m:=h
theorem a6T {ps:Array (Nat × Operand)}(h:AL P N ops Q s (⟨dst,.build T ps,ty,pos,af,none⟩::rest) e m):AL P N ops Q s (⟨dst,.build T ps,ty,pos,af,none⟩::rest) e m:=h
end
theorem M8 {G G':Prop}(h:G')(i:Wr G'->G:=by
 intro h;refine kL ?_;first
 | (refine a6N ?_;exact b2w h.o)
 | (refine a6O ?_;first|exact bV h.o|exact b2I h.o)
 | (refine a6L ?_;exact gW h.o)
 | (refine a6P ?_;first|exact b2R h.o|exact b2Q h.o)
 | (refine a6R ?_;first|exact a0I h.o|exact dH h.o|exact al_callMS h.o)
 | (refine a6Q ?_;exact b3c h.o)
 | (refine a6S ?_;first|exact b2L h.o|exact b2J h.o|exact b2K h.o|exact b3b h.o|exact b2x h.o|exact b2y h.o)
 | (refine Ao ?_;first|exact b2Z h.o|exact b3o h.o|exact b2Y h.o|exact b3a h.o|exact a0G h.o|exact b2l h.o|exact al_slNc h.o|exact PP h.o|exact Et h.o)
 | (refine kUn ?_;first|exact b2s h.o|exact a0r h.o)
 | (refine Qo ?_;first|exact b2W h.o|exact EQ h.o|exact b1X h.o|exact Em h.o|exact b3g h.o)
 | (refine a6M ?_;first|exact b2m h.o|exact b2n h.o)
 | (refine a6T ?_;first|exact b3k h.o|exact b3j h.o)
 | (refine kG ?_;first|exact D5 h.o|exact H6 h.o|exact al_offN h.o|exact U3 h.o|exact al_offTN h.o)
 | exact b2T h.o|exact b3n h.o|exact b2S h.o|exact b2t h.o|exact Ey h.o|exact a0M h.o|exact b2O h.o|exact Z0 h.o|exact b2b h.o):G:=i ⟨h⟩
theorem Q4 {G G':Prop}(h:G')(i:Wr G'->G:=by intro h;exact b3i h.o):G:=i ⟨h⟩
section
variable {P:Program} {N:Nat} {Q:Exit->Act->World->Prop} {s:Base} {e:Env} {m T:List Piece} {c:Code} {x:Exit} {gl:List (Nat × AV)} {l os:List Oper} {i:Nat} {rs:List Rec}
theorem kA (h:AC P N c Q s e m):AC P N c Q s e m:=h
theorem kE (h:AE N x Q s e m):AE N x Q s e m:=h
theorem kO (h:Obl P N Q s gl l os i T e rs):Obl P N Q s gl l os i T e rs:=h
end
theorem iP {G G':Prop}(h:G')(i:Wr G'->G:=by
 intro h;first
 | exact j5 h.o
 | (refine kA ?_;first|exact LW h.o|exact yK h.o|exact Fh h.o|exact a0V h.o|exact b3T h.o|exact b3O h.o|exact Fu h.o|exact a0U h.o|exact b3P h.o|exact b3Q h.o)
 | (refine kE ?_;first|exact BS h.o|exact ae_noGoto h.o|exact yI h.o|exact VL h.o|exact b3z h.o|exact b3C h.o|exact VM h.o|exact Ff h.o|exact b3B h.o|exact ae_noGotoX h.o)):G:=i ⟨h⟩
theorem rG {G G':Prop}(h:G')(i:Wr G'->G:=by
 intro h;refine kO ?_;first
 | exact a5t h.o
 | (apply zd [];exact zg;(intro _ _;(first|refine M8 ?_|refine Q4 ?_);first|exact j5 (A7 rfl rfl)|((first|refine M8 ?_|refine Q4 ?_);exact j5 (A7 rfl rfl)));exact h.o)
 | (apply zd [0];exact zg;(intro _ _;(first|refine bV ?_|refine dH ?_|(refine D5 ?_;first|refine bV ?_|refine dH ?_));exact j5 (A7 rfl rfl));exact h.o)
 | (apply zd [1];exact zg;(intro _ _;(first|refine bV ?_|refine dH ?_|(refine D5 ?_;first|refine bV ?_|refine dH ?_));exact j5 (A7 rfl rfl));exact h.o)
 | (apply zd [2];exact zg;(intro _ _;(first|refine bV ?_|refine dH ?_|(refine D5 ?_;first|refine bV ?_|refine dH ?_));exact j5 (A7 rfl rfl));exact h.o)
 | (apply zd [3];exact zg;(intro _ _;(first|refine bV ?_|refine dH ?_|(refine D5 ?_;first|refine bV ?_|refine dH ?_));exact j5 (A7 rfl rfl));exact h.o)
 | (apply zd [4];exact zg;(intro _ _;(first|refine bV ?_|refine dH ?_|(refine D5 ?_;first|refine bV ?_|refine dH ?_));exact j5 (A7 rfl rfl));exact h.o)
 | (apply zd [5];exact zg;(intro _ _;(first|refine bV ?_|refine dH ?_|(refine D5 ?_;first|refine bV ?_|refine dH ?_));exact j5 (A7 rfl rfl));exact h.o)
 | (apply zd [6];exact zg;(intro _ _;(first|refine bV ?_|refine dH ?_|(refine D5 ?_;first|refine bV ?_|refine dH ?_));exact j5 (A7 rfl rfl));exact h.o)
 | (apply zd [7];exact zg;(intro _ _;(first|refine bV ?_|refine dH ?_|(refine D5 ?_;first|refine bV ?_|refine dH ?_));exact j5 (A7 rfl rfl));exact h.o)
 | (apply iX [0];exact rfl;exact rfl;kernel_rfl;(intro _ _;(first|refine gW ?_|refine al_callMS ?_|(refine D5 ?_;first|refine gW ?_|refine al_callMS ?_));exact j5 (jJ rfl));exact rfl;exact rfl;exact h.o)
 | (apply iX [1];exact rfl;exact rfl;kernel_rfl;(intro _ _;(first|refine gW ?_|refine al_callMS ?_|(refine D5 ?_;first|refine gW ?_|refine al_callMS ?_));exact j5 (jJ rfl));exact rfl;exact rfl;exact h.o)
 | (apply iX [2];exact rfl;exact rfl;kernel_rfl;(intro _ _;(first|refine gW ?_|refine al_callMS ?_|(refine D5 ?_;first|refine gW ?_|refine al_callMS ?_));exact j5 (jJ rfl));exact rfl;exact rfl;exact h.o)
 | (apply iX [3];exact rfl;exact rfl;kernel_rfl;(intro _ _;(first|refine gW ?_|refine al_callMS ?_|(refine D5 ?_;first|refine gW ?_|refine al_callMS ?_));exact j5 (jJ rfl));exact rfl;exact rfl;exact h.o)
 | (apply iX [4];exact rfl;exact rfl;kernel_rfl;(intro _ _;(first|refine gW ?_|refine al_callMS ?_|(refine D5 ?_;first|refine gW ?_|refine al_callMS ?_));exact j5 (jJ rfl));exact rfl;exact rfl;exact h.o)
 | (apply iX [5];exact rfl;exact rfl;kernel_rfl;(intro _ _;(first|refine gW ?_|refine al_callMS ?_|(refine D5 ?_;first|refine gW ?_|refine al_callMS ?_));exact j5 (jJ rfl));exact rfl;exact rfl;exact h.o)
 | (apply iX [6];exact rfl;exact rfl;kernel_rfl;(intro _ _;(first|refine gW ?_|refine al_callMS ?_|(refine D5 ?_;first|refine gW ?_|refine al_callMS ?_));exact j5 (jJ rfl));exact rfl;exact rfl;exact h.o)
 | (apply iX [7];exact rfl;exact rfl;kernel_rfl;(intro _ _;(first|refine gW ?_|refine al_callMS ?_|(refine D5 ?_;first|refine gW ?_|refine al_callMS ?_));exact j5 (jJ rfl));exact rfl;exact rfl;exact h.o)
 | (apply lX [0];exact rfl;exact rfl;kernel_rfl;(intro _ _;refine dH ?_;exact j5 (A7 rfl rfl));exact rfl;exact rfl;exact h.o)
 | (apply lX [1];exact rfl;exact rfl;kernel_rfl;(intro _ _;refine dH ?_;exact j5 (A7 rfl rfl));exact rfl;exact rfl;exact h.o)
 | (apply lX [2];exact rfl;exact rfl;kernel_rfl;(intro _ _;refine dH ?_;exact j5 (A7 rfl rfl));exact rfl;exact rfl;exact h.o)
 | (apply lX [3];exact rfl;exact rfl;kernel_rfl;(intro _ _;refine dH ?_;exact j5 (A7 rfl rfl));exact rfl;exact rfl;exact h.o)
 | (apply lX [4];exact rfl;exact rfl;kernel_rfl;(intro _ _;refine dH ?_;exact j5 (A7 rfl rfl));exact rfl;exact rfl;exact h.o)
 | (apply lX [5];exact rfl;exact rfl;kernel_rfl;(intro _ _;refine dH ?_;exact j5 (A7 rfl rfl));exact rfl;exact rfl;exact h.o)
 | (apply lX [6];exact rfl;exact rfl;kernel_rfl;(intro _ _;refine dH ?_;exact j5 (A7 rfl rfl));exact rfl;exact rfl;exact h.o)
 | (apply lX [7];exact rfl;exact rfl;kernel_rfl;(intro _ _;refine dH ?_;exact j5 (A7 rfl rfl));exact rfl;exact rfl;exact h.o)):G:=i ⟨h⟩
theorem p9 {G:Prop}{G':Nat->Prop}(h:∀ g,G' g)(i:(∀ g,Wr (G' g))->G:=by
 intro h;apply aH [];exact rfl;exact rfl;kernel_rfl;kernel_rfl;intro _ _;first|refine Ey (λg=>?_)|refine a0M (λg=>?_)
 refine j5 (W9 [] [.var g _ _] rfl rfl lpr rfl ?_);exact(h g).o):G:=i λg=>⟨h g⟩
theorem GR {P:Program}[Mixed P]{N:Nat}{Q:Exit->Act->World->Prop}{e:Env}{s:Base}{m:List Piece}{gl:List (Nat × AV)}{l:List Oper}{id:Nat}(hg:s.gl=gl)(ho:Obl P N Q s gl l l 0 m e [])(hc:GY N l=true:=by kernel_rfl):AC P N (.region id l.toArray true) Q s e m:=b3R hg hc ho
theorem W {G G':Prop}(h:G')(i:Wr G'->G:=by intro h;first|exact iP h.o|exact M8 h.o|exact Q4 h.o|exact rG h.o|exact GR (by assumption) h.o):G:=i ⟨h⟩
theorem Wz {G G':Prop}(h:G')(i:Wr G'->G:=by intro h;first|exact W h.o|exact p9 h.o):G:=i ⟨h⟩
theorem A8 {G:Prop}(i:G:=by exact zb):G:=i
section
variable {P:Program} {N:Nat} {ops:Array Oper} {Q:Exit->Act->World->Prop} {rest:List Oper} {s:Base} {e:Env} {m:List Piece} {d:Nat} {ty:TypeId} {pos:String} {af:Array Edge}
theorem fE {op:Op}{dst:Option Nat}{g t:Nat}{b:Bool}{p:Prop}[Decidable p](h1:p->AL P N ops Q s (⟨dst,op,ty,pos,af,some (g,b)⟩::rest) ((t,.lit (.bool true))::e) m)
  (h2:¬ p->AL P N ops Q s (⟨dst,op,ty,pos,af,some (g,b)⟩::rest) ((t,.lit (.bool false))::e) m) (_ht:(ops[g]?).bind (·.dst)=some t:=by exact rfl) (hc:lk e t=some (.lit (.bool (decide p))):=by exact rfl):AL P N ops Q s (⟨dst,op,ty,pos,af,some (g,b)⟩::rest) e m:=Er t h1 h2 hc
theorem x9 {out:AV}{rs:List ResultVar}{vs:List AV}(h:L6 vs=out)(hr:fn.results=rs.toArray:=by exact rfl)(hh:Ress P N s e m rs vs:=by
  repeat (first|exact Av.xQ|(apply Av.CU;(first|(apply Av.CV;exact rfl;exact rfl)|(apply Av.RH;exact rfl;(repeat (first|exact Av.Has.here|apply Av.Has.there));exact rfl))))):AE N .ret (bodyPost P fn (Back s λv m'=>v=out/\m'=[])) s e m:=
 IK hr hh (.inl rfl) ⟨h,rfl⟩ (List.nil_sublist _)
theorem j4 {K:AV->List Piece->Prop}{rs:List ResultVar}{vs:List AV}(m':List Piece)(h:K (L6 vs) m')(hm:m'.Sublist m)(hr:fn.results=rs.toArray:=by exact rfl)(hh:Ress P N s e m rs vs:=by
  repeat (first|exact Av.xQ|(apply Av.CU;(first|(apply Av.CV;exact rfl;exact rfl)|(apply Av.RH;exact rfl;(repeat (first|exact Av.Has.here|apply Av.Has.there));exact rfl))))):AE N .ret (bodyPost P fn (Back s K)) s e m:=
 IK hr hh (.inl rfl) h hm
theorem iV {K:AV->List Piece->Prop}(m':List Piece)(h:K (.tup []) m')(hm:m'.Sublist m)(hr:fn.results=([]:List ResultVar).toArray:=by exact rfl):AE N .normal (bodyPost P fn (Back s K)) s e m:=
 IK (vs:=[]) hr xQ (.inr rfl) h hm
end
theorem jY {G:Prop} (i:G:=by (repeat' first|refine Wz ?_|intro);exact x9 rfl):G:=i
end
end Av

namespace Tw
theorem a0W:∀ (n:Nat) (x:H8) (l:Bs),xG x (n+1) l=OZ (xG x n l) ((l.drop (64*n)).take 64)
 | 0,x,l=>by simp[xG]
 | n+1,x,l=>by
  rw[xG,a0W n,xG];simp only[List.drop_drop];rw[show 64*(n+1)=64+64*n by omega]
theorem Fv:∀ (n:Nat) (x:H8) (l l':Bs),l.take (64*n)=l'.take (64*n)->xG x n l=xG x n l'
 | 0,x,l,l',_=>rfl
 | n+1,x,l,l',h=>by
  have h1:l.take 64=l'.take 64:=by
   have:=congrArg (List.take 64) h
   rwa [List.take_take,List.take_take,Nat.min_eq_left om] at this
  have h2:(l.drop 64).take (64*n)=(l'.drop 64).take (64*n):=by
   have:=congrArg (List.drop 64) h
   rwa [List.drop_take,List.drop_take,show 64*(n+1)-64=64*n by omega] at this
  rw[xG,xG,h1,Fv n _ _ _ h2]
structure HS (M:Bs)(x:H8)(buf:Bs):Prop where
 len:buf.length=64
 x:x=xG h0 (M.length / 64) M
 buf:buf.take (M.length%64)=M.drop (64*(M.length / 64))
theorem HS.nil:HS [] h0 (zeros 64):=⟨rfl,rfl,rfl⟩
def jB (buf:Bs)(at_:Nat)(s:Bs):Bs:=buf.take at_++s++buf.drop (at_+s.length)
theorem TM {buf s:Bs}{at_:Nat}(h:at_+s.length<=buf.length):(jB buf at_ s).length=buf.length:=by
 simp[jB];omega
theorem HS.full {M s buf:Bs}{x:H8}(h:HS M x buf)(hs:M.length%64+s.length=64):HS (M++s) (OZ x (jB buf (M.length%64) s)) (jB buf (M.length%64) s):=by
 have hl:=h.len;have e1:(M++s).length / 64=M.length / 64+1:=by rw[lla];omega
 have e2:(M++s).length%64=0:=by rw[lla];omega
 have e3:jB buf (M.length%64) s=M.drop (64*(M.length / 64))++s:=by
  unfold jB;rw[h.buf,List.drop_of_length_le (l:=buf) om,List.append_nil]
 refine⟨by rw[TM om];exact hl,?_,?_⟩
 ·rw[e1,a0W,h.x];congr 1
  ·apply Fv;rw[List.take_append_of_le_length om]
  rw[e3,List.drop_append_of_le_length om,List.take_of_length_le];simp;omega
 rw[e2,e1,List.take_zero,List.drop_of_length_le];simp;omega
theorem HS.part {M s buf:Bs}{x:H8}(h:HS M x buf)(hs:M.length%64+s.length<64):HS (M++s) x (jB buf (M.length%64) s):=by
 have hl:=h.len;have e1:(M++s).length / 64=M.length / 64:=by rw[lla];omega
 have e2:(M++s).length%64=M.length%64+s.length:=by rw[lla];omega
 refine⟨by rw[TM om];exact hl,?_,?_⟩
 ·rw[e1,h.x];apply Fv;rw[List.take_append_of_le_length om]
 rw[e1,e2,List.drop_append_of_le_length om,<- h.buf];unfold jB;have hb:(buf.take (M.length%64)).length=M.length%64:=by simp;omega
 rw[List.take_append_of_le_length (by rw[lla,hb];omega),List.take_of_length_le (by rw[lla,hb];omega)]
theorem H8.bytes_len (x:H8):x.bytes.length=32:=rfl
theorem a2M (s:Bs):(QO s).length=32:=rfl
theorem b1t (N:Nat):∀ i,i<8->(vI N)[7-i]?=some (UInt8.ofNat (N / 2 ^ (8*i)))
 | 0,_=>by simp[vI]
 | 1,_|2,_|3,_|4,_|5,_|6,_|7,_=>rfl
theorem b0Y (x:H8):∀ i,i<32->x.bytes[i]?=some (UInt8.ofNat ((x.words.getD (i / 4) 0).toNat / 2 ^ (24-8*(i%4))))
 | 3,_|7,_|11,_|15,_|19,_|23,_|27,_|31,_=>by simp[H8.bytes,zX,H8.words]
 | 0,_|1,_|2,_|4,_|5,_|6,_|8,_|9,_|10,_|12,_|13,_|14,_|16,_|17,_|18,_|20,_|21,_|22,_|24,_|25,_|26,_|28,_|29,_|30,_=>rfl
 | n+32,h=>absurd h om
theorem a2L {M:Bs}{x:H8}{buf:Bs}(h:HS (pad M) x buf):x.bytes=QO M:=by rw[h.x];rfl
end Tw

namespace Tw
open Go Go.RowKit
structure Hsh where
 l:Bs
 len:l.length=32
theorem Hsh.ext' {a b:Hsh}(h:a.l=b.l):a=b:=by cases a;cases b;simp_all
instance : DecidableEq Hsh := λa b => if h : a.l = b.l then isTrue (Hsh.ext' h) else isFalse λe => h (by rw[e])
def hcs (h:Hsh):List Value:=(List.range 32).map λi=>y8 (h.l.getD i 0)
def hv (h:Hsh):Value:=.agg (hcs h).toArray
def G8:Hsh:=⟨zeros 32,by simp[zeros]⟩
theorem Rw (h:Hsh):hcs h=h.l.map y8:=by
 apply List.ext_getElem
 ·simp[hcs,h.len]
 intro i h1 h2;have:i<h.l.length:=by simpa using h2
 simp[hcs,this]
def nX (s:Bs):Hsh:=⟨QO s,a2M s⟩
structure Ent where
 key:Bs
 val:Bs
deriving DecidableEq
end Tw

namespace Av
open Go Go.RowKit Tw
abbrev I5 (c:UInt8):AV:=.lit (y8 c)
abbrev K5:AV:=.lit (.slice none 0 0)
def hA (h:Hsh):AV:=.agg 32 (h.l.map I5)
theorem RCs_u8 {ok:Ok}{w:World}:∀ l:Bs,RCs ok w (l.map I5) (l.map y8)
 | []=>by rw[List.map_nil,RCs];rfl
 | c::l=>by
  rw[List.map_cons,RCs];exact⟨[y8 c],l.map y8,rfl,by rw[RC];exact⟨rfl,rfl⟩,RCs_u8 l⟩
theorem RCs_u8_eq {ok:Ok}{w:World}:∀ {l:Bs} {cs:List Value},RCs ok w (l.map I5) cs->cs=l.map y8
 | [],cs,h=>by rw[List.map_nil,RCs] at h;exact h
 | c::l,cs,h=>by
  rw[List.map_cons,RCs] at h;obtain⟨c1,c2,rfl,h1,h2⟩:=h;rw[RC] at h1;rw[h1.1,RCs_u8_eq h2];rfl
theorem a7E {ok:Ok}{w:World}{h:Hsh}{v:Value}(hr:RV ok w (hA h) v):v=hv h:=by
 obtain⟨h1,h2⟩:=(show RV0 ok w (.agg 32 (h.l.map I5)) v from hr);rw[VJ h2.symm];rw[RC] at h1;have:=RCs_u8_eq h1.2;unfold hv;rw[Rw,<- this]
abbrev J4 (x:Ent):AV:=.agg 2 [str x.key,str x.val]
class Strs (xs:List AV)(l:outParam (List Bs)):Prop where
 out:xs=l.map str
instance : Strs [] [] := ⟨rfl⟩
instance {a:Bs}{xs:List AV}{l:List Bs}[h:Strs xs l]:Strs (str a::xs) (a::l):=⟨by rw[h.out];rfl⟩
instance {l:List Bs}:Strs (l.map str) l:=⟨rfl⟩
class Ents (xs:List AV)(l:outParam (List Ent)):Prop where
 out:xs=l.map J4
instance : Ents [] [] := ⟨rfl⟩
instance {a b:Bs}{xs:List AV}{l:List Ent}[h:Ents xs l]:Ents (.agg 2 [str a,str b]::xs) (⟨a,b⟩::l):=⟨by rw[h.out];rfl⟩
instance {l:List Ent}:Ents (l.map J4) l:=⟨rfl⟩
class Hshs (xs:List AV)(l:outParam (List Hsh)):Prop where
 out:xs=l.map hA
instance : Hshs [] [] := ⟨rfl⟩
instance {a:Hsh}{xs:List AV}{l:List Hsh}[h:Hshs xs l]:Hshs (hA a::xs) (a::l):=⟨by rw[h.out];rfl⟩
instance {l:List Hsh}:Hshs (l.map hA) l:=⟨rfl⟩
instance {xs:List AV}{l:List Hsh}{i:Nat}[h:Hshs xs l]:Hshs (xs.take i) (l.take i):=⟨by rw[h.out,List.map_take]⟩
instance {xs:List AV}{l:List Hsh}{i:Nat}[h:Hshs xs l]:Hshs (xs.drop i) (l.drop i):=⟨by rw[h.out,List.map_drop]⟩
instance {xs ys:List AV}{l k:List Hsh}[h:Hshs xs l][g:Hshs ys k]:Hshs (xs++ys) (l++k):=⟨by rw[h.out,g.out,List.map_append]⟩
instance {xs:List AV}{l:List Ent}{i:Nat}[h:Ents xs l]:Ents (xs.take i) (l.take i):=⟨by rw[h.out,List.map_take]⟩
instance {xs:List AV}{l:List Ent}{i:Nat}[h:Ents xs l]:Ents (xs.drop i) (l.drop i):=⟨by rw[h.out,List.map_drop]⟩
instance {xs ys:List AV}{l k:List Ent}[h:Ents xs l][g:Ents ys k]:Ents (xs++ys) (l++k):=⟨by rw[h.out,g.out,List.map_append]⟩
theorem a2u {P:Program}{gl:List (Nat × AV)}{f:FuncId}{args:List AV}{out:AV}(h:∀ ok w cargs,(∀ b j,w.heap.size<=b->ok b j)->Glob gl ok w->RVs ok w args cargs->Ret P f cargs w λv w'=>(∃ ok',RV ok' w' out v/\Stp ok w ok' w'/\(∀ b j,b<w.heap.size->ok' b j->ok b j)/\∀ b j,w'.heap.size<=b->ok' b j)/\Ext w w'):SpecE P gl f args out:=Spec.mk λok w cargs hS hv=>by
 have h1:=h ok w cargs hS.fresh hS.gl hv;unfold Ret at h1;refine Calls.mono h1 λx w' hx=>?_;obtain⟨v,rfl,⟨ok',g1,g2,g3,g4⟩,g5⟩:=hx;refine⟨out,[],ok',v,⟨rfl,rfl⟩,rfl,g1,?_⟩;exact⟨g5.os,g5.tape,g5.output,g2,λb hb _=>g5.block b hb,λb j hb _ ho=>g3 b j hb ho,g4,sm,sm,sm,sm,hS.gl.stp g2⟩
theorem a2v {P:Program}{gl:List (Nat × AV)}{f:FuncId}{args:List AV}{out:AV}(h:∀ ok w cargs,Glob gl ok w->RVs ok w args cargs->Ret P f cargs w λv w'=>(∀ ok w,RV ok w out v)/\Ext w w'):SpecE P gl f args out:=
 a2u λok w cargs hf hg hv=>by
  refine(h ok w cargs hg hv).mono λv w' hh=>⟨⟨ok,hh.1 _ _,Ext.astp hh.2 ok,λ_ _ _ h=>h,λb j hb=>hf b j (Nat.le_trans hh.2.size hb)⟩,hh.2⟩
def OwnK (E k:Nat)(xs:List AV)(v:AV)(m:List Piece):Prop:=(xs=[]/\v=K5/\m=[])\/∃ g c,v=.lit (.slice (some ⟨g,0,none⟩) xs.length c)/\m=[.buf g E k xs c]/\xs.length<=c

theorem Y8 {G G':Prop}(h:G')(i:Wr G'->G:=by
 intro h;first
 | exact b3m h.o|exact b3t h.o|exact al_not32 h.o|exact b2X h.o|exact PQ 24 h.o|exact PQ 16 h.o|exact PQ 8 h.o|exact VF 3 h.o|exact VF 10 h.o):G:=i ⟨h⟩
theorem aB {G G':Prop}(h:G')(i:Wr G'->G:=by
 intro h
 (apply zd [];exact zg;(intro _ _;refine Y8 ?_;exact j5 (A7 rfl rfl));exact h.o)):G:=i ⟨h⟩
section
variable {P:Program} {N:Nat} {ops:Array Oper} {Q:Exit->Act->World->Prop} {rest:List Oper} {s:Base} {e:Env} {m:List Piece} {d:Nat} {ty:TypeId} {pos:String} {af:Array Edge}
end

instance : DecidableEq Hsh := λa b => if h : a.l = b.l then isTrue (Hsh.ext' h) else isFalse λe => h (by rw[e])
instance : DecidableEq Ent := λa b => if h : a.key = b.key /\ a.val = b.val then isTrue (by cases a; cases b; simp_all) else isFalse λe => h (by rw[e]; exact⟨rfl, rfl⟩)
class Shp (a:AV)(n:outParam Nat)(g:outParam Bool):Prop where
 sz:a.size=n
 ag:a.isAgg=g
instance {v:Value}:Shp (.lit v) 1 false:=⟨rfl,rfl⟩
instance {n:Nat}{ps:List AV}:Shp (.agg n ps) n true:=⟨rfl,rfl⟩
instance {h:Hsh}:Shp (hA h) 32 true:=⟨rfl,rfl⟩
class TyB (P:Program)(T:TypeId):Prop where
 out:P.underlying T=some .bool
def Ud (P:Program)(T:TypeId):Option (List (TypeId × Nat × Nat)):=match P.underlying T with
 | some (.struct fs) => bif fs.toList.all (fun f => f.name != "_") && !P.stoodInHeld T then some (fs.toList.map fun f => (f.type, f.offset, P.cellsOf f.type)) else none
 | _=>none
def UQ:Nat->List (TypeId × Nat × Nat)->Bool
 | _,[]=>true
 | o,(_,off,k)::l=>Nat.beq off o&&UQ (o+k) l
class TyQ (P:Program)(T:TypeId)(l:outParam (List (TypeId × Nat × Nat))):Prop where
 out:Ud P T=some l
 chain:UQ 0 l=true
class Eqv (P:Program)(T:TypeId)(a b:AV)(k:outParam Nat)(c:outParam Bool):Prop where
 run:∀ {ok:Ok} {w:World} {va vb:Value} (d:Nat),k<=d->RV0 ok w a va->RV0 ok w b vb->(Op.equalIn (d+1) T va vb).run P w=.ok c w
theorem b1n {α:Type}[DecidableEq α](a b:α):(a == b)=decide (a=b):=rfl
instance {P:Program}{T:TypeId}[t:TyB P T]{a b:Bool}:Eqv P T (d9 a) (d9 b) 0 (decide (a=b)):=⟨λd _ ha hb=>by
 rw[RV0.lit ha,RV0.lit hb,run_equalIn_bool _ d T a b t.out];rfl⟩
instance {P:Program}{T:TypeId}{k:IntKind}[t:TyI P T k]{a b:Int}:Eqv P T (.lit (.int k a)) (.lit (.int k b)) 0 (decide (a=b)):=⟨λd _ ha hb=>by
 rw[RV0.lit ha,RV0.lit hb,run_equalIn_int _ d T k k a b t.out];rfl⟩
theorem a2i (a b:Bs):((⟨a.toArray⟩:ByteArray).toList == (⟨b.toArray⟩:ByteArray).toList)=decide (a=b):=by
 rw[ByteArray.toList_eq,ByteArray.toList_eq];show (a == b)=decide (a=b);by_cases h:a=b <;> simp[h]
instance {P:Program}{T:TypeId}[t:TyT P T]{a b:Bs}:Eqv P T (str a) (str b) 0 (decide (a=b)):=⟨λd _ ha hb=>by
 rw[RV0.lit ha,RV0.lit hb];show (Op.equalIn (d+1) T (.string ⟨a.toArray⟩) (.string ⟨b.toArray⟩)).run P _=_;rw[run_equalIn_string _ d T _ _ t.out,a2i]⟩
theorem Ue {P:Program}{e:TypeId}(he:P.underlying e=some (.int .u8))(w:World)(d:Nat):∀ (n o:Nat) (la lb:Bs),la.length=o+n->lb.length=o+n ->
  (Op.eqItems (d+1) e 1 (la.map y8).toArray (lb.map y8).toArray (List.range' o n)).run P w=.ok (decide (la.drop o=lb.drop o)) w
 | 0,o,la,lb,h1,h2=>by
  rw[List.drop_of_length_le (l:=la) om,List.drop_of_length_le (l:=lb) om];simp[Op.eqItems]
 | n+1,o,la,lb,h1,h2=>by
  have hp:P.plainKey e=true:=by simp[Program.plainKey,he]
  have hla:o<la.length:=om
  have hlb:o<lb.length:=om
  have ea:(la.map y8).toArray[o*1]?=some (y8 la[o]):=by simp[hla]
  have eb:(lb.map y8).toArray[o*1]?=some (y8 lb[o]):=by simp[hlb]
  have hq:(Op.equalIn (d+1) e (y8 la[o]) (y8 lb[o])).run P w=.ok (decide (la[o]=lb[o])) w:=by
   unfold y8;rw[run_equalIn_int _ d e _ _ _ _ he];congr 1
   rw[b1n,decide_eq_decide]
   constructor
   ·intro h;exact UInt8.toNat_inj.1 om
   intro h;rw[h]
  rw[List.range'_succ];simp only[Op.eqItems,Sem.run_bind,run_part_plain w hp ea,run_part_plain w hp eb,Result.andThen_ok,hq];rw[List.drop_eq_getElem_cons hla,List.drop_eq_getElem_cons hlb];by_cases h:la[o]=lb[o]
  ·simp only[h,decide_true,Bool.not_true,Bool.false_eq_true,if_false,Ue he w d n (o+1) la lb om om,List.cons.injEq,true_and]
  have hf:decide (la[o]::la.drop (o+1)=lb[o]::lb.drop (o+1))=false:=by
   rw[decide_eq_false_iff_not,List.cons.injEq];exact λe=>h e.1
  rw[hf];simp[h]
theorem Rc {P:Program}{T:TypeId}{k:Nat}(h:(P.info? T).map (·.size)=some k):∃ i,P.info? T=some i/\P.cellsOf T=k:=by
 cases hi:P.info? T with
 | none=>simp[hi] at h
 | some i=>exact⟨i,rfl,by simpa[Program.cellsOf,hi] using h⟩
theorem Rx {ok:Ok}{w:World}{h:Hsh}{v:Value}(hr:RV0 ok w (hA h) v):v=.agg (h.l.map y8).toArray:=by
 have:=a7E (RV.of0 hr);rw[this];unfold hv;rw[Rw]
instance {P:Program}{T e:TypeId}[t:TyA P T 32 e 1][te:TyI P e .u8]{a b:Hsh}:Eqv P T (hA a) (hA b) 1 (decide (a=b)):=⟨fun {ok w va vb} d hd ha hb=>by
 rw[Rx ha,Rx hb];obtain⟨i,hi,hc⟩:=Rc t.sz;obtain⟨d,rfl⟩:∃ d',d=d'+1:=⟨d-1,om⟩;rw[run_equalIn_array w (d+1) _ _ t.out hi,hc,List.range_eq_range',Ue te.out w d 32 0 a.l b.l (by rw[a.len]) (by rw[b.len])];congr 1
 rw[decide_eq_decide,List.drop_zero,List.drop_zero];exact⟨Hsh.ext',λh=>by rw[h]⟩⟩
class EqvS (P:Program)(l:List (TypeId × Nat × Nat))(as bs:List AV)(k:outParam Nat)(c:outParam Bool):Prop where
 run:∀ {ok:Ok} {w:World} (d:Nat),k<=d->∀ {o:Nat} {x y ca cb:List Value},x.length=o->y.length=o->UQ o l=true->RCs ok w as ca->RCs ok w bs cb ->
  ∀ fs : List Field, fs.map (fun f => (f.type, f.offset, P.cellsOf f.type)) = l → (∀ f ∈ fs, (f.name != "_") = true) → (Op.eqFields (d + 1) (x ++ ca).toArray (y ++ cb).toArray fs).run P w = .ok c w
instance {P:Program}:EqvS P [] [] [] 0 true:=⟨fun {ok w} d _ {o x y ca cb} _ _ _ _ _ fs hf _=>by
 obtain rfl:fs=[]:=by simpa using hf
 simp[Op.eqFields]⟩
instance {P:Program}{T:TypeId}{off s:Nat}{g:Bool}{a b:AV}{l:List (TypeId × Nat × Nat)}{as bs:List AV}{k k2:Nat}{c c2:Bool}[t:Ty P T g s][sa:Shp a s g][sb:Shp b s g][h:Eqv P T a b k c][h2:EqvS P l as bs k2 c2]:EqvS P ((T,off,s)::l) (a::as) (b::bs) (k+k2) (c&&c2):=⟨fun {ok w} d hd {o x y ca cb} hx hy hch ha hb fs hf hn=>by
 obtain⟨f,fs,rfl⟩:∃ f fs',fs=f::fs':=by
  cases fs with
  | nil=>simp at hf
  | cons f fs=>exact⟨f,fs,rfl⟩
 simp only[List.map_cons,List.cons.injEq,Prod.mk.injEq] at hf;obtain⟨⟨e1,e2,e3⟩,hf⟩:=hf;simp only[UQ,Bool.and_eq_true] at hch;obtain⟨h3,h4⟩:=hch;have h3:=Nat.eq_of_beq_eq_true h3;subst h3;rw[RCs] at ha hb;obtain⟨a1,a2,rfl,ga1,ga2⟩:=ha;obtain⟨b1,b2,rfl,gb1,gb2⟩:=hb;have la:a1.length=s:=by rw[ga1.len,sa.sz]
 have lb:b1.length=s:=by rw[gb1.len,sb.sz]
 have hname:=hn f sm;have hpa:=Av.QT (P:=P) t (x:=x) (c:=a1) (y:=a2) ga1 la sa.ag;have hpb:=Av.QT (P:=P) t (x:=y) (c:=b1) (y:=b2) gb1 lb sb.ag;rw[hx] at hpa;rw[hy] at hpb;have hq:=h.run (d:=d) om (RV0.mk ga1) (RV0.mk gb1);rw[sa.ag,sb.ag] at hq;have hrest:=h2.run (d:=d) om (o:=off+s) (x:=x++a1) (y:=y++b1) (by simp[hx,la]) (by simp[hy,lb]) h4 ga2 gb2 fs hf (λq hq=>hn q (by simp[hq]))
 have hne : f.name ≠ "_" := by simpa using hname
 subst e1 e2;rw[<- laa,<- laa];simp only[Op.eqFields,hne,ne_eq,not_false_eq_true,if_true,Sem.run_bind,hpa,hpb,Result.andThen_ok,hq];cases c
 ·simp
 simpa using hrest⟩
instance {P:Program}{T:TypeId}{l:List (TypeId × Nat × Nat)}{n:Nat}{as bs:List AV}{k:Nat}{c:Bool}[t:TyQ P T l][h:EqvS P l as bs k c]:Eqv P T (.agg n as) (.agg n bs) (k+1) c:=⟨fun {ok w va vb} d hd ha hb=>by
 obtain⟨d,rfl⟩:∃ d',d=d'+1:=⟨d-1,om⟩;have hq:=t.out;unfold Ud at hq;split at hq
 ·rename_i fs hu
  cases hb1 : (fs.toList.all (fun f => f.name != "_") && !P.stoodInHeld T) with
  | false=>rw[hb1] at hq;cases hq
  | true=>
   rw[hb1,cond_true] at hq;injection hq with hq
   simp only[Bool.and_eq_true,Bool.not_eq_true'] at hb1;obtain⟨cs1,rfl,g1⟩:=LV (RV.of0 ha);obtain⟨cs2,rfl,g2⟩:=LV (RV.of0 hb);rw[RC] at g1 g2;have hfo:P.fieldsOf T=fs:=by simp[Program.fieldsOf,hu]
   rw[run_equalIn_struct w (d+1) T _ _ (by rw[hfo];exact hu) hb1.2,hfo];have:=h.run (d:=d) om (o:=0) (x:=[]) (y:=[]) rfl rfl t.chain g1.2 g2.2 fs.toList hq (λf hf=>List.all_eq_true.1 hb1.1 f hf);simpa using this
 cases hq⟩
class NoG (P:Program)(T:TypeId):Prop where
 out:P.eqGuardType P.depth T=false
section
variable {P:Program} {N:Nat} {ops:Array Oper} {Q:Exit->Act->World->Prop} {rest:List Oper} {s:Base} {e:Env} {m:List Piece} {d:Nat} {ty:TypeId} {pos:String} {af:Array Edge}
theorem a0C {op:BinOp}{T yT:TypeId}{x y:Operand}{a b:AV}{k:Nat}{c r:Bool}(h:AL P N ops Q s rest ((d,d9 r)::e) m)(hx:ev e x=some a:=by exact rfl)(hy:ev e y=some b:=by exact rfl)(hE:Eqv P T a b k c:=by infer_instance)(hG:NoG P T:=by infer_instance)(hk:Nat.ble k 9999=true:=by exact rfl)
  (ha:a.isAgg=true:=by exact rfl) (hb:b.isAgg=true:=by exact rfl) (hc:yC op c=some r:=by exact rfl) (hd:Nat.blt d N=true:=by exact rfl):AL P N ops Q s (⟨some d,.binOp op T x y yT,ty,pos,af,none⟩::rest) e m:=
 dR (λok w A _ hA=>by
  have g1:=(hA.eval hx).to0 (by rintro vs rfl;simp[AV.isAgg] at ha);have g2:=(hA.eval hy).to0 (by rintro vs rfl;simp[AV.isAgg] at hb);have v1:A.eval x=.agg (A.eval x).cells:=VJ (by rw[<- g1.2,ha]);have v2:A.eval y=.agg (A.eval y).cells:=VJ (by rw[<- g2.2,hb]);have hk:=nlb hk;have hr:=hE.run 9999 hk g1 g2;refine⟨.bool r,?_,RVl rfl⟩;have hgd:(eqGuard op T x y (A.eval x) (A.eval y)).run P w=.ok () w:=by
   rw[v1,v2];unfold eqGuard;cases op <;> simp[hG.out]
  exact FD rfl rfl (by rw[v1];simp) (by rw[v1];simp) (by rw[v1];simp) (by rw[v1];simp) hgd (by unfold Op.equal;exact hr) hc) hd h
end
end Av
