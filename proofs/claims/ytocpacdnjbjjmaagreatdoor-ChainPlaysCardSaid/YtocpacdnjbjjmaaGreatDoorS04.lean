/- . -/
import Derived.Test.YtocpacdnjbjjmaaGreatDoorS03
namespace Tw
open Go Go.RowKit
def Units (vs:List Value):Prop:=∀ x∈vs,X7 x=false
theorem Units.cells {x:Value}(h:X7 x=false):x.cells=#[x]:=by cases x <;> first|rfl|simp[X7] at h
theorem Units.fl {vs:List Value}(h:Units vs):fl vs=vs:=by
 induction vs with
 | nil=>rfl
 | cons v vs ih=>
  rw[lM,Units.cells (h v sm),ih (fun x hx=>h x (by simp[hx]))];rfl
theorem Units.append {a b:List Value}(h:Units a)(k:Units b):Units (a++b):=fun x hx=>(List.mem_append.1 hx).elim (h x) (k x)
theorem Units.cons {v:Value}{vs:List Value}(h:X7 v=false)(k:Units vs):Units (v::vs):=fun x hx=>(List.mem_cons.1 hx).elim (fun e=>e ▸ h) (k x)
theorem Units.nil:Units []:=by simp[Units]
theorem Units.map {α:Type}{f:α->Value}(h:∀ a,X7 (f a)=false)(l:List α):Units (l.map f):=fun x hx=>by
 obtain⟨a,_,rfl⟩:=List.mem_map.1 hx;exact h a
theorem Units.sub {a b:List Value}(h:Units a)(hs:∀ x∈b,x∈a):Units b:=fun x hx=>h x (hs x hx)
theorem Units.set {vs:List Value}{u:Value}(h:Units vs)(hu:X7 u=false)(i:Nat):Units (vs.set i u):=fun x hx=>by
 rcases List.mem_or_eq_of_mem_set hx with hx|rfl
 ·exact h x hx
 ·exact hu
theorem Good.map {α:Type}{f:α->Value}(h:∀ a,Good [f a]):∀ l:List α,Good (l.map f)
 | []=>Good.nil
 | a::l=>by
  rw[List.map_cons,show f a::l.map f=[f a]++l.map f from rfl];exact(h a).append (Good.map h l)
section
variable {P:Program} {N:Nat} {ops:Array Oper} {Q:Exit->Act->World->Prop} {rest:List Oper} {e:Env} {w w':World} {d:Nat} {ty:TypeId} {pos:String} {af:Array Edge} {s:Base} {ok:Nat->Prop} {m:List Piece}
theorem jQ {T E:TypeId}{n k:Nat}[t:TyA P T n E k]{x ix:Operand}{kd:IntKind}{g o:Nat}{i:Int}(j:Nat)(hx:ev e x=some (.pointer (some ⟨g,o,none⟩)))(hi:ev e ix=some (.int kd i))(hj:i=(j:Int))(hlt:j<n)(hd:Nat.blt d N=true)
  (h:WL P N ops Q rest ((d,.pointer (some ⟨g,o+j*k,none⟩))::e) w):WL P N ops Q (⟨some d,.indexAddr T x ix,ty,pos,af,none⟩::rest) e w:=by
 subst hj;have hin:(0:Int)<=(j:Int)/\(j:Int)<(n:Nat):=by omega
 exact O3 (fun B hB=>by
  simp only[execOp,hB.eval hx,hB.eval hi,Instr.indexAt,asIntOf,Instr.sureAddr,Sem.run_bind,Sem.run_pure,Result.andThen_ok,run_underlying t.out,hin,and_self,if_true,run_sizeOf t.sz,Int.toNat_natCast,add_mid]) hd h
theorem kQ {T:TypeId}[t:Ty P T false 1]{x:Operand}{g o:Nat}{T0:TypeId}{vs:List Value}{v:Value}(hS:St s ok m w)(hx:ev e x=some (.pointer (some ⟨g,o,none⟩)))(hm:Has m (.var g T0 vs))(hu:Units vs)
  (hv:vs[o]?=some v) (hd:Nat.blt d N=true) (h:WL P N ops Q rest ((d,v)::e) w):WL P N ops Q (⟨some d,.load T x,ty,pos,af,none⟩::rest) e w:=by
 obtain⟨hb,hg⟩:=hS.at_ _ hm.mem;have hr:=Rg.of_block hb;rw[hu.fl] at hr;have hva:=hu v (List.mem_of_getElem? hv);have hr':=hr.sub o 1;have hlt:o<vs.length:=(List.getElem?_eq_some_iff.1 hv).1;rw[Nat.zero_add,show (vs.drop o).take 1=[v] by rw[List.drop_eq_getElem_cons hlt,List.take_succ_cons,List.take_zero];simp[(List.getElem?_eq_some_iff.1 hv).2]] at hr';have hc:=Units.cells hva;exact DR hx (zT t (v:=v) (by rw[hc];exact hr') (by rw[hc];rfl) sm (fun _=>hc)) hd h
theorem Tt {T:TypeId}{k:Nat}[t:Ty P T true k]{x:Operand}{g o:Nat}{T0:TypeId}{vs xs:List Value}(hS:St s ok m w)(hx:ev e x=some (.pointer (some ⟨g,o,none⟩)))(hm:Has m (.var g T0 vs))(hu:Units vs)
  (hv:(vs.drop o).take k=xs) (hk:xs.length=k) (hd:Nat.blt d N=true) (h:WL P N ops Q rest ((d,st xs)::e) w):WL P N ops Q (⟨some d,.load T x,ty,pos,af,none⟩::rest) e w:=by
 obtain⟨hb,hg⟩:=hS.at_ _ hm.mem;have hr:=Rg.of_block hb;rw[hu.fl] at hr;have hux:Units xs:=hu.sub (fun x hx=>by rw[<- hv] at hx;exact List.mem_of_mem_drop (List.mem_of_mem_take hx));have hr':=hr.sub o k;rw[Nat.zero_add,hv] at hr';have hc:(st xs).cells=xs.toArray:=by simp[st,Value.cells,hux.fl]
 exact DR hx (zT t (v:=st xs) (by rw[hc];exact hr') (by rw[hc];simpa using hk) (fun _=>by simp[st,Value.cells]) sm) hd h
theorem zD {T:TypeId}[t:Ty P T false 1]{x y:Operand}{g o:Nat}{T0:TypeId}{vs:List Value}{u:Value}{m':List Piece}(hS:St s ok m w)(hx:ev e x=some (.pointer (some ⟨g,o,none⟩)))
  (hy:ev e y=some u) (hu:Upd m (.var g T0 vs) (.var g T0 (vs.set o u)) m') (hus:Units vs) (ha:X7 u=false) (h1:Good [u]) (ho:o<vs.length)
  (h:∀ w',St s ok m' w'->Stp ok w ok w'->WL P N ops Q rest e w'):WL P N ops Q (⟨none,.store T x y,ty,pos,af,none⟩::rest) e w:=by
 obtain⟨pre,post,rfl,rfl⟩:=hu.parts;obtain⟨hb,hg⟩:=hS.at_ (.var g T0 vs) sm;have hc:=Units.cells ha;have hrun:=zS (P:=P) t.sz (v:=u) (o:=o) hb (by rw[hc];rfl) (by rw[hus.fl];simp;omega) (by rw[hc];intro v hv;exact h1 v (by rw[lM,hc];simpa using hv));rw[hus.fl,hc] at hrun;have hset:vs.take o++[u]++vs.drop (o+1)=fl (vs.set o u):=by
  rw[(hus.set ha o).fl,List.set_eq_take_append_cons_drop,if_pos ho];simp
 simp only at hrun;rw[hset] at hrun;obtain⟨hS',hE⟩:=hS.write (p:=.var g T0 vs) (p':=.var g T0 (vs.set o u)) (w':=w.setRow g (fl (vs.set o u)).toArray) ⟨setRow_heap w g _ _ T0 (0,0) hb,hg.set (h1.one sm) o⟩ rfl rfl sm rfl rfl rfl (fun b hne=>setRow_other w g b _ hne);exact PS (fun A hA=>by simp[execOp,hA.eval hx,hA.eval hy,Instr.storeAt,Instr.sureAddr,hrun]) (h _ hS' hE)
theorem Sy {T:TypeId}{k:Nat}[t:Ty P T true k]{x y:Operand}{g o:Nat}{T0:TypeId}{vs xs:List Value}{m':List Piece}(hS:St s ok m w)(hx:ev e x=some (.pointer (some ⟨g,o,none⟩)))
  (hy:ev e y=some (st xs)) (hu:Upd m (.var g T0 vs) (.var g T0 (vs.take o++xs++vs.drop (o+k))) m') (hus:Units vs) (hux:Units xs) (h1:Good xs) (hk:xs.length=k) (ho:o+k<=vs.length)
  (h:∀ w',St s ok m' w'->Stp ok w ok w'->WL P N ops Q rest e w'):WL P N ops Q (⟨none,.store T x y,ty,pos,af,none⟩::rest) e w:=by
 obtain⟨pre,post,rfl,rfl⟩:=hu.parts;obtain⟨hb,hg⟩:=hS.at_ (.var g T0 vs) sm;have hc:(st xs).cells=xs.toArray:=by simp[st,Value.cells,hux.fl]
 have hrun:=zS (P:=P) t.sz (v:=st xs) (o:=o) hb (by rw[hc];simpa using hk) (by rw[hus.fl];simpa using ho) (by rw[hc];intro v hv;exact h1 v (by rw[hux.fl];exact hv));rw[hus.fl,hc] at hrun;have hun:Units (vs.take o++xs++vs.drop (o+k)):=((hus.sub fun x hx=>List.mem_of_mem_take hx).append hux).append (hus.sub fun x hx=>List.mem_of_mem_drop hx);simp only at hrun;have hgd:Good (vs.take o++xs++vs.drop (o+k)):=((hg.of_sub fun x hx=>List.mem_of_mem_take hx).append h1).append (hg.of_sub fun x hx=>List.mem_of_mem_drop hx);generalize hw:vs.take o++xs++vs.drop (o+k)=vs' at *;obtain⟨hS',hE⟩:=hS.write (p:=.var g T0 vs) (p':=.var g T0 vs') (w':=w.setRow g vs'.toArray) ⟨by rw[hun.fl];exact setRow_heap w g _ _ T0 (0,0) hb,hgd⟩ rfl rfl sm rfl rfl rfl (fun b hne=>setRow_other w g b _ hne);exact PS (fun A hA=>by simp[execOp,hA.eval hx,hA.eval hy,Instr.storeAt,Instr.sureAddr,hrun]) (h _ hS' hE)
theorem XP {T E:TypeId}{n k:Nat}[t:TyA P T n E k]{x:Operand}{g o:Nat}{xl xh:Option Operand}{il ih:Int}(lo hi:Nat)(hx:ev e x=some (.pointer (some ⟨g,o,none⟩)))
  (hl:bO e 0 xl=some il) (hh:bO e n xh=some ih) (h1:il=(lo:Int)) (h2:ih=(hi:Int)) (h3:lo<=hi) (h4:hi<=n) (h5:lo<n) (hd:Nat.blt d N=true)
  (h:WL P N ops Q rest ((d,.slice (some ⟨g,o+lo*k,none⟩) (hi-lo) (n-lo))::e) w):WL P N ops Q (⟨some d,.slice T x xl xh none,ty,pos,af,none⟩::rest) e w:=by
 subst h1 h2;refine O3 (fun B hB=>?_) hd h;have hb:=zU (P:=P) (w:=w) (sl:=false) (kN hB hl) (kN hB hh) h3 h4;simp only[execOp,hB.eval hx,Instr.sliceAt,Sem.run_bind,run_underlying t.out,Result.andThen_ok,Option.map_none,Instr.sureAddr,Sem.run_pure,hb,run_sizeOf t.sz,if_neg (show ¬ n=lo by omega),add_mid]
theorem Ua {T E:TypeId}{n:Nat}[t:TyA P T n E 1][tE:Ty P E false 1]{x ix:Operand}{kd:IntKind}{i:Int}{xs:List Value}{v:Value}(j:Nat)(hx:ev e x=some (st xs))(hi:ev e ix=some (.int kd i))(hj:i=(j:Int))(hlt:j<n)(hu:Units xs)(hv:xs[j]?=some v)(hd:Nat.blt d N=true)
  (h:WL P N ops Q rest ((d,v)::e) w):WL P N ops Q (⟨some d,.index T x ix,ty,pos,af,none⟩::rest) e w:=by
 subst hj;have hin:(0:Int)<=(j:Int)/\(j:Int)<(n:Nat):=by omega
 have hst:st xs=.agg xs.toArray:=by simp[st,hu.fl]
 rw[hst] at hx;have hpart:(part E xs.toArray (j*1)).run P w=.ok v w:=by
  unfold part;simp only[Sem.run_bind,EO tE,Result.andThen_ok,Nat.mul_one];simp[hv]
 exact O3 (fun B hB=>by
  simp only[execOp,hB.eval hx,hB.eval hi,Instr.index,asIntOf,Sem.run_bind,Sem.run_pure,Result.andThen_ok,run_underlying t.out,hin,and_self,if_true,run_sizeOf t.sz,Int.toNat_natCast,hpart]) hd h
structure Mod (g:Nat)(T:TypeId)(vs:List Value)(w w':World):Prop where
 os:w'.os=w.os
 tape:w'.tape=w.tape
 output:w'.output=w.output
 size:w.heap.size<=w'.heap.size
 keep:∀ b,b<w.heap.size->b≠g->w'.heap[b]?=w.heap[b]?
 var:w'.heap[g]?=some (.cells (fl vs).toArray T (0,0))
 good:Good vs
theorem St.mod {g:Nat}{T:TypeId}{vs vs':List Value}{m':List Piece}{w':World}(hS:St s ok m w)(hu:Upd m (.var g T vs) (.var g T vs') m')(hM:Mod g T vs' w w'):St s ok m' w'/\Stp ok w ok w':=by
 obtain⟨pre,post,rfl,rfl⟩:=hu.parts;have hpm:Piece.var g T vs∈pre++.var g T vs::post:=by simp
 obtain⟨hlt,hno,hold⟩:=hS.own _ hpm g rfl;have hdis:=hS.dis;rw[List.pairwise_append,List.pairwise_cons] at hdis;obtain⟨d1,⟨d2,d3⟩,d4⟩:=hdis;have hne:∀ q,q∈pre\/q∈post->∀ g',q.blk=some g'->g'≠g:=by
  rintro q (hq|hq) g' hg' rfl
  ·exact d4 q hq (.var g' T vs) sm g' hg' rfl
  ·exact d2 q hq g' rfl hg'
 refine⟨⟨hM.os.trans hS.os,hM.tape.trans hS.tape,hM.output.trans hS.output,Nat.le_trans hS.size hM.size,?_,hS.sub,fun b hb=>hS.fresh b (Nat.le_trans hM.size hb),?_,?_,?_⟩,⟨hM.size,fun b hb ho=>⟨hM.keep b hb (by rintro rfl;exact hno ho),ho⟩⟩⟩
 ·intro b hb1 hb2;rw[hM.keep b (Nat.lt_of_lt_of_le hb1 hS.size) (by
   rintro rfl;rcases hold with hold|hold
   ·omega
   ·exact hb2 hold)]
  exact hS.old b hb1 hb2
 ·intro q hq;rw[List.mem_append,List.mem_cons] at hq;have keep:∀ q,q∈pre\/q∈post->q.at_ w':=fun q hq=>by
   have hm':q∈pre++.var g T vs::post:=by rcases hq with hq|hq <;> simp[hq]
   exact Piece.at_of_block (hS.at_ q hm') fun g' hg'=>hM.keep g' (hS.own q hm' g' hg').1 (hne q hq g' hg')
  rcases hq with hq|rfl|hq
  ·exact keep q (.inl hq)
  ·exact⟨hM.var,hM.good⟩
  ·exact keep q (.inr hq)
 ·intro q hq g' hg';rw[List.mem_append,List.mem_cons] at hq;rcases hq with hq|rfl|hq
  ·obtain⟨a,b,c⟩:=hS.own q (by simp[hq]) g' hg';exact⟨Nat.lt_of_lt_of_le a hM.size,b,c⟩
  ·injection hg' with hg'
   subst hg';exact⟨Nat.lt_of_lt_of_le hlt hM.size,hno,hold⟩
  ·obtain⟨a,b,c⟩:=hS.own q (by simp[hq]) g' hg';exact⟨Nat.lt_of_lt_of_le a hM.size,b,c⟩
 ·rw[List.pairwise_append,List.pairwise_cons];exact⟨d1,⟨fun q hq g' hg'=>d2 q hq g' hg',d3⟩,fun q hq r hr g' hg'=>by
   rcases List.mem_cons.1 hr with rfl|hr
   ·intro e;injection e with e
    exact hne q (.inl hq) g' hg' e.symm
   ·exact d4 q hq r (by simp[hr]) g' hg'⟩
theorem St.startM {g:Nat}{T:TypeId}{vs:List Value}{w:World}(ok:Nat->Prop)(hf:∀ b,w.heap.size<=b->ok b)(hb:w.heap[g]?=some (.cells (fl vs).toArray T (0,0)))(hg:Good vs)(hno:¬ ok g) :
  St ⟨w,ok,(·=g)⟩ ok [.var g T vs] w:=
 ⟨rfl,rfl,rfl,Nat.le_refl _,fun _ _ _=>rfl,fun _ h=>h,hf,by simp;exact⟨hb,hg⟩,fun p hp g' hg'=>by
  simp at hp;subst hp;injection hg' with hg'
  subst hg';exact⟨by
   rcases Nat.lt_or_ge g w.heap.size with h|h
   ·exact h
   ·simp[Array.getElem?_eq_none h] at hb,hno,.inr rfl⟩,sm⟩
theorem St.outM {w0:World}{ok0:Nat->Prop}{g:Nat}{T:TypeId}{vs:List Value}(h:St ⟨w0,ok0,(·=g)⟩ ok m w)(hm:Has m (.var g T vs)):Mod g T vs w0 w:=
 ⟨h.os,h.tape,h.output,h.size,fun b hb hne=>h.old b hb hne,(h.at_ _ hm.mem).1,(h.at_ _ hm.mem).2⟩
theorem Ul {f:FuncId}[hf:FnB P f]{xs:List Operand}{ts:Array TypeId}{vs:List Value}{g:Nat}{T:TypeId}{us us':List Value}{m':List Piece}{R:Value->Prop}(hS:St s ok m w)(hx:L8 e xs=some vs)
  (hu:Upd m (.var g T us) (.var g T us') m') (hc:Ret P f vs w fun v w'=>R v/\Mod g T us' w w') (hd:Nat.blt d N=true)
  (h:∀ v w',R v->St s ok m' w'->Stp ok w ok w'->WL P N ops Q rest ((d,v)::e) w'):WL P N ops Q (⟨some d,.call ⟨.value (.func f),xs.toArray,ts⟩,ty,pos,af,none⟩::rest) e w:=
 zF hx hc hd fun v w' ⟨hR,hM⟩=>h v w' hR (hS.mod hu hM).1 (hS.mod hu hM).2
theorem St.keepRg (hS:St s ok m w){b o:Nat}{cs:List Value}(h:Rg s.w b o cs)(hb:¬ s.md b):Rg w b o cs:=by
 obtain⟨C,T,fr,hh,he⟩:=h;exact⟨C,T,fr,by rw[hS.old b (by
  rcases Nat.lt_or_ge b s.w.heap.size with h|h
  ·exact h
  ·simp[Array.getElem?_eq_none h] at hh) hb];exact hh,he⟩
theorem XU {T:TypeId}[t:Ty P T false 1]{x:Operand}{b o:Nat}{cs:List Value}{v:Value}(hx:ev e x=some (.pointer (some ⟨b,o,none⟩)))(hr:Rg w b 0 cs)(hu:Units cs)
  (hv:cs[o]?=some v) (hd:Nat.blt d N=true) (h:WL P N ops Q rest ((d,v)::e) w):WL P N ops Q (⟨some d,.load T x,ty,pos,af,none⟩::rest) e w:=by
 have hva:=hu v (List.mem_of_getElem? hv);have hr':=hr.sub o 1;have hlt:o<cs.length:=(List.getElem?_eq_some_iff.1 hv).1;rw[Nat.zero_add,show (cs.drop o).take 1=[v] by rw[List.drop_eq_getElem_cons hlt,List.take_succ_cons,List.take_zero];simp[(List.getElem?_eq_some_iff.1 hv).2]] at hr';have hc:=Units.cells hva;exact DR hx (zT t (v:=v) (by rw[hc];exact hr') (by rw[hc];rfl) sm (fun _=>hc)) hd h
end
def y8 (x:W32):Value:=.int .u32 (x.toNat:Int)
theorem JH (x:W32):X7 (y8 x)=false:=rfl
theorem JI (x:W32):Good [y8 x]:=by
 intro v hv;simp[fl,y8,Value.cells] at hv;subst hv;rfl
theorem JL (x:UInt8):X7 (j6 x)=false:=rfl
theorem JM (x:UInt8):Good [j6 x]:=by
 intro v hv;simp[fl,j6,Value.cells] at hv;subst hv;rfl
theorem wrap_u32 (n:Nat):IntKind.u32.wrap (n:Int)=((BitVec.ofNat 32 n).toNat:Int):=by
 rw[IntKind.wrap_u32,BitVec.toNat_ofNat];omega
theorem SL (x:W32):BitVec.ofInt IntKind.u32.bits (x.toNat:Int)=x:=by
 show BitVec.ofInt 32 _=x;rw[BitVec.ofInt_natCast];simp
section
variable {P:Program} {N:Nat} {ops:Array Oper} {Q:Exit->Act->World->Prop} {rest:List Oper} {e:Env} {w w':World} {d:Nat} {ty:TypeId} {pos:String} {af:Array Edge} {s:Base} {ok:Nat->Prop} {m:List Piece}
def Oo:BinOp->W32->W32->Option W32
 | .and,a,b=>some (a &&& b)
 | .or,a,b=>some (a ||| b)
 | .xor,a,b=>some (a ^^^ b)
 | _,_,_=>none
theorem XX {op:BinOp}{T yT:TypeId}{x y:Operand}{a b c:W32}(hx:ev e x=some (y8 a))(hy:ev e y=some (y8 b))(hc:Oo op a b=some c)(hd:Nat.blt d N=true)
  (h:WL P N ops Q rest ((d,y8 c)::e) w):WL P N ops Q (⟨some d,.binOp op T x y yT,ty,pos,af,none⟩::rest) e w:=by
 have hb:∀ z:W32,IntKind.u32.wrap (z.toNat:Int)=(z.toNat:Int):=fun z=>by
  rw[wrap_u32];simp
 have key:∀ w,(binOp op T (y8 a) (y8 b)).run P w=.ok (y8 c) w:=fun w=>by
  cases op <;> (first|(cases hc;done)|(injection hc with hc;subst hc;simp only[binOp,y8,Op.intBits,SL,ne_eq,not_true,if_false];exact congrArg (fun n=>Result.ok (Value.int IntKind.u32 n) w) (hb _)))
 exact O3 (jW hx hy (key w)) hd h
theorem Us {T yT:TypeId}{x y:Operand}{a b:W32}(hx:ev e x=some (y8 a))(hy:ev e y=some (y8 b))(hd:Nat.blt d N=true)
  (h:WL P N ops Q rest ((d,y8 (a+b))::e) w):WL P N ops Q (⟨some d,.binOp .add T x y yT,ty,pos,af,none⟩::rest) e w:=by
 refine XZ hx hy rfl hd ?_;have:IntKind.u32.wrap ((a.toNat:Int)+(b.toNat:Int))=((a+b).toNat:Int):=by
  rw[<- Int.natCast_add,wrap_u32,BitVec.ofNat_add];simp
 rw[this];exact h
theorem JD {T yT:TypeId}{yk:IntKind}{x y:Operand}{a:W32}{b:Int}(n:Nat)(hx:ev e x=some (y8 a))(hy:ev e y=some (.int yk b))(hb:b=(n:Int))(hn:n<32)(hd:Nat.blt d N=true)
  (h:WL P N ops Q rest ((d,y8 (a >>> n))::e) w):WL P N ops Q (⟨some d,.binOp .shr T x y yT,ty,pos,af,none⟩::rest) e w:=by
 refine DN n (2 ^ n) hx hy hb (by rw[show min n IntKind.u32.bits=n by show min n 32=n;omega]) hd ?_;have:(a.toNat:Int) / 2 ^ n=((a >>> n).toNat:Int):=by
  rw[BitVec.toNat_ushiftRight,Nat.shiftRight_eq_div_pow];simp
 rw[this];exact h
theorem XQ {T yT:TypeId}{yk:IntKind}{x y:Operand}{a:W32}{b:Int}(n:Nat)(hx:ev e x=some (y8 a))(hy:ev e y=some (.int yk b))(hb:b=(n:Int))(hn:n<32)(hd:Nat.blt d N=true)
  (h:WL P N ops Q rest ((d,y8 (a <<< n))::e) w):WL P N ops Q (⟨some d,.binOp .shl T x y yT,ty,pos,af,none⟩::rest) e w:=by
 have e1:IntKind.u32.wrap ((a.toNat:Int)*2 ^ n)=((a <<< n).toNat:Int):=by
  rw[show (a.toNat:Int)*2 ^ n=((a.toNat*2 ^ n:Nat):Int) by simp,wrap_u32,BitVec.toNat_shiftLeft,Nat.shiftLeft_eq,BitVec.toNat_ofNat]
 exact XR hx hy (fun w=>by
  subst hb;have h0:¬ ((n:Int)<0):=by omega
  have h1:min n IntKind.u32.bits=n:=by show min n 32=n;omega
  simp only[Op.shift,h0,if_false,Int.toNat_natCast,h1,e1];rfl) (.inl rfl) hd h
structure New (g:Nat)(T:TypeId)(vs:List Value)(w w':World):Prop where
 new:w.heap.size<=g
 var:w'.heap[g]?=some (.cells (fl vs).toArray T (0,0))
 good:Good vs
 ext:Ext w w'
theorem St.newOf (hS:St s ok m w){g:Nat}{T:TypeId}{vs:List Value}(hN:New g T vs w w') :
  St s (fun b=>ok b/\b≠g) (.var g T vs::m) w'/\Ex ok w (fun b=>ok b/\b≠g) w':=by
 have he:=hS.ext hN.ext;have hlt:g<w'.heap.size:=by
  rcases Nat.lt_or_ge g w'.heap.size with h|h
  ·exact h
  ·have:=hN.var;simp[Array.getElem?_eq_none h] at this
 refine⟨⟨he.os,he.tape,he.output,he.size,he.old,fun b hb=>hS.sub b hb.1,fun b hb=>⟨he.fresh b hb,om⟩,?_,?_,?_⟩,⟨hN.ext,fun _ hb=>hb.1,fun b hb ho=>⟨ho,by have:=hN.new;omega⟩⟩⟩
 ·intro p hp;rcases List.mem_cons.1 hp with rfl|hp
  ·exact⟨hN.var,hN.good⟩
  ·exact he.at_ p hp
 ·intro p hp g' hg;rcases List.mem_cons.1 hp with rfl|hp
  ·injection hg with hg
   subst hg;exact⟨hlt,fun hh=>hh.2 rfl,.inl (Nat.le_trans hS.size hN.new)⟩
  ·obtain⟨a,b,c⟩:=he.own p hp g' hg;exact⟨a,fun hh=>b hh.1,c⟩
 ·refine List.pairwise_cons.2 ⟨fun q hq g' hg hq'=>?_,hS.dis⟩;injection hg with hg
  subst hg;have:=(hS.own q hq _ hq').1;have:=hN.new;omega
theorem New.of {ok0:Nat->Prop}{g:Nat}{T:TypeId}{vs:List Value}(h:St ⟨w,ok0,fun _=>False⟩ ok m w')(hm:Has m (.var g T vs))(hg:w.heap.size<=g):New g T vs w w':=
 ⟨hg,(h.at_ _ hm.mem).1,(h.at_ _ hm.mem).2,h.out⟩
theorem Ui {S D:TypeId}{a:Bool}{kz:Nat}[Ty P S a kz][t:TyI P D .u32]{x:Operand}{b:UInt8}(hx:ev e x=some (j6 b))(hd:Nat.blt d N=true)
  (h:WL P N ops Q rest ((d,y8 (nH b))::e) w):WL P N ops Q (⟨some d,.convert S D x,ty,pos,af,none⟩::rest) e w:=by
 refine JE (k':=.u32) hx hd ?_;have:Value.int .u32 (IntKind.u32.wrap (b.toNat:Int))=y8 (nH b):=by rw[wrap_u32];rfl
 rw[this];exact h
theorem Ud {T E:TypeId}{n k:Nat}[t:TyA P T n E k]{x ix:Operand}{kd:IntKind}{g o:Nat}{i:Int}(hx:ev e x=some (.pointer (some ⟨g,o,none⟩)))(hi:ev e ix=some (.int kd i))(hj:i=Int.ofNat i.toNat)(hlt:Nat.blt i.toNat n=true)(hd:Nat.blt d N=true)
  (h:WL P N ops Q rest ((d,.pointer (some ⟨g,o+i.toNat*k,none⟩))::e) w):WL P N ops Q (⟨some d,.indexAddr T x ix,ty,pos,af,none⟩::rest) e w:=
 jQ i.toNat hx hi hj (nlb hlt) hd h
theorem Ub {S E:TypeId}{k bS:Nat}[t:TyL P S E k bS]{x ix:Operand}{kd:IntKind}{i:Int}{b o n c:Nat}(j:Nat)(hx:ev e x=some (.slice (some ⟨b,o,none⟩) n c))(hi:ev e ix=some (.int kd i))(hj:i=(j:Int))(hlt:j<n)(hd:Nat.blt d N=true)
  (h:WL P N ops Q rest ((d,.pointer (some ⟨b,o+j*k,none⟩))::e) w):WL P N ops Q (⟨some d,.indexAddr S x ix,ty,pos,af,none⟩::rest) e w:=by
 subst hj;have hin:(0:Int)<=(j:Int)/\(j:Int)<(n:Nat):=by omega
 exact O3 (fun B hB=>by
  simp only[execOp,hB.eval hx,hB.eval hi,Instr.indexAt,asIntOf,Sem.run_bind,Sem.run_pure,Result.andThen_ok,run_underlying t.out,hin,and_self,if_true,run_sizeOf t.size,Int.toNat_natCast,add_mid]) hd h
theorem Ug {T E T2:TypeId}{b:Nat}[t:TyL P T E 1 b]{x y:Operand}{g o n c:Nat}{T0:TypeId}{vs:List Value}{a:Bs}{m':List Piece}(hS:St s ok m w)(hx:ev e x=some (.slice (some ⟨g,o,none⟩) n c))(hy:ev e y=some (sv a))
  (hu:Upd m (.var g T0 vs) (.var g T0 (vs.take o++(a.take n).map j6++vs.drop (o+(a.take n).length))) m') (hus:Units vs) (ho:o+n<=vs.length) (hd:Nat.blt d N=true)
  (h:∀ w',St s ok m' w'->Stp ok w ok w'->WL P N ops Q rest ((d,.int .i64 ((a.take n).length:Nat))::e) w'):WL P N ops Q (⟨some d,.call ⟨.builtin .copy,#[x,y],#[T,T2]⟩,ty,pos,af,none⟩::rest) e w:=by
 obtain⟨pre,post,rfl,rfl⟩:=hu.parts;obtain⟨hb,hg⟩:=hS.at_ (.var g T0 vs) sm;have hua:Units ((a.take n).map j6):=Units.map JL _;have hga:Good ((a.take n).map j6):=Good.map JM _;have hcl:((a.take n).map j6).length=(a.take n).length:=by simp
 have hkn:(a.take n).length=Nat.min a.length n:=by rw[List.length_take,Nat.min_comm]
 have hle:(a.take n).length<=n:=by rw[List.length_take];omega
 have hrun:=run_storeCells_at (P:=P) g o T0 ((a.take n).map j6) 0 (fl vs).toArray w hb (by rw[hus.fl,hcl];simp only[List.size_toArray];omega) (fun v hv=>hga v (by rw[hua.fl];exact hv));rw[hus.fl,hcl] at hrun;simp only[Nat.add_zero] at hrun;have hun:Units (vs.take o++(a.take n).map j6++vs.drop (o+(a.take n).length)):=((hus.sub fun x hx=>List.mem_of_mem_take hx).append hua).append (hus.sub fun x hx=>List.mem_of_mem_drop hx);have hgd:Good (vs.take o++(a.take n).map j6++vs.drop (o+(a.take n).length)):=((hg.of_sub fun x hx=>List.mem_of_mem_take hx).append hga).append (hg.of_sub fun x hx=>List.mem_of_mem_drop hx);have hcells:(((⟨a.toArray⟩:ByteArray).extract 0 (Nat.min a.length n)).data.map fun b=>Value.int .u8 (b.toNat:Int)).toList=(a.take n).map j6:=by
  rw[ByteArray.data_extract,Array.toList_map];have:(a.toArray.extract 0 (Nat.min a.length n)).toList=a.take n:=by
   simp only[Array.toList_extract,List.extract,List.drop_zero,Nat.sub_zero];rw[<- hkn];simp
  rw[this];rfl
 generalize hw:vs.take o++(a.take n).map j6++vs.drop (o+(a.take n).length)=vs' at *;obtain⟨hS',hE⟩:=hS.write (p:=.var g T0 vs) (p':=.var g T0 vs') (w':=w.setRow g vs'.toArray) ⟨by rw[hun.fl];exact setRow_heap w g _ _ T0 (0,0) hb,hgd⟩ rfl rfl sm rfl rfl rfl (fun b hne=>setRow_other w g b _ hne);refine O3 (fun B hB=>?_) hd (h _ hS' hE);simp only[execOp,resolve,invoke,builtin,hB.eval hx,hB.eval hy,Builtin.copy_,List.map_toArray,List.map_cons,List.map_nil];simp[run_underlying t.out,Builtin.lenOf,run_sizeOf t.size,Builtin.firstCells,jS];have e5:List.take (Nat.min a.length n) (List.map (fun b:UInt8=>Value.int .u8 (b.toNat:Int)) a)=(a.take n).map j6:=by
  rw[<- List.map_take];show (a.take (min a.length n)).map j6=_;rw[Nat.min_comm,<- List.take_take,List.take_length]
 have e6:(Nat.min a.length n:Nat)=min n a.length:=Nat.min_comm _ _;rw[e5,hrun,e6];rfl
theorem St.varAt (hS:St s ok m w){g:Nat}{T:TypeId}{vs:List Value}(hm:Has m (.var g T vs)):w.heap[g]?=some (.cells (fl vs).toArray T (0,0)):=(hS.at_ _ hm.mem).1
theorem St.reseg (hS:St s ok m w){g:Nat}{T:TypeId}{vs vs':List Value}{m':List Piece}(hu:Upd m (.var g T vs) (.var g T vs') m')(he:fl vs=fl vs'):St s ok m' w:=by
 obtain⟨pre,post,rfl,rfl⟩:=hu.parts;have hd:=hS.dis;refine⟨hS.os,hS.tape,hS.output,hS.size,hS.old,hS.sub,hS.fresh,?_,?_,?_⟩
 ·intro p hp;rcases List.mem_append.1 hp with hp|hp
  ·exact hS.at_ p (by simp[hp])
  ·rcases List.mem_cons.1 hp with rfl|hp
   ·obtain⟨h1,h2⟩:=hS.at_ (.var g T vs) sm;refine⟨by rw[<- he];exact h1,?_⟩;unfold Good;rw[<- he];exact h2
   ·exact hS.at_ p (by simp[hp])
 ·intro p hp g' hg';rcases List.mem_append.1 hp with hp|hp
  ·exact hS.own p (by simp[hp]) g' hg'
  ·rcases List.mem_cons.1 hp with rfl|hp
   ·exact hS.own (.var g T vs) sm g' hg'
   ·exact hS.own p (by simp[hp]) g' hg'
 ·rw[List.pairwise_append,List.pairwise_cons] at hd ⊢;obtain⟨d1,⟨d2,d3⟩,d4⟩:=hd;refine⟨d1,⟨fun q hq g' hg'=>d2 q hq g' hg',d3⟩,fun q hq r hr=>?_⟩;rcases List.mem_cons.1 hr with rfl|hr
  ·exact d4 q hq (.var g T vs) sm
  ·exact d4 q hq r (by simp[hr])
theorem Late.sl {m0:List Piece}{ok0:Nat->Prop}{w0:World}{E:TypeId}{k:Nat}{v:Value}{vs:List Value}(h:Late s m0 ok0 w0 (fun v ok w=>Sl ok w E k v vs) v ok w):Sl ok w E k v vs:=by
 obtain⟨_,_,h1,_,_,h4⟩:=h;exact h1.stp h4.stp
theorem St.keepSl (hS:St s ok m w){ok0:Nat->Prop}{E:TypeId}{k:Nat}{v:Value}{vs:List Value}(h:Sl ok0 s.w E k v vs)(hb:∀ b,ok0 b->¬ s.md b):Sl ok0 w E k v vs:=by
 obtain⟨h1,h2,A,c,hv,hc,hm,hr⟩:=h;refine⟨h1,h2,A,c,hv,hc,hm,fun hn=>?_⟩;obtain⟨b,o,hA,ho,e,hg⟩:=hr hn;exact⟨b,o,hA,ho,e,hS.keepRg hg (hb b ho)⟩
end
end Tw
