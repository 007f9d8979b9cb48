/- . -/
import Derived.Laws.IdiomStrings
import Derived.ArgAppend
import Derived.Test.YtcdbijbhifhkeaaGreatDoorV04
namespace Av
open Go Go.RowKit Tw
section
variable {vals zs:List AV}{k:Nat}{w:World}{E T:TypeId}{fr:Nat × Nat}
section
variable {ok:Ok} {w:World}
def PR (ok:Ok)(w:World):List AV->List Value->Prop
 | [],us=>us=[]
 | z::zs,us=>∃ u r,us=u::r/\RC ok w z u.cells.toList/\PR ok w zs r
theorem PR.cells:∀ {zs:List AV} {us:List Value},PR ok w zs us->RCs ok w zs (fl us)
 | [],_,h=>by rw[show _=[] from h,RCs];rfl
 | z::zs,_,⟨u,r,h1,h2,h3⟩=>by
  subst h1;rw[RCs];exact⟨_,_,rfl,h2,h3.cells⟩
theorem RCs.parts:∀ {zs:List AV} {cs:List Value},RCs ok w zs cs->∃ us,fl us=cs/\PR ok w zs us
 | [],cs,h=>by
  rw[RCs] at h;exact⟨[],h.symm,rfl⟩
 | z::zs,cs,h=>by
  rw[RCs] at h;obtain⟨c1,c2,rfl,h2,h3⟩:=h;obtain⟨us,rfl,g⟩:=h3.parts;exact⟨.agg c1.toArray::us,by simp[Value.cells],_,_,rfl,by simpa[Value.cells] using h2,g⟩
theorem PR.of_vs:∀ {as:List AV} {vs:List Value},RVs ok w as vs->PR ok w as vs
 | [],_,h=>h
 | _::_,_,⟨u,us,h1,h2,h3⟩=>⟨u,us,h1,h2.1,PR.of_vs h3⟩
theorem PR.length:∀ {zs:List AV} {us:List Value},PR ok w zs us->us.length=zs.length
 | [],_,h=>by rw[show _=[] from h];rfl
 | _::_,_,⟨_,_,h1,_,h3⟩=>by rw[h1];simp[PR.length h3]
def xK:List AV->Nat
 | []=>0
 | z::zs=>z.size+xK zs
theorem PR.flen:∀ {zs:List AV} {us:List Value},PR ok w zs us->(fl us).length=xK zs
 | [],_,h=>by rw[show _=[] from h];rfl
 | _::_,_,⟨_,_,h1,h2,h3⟩=>by
  subst h1;have:=h2.len;rw[OW,lla,this,PR.flen h3];rfl
theorem PR.take:∀ {zs:List AV} {us:List Value} (i:Nat),PR ok w zs us->PR ok w (zs.take i) (us.take i)
 | [],_,i,h=>by rw[show _=[] from h];simp[PR]
 | _::_,_,0,_=>rfl
 | _::_,_,i+1,⟨u,r,h1,h2,h3⟩=>by
  subst h1;exact⟨u,r.take i,sm,h2,PR.take i h3⟩
theorem PR.get:∀ {zs:List AV} {us:List Value} {i:Nat} {u:Value},PR ok w zs us->us[i]?=some u->∃ z,zs[i]?=some z/\RC ok w z u.cells.toList
 | [],_,i,u,h,hu=>by rw[show _=[] from h] at hu;simp at hu
 | z::zs,_,0,u,⟨u',r,h1,h2,h3⟩,hu=>by
  subst h1;simp at hu;subst hu;exact⟨z,rfl,h2⟩
 | z::zs,_,i+1,u,⟨u',r,h1,h2,h3⟩,hu=>by
  subst h1;simpa using PR.get h3 (by simpa using hu)
def AJ:List AV->Nat->AV->Option (List AV)
 | [],_,_=>none
 | z::zs,0,v=>bif Nat.beq z.size v.size then some (v::zs) else none
 | z::zs,i+1,v=>(match AJ zs i v with|some r=>some (z::r)|none=>none)
def CL (zs:List AV):List Nat->List AV->Option (List AV)
 | [],[]=>some zs
 | i::is,v::vs=>(match AJ zs i v with
  | some zs'=>CL zs' is vs
  | none=>none)
 | _,_=>none
theorem Ii:∀ {zs:List AV} {i:Nat} {v:AV} {r:List AV} {us:List Value} {u:Value},AJ zs i v=some r->PR ok w zs us->RC ok w v u.cells.toList->∃ rs,pV us i u=some rs/\PR ok w r rs/\xK r=xK zs
 | [],_,_,_,_,_,h,_,_=>by simp[AJ] at h
 | z::zs,0,v,r,_,u,h,⟨u',r',h1,h2,h3⟩,hv=>by
  subst h1;cases hb:Nat.beq z.size v.size with
  | false=>simp[AJ,hb] at h
  | true=>
   simp[AJ,hb] at h;subst h;have hb:=Nat.eq_of_beq_eq_true hb;have e1:u'.cells.size=z.size:=by simpa using h2.len
   have e2:u.cells.size=v.size:=by simpa using hv.len
   have:Nat.beq u'.cells.size u.cells.size=true:=by rw[e1,e2,hb];exact Nat.beq_refl _
   exact⟨u::r',by simp[pV,this],⟨u,r',rfl,hv,h3⟩,by simp[xK,hb]⟩
 | z::zs,i+1,v,r,_,u,h,⟨u',r',h1,h2,h3⟩,hv=>by
  subst h1;unfold AJ at h;cases hq:AJ zs i v with
  | none=>simp[hq] at h
  | some p=>
   simp[hq] at h;subst h;obtain⟨rs,g1,g2,g3⟩:=Ii hq h3 hv;exact⟨u'::rs,by simp[pV,g1],⟨u',rs,rfl,h2,g2⟩,by simp[xK,g3]⟩
theorem WS:∀ {is:List Nat} {vs zs rs:List AV} {us vals:List Value},CL zs is vs=some rs->PR ok w zs us->PR ok w vs vals->∃ r,xL us is vals=some r/\PR ok w rs r/\xK rs=xK zs
 | [],[],zs,rs,us,vals,h,hz,hv=>by
  simp[CL] at h;subst h;obtain rfl:=(show vals=[] from hv);exact⟨us,rfl,hz,rfl⟩
 | [],_::_,zs,rs,us,vals,h,_,_=>by simp[CL] at h
 | _::_,[],zs,rs,us,vals,h,_,_=>by simp[CL] at h
 | i::is,v::vs,zs,rs,us,vals,h,hz,⟨u,r,h1,h2,h3⟩=>by
  subst h1;unfold CL at h;cases hq:AJ zs i v with
  | none=>simp[hq] at h
  | some zs'=>
   simp only[hq] at h;obtain⟨us',g1,g2,g3⟩:=Ii hq hz h2;obtain⟨r',f1,f2,f3⟩:=WS h g2 h3;exact⟨r',by simp[xL,g1,f1],f2,by rw[f3,g3]⟩
def KP:Nat->List (TypeId × Nat × Nat)->List AV->Bool
 | _,[],[]=>true
 | o,f::l,z::zs=>Nat.beq f.2.1 o&&Nat.beq f.2.2 z.size&&KP (o+z.size) l zs
 | _,_,_=>false
theorem Ua:∀ {o:Nat} {l:List (TypeId × Nat × Nat)} {zs:List AV},KP o l zs=true->l.length=zs.length/\∀ (i:Nat) (z:AV),zs[i]?=some z->∃ T,l[i]?=some (T,o+xK (zs.take i),z.size)
 | o,[],[],_=>by simp
 | o,[],z::zs,h=>by simp[KP] at h
 | o,f::l,[],h=>by simp[KP] at h
 | o,(T,off,sz)::l,z::zs,h=>by
  simp only[KP,Bool.and_eq_true] at h;obtain⟨⟨h1,h2⟩,h3⟩:=h;have h1:=Nat.eq_of_beq_eq_true h1;have h2:=Nat.eq_of_beq_eq_true h2;subst h1 h2;obtain⟨h4,h5⟩:=Ua h3;refine⟨by simp[h4],λi u hi=>?_⟩;cases i with
  | zero=>
   simp at hi;subst hi;exact⟨T,by simp[xK]⟩
  | succ i=>
   obtain⟨T',hT⟩:=h5 i u (by simpa using hi);exact⟨T',by simpa[Nat.add_assoc,xK] using hT⟩
theorem PR.sizes {us:List Value}(h:PR ok w zs us)(hk:∀ z∈zs,z.size=k):∀ u∈us,u.cells.size=k:=λu hu=>by
 obtain⟨i,hi,he⟩:=List.mem_iff_getElem.1 hu;obtain⟨z,h1,h2⟩:=h.get (i:=i) (u:=u) (by simp[hi,he]);have:=h2.len;rw[hk z (List.mem_of_getElem? h1)] at this;simpa using this
end
section
variable {P:Program} {N:Nat} {ops:Array Oper} {Q:Exit->Act->World->Prop} {rest:List Oper} {s:Base} {e:Env} {m:List Piece} {d:Nat} {ty:TypeId} {pos:String} {af:Array Edge}
theorem OO {ok:Ok}{A:Act}{parts:List (Nat × Operand)}(hA:Sat N ok w e A)(hx:evs e (parts.map (·.2))=some vals)(hn:vals.all U8=true) :
  ∃ vs,RVs ok w vals vs/\(Array.map (λ(x:Nat × Operand)=>(x.fst,A.eval x.snd)) parts.toArray).toList=(parts.map (·.1)).zip vs:=by
 refine⟨_,hA.evals hx hn,?_⟩;simp[List.zip_map',List.map_map]
theorem b3k {S:TypeId}{l:List (TypeId × Nat × Nat)}[t:TyS P S l]{n:Nat}[tz:TyO P S (.agg n zs)]{parts:List (Nat × Operand)}{rs:List AV}(h:AL P N ops Q s rest ((d,.agg n rs)::e) m)(hx:evs e (parts.map (·.2))=some vals:=by exact rfl)(hf:KP 0 l zs=true:=by exact rfl)
  (hr:CL zs (parts.map (·.1)) vals=some rs:=by exact rfl) (hn:vals.all U8=true:=by exact rfl) (hd:Nat.blt d N=true:=by exact rfl):AL P N ops Q s (⟨some d,.build S parts.toArray,ty,pos,af,none⟩::rest) e m:=by
 obtain⟨fs,hu,hlen,hfs⟩:=QK t.out;obtain⟨hl2,hp2⟩:=Ua hf;refine dR (λok w A _ hA=>?_) hd h;obtain⟨z,cs,hz,hzc,hza,hcs⟩:=tz.run w;have hrc:=HY (ok:=ok) (w:=w) hcs;rw[RC] at hrc;obtain⟨us,rfl,hpr⟩:=hrc.2.parts;obtain⟨vs,hvs,hmap⟩:=OO hA hx hn;obtain⟨r,g1,g2,g3⟩:=WS hr hpr (PR.of_vs hvs);have hplaces:(fs.mapM λ(f:Field)=>do pure (f.offset,<- Go.sizeOf f.type)).run P w=.ok (fs.map λ(f:Field)=>(f.offset,((P.info? f.type).map (·.size)).getD 0)) w:=by
  refine a3g fs λf hf=>?_;obtain⟨i,hi,hie⟩:=Array.mem_iff_getElem.1 hf;have hil:i<l.length:=by omega
  obtain⟨f',hf1,hf2,hf3,hf4⟩:=hfs i l[i].1 l[i].2.1 l[i].2.2 (by simp[hil]);rw[Array.getElem?_eq_getElem hi,hie] at hf1;injection hf1 with hf1
  subst hf1;rw[<- hf2] at hf4;simp[run_sizeOf hf4,hf4]
 have hfill:=(KQ (place:=λi=>(fs.map λ(f:Field)=>(f.offset,((P.info? f.type).map (·.size)).getD 0))[i]?) (by
  intro i u hi;obtain⟨z,hz1,hz2⟩:=hpr.get hi;obtain⟨T,hT⟩:=hp2 i z hz1;obtain⟨f',hf1,hf2,hf3,hf4⟩:=hfs i _ _ _ hT;rw[Array.getElem?_map,hf1,(hpr.take i).flen];have:=hz2.len;simp at this;simp[hf2,hf3,hf4,this]) g1).1
 have hzc':z.cells=(fl us).toArray:=by rw[<- hzc]
 refine⟨.agg (fl r).toArray,?_,?_⟩
 ·simp only[execOp,Instr.build,Sem.run_bind,hz,Result.andThen_ok,run_underlying hu,hplaces,hzc'];rw[hmap,hfill];rfl
 refine⟨?_,rfl⟩;rw[RC];refine⟨?_,by simpa[Value.cells] using g2.cells⟩;have h1:=hrc.1;rw[hpr.flen] at h1;simp[Value.cells,g2.flen,g3,h1]
theorem b3j {len n:Nat}[t:TyA P T len E k][tz:TyO P T (.agg n zs)]{parts:List (Nat × Operand)}{rs:List AV}(h:AL P N ops Q s rest ((d,.agg n rs)::e) m)(hx:evs e (parts.map (·.2))=some vals:=by exact rfl)(hk:zs.all (λz=>Nat.beq z.size k)=true:=by exact rfl)
  (hr:CL zs (parts.map (·.1)) vals=some rs:=by exact rfl) (hn:vals.all U8=true:=by exact rfl) (hd:Nat.blt d N=true:=by exact rfl):AL P N ops Q s (⟨some d,.build T parts.toArray,ty,pos,af,none⟩::rest) e m:=by
 have hk':∀ z∈zs,z.size=k:=λz hz=>Nat.eq_of_beq_eq_true (List.all_eq_true.1 hk z hz);refine dR (λok w A _ hA=>?_) hd h;obtain⟨z,cs,hz,hzc,hza,hcs⟩:=tz.run w;have hrc:=HY (ok:=ok) (w:=w) hcs;rw[RC] at hrc;obtain⟨us,rfl,hpr⟩:=hrc.2.parts;obtain⟨vs,hvs,hmap⟩:=OO hA hx hn;obtain⟨r,g1,g2,g3⟩:=WS hr hpr (PR.of_vs hvs);have hus:=hpr.sizes hk';have hfill:=(KQ (place:=λi=>some (i*k,k)) (by
  intro i u hi;obtain⟨hil,hie⟩:=List.getElem?_eq_some_iff.1 hi;rw[GK (k:=k) (λx hx=>hus x (List.mem_of_mem_take hx)),hus u (List.mem_of_getElem? hi)];simp[Nat.min_eq_left (Nat.le_of_lt hil)]) g1).1
 have hzc':z.cells=(fl us).toArray:=by rw[<- hzc]
 refine⟨.agg (fl r).toArray,?_,?_⟩
 ·simp only[execOp,Instr.build,Sem.run_bind,hz,Result.andThen_ok,run_underlying t.out,run_sizeOf t.sz,hzc'];rw[hmap,hfill];rfl
 refine⟨?_,rfl⟩;rw[RC];refine⟨?_,by simpa[Value.cells] using g2.cells⟩;have h1:=hrc.1;rw[hpr.flen] at h1;simp[Value.cells,g2.flen,g3,h1]
theorem TyE.zero {S:TypeId}{b:Nat}(t:TyE P S E k b):∃ i z,P.info? E=some i/\i.zero=some z/\z.cells.size=k/\i.size=k/\i.bytes=b:=by
 have h1:=t.z;have h2:=t.l.sz;cases hq:P.info? E with
 | none=>simp[hq] at h1
 | some i=>
  cases hz:i.zero with
  | none=>simp[hq,hz] at h1
  | some z=>
   simp[hq,hz] at h1 h2;exact⟨i,z,rfl,hz,h1,h2.1,h2.2⟩
theorem b3i {b:Nat}[t:TyE P T E k b]{n:Nat}{parts:List (Nat × Operand)}(h:AL P N ops Q s rest ((d,.sl k vals none)::e) m)(hx:evs e (parts.map (·.2))=some vals:=by exact rfl)
  (hi:parts.map (·.1)=List.range n:=by exact rfl) (hk:vals.all (λv=>Nat.beq v.size k)=true:=by exact rfl) (hn:vals.all U8=true:=by exact rfl) (hs:Nat.ble (n*k) 65536=true:=by exact rfl) (hn0:Nat.blt 0 n=true:=by exact rfl) (hd:Nat.blt d N=true:=by exact rfl) :
  AL P N ops Q s (⟨some d,.buildSlice T n parts.toArray,ty,pos,af,none⟩::rest) e m:=by
 have hkv:∀ v∈vals,v.size=k:=λz hz=>Nat.eq_of_beq_eq_true (List.all_eq_true.1 hk z hz);have hkp:0<k:=nlb t.k0;have hnp:0<n:=nlb hn0;have hnk:n*k<=65536:=nlb hs;refine zQ (v:=.sl k vals none) (λok w A hS hA=>?_) hd;obtain⟨vs,hvs,hmap⟩:=OO hA hx hn;have hpv:=PR.of_vs hvs;have hlv:=hpv.length;have hsv:=hpv.sizes hkv;have hlen:vs.length=n:=by
  have h1:((parts.map (·.2)).map A.eval).length=vs.length:=by rw[hlv,(hA.evals hx hn).length.symm]
  have h2:(parts.map (·.1)).length=n:=by rw[hi];simp
  simp at h1 h2;omega
 obtain⟨i,z,q1,q2,hzk,_,_⟩:=t.zero;have hzr:(zeroValue E).run P w=.ok z w:=by simp[zeroValue,typeInfo,q1,q2]
 subst hlen;have hcells:((Array.range (vs.length*k)).map (z.cells[· % z.cells.size]!))=(fl (List.replicate vs.length (.agg z.cells))).toArray:=by
  apply Array.ext';rw[UC z.cells (v:=.agg z.cells) rfl,hzk];simp
 have hset:=QP (z:=.agg z.cells) vs [] (λv hv=>by rw[hsv v hv];exact hzk);simp only[List.nil_append,List.length_nil] at hset;have hfill:=(KQ (place:=λi=>some (i*k,k)) (by
  intro i u hiu;obtain⟨hil,hie⟩:=List.getElem?_eq_some_iff.1 hiu;rw[List.getElem_replicate] at hie;subst hie;have hil':i<vs.length:=by simpa using hil
  rw[GK (k:=k) (λx hx=>by
   have:=List.mem_of_mem_take hx;rw[List.mem_replicate] at this;rw[this.2];exact hzk)]
  simp[Nat.min_eq_left (Nat.le_of_lt hil')];exact hzk.symm) hset).1
 have hE:=Ext.alloc w (.cells (fl vs).toArray E);have hblk:(w.alloc (.cells (fl vs).toArray E)).heap[w.heap.size]?=some (.cells (fl vs).toArray E (0,0)):=heap_alloc_new w _;have hst:=Ext.astp hE ok;refine⟨.slice (some ⟨w.heap.size,0,none⟩) vs.length vs.length,w.alloc (.cells (fl vs).toArray E),ok,m,?_,?_,hS.ext hE,hst,h⟩
 ·have h0:¬ vs.length*k > 2 ^ 24:=om
  have h1:¬ vs.length*k=0:=by
   have:=Nat.mul_pos hnp hkp;omega
  have hmap':(Array.map (λ(x:Nat × Operand)=>(x.fst,A.eval x.snd)) parts.toArray).toList=(List.range' 0 vs.length).zip vs:=by rw[hmap,hi,List.range_eq_range']
  simp only[execOp,Instr.buildSlice,Sem.run_bind,run_underlying t.l.out,Result.andThen_ok,run_sizeOf t.l.size,h0,h1,if_false,Sem.run_pure,hzr];rw[hmap',hcells,hfill];simp[newRow,newObj,Sem.run]
 refine RV.sl hlv sm (Nat.le_refl _) (by
  have:vs.length<=vs.length*k:=Nat.le_mul_of_pos_right _ hkp;simp only[maxLen];omega) (λ_=>⟨w.heap.size,0,fl vs,rfl,by rw[GK hsv],λj v hj=>?_,(hpv.cells).stp hst⟩) hkv
 rw[Nat.zero_add,cell_of_row _ _ _ _ _ _ hblk];exact⟨by simpa using hj,hS.fresh _ _ (Nat.le_refl _)⟩
theorem a0L {b:Nat}[t:TyE P T E k b](h:∀ g,AL P N ops Q s rest ((d,.sl k [] (some (.slice (some ⟨g,0,none⟩) 0 0)))::e) (.tail E k (.slice (some ⟨g,0,none⟩) 0 0)::m))(hd:Nat.blt d N=true:=by exact rfl) :
  AL P N ops Q s (⟨some d,.buildSlice T 0 #[],ty,pos,af,none⟩::rest) e m:=
 mK (λok w A hS hA=>by
  have hE:=Ext.alloc w (.cells #[] E);refine⟨_,.slice (some ⟨w.heap.size,0,none⟩) 0 0,w.alloc (.cells #[] E),ok,_,?_,?_,(hS.ext hE).full E k (some ⟨w.heap.size,0,none⟩) 0,Ext.astp hE ok,h w.heap.size⟩
  ·simp[execOp,Instr.buildSlice,run_underlying t.l.out,run_sizeOf t.l.size,Instr.fill,newRow,newObj,Sem.run];have:(Array.map (λ_=>(default:Value)) (Array.range 0))=#[]:=by apply Array.ext';simp
   rw[this]
  exact RV.sl rfl (λv hv=>by injection hv with hv;exact hv.symm) (Nat.le_refl _) (by simp[maxLen]) sm sm) hd
theorem Il {g:Nat}{T:TypeId}{fr:Nat × Nat}:∀ (vs:List Value) (o:Nat) (D7:Array Value) (w:World),w.heap[g]?=some (.cells D7 T fr)->o+vs.length<=D7.size->w.setCells g o vs=w.setRow g (D7.toList.take o++vs++D7.toList.drop (o+vs.length)).toArray
 | [],o,D7,w,hb,_=>by
  rw[List.append_nil,List.length_nil,Nat.add_zero,List.take_append_drop,Array.toArray_toList,setRow_self w g D7 T fr hb];rfl
 | v::r,o,D7,w,hb,hl=>by
  rw[List.length_cons] at hl;have e1:w.setCell ⟨g,o,none⟩ v=w.setRow g (D7.setIfInBounds o v):=setCell_eq_setRow w g o D7 T fr v hb;show (w.setCell ⟨g,o,none⟩ v).setCells g (o+1) r=_;rw[e1,Il r (o+1) (D7.setIfInBounds o v) _ (setRow_heap w g D7 _ T fr hb) (by simp;omega),setRow_setRow];congr 2
  have ho:o<D7.toList.length:=by simp;omega
  rw[Array.toList_setIfInBounds,List.set_eq_take_append_cons_drop,if_pos ho];have h1:(D7.toList.take o).length=o:=by simp;omega
  have e2:(D7.toList.take o++v::D7.toList.drop (o+1)).take (o+1)=D7.toList.take o++[v]:=by
   rw[List.take_append,h1,List.take_of_length_le om,show o+1-o=1 by omega];simp
  have e3:(D7.toList.take o++v::D7.toList.drop (o+1)).drop (o+1+r.length)=D7.toList.drop (o+(v::r).length):=by
   rw[List.drop_append,h1,List.drop_of_length_le om,List.nil_append,show o+1+r.length-o=r.length+1 by omega,List.drop_succ_cons,List.drop_drop,List.length_cons];congr 1
   omega
  rw[e2,e3];simp
theorem run_append_roomF {P:Program}(t ty e:TypeId)(i:TypeInfo)(ht:P.underlying t=some (.slice e))(hi:P.info? e=some i)(g n c:Nat)(D7:Array Value)(hg:w.heap[g]?=some (.cells D7 e fr))(hfr:fr.2=0\/D7.size<=fr.1)
  (a:Addr) (m c2:Nat) (news:List Value) (hl:news.length=m*i.size) (hnews:∀ j u,news[j]?=some u->w.cell? (a.add j)=some u) (h1:∀ u∈news,u.oneCell'=true) (hroom:n+m<=c) (hfit:n*i.size+news.length<=D7.size) :
  (Builtin.append_ #[t,t] ty #[.slice (some ⟨g,0,none⟩) n c,.slice (some a) m c2]).run P w=.ok (.slice (some ⟨g,0,none⟩) (n+m) c) (w.setRow g (D7.toList.take (n*i.size)++news++D7.toList.drop (n*i.size+news.length)).toArray):=by
 rw[<- Il news (n*i.size) D7 w hg hfit];have h:=run_append_room_cells (P:=P) (w:=w) t ty e i ht hi g 0 n c a m c2 news hl hnews h1 hroom (λj hj=>by
  have hlt:n*i.size+j<D7.size:=om
  simp[World.cell?,hg,hlt]) (λj hj=>by
  have hlt:0+n*i.size+j<D7.size:=om
  simp only[World.frozen?,hg,Bool.and_eq_false_iff,decide_eq_false_iff_not];omega)
 rw[Nat.zero_add] at h;exact h
theorem St.appended {n c:Nat}{g:Nat}{pre post:List Piece}{ok:Ok}{D7:Array Value}{news:List Value}{j:Nat}(h:St s ok (pre++.tail E k (.slice (some ⟨g,0,none⟩) n c)::post) w)(hnc:n<c)(hb:w.heap[g]?=some (.cells D7 E fr))(hfr:fr.2=0\/D7.size<=fr.1)(hcs:D7.size=c*k)(hcm:c<=maxLen)
  (hj:news.length=j*k) (hroom:n+j<=c) :
  ∃ ok',St s ok' (pre++.tail E k (.slice (some ⟨g,0,none⟩) (n+j) c)::post) (w.setRow g (D7.toList.take (n*k)++news++D7.toList.drop (n*k+news.length)).toArray) /\
   Stp ok w ok' (w.setRow g (D7.toList.take (n*k)++news++D7.toList.drop (n*k+news.length)).toArray)/\(∀ i,i<(n+j)*k->n*k<=i->ok' g i):=by
 have hpm:Piece.tail E k (.slice (some ⟨g,0,none⟩) n c)∈pre++.tail E k (.slice (some ⟨g,0,none⟩) n c)::post:=sm
 have hno:∀ i,n*k<=i->¬ ok g i:=λi hi=>h.own _ hpm g i ⟨_,_,_,rfl,om,rfl,hi⟩;have hblk:Piece.blk (.tail E k (.slice (some ⟨g,0,none⟩) n c))=some g:=by simp[Piece.blk,qX,qN (Nat.ne_of_lt hnc)]
 generalize hw:w.setRow g (D7.toList.take (n*k)++news++D7.toList.drop (n*k+news.length)).toArray=w';have hhg:w'.heap[g]?=some (.cells (D7.toList.take (n*k)++news++D7.toList.drop (n*k+news.length)).toArray E fr):=by rw[<- hw];exact setRow_heap w g D7 _ E _ hb
 have hfit:(n+j)*k<=c*k:=Nat.mul_le_mul_right k hroom;rw[Nat.add_mul] at hfit;have hst:Stp ok w (λb i=>ok b i\/(b=g/\n*k<=i/\i<(n+j)*k)) w':=⟨by rw[<- hw];simp,λb i u h1 h2=>by
  refine⟨?_,.inl h2⟩;by_cases hbg:b=g
  ·subst hbg;have hi:i<n*k:=by
    rcases Nat.lt_or_ge i (n*k) with h|h
    ·exact h
    exact absurd h2 (hno i h)
   rw[cell_of_row _ _ _ _ _ _ hb] at h1;rw[cell_of_row _ _ _ _ _ _ hhg];have:i<D7.size:=by omega
   simp only[List.getElem?_toArray,List.append_assoc];rw[List.getElem?_append_left (by simp;omega),List.getElem?_take_of_lt hi];simpa using h1
  rw[<- hw];exact(HZ (setRow_other w g b _ hbg)).trans h1⟩
 refine⟨_,h.write (g:=g) (p':=.tail E k (.slice (some ⟨g,0,none⟩) (n+j) c)) hblk ?_ hst ?_ ?_ (by rw[<- hw];simp) (by rw[<- hw];rfl) (by rw[<- hw];rfl) (by rw[<- hw];rfl) (λb hne=>by rw[<- hw];exact setRow_other w g b _ hne) (λb i hne=>⟨λh=>h.elim id (λh=>absurd h.1 hne),.inl⟩),hst,λi h1 h2=>.inr ⟨rfl,h2,h1⟩⟩
 ·by_cases hq:n+j=c
  ·right;simp[Piece.blk,qX,hq]
  left;simp[Piece.blk,qX,qN hq]
 ·by_cases hq:n+j=c
  ·exact .inl ⟨_,_,by rw[hq]⟩
  have hsz:(D7.toList.take (n*k)++news++D7.toList.drop (n*k+news.length)).toArray.size=D7.size:=by
   simp;omega
  exact .inr ⟨g,n+j,c,_,fr,rfl,hhg,om,hcm,by rw[hsz,hcs],by rw[hsz];exact hfr⟩
 rintro b i ⟨a,n',c',he,hne,rfl,hi⟩ ho;injection he with e1 e2 e3
 injection e1 with e1
 subst e1 e2 e3;rcases ho with ho|⟨_,_,ho⟩
 ·exact hno i (by rw[Nat.add_mul] at hi;omega) ho
 omega
theorem St.grownTail {n c:Nat}{v:Value}{pre post:List Piece}{ok:Ok}{w':World}{D7:Array Value}(h:St s ok (pre++.tail E k v::post) w)(he:Ext w w')(hsz:w'.heap.size=w.heap.size+1)(hb:w'.heap[w.heap.size]?=some (.cells D7 E fr))(hfr:fr.2=0\/D7.size<=fr.1)(hnc:n<=c)(hcs:D7.size=c*k)(hcm:c<=maxLen) :
  ∃ ok',St s ok' (pre++.tail E k (.slice (some ⟨w.heap.size,0,none⟩) n c)::post) w'/\Stp ok w ok' w'/\(∀ i,i<n*k->ok' w.heap.size i):=by
 have hd:=h.less (m':=pre++post) sm;have hk:∀ b j,b<w.heap.size->((ok b j/\¬ (b=w.heap.size/\n*k<=j))↔ok b j):=λb j hb=>⟨λh=>h.1,λh=>⟨h,fun⟨e,_⟩=>by omega⟩⟩;obtain⟨g1,g2⟩:=hd.grow (new:=[.tail E k (.slice (some ⟨w.heap.size,0,none⟩) n c)]) (ok':=λb j=>ok b j/\¬ (b=w.heap.size/\n*k<=j)) he hk (λb j hb=>⟨h.fresh b j om,fun⟨e,_⟩=>by omega⟩) (λp hp=>by
  obtain rfl:p=_:=by simpa using hp
  by_cases hq:n=c
  ·exact .inl ⟨_,_,by rw[hq]⟩
  ·exact .inr ⟨_,n,c,D7,fr,rfl,hb,om,hcm,hcs,hfr⟩) (λp hp g hg=>by
  obtain rfl:p=_:=by simpa using hp
  by_cases hq:n=c
  ·simp[Piece.blk,qX,hq] at hg
  ·simp[Piece.blk,qX,qN hq] at hg;omega) (λp hp b j hbj=>by
  obtain rfl:p=_:=by simpa using hp
  obtain⟨a,n',c',he,hne,rfl,hi⟩:=hbj;injection he with e1 e2 e3
  injection e1 with e1
  subst e1 e2 e3;exact λho=>ho.2 ⟨rfl,hi⟩) sm
 refine⟨_,g1.perm ?_,g2,λi hi=>⟨h.fresh _ _ (Nat.le_refl _),fun⟨_,h⟩=>by omega⟩⟩;simp only[List.singleton_append];exact List.perm_middle
theorem aP {b:Nat}[t:TyE P T E k b]{xo yo:Operand}{v:Value}{xs ys:List AV}{id:Option Value}{M:Value->List Piece}(h:∀ v',AL P N ops Q s rest ((d,.sl k (xs++ys) (some v'))::e) (M v'))(hx:ev e xo=some (.sl k xs (some v)):=by exact rfl)(hy:ev e yo=some (.sl k ys id):=by exact rfl)
  (hm:∀ v',Upd m (.tail E k v) (.tail E k v') (M v'):=by intro v';(repeat (first|apply Av.Upd.here|apply Av.Upd.there)))
  (hb:(xs.length+ys.length)*b<=140737488355328:=by (simp;omega)) (hl:xs.length+ys.length<=maxLen:=by (simp[maxLen];omega)) (hd:Nat.blt d N=true:=by exact rfl) :
  AL P N ops Q s (⟨some d,.call ⟨.builtin .append,#[xo,yo],#[T,T]⟩,ty,pos,af,none⟩::rest) e m:=by
 refine mK (λok w B hS hB=>?_) hd;obtain⟨A,c,g1,gid,g3,g4,g5,g6⟩:=qY (hB.eval hx);obtain⟨A2,c2,f1,_,f3,f4,f5,f6⟩:=qY (hB.eval hy);obtain rfl:=(gid v rfl).trans g1;obtain⟨i,z,q1,q2,hzk,hik,hib⟩:=t.zero;have hkp:0<k:=nlb t.k0;have hsm:xs.length+ys.length<=9223372036854775807:=by simpa[maxLen] using hl
 rcases Nat.eq_zero_or_pos ys.length with h0|h0
 ·have hys:ys=[]:=List.eq_nil_of_length_eq_zero h0;subst hys;have hrun:(Builtin.append_ #[T,T] ty #[.slice A xs.length c,.slice A2 0 c2]).run P w=.ok (.slice A xs.length c) w:=by
   cases A <;> cases A2 <;> simp[Builtin.append_,run_underlying t.l.out,Go.sizeOf,typeInfo,q1,Builtin.lenOf,Builtin.firstCells,g3,storeCells,loadCells,loadCellsFrom]
  obtain⟨pre,post,hm1,hm2⟩:=(hm (.slice A xs.length c)).parts;have hMm:M (.slice A xs.length c)=m:=by rw[hm2,hm1]
  refine⟨_,.slice A xs.length c,w,ok,_,by simp[execOp,resolve,invoke,builtin,g1,f1,hrun],?_,by rw[hMm];exact hS,Stp.refl _ _,h (.slice A xs.length c)⟩;rw[List.append_nil];exact RV.sl rfl (λv hv=>by injection hv with hv;exact hv.symm) g3 g4 g5 g6
 obtain⟨b2,o2,es2,e1,e2,e3,e4⟩:=f5 h0;subst e1;have rO:∀ j u,es2[j]?=some u->w.cell? ((⟨b2,o2,none⟩:Addr).add j)=some u:=λj u hj=>by rw[add_mid];exact(e3 j u hj).1
 have hl2:es2.length=ys.length*i.size:=by rw[e2,hik]
 by_cases hroom:xs.length+ys.length<=c
 ·-- in place
  obtain⟨pre,post,hm1,hm2⟩:=(hm (.slice A (xs.length+ys.length) c)).parts;rw[hm1] at hS;have hat:=hS.at_ (.tail E k (.slice A xs.length c)) sm;rcases hat with⟨A',n',he⟩|⟨g,n',cap,D7,fr,he,hh,hnc,hcm,hcs,hfr⟩
  ·injection he with _ h2 h3
   omega
  injection he with h1 h2 h3
  subst h1 h2 h3;obtain⟨ok',s1,s2,s3⟩:=hS.appended (j:=ys.length) (news:=es2) hnc hh hfr hcs hcm e2 hroom;have hr:=run_append_roomF (P:=P) (w:=w) T ty E i t.l.out q1 g xs.length c D7 hh hfr ⟨b2,o2,none⟩ ys.length c2 es2 hl2 rO (RCs.one e4) hroom (by rw[hik,hcs,e2,<- Nat.add_mul];exact Nat.mul_le_mul_right _ hroom);rw[hik] at hr;refine⟨_,.slice (some ⟨g,0,none⟩) (xs.length+ys.length) c,_,ok',_,by simp[execOp,resolve,invoke,builtin,g1,f1,hr],?_,by rw[hm2];exact s1,s2,h (.slice (some ⟨g,0,none⟩) (xs.length+ys.length) c)⟩;refine RV.sl sm (λv hv=>by injection hv with hv;exact hv.symm) hroom hcm (λ_=>?_) (λx hx=>by
   rcases List.mem_append.1 hx with hx|hx
   ·exact g6 x hx
   exact f6 x hx)
  have hhg:=setRow_heap w g D7 (D7.toList.take (xs.length*k)++es2++D7.toList.drop (xs.length*k+es2.length)).toArray E fr hh;have hold:∃ es,es.length=xs.length*k/\D7.toList.take (xs.length*k)=es/\RCs ok w xs es/\(∀ j v,es[j]?=some v->ok g j):=by
   rcases Nat.eq_zero_or_pos xs.length with hx0|hx0
   ·have:xs=[]:=List.eq_nil_of_length_eq_zero hx0;subst this;exact⟨[],sm,sm,by rw[RCs],sm⟩
   obtain⟨b',o',es,r1,r2,r3,r4⟩:=g5 hx0;injection r1 with r1
   injection r1 with r1 r1'
   subst r1 r1';refine⟨es,r2,?_,r4,λj v hj=>by have:=(r3 j v hj).2;rwa [Nat.zero_add] at this⟩;apply List.ext_getElem?;intro j;rcases Nat.lt_or_ge j es.length with hj|hj
   ·have h1:=(r3 j es[j] (by simp[hj])).1;rw[Nat.zero_add,cell_of_row _ _ _ _ _ _ hh] at h1;rw[List.getElem?_take_of_lt om];simp only[Array.getElem?_toList,h1,List.getElem?_eq_getElem hj]
   rw[List.getElem?_eq_none (by simp;omega),List.getElem?_eq_none hj]
  obtain⟨es,r1,r2,r3,r4⟩:=hold;have hfit:(xs.length+ys.length)*k<=c*k:=Nat.mul_le_mul_right k hroom;refine⟨g,0,es++es2,rfl,by rw[lla,r1,e2,Nat.add_mul],λj u hj=>?_,(r3.stp s2).append (e4.stp s2)⟩;rw[Nat.zero_add,cell_of_row _ _ _ _ _ _ hhg,r2];have hjl:j<(es++es2).length:=(List.getElem?_eq_some_iff.1 hj).1;refine⟨by simp only[List.getElem?_toArray];rw[List.getElem?_append_left hjl];exact hj,?_⟩;rw[lla,r1,e2,<- Nat.add_mul] at hjl;rcases Nat.lt_or_ge j (xs.length*k) with hlt|hge
  ·have hj1:j<es.length:=om
   have hcell:w.cell? ⟨g,j,none⟩=some es[j]:=by
    rw[cell_of_row _ _ _ _ _ _ hh];have:(D7.toList.take (xs.length*k))[j]?=some es[j]:=by rw[r2];simp[hj1]
    rw[List.getElem?_take_of_lt hlt] at this;simpa using this
   exact(s2.keep g j _ hcell (r4 j es[j] (by simp[hj1]))).2
  exact s3 j hjl hge
 -- jB a new block
 have hnew':∀ (D7:Array Value) (c':Nat) (es:List Value),es.length=xs.length*k->RCs ok w xs es->D7.toList.take ((xs.length+ys.length)*k)=es++es2->D7.size=c'*k->xs.length+ys.length<=c'->c'<=maxLen ->
   (Builtin.append_ #[T,T] ty #[.slice A xs.length c,.slice (some ⟨b2,o2,none⟩) ys.length c2]).run P w=.ok (.slice (some ⟨w.heap.size,0,none⟩) (xs.length+ys.length) c') (w.drew.alloc (.cells D7 E)) ->
   ∃ v u w' ok' m',(execOp B.eval ⟨some d,.call ⟨.builtin .append,#[xo,yo],#[T,T]⟩,ty,pos,af,none⟩).run P w=.ok (.value u) w'/\RV ok' w' v u/\St s ok' m' w'/\Stp ok w ok' w'/\AL P N ops Q s rest ((d,v)::e) m':=by
  intro D7 c' es hes hres htake hcs hnc hcm hrun;obtain⟨pre,post,hm1,hm2⟩:=(hm (.slice (some ⟨w.heap.size,0,none⟩) (xs.length+ys.length) c')).parts;rw[hm1] at hS;have hE:Ext w (w.drew.alloc (.cells D7 E)):=Ext.trans' (Ext.drew w) (Ext.alloc w.drew _);have hblk:(w.drew.alloc (.cells D7 E)).heap[w.heap.size]?=some (.cells D7 E (0,0)):=heap_alloc_new w.drew _;obtain⟨ok',s1,s2,s3⟩:=hS.grownTail (n:=xs.length+ys.length) (c:=c') hE sm hblk (.inl rfl) hnc hcs hcm;refine⟨_,.slice (some ⟨w.heap.size,0,none⟩) (xs.length+ys.length) c',_,ok',_,by simp[execOp,resolve,invoke,builtin,g1,f1,hrun],?_,by rw[hm2];exact s1,s2,h _⟩;refine RV.sl sm (λv hv=>by injection hv with hv;exact hv.symm) hnc hcm (λ_=>⟨w.heap.size,0,es++es2,rfl,by rw[List.length_append,hes,e2,Nat.add_mul],λj u hj=>?_,(hres.stp s2).append (e4.stp s2)⟩) (λx hx=>by
   rcases List.mem_append.1 hx with hx|hx
   ·exact g6 x hx
   exact f6 x hx)
  have hjl:j<(es++es2).length:=(List.getElem?_eq_some_iff.1 hj).1;rw[lla,hes,e2,<- Nat.add_mul] at hjl;rw[Nat.zero_add,cell_of_row _ _ _ _ _ _ hblk];refine⟨?_,s3 j hjl⟩;rw[<- htake,List.getElem?_take_of_lt hjl] at hj;simpa using hj
 cases A with
 | none=>
  have hx0:xs=[]:=by
   rcases Nat.eq_zero_or_pos xs.length with hx0|hx0
   ·exact List.eq_nil_of_length_eq_zero hx0
   obtain⟨_,_,_,r1,_⟩:=g5 hx0;cases r1
  subst hx0;have hc0:c=0:=by
   obtain⟨pre,post,hm1,_⟩:=(hm undef).parts;rw[hm1] at hS;rcases hS.at_ (.tail E k (.slice none ([]:List AV).length c)) sm with⟨A',n',he⟩|⟨g,n',cap,D7,fr,he,_⟩
   ·injection he with _ h2 h3
    simp at h2;omega
   cases he
  subst hc0;have hr:=run_append_nil (P:=P) w T ty E i z t.l.out q1 q2 ⟨b2,o2,none⟩ ys.length c2 es2 hl2 rO h0 (by simp at hsm;omega) (by rw[hib];simp at hb;omega);refine hnew' _ (grownCap w ys.length 0 E) [] sm (by rw[RCs]) ?_ ?_ ?_ (grownCap_le_maxLen w _ 0 E (by simpa using hl)) (by simpa using hr)
  ·simp only[List.length_nil,Nat.zero_add,<- e2,Array.toList_append,List.nil_append];exact List.take_left
  ·have hge:=grownCap_ge w ys.length 0 E;simp only[Array.size_append,List.size_toArray,size_zeroCells,hzk,e2,<- Nat.add_mul];congr 1
   omega
  simpa using grownCap_ge w ys.length 0 E
 | some a=>
  have hold:∃ es,es.length=xs.length*k/\(∀ j v,es[j]?=some v->w.cell? (a.add j)=some v)/\RCs ok w xs es:=by
   rcases Nat.eq_zero_or_pos xs.length with hx0|hx0
   ·have:xs=[]:=List.eq_nil_of_length_eq_zero hx0;subst this;exact⟨[],sm,sm,by rw[RCs]⟩
   obtain⟨b',o',es,r1,r2,r3,r4⟩:=g5 hx0;injection r1 with r1
   subst r1;exact⟨es,r2,λj v hj=>by rw[add_mid];exact(r3 j v hj).1,r4⟩
  obtain⟨es,r1,r2,r3⟩:=hold;have hr:=run_append_grow (P:=P) w T ty E i z t.l.out q1 q2 a xs.length c es (by rw[hik];exact r1) r2 ⟨b2,o2,none⟩ ys.length c2 es2 hl2 rO om om (by rw[hib];exact growslice_fits om hb);have hge:=grownCap_ge w (xs.length+ys.length) c E;refine hnew' _ (grownCap w (xs.length+ys.length) c E) es r1 r3 ?_ ?_ hge (grownCap_le_maxLen w _ c E hl) hr
  ·simp only[Array.toList_append];rw[show (xs.length+ys.length)*k=(es++es2).length by rw[lla,r1,e2,Nat.add_mul]];exact List.take_left
  simp only[Array.size_append,List.size_toArray,size_zeroCells,hzk,r1,e2,<- Nat.add_mul];congr 1
  omega
end
end
end Av
