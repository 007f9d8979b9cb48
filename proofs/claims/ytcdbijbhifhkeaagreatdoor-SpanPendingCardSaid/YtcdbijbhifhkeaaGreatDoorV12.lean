/- . -/
import Derived.Carry
import Derived.WideKeyArgs
import Derived.ChangeArms
import Derived.OpenShut
import Derived.Deep.DeepHandedRow
import Derived.Test.YtcdbijbhifhkeaaGreatDoorV11
namespace Av
open Go Go.RowKit Go.ChangeShapes Go.WideShapes Tw
abbrev lW:Ok:=λ_ _=>True
def IJ (P:Program)(t:TypeId):Bool:=match P.underlying t with
 | some (.struct _)|some (.array _ _)=>true
 | _=>false
structure Rd (P:Program)(t:TypeId)(X:Type)(f:X->AV)(ok:X->Prop):Prop where
 out:∀ {H:Type} {enc:TypeId × Value->H} {w:World} {base:Nat} {sp:Nat->Bool} {held:Bool} {fuel:Nat} {cs:List Value} {x:DataW H × List MemPlace},DataW.trod enc P w base sp held fuel t cs=some x->∃ z,ok z/\RC lW w (f z) cs
 ag:∀ z,(f z).isAgg=IJ P t
section
variable {P:Program} {t e:TypeId}
theorem RQ (ht:P.underlying t=some .bool):Rd P t Bool d9 (λ_=>True):=⟨λh=>by
 obtain⟨b,rfl,_⟩:=DataW.trod_bool ht h;exact⟨b,trivial,by rw[RC];exact⟨rfl,rfl⟩⟩,λz=>by simp[IJ,ht,AV.isAgg]⟩
theorem fO (ht:P.underlying t=some (.int .i64)):Rd P t Int int (λn=>-9223372036854775808<=n/\n<=9223372036854775807):=⟨λh=>by
 obtain⟨n,rfl,_,hw⟩:=DataW.trod_int ht h;refine⟨n,?_,by rw[RC];exact⟨rfl,rfl⟩⟩;simp only[Lit.wf,Bool.and_eq_true,decide_eq_true_eq] at hw;exact hw,λz=>by simp[IJ,ht,AV.isAgg]⟩
theorem RP (ht:P.underlying t=some .string):Rd P t Bs str (λs=>s.length<=maxLen):=⟨λh=>by
 obtain⟨s,rfl,_,hw⟩:=DataW.trod_string ht h;refine⟨s.data.toList,by simpa using hw,?_⟩;rw[RC];exact⟨rfl,rfl⟩,λz=>by simp[IJ,ht,AV.isAgg]⟩
structure RdS (P:Program)(l:List (TypeId × Nat))(o tot:Nat)(X:Type)(fs:X->List AV)(ok:X->Prop):Prop where
 out:∀ {H:Type} {enc:TypeId × Value->H} {w:World} {base:Nat} {sp:Nat->Bool} {held:Bool} {n:Nat} {cs:List Value},cs.length=tot ->
  (∀ p∈l,∃ y,DataW.trod enc P w base sp held n p.1 ((cs.drop p.2).take (P.cellsOf p.1))=some y)->∃ z:X,ok z/\RCs lW w (fs z) (cs.drop o)
theorem RU {tot:Nat}:RdS P [] tot tot Unit (λ_=>[]) (λ_=>True):=⟨λhl _=>⟨(),trivial,by rw[List.drop_of_length_le om,RCs]⟩⟩
theorem bR {X Y:Type}{f:X->AV}{ok:X->Prop}{g:Y->List AV}{okY:Y->Prop}{l:List (TypeId × Nat)}{o k tot:Nat}(r:Rd P t X f ok)(hk:P.cellsOf t=k)(h:RdS P l (o+k) tot Y g okY):RdS P ((t,o)::l) o tot (X × Y) (λz=>f z.1::g z.2) (λz=>ok z.1/\okY z.2):=⟨λhl hp=>by
 obtain⟨y,hy⟩:=hp (t,o) sm;obtain⟨z,h1,h2⟩:=r.out hy;obtain⟨z',h3,h4⟩:=h.out hl (λp hpm=>hp p (by simp[hpm]));refine⟨(z,z'),⟨h1,h3⟩,?_⟩;rw[RCs];refine⟨_,_,?_,h2,h4⟩;rw[hk,<- List.drop_drop,List.take_append_drop]⟩
def Uc (P:Program)(t:TypeId):Option (List (TypeId × Nat)):=match P.underlying t with
 | some (.struct fs)=>some (fs.toList.map λf=>(f.type,f.offset))
 | _=>none
theorem RO {X:Type}{g:X->List AV}{ok:X->Prop}{l:List (TypeId × Nat)}{tot:Nat}(ht:Uc P t=some l)(hc:P.cellsOf t=tot)(h:RdS P l 0 tot X g ok):Rd P t X (λz=>.agg tot (g z)) ok:=by
 unfold Uc at ht;split at ht
 ·rename_i fs hu;injection ht with ht
  subst ht;refine⟨λhx=>?_,λz=>by simp[IJ,hu,AV.isAgg]⟩;obtain⟨xs,n,_,_,hl,hxs,he⟩:=DataW.trod_struct hu hx;obtain⟨z,h1,h2⟩:=h.out (n:=n) (by rw[hl,hc]) (λp hp=>by
   obtain⟨fd,hf,rfl⟩:=List.mem_map.1 hp;obtain⟨i,hi,hf⟩:=List.mem_iff_getElem.1 hf;have hi':i<fs.size:=by simpa using hi
   have:=he i fd (by rw[Array.getElem?_eq_getElem hi'];simpa using hf);rw[this,List.getElem?_eq_getElem om];exact⟨_,rfl⟩)
  refine⟨z,h1,?_⟩;rw[RC];exact⟨by rw[hl,hc],by simpa using h2⟩
 cases ht
theorem CW {X:Type}{f:X->AV}{ok:X->Prop}{k:Nat}(r:Rd P e X f ok)(ht:P.underlying t=some (.slice e))(hk:P.cellsOf e=k)(h0:Nat.blt 0 k=true):Rd P t (List X) (λl=>.sl k (l.map f) none) (λl=>l.length<=maxLen/\∀ x∈l,ok x):=by
 have h0:0<k:=nlb h0;refine⟨fun {H} {enc} {w} {base} {sp} {held} {fuel} {cs} {x} hx=>?_,λz=>by simp[IJ,ht,AV.isAgg]⟩;rcases DataW.trod_slice ht hx with⟨rfl,_⟩|⟨a,len,cap,elems,rest,n,_,rfl,_,_,hlc,hcm,hel,he,_⟩
 ·refine⟨[],⟨sm,sm⟩,?_⟩;rw[RC];exact⟨none,0,rfl,sm,Nat.le_refl _,by simp[maxLen],sm,sm⟩
 have hcell:∀ i,i<len->∃ c:List Value,c.length=k/\(∀ j,j<k->w.cell? ((a.add (i*k)).add j)=c[j]?)/\∃ y,DataW.trod enc P w base sp held n e c=some y:=by
  intro i hi;have h1:=he i hi;rw[List.getElem?_eq_getElem om,Option.bind_eq_some_iff] at h1;obtain⟨c,h2,h3⟩:=h1;obtain⟨_,h4,h5⟩:=World.cells?_some h2;rw[hk] at h4 h5;exact⟨c,h4,h5,_,h3⟩
 by_cases hn:0<len
 ·obtain⟨b,o,s⟩:=a;have hs:s=none:=by
   obtain⟨c,hc1,hc2,_⟩:=hcell 0 hn;have:=hc2 0 h0;rw[List.getElem?_eq_getElem om] at this;rw[Nat.zero_mul] at this;simp only[Addr.add,if_true] at this;unfold World.cell? at this;cases s with
   | none=>rfl
   | some v=>simp at this;split at this <;> cases this
  subst hs;have key:∀ j,j<=len->∃ (l:List X) (es:List Value),l.length=j/\(∀ x∈l,ok x)/\(∀ x∈l,(f x).size=k)/\es.length=j*k/\At lW w b o es/\RCs lW w (l.map f) es:=by
   intro j
   induction j with
   | zero=>exact λ_=>⟨[],[],rfl,sm,sm,sm,(by intro j v hj;simp at hj),by simp[RCs]⟩
   | succ j ih=>
    intro hj;obtain⟨l,es,h1,h2,h2',h3,h4,h5⟩:=ih om;obtain⟨c,hc1,hc2,y,hc3⟩:=hcell j om;obtain⟨z,h6,h7⟩:=r.out hc3;refine⟨l++[z],es++c,by simp[h1],λx hx=>?_,λx hx=>?_,by rw[List.length_append,h3,hc1,Nat.add_mul,Nat.one_mul],λi v hi=>⟨?_,trivial⟩,?_⟩
    ·rcases List.mem_append.1 hx with hx|hx
     ·exact h2 x hx
     obtain rfl:=List.mem_singleton.1 hx;exact h6
    ·rcases List.mem_append.1 hx with hx|hx
     ·exact h2' x hx
     obtain rfl:=List.mem_singleton.1 hx;rw[<- h7.len,hc1]
    ·rcases Nat.lt_or_ge i es.length with hlt|hge
     ·rw[List.getElem?_append_left hlt] at hi;exact(h4 i v hi).1
     rw[List.getElem?_append_right hge] at hi;have hik:i-es.length<k:=by
      have:=(List.getElem?_eq_some_iff.1 hi).1;omega
     have:=hc2 (i-es.length) hik;rw[add_plain,add_plain,hi,h3] at this;rw[<- this];congr 2
     omega
    rw[List.map_append];refine h5.append ?_;rw[List.map_cons,List.map_nil,RCs];exact⟨c,[],sm,h7,by rw[RCs]⟩
  obtain⟨l,es,h1,h2,h2',h3,h4,h5⟩:=key len (Nat.le_refl _);refine⟨l,⟨om,h2⟩,?_⟩;rw[RC];refine⟨some ⟨b,o,none⟩,cap,by simp[h1],sm,by simp[h1];omega,hcm,λ_=>⟨b,o,es,rfl,by simp[h1,h3],h4,h5⟩,λx hx=>?_⟩;obtain⟨z,hz,rfl⟩:=List.mem_map.1 hx;exact h2' z hz
 obtain rfl:len=0:=by omega
 refine⟨[],⟨sm,sm⟩,?_⟩;rw[RC];exact⟨some a,cap,rfl,sm,sm,hcm,sm,sm⟩
theorem b3y {w:World}{r:Reach}{base:Nat}{v:Value}(h:Value.okWide P w r base t v){H:Type}{enc:TypeId × Value->H}{w':World}{b:Nat}{sp:Nat->Bool}{held:Bool}{d:DataW H}{ps:List MemPlace}(hd:DataW.Trod enc P w' b sp held t v d ps)
  {X:Type} {f:X->AV} {ok:X->Prop} (rd:Rd P t X f ok):∃ z,ok z/\RV0 lW w' (f z) v:=by
 obtain⟨n,hn⟩:=hd;obtain⟨z,h1,h2⟩:=rd.out hn;refine⟨z,h1,h2,?_⟩;rw[rd.ag];unfold IJ;unfold Value.okWide at h;split at h
 ·rename_i hu;obtain⟨cs,rfl,_⟩:=h;simp[hu,xZ]
 ·rename_i hu;obtain⟨cs,rfl,_⟩:=h;simp[hu,xZ]
 rename_i hu1 hu2;have e:(match P.underlying t with|some (.struct _)|some (.array _ _)=>true|_=>false)=false:=by
  split
  ·rename_i hu;exact absurd hu (hu1 _)
  ·rename_i hu;exact absurd hu (hu2 _ _)
  rfl
 rw[e];have hl:=h2.len;have hsz:(f z).size=1:=by
  have ha:(f z).isAgg=false:=by rw[rd.ag];exact e
  cases hf:f z <;> simp[hf,AV.isAgg] at ha <;> rfl
 cases v <;> first|rfl|skip
 exfalso
 rename_i cs
 revert h
 unfold Cell.okWide;cases hP:P.underlying t with
 | none=>simp[Cell.ok,hP]
 | some D=>cases D <;> simp_all [Cell.ok]
structure RdA (P:Program)(ts:List TypeId)(X:Type)(fs:X->List AV)(ok:X->Prop):Prop where
 out:∀ {H:Type} {enc:TypeId × Value->H} {W:World} {base b:Nat} {sp:Nat->Bool} {held:Bool} {vs:List Value} {ds:List (DataW H)} {ps:List MemPlace},(∀ (j:Nat) t v,ts[j]?=some t->vs[j]?=some v->Value.okWide P W .any base t v) ->
  DataW.TrodAll enc P W b sp held ts vs ds ps->∃ z:X,ok z/\RVs lW W (fs z) vs
theorem JI:RdA P [] Unit (λ_=>[]) (λ_=>True):=⟨λ_ h=>by
 obtain⟨rfl,_,_⟩:=trodAll_nil h;exact⟨(),trivial,rfl⟩⟩
theorem FM {X Y:Type}{f:X->AV}{ok:X->Prop}{g:Y->List AV}{okY:Y->Prop}{ts:List TypeId}(r:Rd P t X f ok)(h:RdA P ts Y g okY):RdA P (t::ts) (X × Y) (λz=>f z.1::g z.2) (λz=>ok z.1/\okY z.2):=⟨λhv ht=>by
 obtain⟨v,vs,d,ds,p,q,rfl,rfl,rfl,h1,h2⟩:=trodAll_cons ht;obtain⟨z,g1,g2⟩:=b3y (hv 0 t v rfl rfl) h1 r;obtain⟨z',g3,g4⟩:=h.out (λj t' v' ha hb=>hv (j+1) t' v' ha hb) h2;exact⟨(z,z'),⟨g1,g3⟩,_,_,rfl,g2,g4⟩⟩
end
section
variable {P:Program}
theorem b1o {w w':World}(h:Ext w w'):Below w.heap.size w w':=⟨h.os,h.tape,h.output,h.size,h.block⟩
theorem Gy {H:Type}{enc:TypeId × Value->H}{W W':World}{sp:Nat->Bool}(hl:laidOutB P=true)(hb:Below W.heap.size W W'):∀ {ts:List TypeId} {vs:List Value} {ds:List (DataW H)} {ps:List MemPlace},ts.all (λt=>P.readableRec t&&decide (t<P.types.size))=true ->
  DataW.TrodAll enc P W 0 (λ_=>true) true ts vs ds ps->(∀ p∈ps,p.block<W.heap.size)->(∀ p∈ps,sp p.block=true)->DataW.TrodAll enc P W' 0 sp true ts vs ds ps
 | [],_,_,_,_,h,_,_=>by
  obtain⟨rfl,rfl,rfl⟩:=trodAll_nil h;exact rfl
 | t::ts,_,_,_,hr,h,hlt,hsp=>by
  obtain⟨v,vs,d,ds,p,q,rfl,rfl,rfl,h1,h2⟩:=trodAll_cons h;simp only[List.all_cons,Bool.and_eq_true,decide_eq_true_eq] at hr;exact⟨p,q,WideElems.Trod_stays hl hr.1.1 hr.1.2 h1 (λx hx=>hb.same (hlt x (by simp[hx]))) (λx hx=>hsp x (by simp[hx])),
   Gy hl hb hr.2 h2 (λx hx=>hlt x (by simp[hx])) (λx hx=>hsp x (by simp[hx])),rfl⟩
theorem KC {H:Type}{enc:TypeId × Value->H}{f:FuncId}{fn:Func}{s:ChangeSpec}{apart fresh handsOn again:Bool}{gl:List (Nat × AV)}{tb:TypeId}{X:Type}{fs:X->List AV}{ok:X->Prop}{W:World}{base:Nat}{args:Array Value}{ds gs:List (DataW H)}{before:List MemPlace}
  (hr:fn.resultTypes=#[tb]) (htb:P.underlying tb=some .bool) (hs:s.vars=[]) (hl:laidOutB P=true) (hrd:fn.params.toList.all (λt=>P.readableRec t&&decide (t<P.types.size))=true)
  (rd:RdA P fn.params.toList X fs ok) (hfn:∀ ds:List (DataW H),ds.length=fn.params.toList.length->s.fn H ds={ results:=[.lit (.bool true)],args:=ds })
  (hspec:∀ z,ok z->SpecE P gl f (fs z) (d9 true)) (hgl:Glob gl lW W)
  (hval:∀ (j:Nat) t v,fn.params[j]?=some t->args[j]?=some v->Value.okWide P W .any base t v)
  (hW:DataW.Whole enc P fn.params.toList s.vars apart W args.toList ds gs before):Calls P f args W λe W'=>∃ v,e=.returned v/\s.post enc P fn apart fresh handsOn again W args v W':=by
 have hW':=hW;obtain⟨p,q,hA,hV,rfl,hfz,hnd⟩:=hW';rw[hs] at hV;obtain⟨rfl,rfl⟩:=trodVars_none hV;obtain⟨z,hz,hvs⟩:=rd.out (λj t v h1 h2=>hval j t v (by simpa using h1) (by simpa using h2)) hA;have hlen:∀ {ts:List TypeId} {vs:List Value} {ds:List (DataW H)} {ps:List MemPlace},DataW.TrodAll enc P W 0 (λ_=>true) true ts vs ds ps->ds.length=ts.length:=by
  intro ts
  induction ts with
  | nil=>intro vs ds ps h;obtain⟨_,rfl,_⟩:=trodAll_nil h;rfl
  | cons t ts ih=>
   intro vs ds ps h;obtain⟨_,_,_,_,_,_,_,rfl,_,_,h2⟩:=trodAll_cons h;simp[ih h2]
 have hds:=hfn ds (hlen hA);have hS:=St.start gl W lW (λ_ _ _=>trivial) hgl;have hrun:=(hspec z hz).run lW W args.toList hS hvs;rw[Array.toArray_toList] at hrun;refine Calls.mono hrun λx W' hx=>?_;obtain⟨v,m',ok',cv,⟨rfl,rfl⟩,rfl,g1,g2⟩:=hx;have g1:=RV.lit g1;subst g1;have hb:=b1o g2.out;have hlt:∀ x∈p++[],x.block<W.heap.size:=λx hx=>hW.lt x hx;refine⟨_,rfl,?_⟩;have hres:∀ (b:Nat) (sp:Nat->Bool) (hd:Bool),DataW.TrodAll enc P W' b sp hd fn.resultTypes.toList ((Value.bool true).resultList fn.resultTypes.size) (s.fn H (ds++[])).results []:=λb sp hd=>by
  rw[List.append_nil,hds,hr];exact trodAll_cons_mk (shut_bool htb true) trodAll_mk0
 have hargs:∀ sp:Nat->Bool,(∀ x∈p++[],sp x.block=true)->DataW.TrodAll enc P W' 0 sp true fn.params.toList args.toList (s.fn H (ds++[])).args p:=λsp hsp=>by
  rw[List.append_nil,hds];exact Gy hl hb hrd hA (λx hx=>hlt x (by simp[hx])) (λx hx=>hsp x (by simp[hx]))
 have hvars:∀ sp:Nat->Bool,DataW.TrodVars enc P W' sp s.vars (s.fn H (ds++[])).vars []:=λsp=>by
  rw[List.append_nil,hds,hs];rfl
 have hold:∀ x∈p++[],(λb=>decide (b<W.heap.size)) x.block=true:=λx hx=>by simpa using hlt x hx
 refine⟨ds,[],p++[],[],p,[],hW,hres _ _ _,hargs _ hold,hvars _,World.keptBut_mono (λx hx=>⟨hx,?_⟩) (hb.frame (· ∈ p++[])),λ_=>?_⟩
 ·rw[List.append_nil] at hx;exact Or.inr (Or.inl hx)
 refine⟨ok_one hr rfl (okWide_bool_mk htb _),_,_,([]++p)++[],⟨[]++p,[],trodAll_append (hargs _ (λ_ _=>rfl)) (hres _ _ _),hvars _,rfl,?_,?_⟩,?_⟩
 ·intro b off hp;have h1:=hlt (.cell b off) (by simpa using hp);rw[hb.frozen (p:=⟨b,off,none⟩) h1];exact hfz b off (by simpa using hp)
 ·intro ha;have:=hnd ha;simpa using this
 intro x hx _;simpa using hx
end
end Av
