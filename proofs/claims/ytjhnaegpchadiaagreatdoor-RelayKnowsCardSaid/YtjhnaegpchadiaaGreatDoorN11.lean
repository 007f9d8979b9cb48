/- . -/
import Derived.Carry
import Derived.WideKeyArgs
import Derived.ChangeArms
import Derived.OpenShut
import Derived.Deep.DeepHandedRow
import Derived.Test.YtjhnaegpchadiaaGreatDoorN10
namespace Av
open Go Go.RowKit Go.ChangeShapes Go.WideShapes Tw
abbrev rP:Ok:=fun _ _=>True
def GJ (P:Program)(t:TypeId):Bool:=match P.underlying t with
 | some (.struct _)|some (.array _ _)=>true
 | _=>false
structure Rd (P:Program)(t:TypeId)(X:Type)(f:X->AV)(ok:X->Prop):Prop where
 out:∀ {H:Type} {enc:TypeId × Value->H} {w:World} {base:Nat} {sp:Nat->Bool} {held:Bool} {fuel:Nat} {cs:List Value} {x:DataW H × List MemPlace},DataW.trod enc P w base sp held fuel t cs=some x->∃ z,ok z/\RC rP w (f z) cs
 ag:∀ z,(f z).isAgg=GJ P t
section
variable {P:Program} {t e:TypeId}
theorem Ao (ht:P.underlying t=some (.int .i64)):Rd P t Int int (fun n=>-9223372036854775808<=n/\n<=9223372036854775807):=⟨fun h=>by
 obtain⟨n,rfl,_,hw⟩:=DataW.trod_int ht h;refine⟨n,?_,by rw[RC];exact⟨rfl,rfl⟩⟩;simp only[Lit.wf,Bool.and_eq_true,decide_eq_true_eq] at hw;exact hw,fun z=>by simp[GJ,ht,AV.isAgg]⟩
theorem Tv (ht:P.underlying t=some .string):Rd P t Bs str (fun s=>s.length<=maxLen):=⟨fun h=>by
 obtain⟨s,rfl,_,hw⟩:=DataW.trod_string ht h;refine⟨s.data.toList,by simpa using hw,?_⟩;rw[RC];exact⟨rfl,rfl⟩,fun z=>by simp[GJ,ht,AV.isAgg]⟩
theorem Tx {X:Type}{f:X->AV}{ok:X->Prop}{k:Nat}(r:Rd P e X f ok)(ht:P.underlying t=some (.slice e))(hk:P.cellsOf e=k)(h0:Nat.blt 0 k=true):Rd P t (List X) (fun l=>.sl k (l.map f) none) (fun l=>l.length<=maxLen/\∀ x∈l,ok x):=by
 have h0:0<k:=nlb h0;refine⟨fun {H} {enc} {w} {base} {sp} {held} {fuel} {cs} {x} hx=>?_,fun z=>by simp[GJ,ht,AV.isAgg]⟩;rcases DataW.trod_slice ht hx with⟨rfl,_⟩|⟨a,len,cap,elems,rest,n,_,rfl,_,_,hlc,hcm,hel,he,_⟩
 ·refine⟨[],⟨sm,sm⟩,?_⟩;rw[RC];exact⟨none,0,rfl,sm,Nat.le_refl _,by simp[maxLen],sm,sm⟩
 ·have hcell:∀ i,i<len->∃ c:List Value,c.length=k/\(∀ j,j<k->w.cell? ((a.add (i*k)).add j)=c[j]?)/\∃ y,DataW.trod enc P w base sp held n e c=some y:=by
   intro i hi;have h1:=he i hi;rw[List.getElem?_eq_getElem om,Option.bind_eq_some_iff] at h1;obtain⟨c,h2,h3⟩:=h1;obtain⟨_,h4,h5⟩:=World.cells?_some h2;rw[hk] at h4 h5;exact⟨c,h4,h5,_,h3⟩
  by_cases hn:0<len
  ·obtain⟨b,o,s⟩:=a;have hs:s=none:=by
    obtain⟨c,hc1,hc2,_⟩:=hcell 0 hn;have:=hc2 0 h0;rw[List.getElem?_eq_getElem om] at this;rw[Nat.zero_mul] at this;simp only[Addr.add,if_true] at this;unfold World.cell? at this;cases s with
    | none=>rfl
    | some v=>simp at this;split at this <;> cases this
   subst hs;have key:∀ j,j<=len->∃ (l:List X) (es:List Value),l.length=j/\(∀ x∈l,ok x)/\(∀ x∈l,(f x).size=k)/\es.length=j*k/\At rP w b o es/\RCs rP w (l.map f) es:=by
    intro j
    induction j with
    | zero=>exact fun _=>⟨[],[],rfl,sm,sm,sm,(by intro j v hj;simp at hj),by simp[RCs]⟩
    | succ j ih=>
     intro hj;obtain⟨l,es,h1,h2,h2',h3,h4,h5⟩:=ih om;obtain⟨c,hc1,hc2,y,hc3⟩:=hcell j om;obtain⟨z,h6,h7⟩:=r.out hc3;refine⟨l++[z],es++c,by simp[h1],fun x hx=>?_,fun x hx=>?_,by rw[List.length_append,h3,hc1,Nat.add_mul,Nat.one_mul],fun i v hi=>⟨?_,trivial⟩,?_⟩
     ·rcases List.mem_append.1 hx with hx|hx
      ·exact h2 x hx
      ·obtain rfl:=List.mem_singleton.1 hx;exact h6
     ·rcases List.mem_append.1 hx with hx|hx
      ·exact h2' x hx
      ·obtain rfl:=List.mem_singleton.1 hx;rw[<- h7.len,hc1]
     ·rcases Nat.lt_or_ge i es.length with hlt|hge
      ·rw[List.getElem?_append_left hlt] at hi;exact(h4 i v hi).1
      ·rw[List.getElem?_append_right hge] at hi;have hik:i-es.length<k:=by
        have:=(List.getElem?_eq_some_iff.1 hi).1;omega
       have:=hc2 (i-es.length) hik;rw[add_plain,add_plain,hi,h3] at this;rw[<- this];congr 2
       omega
     ·rw[List.map_append];refine h5.append ?_;rw[List.map_cons,List.map_nil,RCs];exact⟨c,[],sm,h7,by rw[RCs]⟩
   obtain⟨l,es,h1,h2,h2',h3,h4,h5⟩:=key len (Nat.le_refl _);refine⟨l,⟨om,h2⟩,?_⟩;rw[RC];refine⟨some ⟨b,o,none⟩,cap,by simp[h1],sm,by simp[h1];omega,hcm,fun _=>⟨b,o,es,rfl,by simp[h1,h3],h4,h5⟩,fun x hx=>?_⟩;obtain⟨z,hz,rfl⟩:=List.mem_map.1 hx;exact h2' z hz
  ·obtain rfl:len=0:=by omega
   refine⟨[],⟨sm,sm⟩,?_⟩;rw[RC];exact⟨some a,cap,rfl,sm,sm,hcm,sm,sm⟩
theorem a5Y {w:World}{r:Reach}{base:Nat}{v:Value}(h:Value.okWide P w r base t v){H:Type}{enc:TypeId × Value->H}{w':World}{b:Nat}{sp:Nat->Bool}{held:Bool}{d:DataW H}{ps:List MemPlace}(hd:DataW.Trod enc P w' b sp held t v d ps)
  {X:Type} {f:X->AV} {ok:X->Prop} (rd:Rd P t X f ok):∃ z,ok z/\RV0 rP w' (f z) v:=by
 obtain⟨n,hn⟩:=hd;obtain⟨z,h1,h2⟩:=rd.out hn;refine⟨z,h1,h2,?_⟩;rw[rd.ag];unfold GJ;unfold Value.okWide at h;split at h
 ·rename_i hu;obtain⟨cs,rfl,_⟩:=h;simp[hu,rW]
 ·rename_i hu;obtain⟨cs,rfl,_⟩:=h;simp[hu,rW]
 ·rename_i hu1 hu2;have e:(match P.underlying t with|some (.struct _)|some (.array _ _)=>true|_=>false)=false:=by
   split
   ·rename_i hu;exact absurd hu (hu1 _)
   ·rename_i hu;exact absurd hu (hu2 _ _)
   ·rfl
  rw[e];have hl:=h2.len;have hsz:(f z).size=1:=by
   have ha:(f z).isAgg=false:=by rw[rd.ag];exact e
   cases hf:f z <;> simp[hf,AV.isAgg] at ha <;> rfl
  cases v <;> first|rfl|skip
  exfalso
  rename_i cs
  revert h
  unfold Cell.okWide;cases hP:P.underlying t with
  | none=>simp[Cell.ok,hP]
  | some D=>cases D <;> simp_all [Cell.ok]
structure RdA (P:Program)(ts:List TypeId)(X:Type)(fs:X->List AV)(ok:X->Prop):Prop where
 out:∀ {H:Type} {enc:TypeId × Value->H} {W:World} {base b:Nat} {sp:Nat->Bool} {held:Bool} {vs:List Value} {ds:List (DataW H)} {ps:List MemPlace},(∀ (j:Nat) t v,ts[j]?=some t->vs[j]?=some v->Value.okWide P W .any base t v) ->
  DataW.TrodAll enc P W b sp held ts vs ds ps->∃ z:X,ok z/\RVs rP W (fs z) vs
theorem Ap:RdA P [] Unit (fun _=>[]) (fun _=>True):=⟨fun _ h=>by
 obtain⟨rfl,_,_⟩:=trodAll_nil h;exact⟨(),trivial,rfl⟩⟩
theorem PS {X Y:Type}{f:X->AV}{ok:X->Prop}{g:Y->List AV}{okY:Y->Prop}{ts:List TypeId}(r:Rd P t X f ok)(h:RdA P ts Y g okY):RdA P (t::ts) (X × Y) (fun z=>f z.1::g z.2) (fun z=>ok z.1/\okY z.2):=⟨fun hv ht=>by
 obtain⟨v,vs,d,ds,p,q,rfl,rfl,rfl,h1,h2⟩:=trodAll_cons ht;obtain⟨z,g1,g2⟩:=a5Y (hv 0 t v rfl rfl) h1 r;obtain⟨z',g3,g4⟩:=h.out (fun j t' v' ha hb=>hv (j+1) t' v' ha hb) h2;exact⟨(z,z'),⟨g1,g3⟩,_,_,rfl,g2,g4⟩⟩
end
section
variable {P:Program}
theorem a3Q {w w':World}(h:Ext w w'):Below w.heap.size w w':=⟨h.os,h.tape,h.output,h.size,h.block⟩
theorem WT {H:Type}{enc:TypeId × Value->H}{W W':World}{sp:Nat->Bool}(hl:laidOutB P=true)(hb:Below W.heap.size W W'):∀ {ts:List TypeId} {vs:List Value} {ds:List (DataW H)} {ps:List MemPlace},ts.all (fun t=>P.readableRec t&&decide (t<P.types.size))=true ->
  DataW.TrodAll enc P W 0 (fun _=>true) true ts vs ds ps->(∀ p∈ps,p.block<W.heap.size)->(∀ p∈ps,sp p.block=true)->DataW.TrodAll enc P W' 0 sp true ts vs ds ps
 | [],_,_,_,_,h,_,_=>by
  obtain⟨rfl,rfl,rfl⟩:=trodAll_nil h;exact rfl
 | t::ts,_,_,_,hr,h,hlt,hsp=>by
  obtain⟨v,vs,d,ds,p,q,rfl,rfl,rfl,h1,h2⟩:=trodAll_cons h;simp only[List.all_cons,Bool.and_eq_true,decide_eq_true_eq] at hr;exact⟨p,q,WideElems.Trod_stays hl hr.1.1 hr.1.2 h1 (fun x hx=>hb.same (hlt x (by simp[hx]))) (fun x hx=>hsp x (by simp[hx])),
   WT hl hb hr.2 h2 (fun x hx=>hlt x (by simp[hx])) (fun x hx=>hsp x (by simp[hx])),rfl⟩
theorem Dn {H:Type}{enc:TypeId × Value->H}{f:FuncId}{fn:Func}{s:ChangeSpec}{apart fresh handsOn again:Bool}{gl:List (Nat × AV)}{tb:TypeId}{X:Type}{fs:X->List AV}{ok:X->Prop}{W:World}{base:Nat}{args:Array Value}{ds gs:List (DataW H)}{before:List MemPlace}
  (hr:fn.resultTypes=#[tb]) (htb:P.underlying tb=some .bool) (hs:s.vars=[]) (hl:laidOutB P=true) (hrd:fn.params.toList.all (fun t=>P.readableRec t&&decide (t<P.types.size))=true)
  (rd:RdA P fn.params.toList X fs ok) (hfn:∀ ds:List (DataW H),ds.length=fn.params.toList.length->s.fn H ds={ results:=[.lit (.bool true)],args:=ds })
  (hspec:∀ z,ok z->SpecE P gl f (fs z) (j3 true)) (hgl:Glob gl rP W)
  (hval:∀ (j:Nat) t v,fn.params[j]?=some t->args[j]?=some v->Value.okWide P W .any base t v)
  (hW:DataW.Whole enc P fn.params.toList s.vars apart W args.toList ds gs before):Calls P f args W fun e W'=>∃ v,e=.returned v/\s.post enc P fn apart fresh handsOn again W args v W':=by
 have hW':=hW;obtain⟨p,q,hA,hV,rfl,hfz,hnd⟩:=hW';rw[hs] at hV;obtain⟨rfl,rfl⟩:=trodVars_none hV;obtain⟨z,hz,hvs⟩:=rd.out (fun j t v h1 h2=>hval j t v (by simpa using h1) (by simpa using h2)) hA;have hlen:∀ {ts:List TypeId} {vs:List Value} {ds:List (DataW H)} {ps:List MemPlace},DataW.TrodAll enc P W 0 (fun _=>true) true ts vs ds ps->ds.length=ts.length:=by
  intro ts
  induction ts with
  | nil=>intro vs ds ps h;obtain⟨_,rfl,_⟩:=trodAll_nil h;rfl
  | cons t ts ih=>
   intro vs ds ps h;obtain⟨_,_,_,_,_,_,_,rfl,_,_,h2⟩:=trodAll_cons h;simp[ih h2]
 have hds:=hfn ds (hlen hA);have hS:=St.start gl W rP (fun _ _ _=>trivial) hgl;have hrun:=(hspec z hz).run rP W args.toList hS hvs;rw[Array.toArray_toList] at hrun;refine Calls.mono hrun fun x W' hx=>?_;obtain⟨v,m',ok',cv,⟨rfl,rfl⟩,rfl,g1,g2⟩:=hx;have g1:=RV.lit g1;subst g1;have hb:=a3Q g2.out;have hlt:∀ x∈p++[],x.block<W.heap.size:=fun x hx=>hW.lt x hx;refine⟨_,rfl,?_⟩;have hres:∀ (b:Nat) (sp:Nat->Bool) (hd:Bool),DataW.TrodAll enc P W' b sp hd fn.resultTypes.toList ((Value.bool true).resultList fn.resultTypes.size) (s.fn H (ds++[])).results []:=fun b sp hd=>by
  rw[List.append_nil,hds,hr];exact trodAll_cons_mk (shut_bool htb true) trodAll_mk0
 have hargs:∀ sp:Nat->Bool,(∀ x∈p++[],sp x.block=true)->DataW.TrodAll enc P W' 0 sp true fn.params.toList args.toList (s.fn H (ds++[])).args p:=fun sp hsp=>by
  rw[List.append_nil,hds];exact WT hl hb hrd hA (fun x hx=>hlt x (by simp[hx])) (fun x hx=>hsp x (by simp[hx]))
 have hvars:∀ sp:Nat->Bool,DataW.TrodVars enc P W' sp s.vars (s.fn H (ds++[])).vars []:=fun sp=>by
  rw[List.append_nil,hds,hs];rfl
 have hold:∀ x∈p++[],(fun b=>decide (b<W.heap.size)) x.block=true:=fun x hx=>by simpa using hlt x hx
 refine⟨ds,[],p++[],[],p,[],hW,hres _ _ _,hargs _ hold,hvars _,World.keptBut_mono (fun x hx=>⟨hx,?_⟩) (hb.frame (· ∈ p++[])),fun _=>?_⟩
 ·rw[List.append_nil] at hx;exact Or.inr (Or.inl hx)
 ·refine⟨ok_one hr rfl (okWide_bool_mk htb _),_,_,([]++p)++[],⟨[]++p,[],trodAll_append (hargs _ (fun _ _=>rfl)) (hres _ _ _),hvars _,rfl,?_,?_⟩,?_⟩
  ·intro b off hp;have h1:=hlt (.cell b off) (by simpa using hp);rw[hb.frozen (p:=⟨b,off,none⟩) h1];exact hfz b off (by simpa using hp)
  ·intro ha;have:=hnd ha;simpa using this
  ·intro x hx _;simpa using hx
end
end Av
