/- From the given form to contracts over values by what they hold: arguments are read; the answer 'true' is told. No program is named. -/
import Derived.Carry
import Derived.WideKeyArgs
import Derived.ChangeArms
import Derived.OpenShut
import Derived.Deep.DeepHandedRow
import Derived.Test.YtlkkekpcofjbeaaGreatDoorA14
namespace Av
open Go Go.RowKit Go.ChangeShapes Go.WideShapes Tw
abbrev okT:Ok:=fun _ _=>True
def aggT (P:Program)(t:TypeId):Bool:=match P.underlying t with
 | some (.struct _)|some (.array _ _)=>true
 | _=>false
structure Rd (P:Program)(t:TypeId)(X:Type)(f:X->AV)(ok:X->Prop):Prop where
 out:∀ {H:Type} {enc:TypeId × Value->H} {w:World} {base:Nat} {sp:Nat->Bool} {held:Bool} {fuel:Nat} {cs:List Value} {x:DataW H × List MemPlace},DataW.trod enc P w base sp held fuel t cs=some x->∃ z,ok z/\RC okT w (f z) cs
 ag:∀ z,(f z).isAgg=aggT P t
section
variable {P:Program} {t e:TypeId}
theorem rd_i64 (ht:P.underlying t=some (.int .i64)):Rd P t Int int (fun n=>-9223372036854775808<=n/\n<=9223372036854775807):=⟨fun h=>by
 obtain⟨n,rfl,_,hw⟩:=DataW.trod_int ht h
 refine⟨n,?_,by rw [RC];exact⟨rfl,rfl⟩⟩
 simp only [Lit.wf,Bool.and_eq_true,decide_eq_true_eq] at hw
 exact hw,fun z=>by simp [aggT,ht,AV.isAgg]⟩
theorem agg_okWide {w:World}{r:Reach}{base:Nat}{v:Value}(h:Value.okWide P w r base t v){H:Type}{enc:TypeId × Value->H}{w':World}{b:Nat}{sp:Nat->Bool}{held:Bool}{d:DataW H}{ps:List MemPlace}(hd:DataW.Trod enc P w' b sp held t v d ps)
  {X:Type} {f:X->AV} {ok:X->Prop} (rd:Rd P t X f ok):∃ z,ok z/\RV0 okT w' (f z) v:=by
 obtain⟨n,hn⟩:=hd
 obtain⟨z,h1,h2⟩:=rd.out hn
 refine⟨z,h1,h2,?_⟩
 rw [rd.ag]
 unfold aggT
 unfold Value.okWide at h
 split at h
 ·rename_i hu
  obtain⟨cs,rfl,_⟩:=h
  simp [hu,isAggV]
 ·rename_i hu
  obtain⟨cs,rfl,_⟩:=h
  simp [hu,isAggV]
 ·rename_i hu1 hu2
  have e:(match P.underlying t with|some (.struct _)|some (.array _ _)=>true|_=>false)=false:=by
   split
   ·rename_i hu;exact absurd hu (hu1 _)
   ·rename_i hu;exact absurd hu (hu2 _ _)
   ·rfl
  rw [e]
  have hl:=h2.len
  have hsz:(f z).size=1:=by
   have ha:(f z).isAgg=false:=by rw [rd.ag];exact e
   cases hf:f z <;> simp [hf,AV.isAgg] at ha <;> rfl
  cases v <;> first|rfl|skip
  exfalso
  rename_i cs
  revert h
  unfold Cell.okWide
  cases hP:P.underlying t with
  | none=>simp [Cell.ok,hP]
  | some D=>cases D <;> simp_all [Cell.ok]
structure RdA (P:Program)(ts:List TypeId)(X:Type)(fs:X->List AV)(ok:X->Prop):Prop where
 out:∀ {H:Type} {enc:TypeId × Value->H} {W:World} {base b:Nat} {sp:Nat->Bool} {held:Bool} {vs:List Value} {ds:List (DataW H)} {ps:List MemPlace},(∀ (j:Nat) t v,ts[j]?=some t->vs[j]?=some v->Value.okWide P W .any base t v) ->
  DataW.TrodAll enc P W b sp held ts vs ds ps->∃ z:X,ok z/\RVs okT W (fs z) vs
theorem rdA_nil:RdA P [] Unit (fun _=>[]) (fun _=>True):=⟨fun _ h=>by
 obtain⟨rfl,_,_⟩:=trodAll_nil h
 exact⟨(),trivial,rfl⟩⟩
theorem rdA_cons {X Y:Type}{f:X->AV}{ok:X->Prop}{g:Y->List AV}{okY:Y->Prop}{ts:List TypeId}(r:Rd P t X f ok)(h:RdA P ts Y g okY):RdA P (t::ts) (X × Y) (fun z=>f z.1::g z.2) (fun z=>ok z.1/\okY z.2):=⟨fun hv ht=>by
 obtain⟨v,vs,d,ds,p,q,rfl,rfl,rfl,h1,h2⟩:=trodAll_cons ht
 obtain⟨z,g1,g2⟩:=agg_okWide (hv 0 t v rfl rfl) h1 r
 obtain⟨z',g3,g4⟩:=h.out (fun j t' v' ha hb=>hv (j + 1) t' v' ha hb) h2
 exact⟨(z,z'),⟨g1,g3⟩,_,_,rfl,g2,g4⟩⟩
end
section
variable {P:Program}
theorem below_of_ext {w w':World}(h:Ext w w'):Below w.heap.size w w':=⟨h.os,h.tape,h.output,h.size,h.block⟩
theorem trodAll_stays {H:Type}{enc:TypeId × Value->H}{W W':World}{sp:Nat->Bool}(hl:laidOutB P=true)(hb:Below W.heap.size W W'):∀ {ts:List TypeId} {vs:List Value} {ds:List (DataW H)} {ps:List MemPlace},ts.all (fun t=>P.readableRec t && decide (t < P.types.size))=true ->
  DataW.TrodAll enc P W 0 (fun _=>true) true ts vs ds ps->(∀ p ∈ ps,p.block < W.heap.size)->(∀ p ∈ ps,sp p.block=true)->DataW.TrodAll enc P W' 0 sp true ts vs ds ps
 | [],_,_,_,_,h,_,_=>by
  obtain⟨rfl,rfl,rfl⟩:=trodAll_nil h
  exact rfl
 | t::ts,_,_,_,hr,h,hlt,hsp=>by
  obtain⟨v,vs,d,ds,p,q,rfl,rfl,rfl,h1,h2⟩:=trodAll_cons h
  simp only [List.all_cons,Bool.and_eq_true,decide_eq_true_eq] at hr
  exact⟨p,q,WideElems.Trod_stays hl hr.1.1 hr.1.2 h1 (fun x hx=>hb.same (hlt x (by simp [hx]))) (fun x hx=>hsp x (by simp [hx])),
   trodAll_stays hl hb hr.2 h2 (fun x hx=>hlt x (by simp [hx])) (fun x hx=>hsp x (by simp [hx])),rfl⟩
theorem law_calls {H:Type}{enc:TypeId × Value->H}{f:FuncId}{fn:Func}{s:ChangeSpec}{apart fresh handsOn again:Bool}{gl:List (Nat × AV)}{tb:TypeId}{X:Type}{fs:X->List AV}{ok:X->Prop}{W:World}{base:Nat}{args:Array Value}{ds gs:List (DataW H)}{before:List MemPlace}
  (hr:fn.resultTypes=#[tb]) (htb:P.underlying tb=some .bool) (hs:s.vars=[]) (hl:laidOutB P=true) (hrd:fn.params.toList.all (fun t=>P.readableRec t && decide (t < P.types.size))=true)
  (rd:RdA P fn.params.toList X fs ok) (hfn:∀ ds:List (DataW H),ds.length=fn.params.toList.length->s.fn H ds={ results:=[.lit (.bool true)],args:=ds })
  (hspec:∀ z,ok z->SpecE P gl f (fs z) (boo true)) (hgl:Glob gl okT W)
  (hval:∀ (j:Nat) t v,fn.params[j]?=some t->args[j]?=some v->Value.okWide P W .any base t v)
  (hW:DataW.Whole enc P fn.params.toList s.vars apart W args.toList ds gs before):Calls P f args W fun e W'=>∃ v,e=.returned v/\s.post enc P fn apart fresh handsOn again W args v W':=by
 have hW':=hW
 obtain⟨p,q,hA,hV,rfl,hfz,hnd⟩:=hW'
 rw [hs] at hV
 obtain⟨rfl,rfl⟩:=trodVars_none hV
 obtain⟨z,hz,hvs⟩:=rd.out (fun j t v h1 h2=>hval j t v (by simpa using h1) (by simpa using h2)) hA
 have hlen:∀ {ts:List TypeId} {vs:List Value} {ds:List (DataW H)} {ps:List MemPlace},DataW.TrodAll enc P W 0 (fun _=>true) true ts vs ds ps->ds.length=ts.length:=by
  intro ts
  induction ts with
  | nil=>intro vs ds ps h;obtain⟨_,rfl,_⟩:=trodAll_nil h;rfl
  | cons t ts ih=>
   intro vs ds ps h
   obtain⟨_,_,_,_,_,_,_,rfl,_,_,h2⟩:=trodAll_cons h
   simp [ih h2]
 have hds:=hfn ds (hlen hA)
 have hS:=St.start gl W okT (fun _ _ _=>trivial) hgl
 have hrun:=(hspec z hz).run okT W args.toList hS hvs
 rw [Array.toArray_toList] at hrun
 refine Calls.mono hrun fun x W' hx=>?_
 obtain⟨v,m',ok',cv,⟨rfl,rfl⟩,rfl,g1,g2⟩:=hx
 have g1:=RV.lit g1
 subst g1
 have hb:=below_of_ext g2.out
 have hlt:∀ x ∈ p++[],x.block < W.heap.size:=fun x hx=>hW.lt x hx
 refine⟨_,rfl,?_⟩
 have hres:∀ (b:Nat) (sp:Nat->Bool) (hd:Bool),DataW.TrodAll enc P W' b sp hd fn.resultTypes.toList ((Value.bool true).resultList fn.resultTypes.size) (s.fn H (ds++[])).results []:=fun b sp hd=>by
  rw [List.append_nil,hds,hr]
  exact trodAll_cons_mk (shut_bool htb true) trodAll_mk0
 have hargs:∀ sp:Nat->Bool,(∀ x ∈ p++[],sp x.block=true)->DataW.TrodAll enc P W' 0 sp true fn.params.toList args.toList (s.fn H (ds++[])).args p:=fun sp hsp=>by
  rw [List.append_nil,hds]
  exact trodAll_stays hl hb hrd hA (fun x hx=>hlt x (by simp [hx])) (fun x hx=>hsp x (by simp [hx]))
 have hvars:∀ sp:Nat->Bool,DataW.TrodVars enc P W' sp s.vars (s.fn H (ds++[])).vars []:=fun sp=>by
  rw [List.append_nil,hds,hs]
  rfl
 have hold:∀ x ∈ p++[],(fun b=>decide (b < W.heap.size)) x.block=true:=fun x hx=>by simpa using hlt x hx
 refine⟨ds,[],p++[],[],p,[],hW,hres _ _ _,hargs _ hold,hvars _,World.keptBut_mono (fun x hx=>⟨hx,?_⟩) (hb.frame (· ∈ p++[])),fun _=>?_⟩
 ·rw [List.append_nil] at hx
  exact Or.inr (Or.inl hx)
 ·refine⟨ok_one hr rfl (okWide_bool_mk htb _),_,_,([]++p)++[],⟨[]++p,[],trodAll_append (hargs _ (fun _ _=>rfl)) (hres _ _ _),hvars _,rfl,?_,?_⟩,?_⟩
  ·intro b off hp
   have h1:=hlt (.cell b off) (by simpa using hp)
   rw [hb.frozen (p:=⟨b,off,none⟩) h1]
   exact hfz b off (by simpa using hp)
  ·intro ha
   have:=hnd ha
   simpa using this
  ·intro x hx _
   simpa using hx
end
end Av
