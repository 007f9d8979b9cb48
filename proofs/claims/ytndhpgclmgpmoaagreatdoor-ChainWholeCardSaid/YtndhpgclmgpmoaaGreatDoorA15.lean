/- From the given form to contracts over values by what they hold: arguments are read; the answer 'true' is told. No program is named. -/
import Derived.Laws.StructEq
import Derived.ChangeKeysEq
import Derived.Carry
import Derived.WideKeyArgs
import Derived.ChangeArms
import Derived.OpenShut
import Derived.Deep.DeepHandedRow
import Derived.Test.YtndhpgclmgpmoaaGreatDoorA14
namespace Av
open Go Go.RowKit Tw
instance : DecidableEq Hsh := fun a b => if h : a.l = b.l then isTrue (Hsh.ext' h) else isFalse fun e => h (by rw [e])
instance : DecidableEq Ent := fun a b => if h : a.key = b.key /\ a.val = b.val then isTrue (by cases a; cases b; simp_all) else isFalse fun e => h (by rw [e]; exact ⟨rfl, rfl⟩)
class Shp (a:AV)(n:outParam Nat)(g:outParam Bool):Prop where
 sz:a.size=n
 ag:a.isAgg=g
instance {v:Value}:Shp (.lit v) 1 false:=⟨rfl,rfl⟩
instance {n:Nat}{ps:List AV}:Shp (.agg n ps) n true:=⟨rfl,rfl⟩
instance {h:Hsh}:Shp (hA h) 32 true:=⟨rfl,rfl⟩
class TyB (P:Program)(T:TypeId):Prop where
 out:P.underlying T=some .bool
def fieldsQ (P:Program)(T:TypeId):Option (List (TypeId × Nat × Nat)):=match P.underlying T with
 | some (.struct fs) => bif fs.toList.all (fun f => f.name != "_") && !P.stoodInHeld T then some (fs.toList.map fun f => (f.type, f.offset, P.cellsOf f.type)) else none
 | _=>none
def chainQ:Nat->List (TypeId × Nat × Nat)->Bool
 | _,[]=>true
 | o,(_,off,k)::l=>Nat.beq off o && chainQ (o + k) l
class TyQ (P:Program)(T:TypeId)(l:outParam (List (TypeId × Nat × Nat))):Prop where
 out:fieldsQ P T=some l
 chain:chainQ 0 l=true
class Eqv (P:Program)(T:TypeId)(a b:AV)(k:outParam Nat)(c:outParam Bool):Prop where
 run:∀ {ok:Ok} {w:World} {va vb:Value} (d:Nat),k<=d->RV0 ok w a va->RV0 ok w b vb->(Op.equalIn (d + 1) T va vb).run P w=.ok c w
theorem beq_dec {α:Type}[DecidableEq α](a b:α):(a == b)=decide (a=b):=rfl
instance {P:Program}{T:TypeId}[t:TyB P T]{a b:Bool}:Eqv P T (boo a) (boo b) 0 (decide (a=b)):=⟨fun d _ ha hb=>by
 rw [RV0.lit ha,RV0.lit hb,run_equalIn_bool _ d T a b t.out]
 rfl⟩
instance {P:Program}{T:TypeId}{k:IntKind}[t:TyI P T k]{a b:Int}:Eqv P T (.lit (.int k a)) (.lit (.int k b)) 0 (decide (a=b)):=⟨fun d _ ha hb=>by
 rw [RV0.lit ha,RV0.lit hb,run_equalIn_int _ d T k k a b t.out]
 rfl⟩
theorem sv_eqB (a b:Bs):((⟨a.toArray⟩:ByteArray).toList == (⟨b.toArray⟩:ByteArray).toList)=decide (a=b):=by
 rw [ByteArray.toList_eq,ByteArray.toList_eq]
 show (a == b)=decide (a=b)
 by_cases h:a=b <;> simp [h]
instance {P:Program}{T:TypeId}[t:TyT P T]{a b:Bs}:Eqv P T (str a) (str b) 0 (decide (a=b)):=⟨fun d _ ha hb=>by
 rw [RV0.lit ha,RV0.lit hb]
 show (Op.equalIn (d + 1) T (.string ⟨a.toArray⟩) (.string ⟨b.toArray⟩)).run P _=_
 rw [run_equalIn_string _ d T _ _ t.out,sv_eqB]⟩
theorem eqItems_u8 {P:Program}{e:TypeId}(he:P.underlying e=some (.int .u8))(w:World)(d:Nat):∀ (n o:Nat) (la lb:Bs),la.length=o + n->lb.length=o + n ->
  (Op.eqItems (d + 1) e 1 (la.map u8v).toArray (lb.map u8v).toArray (List.range' o n)).run P w=.ok (decide (la.drop o=lb.drop o)) w
 | 0,o,la,lb,h1,h2=>by
  rw [List.drop_of_length_le (l:=la) (by omega),List.drop_of_length_le (l:=lb) (by omega)]
  simp [Op.eqItems]
 | n + 1,o,la,lb,h1,h2=>by
  have hp:P.plainKey e=true:=by simp [Program.plainKey,he]
  have hla:o < la.length:=by omega
  have hlb:o < lb.length:=by omega
  have ea:(la.map u8v).toArray[o * 1]?=some (u8v la[o]):=by simp [hla]
  have eb:(lb.map u8v).toArray[o * 1]?=some (u8v lb[o]):=by simp [hlb]
  have hq:(Op.equalIn (d + 1) e (u8v la[o]) (u8v lb[o])).run P w=.ok (decide (la[o]=lb[o])) w:=by
   unfold u8v
   rw [run_equalIn_int _ d e _ _ _ _ he]
   congr 1
   rw [beq_dec,decide_eq_decide]
   constructor
   ·intro h
    exact UInt8.toNat_inj.1 (by omega)
   ·intro h
    rw [h]
  rw [List.range'_succ]
  simp only [Op.eqItems,Sem.run_bind,run_part_plain w hp ea,run_part_plain w hp eb,Result.andThen_ok,hq]
  rw [List.drop_eq_getElem_cons hla,List.drop_eq_getElem_cons hlb]
  by_cases h:la[o]=lb[o]
  ·simp only [h,decide_true,Bool.not_true,Bool.false_eq_true,if_false,eqItems_u8 he w d n (o + 1) la lb (by omega) (by omega),List.cons.injEq,true_and]
  ·have hf:decide (la[o]::la.drop (o + 1)=lb[o]::lb.drop (o + 1))=false:=by
    rw [decide_eq_false_iff_not,List.cons.injEq]
    exact fun e=>h e.1
   rw [hf]
   simp [h]
theorem info_of_sz {P:Program}{T:TypeId}{k:Nat}(h:(P.info? T).map (·.size)=some k):∃ i,P.info? T=some i/\P.cellsOf T=k:=by
 cases hi:P.info? T with
 | none=>simp [hi] at h
 | some i=>exact⟨i,rfl,by simpa [Program.cellsOf,hi] using h⟩
theorem hA_val {ok:Ok}{w:World}{h:Hsh}{v:Value}(hr:RV0 ok w (hA h) v):v=.agg (h.l.map u8v).toArray:=by
 have:=hA_RV (RV.of0 hr)
 rw [this]
 unfold hv
 rw [hcs_eq]
instance {P:Program}{T e:TypeId}[t:TyA P T 32 e 1][te:TyI P e .u8]{a b:Hsh}:Eqv P T (hA a) (hA b) 1 (decide (a=b)):=⟨fun {ok w va vb} d hd ha hb=>by
 rw [hA_val ha,hA_val hb]
 obtain⟨i,hi,hc⟩:=info_of_sz t.sz
 obtain⟨d,rfl⟩:∃ d',d=d' + 1:=⟨d - 1,by omega⟩
 rw [run_equalIn_array w (d + 1) _ _ t.out hi,hc,List.range_eq_range',eqItems_u8 te.out w d 32 0 a.l b.l (by rw [a.len]) (by rw [b.len])]
 congr 1
 rw [decide_eq_decide,List.drop_zero,List.drop_zero]
 exact⟨Hsh.ext',fun h=>by rw [h]⟩⟩
class EqvS (P:Program)(l:List (TypeId × Nat × Nat))(as bs:List AV)(k:outParam Nat)(c:outParam Bool):Prop where
 run:∀ {ok:Ok} {w:World} (d:Nat),k<=d->∀ {o:Nat} {x y ca cb:List Value},x.length=o->y.length=o->chainQ o l=true->RCs ok w as ca->RCs ok w bs cb ->
  ∀ fs : List Field, fs.map (fun f => (f.type, f.offset, P.cellsOf f.type)) = l → (∀ f ∈ fs, (f.name != "_") = true) → (Op.eqFields (d + 1) (x ++ ca).toArray (y ++ cb).toArray fs).run P w = .ok c w
instance {P:Program}:EqvS P [] [] [] 0 true:=⟨fun {ok w} d _ {o x y ca cb} _ _ _ _ _ fs hf _=>by
 obtain rfl:fs=[]:=by simpa using hf
 simp [Op.eqFields]⟩
instance {P:Program}{T:TypeId}{off s:Nat}{g:Bool}{a b:AV}{l:List (TypeId × Nat × Nat)}{as bs:List AV}{k k2:Nat}{c c2:Bool}[t:Ty P T g s][sa:Shp a s g][sb:Shp b s g][h:Eqv P T a b k c][h2:EqvS P l as bs k2 c2]:EqvS P ((T,off,s)::l) (a::as) (b::bs) (k + k2) (c && c2):=⟨fun {ok w} d hd {o x y ca cb} hx hy hch ha hb fs hf hn=>by
 obtain⟨f,fs,rfl⟩:∃ f fs',fs=f::fs':=by
  cases fs with
  | nil=>simp at hf
  | cons f fs=>exact⟨f,fs,rfl⟩
 simp only [List.map_cons,List.cons.injEq,Prod.mk.injEq] at hf
 obtain⟨⟨e1,e2,e3⟩,hf⟩:=hf
 simp only [chainQ,Bool.and_eq_true] at hch
 obtain⟨h3,h4⟩:=hch
 have h3:=Nat.eq_of_beq_eq_true h3
 subst h3
 rw [RCs] at ha hb
 obtain⟨a1,a2,rfl,ga1,ga2⟩:=ha
 obtain⟨b1,b2,rfl,gb1,gb2⟩:=hb
 have la:a1.length=s:=by rw [ga1.len,sa.sz]
 have lb:b1.length=s:=by rw [gb1.len,sb.sz]
 have hname:=hn f (by simp)
 have hpa:=Av.run_part (P:=P) t (x:=x) (c:=a1) (y:=a2) ga1 la sa.ag
 have hpb:=Av.run_part (P:=P) t (x:=y) (c:=b1) (y:=b2) gb1 lb sb.ag
 rw [hx] at hpa
 rw [hy] at hpb
 have hq:=h.run (d:=d) (by omega) (RV0.mk ga1) (RV0.mk gb1)
 rw [sa.ag,sb.ag] at hq
 have hrest:=h2.run (d:=d) (by omega) (o:=off + s) (x:=x++a1) (y:=y++b1) (by simp [hx,la]) (by simp [hy,lb]) h4 ga2 gb2 fs hf (fun q hq=>hn q (by simp [hq]))
 have hne : f.name ≠ "_" := by simpa using hname
 subst e1 e2
 rw [<- laa,<- laa]
 simp only [Op.eqFields,hne,ne_eq,not_false_eq_true,if_true,Sem.run_bind,hpa,hpb,Result.andThen_ok,hq]
 cases c
 ·simp
 ·simpa using hrest⟩
instance {P:Program}{T:TypeId}{l:List (TypeId × Nat × Nat)}{n:Nat}{as bs:List AV}{k:Nat}{c:Bool}[t:TyQ P T l][h:EqvS P l as bs k c]:Eqv P T (.agg n as) (.agg n bs) (k + 1) c:=⟨fun {ok w va vb} d hd ha hb=>by
 obtain⟨d,rfl⟩:∃ d',d=d' + 1:=⟨d - 1,by omega⟩
 have hq:=t.out
 unfold fieldsQ at hq
 split at hq
 ·rename_i fs hu
  cases hb1 : (fs.toList.all (fun f => f.name != "_") && !P.stoodInHeld T) with
  | false=>rw [hb1] at hq;cases hq
  | true=>
   rw [hb1,cond_true] at hq
   injection hq with hq
   simp only [Bool.and_eq_true,Bool.not_eq_true'] at hb1
   obtain⟨cs1,rfl,g1⟩:=agg_run (RV.of0 ha)
   obtain⟨cs2,rfl,g2⟩:=agg_run (RV.of0 hb)
   rw [RC] at g1 g2
   have hfo:P.fieldsOf T=fs:=by simp [Program.fieldsOf,hu]
   rw [run_equalIn_struct w (d + 1) T _ _ (by rw [hfo];exact hu) hb1.2,hfo]
   have:=h.run (d:=d) (by omega) (o:=0) (x:=[]) (y:=[]) rfl rfl t.chain g1.2 g2.2 fs.toList hq (fun f hf=>List.all_eq_true.1 hb1.1 f hf)
   simpa using this
 ·cases hq⟩
class NoG (P:Program)(T:TypeId):Prop where
 out:P.eqGuardType P.depth T=false
section
variable {P:Program} {N:Nat} {ops:Array Oper} {Q:Exit->Act->World->Prop} {rest:List Oper} {s:Base} {e:Env} {m:List Piece} {d:Nat} {ty:TypeId} {pos:String} {af:Array Edge}
theorem al_eqA {op:BinOp}{T yT:TypeId}{x y:Operand}{a b:AV}{k:Nat}{c r:Bool}(h:AL P N ops Q s rest ((d,boo r)::e) m)(hx:ev e x=some a:=by exact rfl)(hy:ev e y=some b:=by exact rfl)(hE:Eqv P T a b k c:=by infer_instance)(hG:NoG P T:=by infer_instance)(hk:Nat.ble k 9999=true:=by exact rfl)
  (ha:a.isAgg=true:=by exact rfl) (hb:b.isAgg=true:=by exact rfl) (hc:eqs op c=some r:=by exact rfl) (hd:Nat.blt d N=true:=by exact rfl):AL P N ops Q s (⟨some d,.binOp op T x y yT,ty,pos,af,none⟩::rest) e m:=
 al_val (fun ok w A _ hA=>by
  have g1:=(hA.eval hx).to0 (by rintro vs rfl;simp [AV.isAgg] at ha)
  have g2:=(hA.eval hy).to0 (by rintro vs rfl;simp [AV.isAgg] at hb)
  have v1:A.eval x=.agg (A.eval x).cells:=agg_of (by rw [<- g1.2,ha])
  have v2:A.eval y=.agg (A.eval y).cells:=agg_of (by rw [<- g2.2,hb])
  have hk:=nlb hk
  have hr:=hE.run 9999 hk g1 g2
  refine⟨.bool r,?_,RVl rfl⟩
  have hgd:(eqGuard op T x y (A.eval x) (A.eval y)).run P w=.ok () w:=by
   rw [v1,v2]
   unfold eqGuard
   cases op <;> simp [hG.out]
  exact run_eqs rfl rfl (by rw [v1];simp) (by rw [v1];simp) (by rw [v1];simp) (by rw [v1];simp) hgd (by unfold Op.equal;exact hr) hc) hd h
end
end Av

namespace Av
open Go Go.RowKit Go.ChangeShapes Go.WideShapes Tw
abbrev okT:Ok:=fun _ _=>True
def aggT (P:Program)(t:TypeId):Bool:=match P.underlying t with
 | some (.struct _)|some (.array _ _)=>true
 | _=>false
structure Rd (P:Program)(t:TypeId)(X:Type)(f:X->AV)(ok:X->Prop):Prop where
 out:∀ {H:Type} {enc:TypeId × Value->H} {w:World} {base:Nat} {sp:Nat->Bool} {held:Bool} {fuel:Nat} {cs:List Value} {x:DataW H × List MemPlace},DataW.trod enc P w base sp held fuel t cs=some x->∃ z,ok z/\RC okT w (f z) cs
 ag:∀ z,(f z).isAgg=aggT P t
section
variable {P:Program} {t e:TypeId}
theorem rd_bool (ht:P.underlying t=some .bool):Rd P t Bool boo (fun _=>True):=⟨fun h=>by
 obtain⟨b,rfl,_⟩:=DataW.trod_bool ht h
 exact⟨b,trivial,by rw [RC];exact⟨rfl,rfl⟩⟩,fun z=>by simp [aggT,ht,AV.isAgg]⟩
theorem rd_i64 (ht:P.underlying t=some (.int .i64)):Rd P t Int int (fun n=>-9223372036854775808<=n/\n<=9223372036854775807):=⟨fun h=>by
 obtain⟨n,rfl,_,hw⟩:=DataW.trod_int ht h
 refine⟨n,?_,by rw [RC];exact⟨rfl,rfl⟩⟩
 simp only [Lit.wf,Bool.and_eq_true,decide_eq_true_eq] at hw
 exact hw,fun z=>by simp [aggT,ht,AV.isAgg]⟩
theorem rd_str (ht:P.underlying t=some .string):Rd P t Bs str (fun s=>s.length<=maxLen):=⟨fun h=>by
 obtain⟨s,rfl,_,hw⟩:=DataW.trod_string ht h
 refine⟨s.data.toList,by simpa using hw,?_⟩
 rw [RC]
 exact⟨rfl,rfl⟩,fun z=>by simp [aggT,ht,AV.isAgg]⟩
structure RdS (P:Program)(l:List (TypeId × Nat))(o tot:Nat)(X:Type)(fs:X->List AV)(ok:X->Prop):Prop where
 out:∀ {H:Type} {enc:TypeId × Value->H} {w:World} {base:Nat} {sp:Nat->Bool} {held:Bool} {n:Nat} {cs:List Value},cs.length=tot ->
  (∀ p ∈ l,∃ y,DataW.trod enc P w base sp held n p.1 ((cs.drop p.2).take (P.cellsOf p.1))=some y)->∃ z:X,ok z/\RCs okT w (fs z) (cs.drop o)
theorem rdS_nil {tot:Nat}:RdS P [] tot tot Unit (fun _=>[]) (fun _=>True):=⟨fun hl _=>⟨(),trivial,by rw [List.drop_of_length_le (by omega),RCs]⟩⟩
theorem rdS_cons {X Y:Type}{f:X->AV}{ok:X->Prop}{g:Y->List AV}{okY:Y->Prop}{l:List (TypeId × Nat)}{o k tot:Nat}(r:Rd P t X f ok)(hk:P.cellsOf t=k)(h:RdS P l (o + k) tot Y g okY):RdS P ((t,o)::l) o tot (X × Y) (fun z=>f z.1::g z.2) (fun z=>ok z.1/\okY z.2):=⟨fun hl hp=>by
 obtain⟨y,hy⟩:=hp (t,o) (by simp)
 obtain⟨z,h1,h2⟩:=r.out hy
 obtain⟨z',h3,h4⟩:=h.out hl (fun p hpm=>hp p (by simp [hpm]))
 refine⟨(z,z'),⟨h1,h3⟩,?_⟩
 rw [RCs]
 refine⟨_,_,?_,h2,h4⟩
 rw [hk,<- List.drop_drop,List.take_append_drop]⟩
def fieldsT (P:Program)(t:TypeId):Option (List (TypeId × Nat)):=match P.underlying t with
 | some (.struct fs)=>some (fs.toList.map fun f=>(f.type,f.offset))
 | _=>none
theorem rd_struct {X:Type}{g:X->List AV}{ok:X->Prop}{l:List (TypeId × Nat)}{tot:Nat}(ht:fieldsT P t=some l)(hc:P.cellsOf t=tot)(h:RdS P l 0 tot X g ok):Rd P t X (fun z=>.agg tot (g z)) ok:=by
 unfold fieldsT at ht
 split at ht
 ·rename_i fs hu
  injection ht with ht
  subst ht
  refine⟨fun hx=>?_,fun z=>by simp [aggT,hu,AV.isAgg]⟩
  obtain⟨xs,n,_,_,hl,hxs,he⟩:=DataW.trod_struct hu hx
  obtain⟨z,h1,h2⟩:=h.out (n:=n) (by rw [hl,hc]) (fun p hp=>by
   obtain⟨fd,hf,rfl⟩:=List.mem_map.1 hp
   obtain⟨i,hi,hf⟩:=List.mem_iff_getElem.1 hf
   have hi':i < fs.size:=by simpa using hi
   have:=he i fd (by rw [Array.getElem?_eq_getElem hi'];simpa using hf)
   rw [this,List.getElem?_eq_getElem (by omega)]
   exact⟨_,rfl⟩)
  refine⟨z,h1,?_⟩
  rw [RC]
  exact⟨by rw [hl,hc],by simpa using h2⟩
 ·cases ht
theorem rd_slice {X:Type}{f:X->AV}{ok:X->Prop}{k:Nat}(r:Rd P e X f ok)(ht:P.underlying t=some (.slice e))(hk:P.cellsOf e=k)(h0:Nat.blt 0 k=true):Rd P t (List X) (fun l=>.sl k (l.map f) none) (fun l=>l.length<=maxLen/\∀ x ∈ l,ok x):=by
 have h0:0 < k:=nlb h0
 refine⟨fun {H} {enc} {w} {base} {sp} {held} {fuel} {cs} {x} hx=>?_,fun z=>by simp [aggT,ht,AV.isAgg]⟩
 rcases DataW.trod_slice ht hx with⟨rfl,_⟩|⟨a,len,cap,elems,rest,n,_,rfl,_,_,hlc,hcm,hel,he,_⟩
 ·refine⟨[],⟨by simp,by simp⟩,?_⟩
  rw [RC]
  exact⟨none,0,rfl,by simp,Nat.le_refl _,by simp [maxLen],by simp,by simp⟩
 ·have hcell:∀ i,i < len->∃ c:List Value,c.length=k/\(∀ j,j < k->w.cell? ((a.add (i * k)).add j)=c[j]?)/\∃ y,DataW.trod enc P w base sp held n e c=some y:=by
   intro i hi
   have h1:=he i hi
   rw [List.getElem?_eq_getElem (by omega),Option.bind_eq_some_iff] at h1
   obtain⟨c,h2,h3⟩:=h1
   obtain⟨_,h4,h5⟩:=World.cells?_some h2
   rw [hk] at h4 h5
   exact⟨c,h4,h5,_,h3⟩
  by_cases hn:0 < len
  ·obtain⟨b,o,s⟩:=a
   have hs:s=none:=by
    obtain⟨c,hc1,hc2,_⟩:=hcell 0 hn
    have:=hc2 0 h0
    rw [List.getElem?_eq_getElem (by omega)] at this
    rw [Nat.zero_mul] at this
    simp only [Addr.add,if_true] at this
    unfold World.cell? at this
    cases s with
    | none=>rfl
    | some v=>simp at this;split at this <;> cases this
   subst hs
   have key:∀ j,j<=len->∃ (l:List X) (es:List Value),l.length=j/\(∀ x ∈ l,ok x)/\(∀ x ∈ l,(f x).size=k)/\es.length=j * k/\At okT w b o es/\RCs okT w (l.map f) es:=by
    intro j
    induction j with
    | zero=>exact fun _=>⟨[],[],rfl,by simp,by simp,by simp,(by intro j v hj;simp at hj),by simp [RCs]⟩
    | succ j ih=>
     intro hj
     obtain⟨l,es,h1,h2,h2',h3,h4,h5⟩:=ih (by omega)
     obtain⟨c,hc1,hc2,y,hc3⟩:=hcell j (by omega)
     obtain⟨z,h6,h7⟩:=r.out hc3
     refine⟨l++[z],es++c,by simp [h1],fun x hx=>?_,fun x hx=>?_,by rw [List.length_append,h3,hc1,Nat.add_mul,Nat.one_mul],fun i v hi=>⟨?_,trivial⟩,?_⟩
     ·rcases List.mem_append.1 hx with hx|hx
      ·exact h2 x hx
      ·obtain rfl:=List.mem_singleton.1 hx;exact h6
     ·rcases List.mem_append.1 hx with hx|hx
      ·exact h2' x hx
      ·obtain rfl:=List.mem_singleton.1 hx
       rw [<- h7.len,hc1]
     ·rcases Nat.lt_or_ge i es.length with hlt|hge
      ·rw [List.getElem?_append_left hlt] at hi
       exact (h4 i v hi).1
      ·rw [List.getElem?_append_right hge] at hi
       have hik:i - es.length < k:=by
        have:=(List.getElem?_eq_some_iff.1 hi).1
        omega
       have:=hc2 (i - es.length) hik
       rw [add_plain,add_plain,hi,h3] at this
       rw [<- this]
       congr 2
       omega
     ·rw [List.map_append]
      refine h5.append ?_
      rw [List.map_cons,List.map_nil,RCs]
      exact⟨c,[],by simp,h7,by rw [RCs]⟩
   obtain⟨l,es,h1,h2,h2',h3,h4,h5⟩:=key len (Nat.le_refl _)
   refine⟨l,⟨by omega,h2⟩,?_⟩
   rw [RC]
   refine⟨some ⟨b,o,none⟩,cap,by simp [h1],by simp,by simp [h1];omega,hcm,fun _=>⟨b,o,es,rfl,by simp [h1,h3],h4,h5⟩,fun x hx=>?_⟩
   obtain⟨z,hz,rfl⟩:=List.mem_map.1 hx
   exact h2' z hz
  ·obtain rfl:len=0:=by omega
   refine⟨[],⟨by simp,by simp⟩,?_⟩
   rw [RC]
   exact⟨some a,cap,rfl,by simp,by simp,hcm,by simp,by simp⟩
theorem agg_okWide {w:World}{r:Reach}{base:Nat}{v:Value}(h:Value.okWide P w r base t v){H:Type}{enc:TypeId × Value->H}{w':World}{b:Nat}{sp:Nat->Bool}{held:Bool}{d:DataW H}{ps:List MemPlace}(hd:DataW.Trod enc P w' b sp held t v d ps)
  {X:Type} {f:X->AV} {ok:X->Prop} (rd:Rd P t X f ok):∃ z,ok z/\RV0 okT w' (f z) v:=by
 obtain⟨n,hn⟩:=hd
 obtain⟨z,h1,h2⟩:=rd.out hn
 refine⟨z,h1,h2,?_⟩
 rw [rd.ag]
 unfold aggT
 unfold Value.okWide at h
 split at h
 ·rename_i hu
  obtain⟨cs,rfl,_⟩:=h
  simp [hu,isAggV]
 ·rename_i hu
  obtain⟨cs,rfl,_⟩:=h
  simp [hu,isAggV]
 ·rename_i hu1 hu2
  have e:(match P.underlying t with|some (.struct _)|some (.array _ _)=>true|_=>false)=false:=by
   split
   ·rename_i hu;exact absurd hu (hu1 _)
   ·rename_i hu;exact absurd hu (hu2 _ _)
   ·rfl
  rw [e]
  have hl:=h2.len
  have hsz:(f z).size=1:=by
   have ha:(f z).isAgg=false:=by rw [rd.ag];exact e
   cases hf:f z <;> simp [hf,AV.isAgg] at ha <;> rfl
  cases v <;> first|rfl|skip
  exfalso
  rename_i cs
  revert h
  unfold Cell.okWide
  cases hP:P.underlying t with
  | none=>simp [Cell.ok,hP]
  | some D=>cases D <;> simp_all [Cell.ok]
structure RdA (P:Program)(ts:List TypeId)(X:Type)(fs:X->List AV)(ok:X->Prop):Prop where
 out:∀ {H:Type} {enc:TypeId × Value->H} {W:World} {base b:Nat} {sp:Nat->Bool} {held:Bool} {vs:List Value} {ds:List (DataW H)} {ps:List MemPlace},(∀ (j:Nat) t v,ts[j]?=some t->vs[j]?=some v->Value.okWide P W .any base t v) ->
  DataW.TrodAll enc P W b sp held ts vs ds ps->∃ z:X,ok z/\RVs okT W (fs z) vs
theorem rdA_nil:RdA P [] Unit (fun _=>[]) (fun _=>True):=⟨fun _ h=>by
 obtain⟨rfl,_,_⟩:=trodAll_nil h
 exact⟨(),trivial,rfl⟩⟩
theorem rdA_cons {X Y:Type}{f:X->AV}{ok:X->Prop}{g:Y->List AV}{okY:Y->Prop}{ts:List TypeId}(r:Rd P t X f ok)(h:RdA P ts Y g okY):RdA P (t::ts) (X × Y) (fun z=>f z.1::g z.2) (fun z=>ok z.1/\okY z.2):=⟨fun hv ht=>by
 obtain⟨v,vs,d,ds,p,q,rfl,rfl,rfl,h1,h2⟩:=trodAll_cons ht
 obtain⟨z,g1,g2⟩:=agg_okWide (hv 0 t v rfl rfl) h1 r
 obtain⟨z',g3,g4⟩:=h.out (fun j t' v' ha hb=>hv (j + 1) t' v' ha hb) h2
 exact⟨(z,z'),⟨g1,g3⟩,_,_,rfl,g2,g4⟩⟩
end
section
variable {P:Program}
theorem below_of_ext {w w':World}(h:Ext w w'):Below w.heap.size w w':=⟨h.os,h.tape,h.output,h.size,h.block⟩
theorem trodAll_stays {H:Type}{enc:TypeId × Value->H}{W W':World}{sp:Nat->Bool}(hl:laidOutB P=true)(hb:Below W.heap.size W W'):∀ {ts:List TypeId} {vs:List Value} {ds:List (DataW H)} {ps:List MemPlace},ts.all (fun t=>P.readableRec t && decide (t < P.types.size))=true ->
  DataW.TrodAll enc P W 0 (fun _=>true) true ts vs ds ps->(∀ p ∈ ps,p.block < W.heap.size)->(∀ p ∈ ps,sp p.block=true)->DataW.TrodAll enc P W' 0 sp true ts vs ds ps
 | [],_,_,_,_,h,_,_=>by
  obtain⟨rfl,rfl,rfl⟩:=trodAll_nil h
  exact rfl
 | t::ts,_,_,_,hr,h,hlt,hsp=>by
  obtain⟨v,vs,d,ds,p,q,rfl,rfl,rfl,h1,h2⟩:=trodAll_cons h
  simp only [List.all_cons,Bool.and_eq_true,decide_eq_true_eq] at hr
  exact⟨p,q,WideElems.Trod_stays hl hr.1.1 hr.1.2 h1 (fun x hx=>hb.same (hlt x (by simp [hx]))) (fun x hx=>hsp x (by simp [hx])),
   trodAll_stays hl hb hr.2 h2 (fun x hx=>hlt x (by simp [hx])) (fun x hx=>hsp x (by simp [hx])),rfl⟩
theorem law_calls {H:Type}{enc:TypeId × Value->H}{f:FuncId}{fn:Func}{s:ChangeSpec}{apart fresh handsOn again:Bool}{gl:List (Nat × AV)}{tb:TypeId}{X:Type}{fs:X->List AV}{ok:X->Prop}{W:World}{base:Nat}{args:Array Value}{ds gs:List (DataW H)}{before:List MemPlace}
  (hr:fn.resultTypes=#[tb]) (htb:P.underlying tb=some .bool) (hs:s.vars=[]) (hl:laidOutB P=true) (hrd:fn.params.toList.all (fun t=>P.readableRec t && decide (t < P.types.size))=true)
  (rd:RdA P fn.params.toList X fs ok) (hfn:∀ ds:List (DataW H),ds.length=fn.params.toList.length->s.fn H ds={ results:=[.lit (.bool true)],args:=ds })
  (hspec:∀ z,ok z->SpecE P gl f (fs z) (boo true)) (hgl:Glob gl okT W)
  (hval:∀ (j:Nat) t v,fn.params[j]?=some t->args[j]?=some v->Value.okWide P W .any base t v)
  (hW:DataW.Whole enc P fn.params.toList s.vars apart W args.toList ds gs before):Calls P f args W fun e W'=>∃ v,e=.returned v/\s.post enc P fn apart fresh handsOn again W args v W':=by
 have hW':=hW
 obtain⟨p,q,hA,hV,rfl,hfz,hnd⟩:=hW'
 rw [hs] at hV
 obtain⟨rfl,rfl⟩:=trodVars_none hV
 obtain⟨z,hz,hvs⟩:=rd.out (fun j t v h1 h2=>hval j t v (by simpa using h1) (by simpa using h2)) hA
 have hlen:∀ {ts:List TypeId} {vs:List Value} {ds:List (DataW H)} {ps:List MemPlace},DataW.TrodAll enc P W 0 (fun _=>true) true ts vs ds ps->ds.length=ts.length:=by
  intro ts
  induction ts with
  | nil=>intro vs ds ps h;obtain⟨_,rfl,_⟩:=trodAll_nil h;rfl
  | cons t ts ih=>
   intro vs ds ps h
   obtain⟨_,_,_,_,_,_,_,rfl,_,_,h2⟩:=trodAll_cons h
   simp [ih h2]
 have hds:=hfn ds (hlen hA)
 have hS:=St.start gl W okT (fun _ _ _=>trivial) hgl
 have hrun:=(hspec z hz).run okT W args.toList hS hvs
 rw [Array.toArray_toList] at hrun
 refine Calls.mono hrun fun x W' hx=>?_
 obtain⟨v,m',ok',cv,⟨rfl,rfl⟩,rfl,g1,g2⟩:=hx
 have g1:=RV.lit g1
 subst g1
 have hb:=below_of_ext g2.out
 have hlt:∀ x ∈ p++[],x.block < W.heap.size:=fun x hx=>hW.lt x hx
 refine⟨_,rfl,?_⟩
 have hres:∀ (b:Nat) (sp:Nat->Bool) (hd:Bool),DataW.TrodAll enc P W' b sp hd fn.resultTypes.toList ((Value.bool true).resultList fn.resultTypes.size) (s.fn H (ds++[])).results []:=fun b sp hd=>by
  rw [List.append_nil,hds,hr]
  exact trodAll_cons_mk (shut_bool htb true) trodAll_mk0
 have hargs:∀ sp:Nat->Bool,(∀ x ∈ p++[],sp x.block=true)->DataW.TrodAll enc P W' 0 sp true fn.params.toList args.toList (s.fn H (ds++[])).args p:=fun sp hsp=>by
  rw [List.append_nil,hds]
  exact trodAll_stays hl hb hrd hA (fun x hx=>hlt x (by simp [hx])) (fun x hx=>hsp x (by simp [hx]))
 have hvars:∀ sp:Nat->Bool,DataW.TrodVars enc P W' sp s.vars (s.fn H (ds++[])).vars []:=fun sp=>by
  rw [List.append_nil,hds,hs]
  rfl
 have hold:∀ x ∈ p++[],(fun b=>decide (b < W.heap.size)) x.block=true:=fun x hx=>by simpa using hlt x hx
 refine⟨ds,[],p++[],[],p,[],hW,hres _ _ _,hargs _ hold,hvars _,World.keptBut_mono (fun x hx=>⟨hx,?_⟩) (hb.frame (· ∈ p++[])),fun _=>?_⟩
 ·rw [List.append_nil] at hx
  exact Or.inr (Or.inl hx)
 ·refine⟨ok_one hr rfl (okWide_bool_mk htb _),_,_,([]++p)++[],⟨[]++p,[],trodAll_append (hargs _ (fun _ _=>rfl)) (hres _ _ _),hvars _,rfl,?_,?_⟩,?_⟩
  ·intro b off hp
   have h1:=hlt (.cell b off) (by simpa using hp)
   rw [hb.frozen (p:=⟨b,off,none⟩) h1]
   exact hfz b off (by simpa using hp)
  ·intro ha
   have:=hnd ha
   simpa using this
  ·intro x hx _
   simpa using hx
end
end Av
