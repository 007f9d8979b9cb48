/- . -/
import Derived.Maps.Keyed
import Derived.DeepKeys5
import Derived.Test.YtgcmdlboancepaaGreatDoorQ43
namespace Go.Proofs.Z
open Go Go.RowKit Tw Av
section
variable {K T V:TypeId}{ck:Nat}
class TyMk (P:Program)(T:TypeId)(K V:outParam TypeId){X:Type}(kv:X->Value)(K0:X->Prop):Prop where
 out:P.underlying T=some (.map K V)
 law:Go.Maps.Keyed P K
 key:∀ x,K0 x->∃ l,keyOf P K (kv x)=some l
 inj:∀ {x y},kv x=kv y->x=y
 val:(P.info? V).map (·.zero)=some (some (sv []))
abbrev MkE (X:Type):=X × Bs × Nat
abbrev vL {X:Type}(kv:X->Value)(e:MkE X):MapEntry:=⟨kv e.1,sv e.2.1,e.2.2⟩
abbrev X8 {X:Type}(kv:X->Value)(es:List (MkE X))(ck:Nat):Obj:=.map (es.map (vL kv)).toArray ck
structure MkOk {X:Type}(K0:X->Prop)(es:List (MkE X))(F:X->Option Bs):Prop where
 key:∀ e∈es,K0 e.1
 get:∀ e∈es,F e.1=some e.2.1
 non:∀ x,F x≠none->∃ e∈es,e.1=x
 nod:(es.map (·.1)).Nodup
section
variable {P:Program} {N:Nat} {ops:Array Oper} {Q:Exit->Act->World->Prop} {rest:List Oper} {s:Av.Base} {e:Av.Env} {m:List Av.Piece} {d:Nat} {ty:TypeId} {pos:String} {af:Array Edge}
theorem a3m {X:Type}{kv:X->Value}{K0:X->Prop}[t:TyMk P T K V kv K0]:∃ i,P.info? V=some i/\i.zero=some (sv []):=by
 have:=t.val;cases h:P.info? V with
 | none=>rw[h] at this;cases this
 | some i=>
  rw[h] at this;exact⟨i,rfl,by simpa using this⟩
theorem a9x {X:Type}{kv:X->Value}{K0:X->Prop}[t:TyMk P T K V kv K0]{x i:Operand}{g:Nat}{a:X}{av:AV}{es:List (MkE X)}{F:X->Option Bs}(hF:MkOk K0 es F)(ha:K0 a)(hav:∀ ok w v,RV ok w av v->v=kv a)
  (h:AL P N ops Q s rest ((d,str ((F a).getD []))::e) m) (hx:ev e x=some (aA g):=by exact rfl) (hi:ev e i=some av:=by exact rfl)
  (hm:Has m (.obj g (X8 kv es ck)):=by (repeat (first|exact Av.Has.here|apply Av.Has.there))) (hd:Nat.blt d N=true:=by exact rfl):AL P N ops Q s (⟨some d,.lookup T x i false,ty,pos,af,none⟩::rest) e m:=
 dC (λok w A hS hA=>by
  obtain⟨ho,_⟩:=hS.at_ _ hm.mem;obtain⟨iz,q1,q2⟩:=a3m (P:=P) (T:=T) (kv:=kv) (K0:=K0);have hv1:=hav _ _ _ (hA.eval hi);obtain⟨l,hl⟩:=t.key a ha;have h2:=t.law.check w (es.map (vL kv)).toArray.isEmpty hl;have h1:=t.law.find w hl (es.map (vL kv)) (λy hy=>by
   obtain⟨z,hz,rfl⟩:=List.mem_map.1 hy;exact t.key _ (hF.key z hz))
  refine⟨sv ((F a).getD []),?_,RV0.of_lit rfl⟩;have hg:(getObj g).run P w=.ok (X8 kv es ck) w:=by simp[getObj,Sem.run,ho]
  simp only[execOp,hA.lit hx,hv1,Instr.lookup,Sem.run_bind,run_underlying t.out,Result.andThen_ok,hg,h2,Sem.run_pure];rcases h1 with⟨h3,h4⟩|⟨j,y,h3,h4,h5⟩
  ·have h6:F a=none:=by
    cases h7:F a with
    | none=>rfl
    | some b=>
     obtain⟨z,hz,rfl⟩:=hF.non a (by rw[h7];simp);exact absurd rfl (h4 _ (List.mem_map_of_mem hz))
   rw[h6];simp[h3,zeroValue,typeInfo,q1,q2]
  have h6:=List.mem_of_getElem? h4;obtain⟨z,hz,rfl⟩:=List.mem_map.1 h6;obtain rfl:=t.inj h5;rw[hF.get z hz];simp[h3]) hd h
theorem Kv {X:Type}{K0:X->Prop}{es:List (MkE X)}{F F':X->Option Bs}{a:X}{b:Bs}{j:Nat}(hF:MkOk K0 es F)(ha:K0 a)(h1:F' a=some b)(h2:∀ x,x≠a->F' x=F x) :
  (∀ hj:j<es.length,es[j].1=a->MkOk K0 (es.set j (a,b,es[j].2.2)) F')/\((∀ e∈es,e.1≠a)->MkOk K0 (es++[(a,b,ck)]) F'):=by
 refine⟨λhj he=>?_,λhn=>?_⟩
 ·have hm:(es.set j (a,b,es[j].2.2)).map (·.1)=es.map (·.1):=by
   apply List.ext_getElem
   ·simp
   intro i hi1 hi2;simp only[List.getElem_map,List.getElem_set];split
   ·rename_i h;subst h;exact he.symm
   rfl
  refine⟨λy hy=>?_,λy hy=>?_,λx hx=>?_,by rw[hm];exact hF.nod⟩
  ·rcases List.mem_or_eq_of_mem_set hy with h|rfl
   ·exact hF.key y h
   exact ha
  ·obtain⟨i,hi,rfl⟩:=List.mem_iff_getElem.1 hy;rw[List.getElem_set];split
   ·exact h1
   rename_i hij;have hi':i<es.length:=by simpa using hi
   have hne:es[i].1≠a:=by
    intro h;have hp:=List.pairwise_iff_getElem.1 hF.nod;rcases Nat.lt_or_gt_of_ne hij with q|q
    ·exact hp j i (by simpa using hj) (by simpa using hi') q (by simp only[List.getElem_map];rw[he,h])
    exact hp i j (by simpa using hi') (by simpa using hj) q (by simp only[List.getElem_map];rw[he,h])
   rw[h2 _ hne];exact hF.get _ (List.getElem_mem _)
  by_cases h:x=a
  ·subst h;exact⟨(x,b,es[j].2.2),List.mem_iff_getElem.2 ⟨j,by simpa using hj,sm⟩,rfl⟩
  rw[h2 x h] at hx;obtain⟨y,hy,rfl⟩:=hF.non x hx;obtain⟨i,hi,rfl⟩:=List.mem_iff_getElem.1 hy;refine⟨es[i],?_,rfl⟩;refine List.mem_iff_getElem.2 ⟨i,by simpa using hi,?_⟩;rw[List.getElem_set,if_neg];rintro rfl;exact h he
 refine⟨λy hy=>?_,λy hy=>?_,λx hx=>?_,?_⟩
 ·rcases List.mem_append.1 hy with h|h
  ·exact hF.key y h
  obtain rfl:=List.mem_singleton.1 h;exact ha
 ·rcases List.mem_append.1 hy with h|h
  ·rw[h2 _ (hn y h)];exact hF.get y h
  obtain rfl:=List.mem_singleton.1 h;exact h1
 ·by_cases h:x=a
  ·subst h;exact⟨_,List.mem_append_right _ List.mem_cons_self,rfl⟩
  rw[h2 x h] at hx;obtain⟨y,hy,rfl⟩:=hF.non x hx;exact⟨y,List.mem_append_left _ hy,rfl⟩
 rw[List.map_append,List.nodup_append];refine⟨hF.nod,sm,λx hx y hy=>?_⟩;obtain⟨z,hz,rfl⟩:=List.mem_map.1 hx;obtain rfl:=List.mem_singleton.1 hy;exact hn z hz
theorem a9s {X:Type}{kv:X->Value}{K0:X->Prop}[t:TyMk P T K V kv K0]{x i y:Operand}{g:Nat}{a:X}{b:Bs}{av:AV}{es:List (MkE X)}{F F':X->Option Bs}{pre post:List Av.Piece}(hF:MkOk K0 es F)(ha:K0 a)(hav:∀ ok w v,RV ok w av v->v=kv a)(h1:F' a=some b)(h2:∀ x,x≠a->F' x=F x)
  (h:∀ es' ck',MkOk K0 es' F'->AL P N ops Q s rest e (pre++.obj g (X8 kv es' ck')::post)) (hm:m=pre++.obj g (X8 kv es ck)::post) (hx:ev e x=some (aA g):=by exact rfl) (hi:ev e i=some av:=by exact rfl) (hy:ev e y=some (str b):=by exact rfl) :
  AL P N ops Q s (⟨none,.mapUpdate T x i y,ty,pos,af,none⟩::rest) e m:=by
 subst hm;by_cases hin:∃ j,∃ hj:j<es.length,es[j].1=a
 ·obtain⟨j,hj,he⟩:=hin;refine HV (λok w A hS hA=>?_) (h _ ck ((Kv (ck:=ck) hF ha h1 h2).1 hj he));obtain⟨ho,hno⟩:=hS.at_ (.obj g (X8 kv es ck)) sm;obtain⟨g1,g2⟩:=hS.setObj (o':=X8 kv (es.set j (a,b,es[j].2.2)) ck) rfl;have hv1:=hav _ _ _ (hA.eval hi);obtain⟨l,hl⟩:=t.key a ha;have h3:=t.law.check w false hl;have h4:=t.law.find w hl (es.map (vL kv)) (λy hy=>by
   obtain⟨z,hz,rfl⟩:=List.mem_map.1 hy;exact t.key _ (hF.key z hz))
  have h5:=NL (P:=P) (o':=X8 kv (es.set j (a,b,es[j].2.2)) ck) ho hno;have h7:=t.law.stays w hl;refine⟨_,ok,?_,g1,g2⟩;have hg:(getObj g).run P w=.ok (X8 kv es ck) w:=by simp[getObj,Sem.run,ho]
  simp only[execOp,hA.lit hx,hv1,hA.lit hy,Instr.mapUpdate,Sem.run_bind,run_underlying t.out,Result.andThen_ok,hg,h3];rcases h4 with⟨_,h4⟩|⟨j',z,h4,h8,h9⟩
  ·exact absurd (by rw[<- he]) (h4 (vL kv es[j]) (List.mem_map_of_mem (List.getElem_mem hj)))
  obtain⟨hj',h8⟩:=List.getElem?_eq_some_iff.1 h8;have hj1:j'<es.length:=by simpa using hj'
  rw[List.getElem_map] at h8;have h10:es[j'].1=a:=t.inj (by rw[<- h9,<- h8]);have h11:j'=j:=by
   have hp:=List.pairwise_iff_getElem.1 hF.nod;rcases Nat.lt_trichotomy j' j with q|q|q
   ·have h11:=hp j' j (by simpa using hj1) (by simpa using hj) q;rw[List.getElem_map,List.getElem_map,he,h10] at h11;exact absurd rfl h11
   ·exact q
   have h11:=hp j j' (by simpa using hj) (by simpa using hj1) q;rw[List.getElem_map,List.getElem_map,he,h10] at h11;exact absurd rfl h11
  subst h11;have h12:((es.map (vL kv)).modify j' λe=>{ key:=kv a,val:=sv b,born:=e.born })=(es.set j' (a,b,es[j'].2.2)).map (vL kv):=by
   apply List.ext_getElem
   ·simp
   intro i hi1 hi2;rw[List.getElem_modify,List.getElem_map,List.getElem_map,List.getElem_set];split
   ·rename_i q;subst q;rfl
   rfl
  simp[h4,List.getElem?_eq_getElem hj,he,h7,h12];rw[show Obj.map ((es.map (vL kv)).set j' (vL kv (a,b,es[j'].2.2))).toArray ck=X8 kv (es.set j' (a,b,es[j'].2.2)) ck by rw[<- List.map_set],h5];rfl
 have hn:∀ y∈es,y.1≠a:=λy hy q=>by
  obtain⟨j,hj,rfl⟩:=List.mem_iff_getElem.1 hy;exact hin ⟨j,hj,q⟩
 refine HV (λok w A hS hA=>?_) (h _ (ck+1) ((Kv (j:=0) (ck:=ck) hF ha h1 h2).2 hn));obtain⟨ho,hno⟩:=hS.at_ (.obj g (X8 kv es ck)) sm;obtain⟨g1,g2⟩:=hS.setObj (o':=X8 kv (es++[(a,b,ck)]) (ck+1)) rfl;have hv1:=hav _ _ _ (hA.eval hi);obtain⟨l,hl⟩:=t.key a ha;have h3:=t.law.check w false hl;have h4:=t.law.find w hl (es.map (vL kv)) (λy hy=>by
  obtain⟨z,hz,rfl⟩:=List.mem_map.1 hy;exact t.key _ (hF.key z hz))
 have h5:=NL (P:=P) (o':=X8 kv (es++[(a,b,ck)]) (ck+1)) ho hno;refine⟨_,ok,?_,g1,g2⟩;have hg:(getObj g).run P w=.ok (X8 kv es ck) w:=by simp[getObj,Sem.run,ho]
 simp only[execOp,hA.lit hx,hv1,hA.lit hy,Instr.mapUpdate,Sem.run_bind,run_underlying t.out,Result.andThen_ok,hg,h3];rcases h4 with⟨h4,_⟩|⟨j',z,_,h8,h9⟩
 ·have h7:Obj.map ((es.map (vL kv)).toArray.push { key:=kv a,val:=sv b,born:=ck }) (ck+1)=X8 kv (es++[(a,b,ck)]) (ck+1):=by
   simp[X8]
  simp only[h4,h7,h5,Result.andThen_ok,Sem.run_pure]
 have h6:=List.mem_of_getElem? h8;obtain⟨z,hz,rfl⟩:=List.mem_map.1 h6;exact absurd (t.inj h9) (hn z hz)
end
end
end Go.Proofs.Z

namespace Go.Proofs.Z
open Go Go.RowKit Tw Av Go.Proofs.Tryz
theorem a3W:laidOutB prog=true:=by kernel_rfl
theorem a3U:WideMaps.KeyLaw prog 49:=deep_law_laid a3W (m:=6) om (of_decide_eq_true kr) kr kr
def aU (x:Pkt):Value:=.agg #[.int .i64 x.q,sv x.s,sv x.k,sv x.d,.int .u64 (lm x.a.n 0),.int .u64 (lm x.a.n 1),.int .u64 (lm x.a.n 2),.int .u64 (lm x.a.n 3),sv x.f,sv x.g,.int .i64 x.h,.int .i64 x.t]
theorem Jm {x:Pkt}{ok:Ok}{w:World}{v:Value}(h:RV ok w (aT x) v):v=aU x:=by
 obtain⟨h1,h2⟩:=(show RV0 ok w (aT x) v from h);simp only[RC,RCs] at h1;obtain⟨_,_,_,e0,⟨rfl,_⟩,_,_,rfl,⟨rfl,_⟩,_,_,rfl,⟨rfl,_⟩,_,_,rfl,⟨_,_,_,rfl,⟨rfl,_⟩,_,_,rfl,⟨_,_,_,rfl,⟨rfl,_⟩,_,_,rfl,⟨rfl,_⟩,_,_,rfl,⟨rfl,_⟩,_,_,rfl,⟨rfl,_⟩,rfl⟩,_,_,rfl,⟨rfl,_⟩,_,_,rfl,⟨rfl,_⟩,rfl⟩,_,_,rfl,⟨rfl,_⟩,_,_,rfl,⟨rfl,_⟩,rfl⟩:=h1;obtain⟨cs,rfl⟩:∃ cs,v=.agg cs:=by
  cases v <;> first|exact⟨_,rfl⟩|cases h2
 have e1:cs=(aU x).cells:=Array.toList_inj.1 e0;rw[e1];rfl
theorem a2r {x y:Pkt}(h:aU x=aU y):x=y:=by
 unfold aU at h;simp only[Value.agg.injEq,Array.mk.injEq,List.cons.injEq,Value.int.injEq,Value.string.injEq,ByteArray.mk.injEq,true_and,and_true,Int.natCast_inj] at h;obtain⟨h1,h2,h3,h4,a0,a1,a2,a3,h5,h6,h7,h8⟩:=h;have ha:x.a=y.a:=Wd.ext' (VZ x.a.lt y.a.lt a0 a1 a2 a3);cases x;cases y
 simp_all

section
variable {t:TypeId}{d:Nat}{P:Program}
theorem Mi {q:IntKind}{n:Int}(hu:P.underlying t=some (.int q))(h:(Lit.int q n).wf=true):∃ l,P.keyLits (d+1) t [.int q n]=some l:=⟨[.int q n],by
 simp[Program.keyLits,hu,h]⟩
theorem a4b {b:Bs}(hu:P.underlying t=some .string)(h:b.length<=maxLen):∃ l,P.keyLits (d+1) t [sv b]=some l:=⟨[.string b],by
 simp[Program.keyLits,hu,ByteArray.size,h]⟩
theorem WW {α β:Type}{f:α->Option β}:∀ l:List α,(∀ x∈l,∃ y,f x=some y)->∃ ys,l.mapM f=some ys
 | [],_=>⟨[],rfl⟩
 | x::l,h=>by
  obtain⟨y,hy⟩:=h x List.mem_cons_self;obtain⟨ys,hys⟩:=WW l λz hz=>h z (List.mem_cons_of_mem _ hz);exact⟨y::ys,by rw[List.mapM_cons,hy,hys];rfl⟩
def Qg (P:Program)(t:TypeId):List (TypeId × Nat):=match P.underlying t with
 | some (.struct fs) => if fs.all (·.name != "_") = true then fs.toList.map fun f => (f.type, f.offset) else []
 | _=>[]
theorem Mh {cs:List Value}{x:TypeId × Nat}{L:List (TypeId × Nat)}(hL:Qg P t=x::L)(hc:cs.length=P.cellsOf t)(h:∀ f∈x::L,∃ l,P.keyLits d f.1 ((cs.drop f.2).take (P.cellsOf f.1))=some l):∃ l,P.keyLits (d+1) t cs=some l:=by
 unfold Qg at hL;split at hL
 ·rename_i fs hu;split at hL
  ·rename_i hn;obtain⟨ys,hys⟩:=WW (f:=λf:Field=>P.keyLits d f.type ((cs.drop f.offset).take (P.cellsOf f.type))) fs.toList λf hf=>h (f.type,f.offset) (by rw[<- hL];exact List.mem_map_of_mem hf);refine⟨ys.flatten,?_⟩;simp only[Program.keyLits,hu];rw[if_pos ⟨hc,hn⟩,hys];rfl
  cases hL
 cases hL
theorem a4d {n:Nat}{e:TypeId}{cs:List Value}(hu:P.underlying t=some (.array n e))(hc:cs.length=P.cellsOf t)(h:∀ i<n,∃ l,P.keyLits d e ((cs.drop (i*P.cellsOf e)).take (P.cellsOf e))=some l):∃ l,P.keyLits (d+1) t cs=some l:=by
 obtain⟨ys,hys⟩:=WW (f:=λi=>P.keyLits d e ((cs.drop (i*P.cellsOf e)).take (P.cellsOf e))) (List.range n) λi hi=>h i (List.mem_range.1 hi);refine⟨ys.flatten,?_⟩;simp only[Program.keyLits,hu];rw[if_pos hc,hys];rfl
theorem wf_i64 {n:Int}(h:-9223372036854775808<=n/\n<=9223372036854775807):(Lit.int .i64 n).wf=true:=by
 have e1:IntKind.min .i64=-9223372036854775808:=dc
 have e2:IntKind.max .i64=9223372036854775807:=dc
 show (decide (IntKind.min .i64<=n)&&decide (n<=IntKind.max .i64))=true;rw[e1,e2,dT h.1,dT h.2];rfl
theorem wf_u64 {n:Nat}(h:n<18446744073709551616):(Lit.int .u64 n).wf=true:=by
 have e1:IntKind.min .u64=0:=dc
 have e2:IntKind.max .u64=18446744073709551615:=dc
 show (decide (IntKind.min .u64<=(n:Int))&&decide ((n:Int)<=IntKind.max .u64))=true;rw[e1,e2,dT (Int.natCast_nonneg n),dT (show (n:Int)<=18446744073709551615 by omega)];rfl
structure PkN (x:Pkt):Prop where
 q:-9223372036854775808<=x.q/\x.q<=9223372036854775807
 h:-9223372036854775808<=x.h/\x.h<=9223372036854775807
 t:-9223372036854775808<=x.t/\x.t<=9223372036854775807
 s:x.s.length<=1000000000
 k:x.k.length<=1000000000
 d:x.d.length<=1000000000
 f:x.f.length<=1000000000
 g:x.g.length<=1000000000
theorem mxl {n:Nat}(h:n<=1000000000):n<=maxLen:=by
 unfold maxLen;omega
theorem a4c {x:Pkt}(h:PkN x):∃ l,prog.keyLits (d+4) 49 (aU x).cells.toList=some l:=by
 have ui:∀ {d:Nat} {n:Int},-9223372036854775808<=n/\n<=9223372036854775807->∃ l,prog.keyLits (d+1) 3 [.int .i64 n]=some l:=λhn=>Mi kr (wf_i64 hn);have us:∀ {d:Nat} {b:Bs},b.length<=1000000000->∃ l,prog.keyLits (d+1) 9 [sv b]=some l:=λhn=>a4b kr (mxl hn);have uu:∀ {d i:Nat},∃ l,prog.keyLits (d+1) 43 [.int .u64 (lm x.a.n i)]=some l:=fun {d i}=>Mi kr (wf_u64 (Nat.mod_lt _ dc));have ci:prog.cellsOf 3=1:=by kernel_rfl
 have cs:prog.cellsOf 9=1:=kr
 have cu:prog.cellsOf 43=1:=kr
 have cc:prog.cellsOf 47=7:=kr
 have cw:prog.cellsOf 45=4:=kr
 refine Mh (L:=[(9,1),(9,2),(47,3),(3,10),(3,11)]) (x:=(3,0)) kr kr ?_;intro f hf;simp only[List.mem_cons,List.not_mem_nil,or_false] at hf;rcases hf with rfl|rfl|rfl|rfl|rfl|rfl
 ·dsimp only;rw[ci];exact ui h.q
 ·dsimp only;rw[cs];exact us h.s
 ·dsimp only;rw[cs];exact us h.k
 ·dsimp only;rw[cc];refine Mh (L:=[(45,1),(9,5),(9,6)]) (x:=(9,0)) kr kr ?_;intro f hf;simp only[List.mem_cons,List.not_mem_nil,or_false] at hf;rcases hf with rfl|rfl|rfl|rfl
  ·dsimp only;rw[cs];exact us h.d
  ·dsimp only;rw[cw];refine a4d (n:=4) (e:=43) kr kr ?_;intro i hi;obtain rfl|rfl|rfl|rfl:i=0\/i=1\/i=2\/i=3:=by omega
   ·rw[cu];exact uu (i:=0)
   ·rw[cu];exact uu (i:=1)
   ·rw[cu];exact uu (i:=2)
   rw[cu];exact uu (i:=3)
  ·dsimp only;rw[cs];exact us h.f
  dsimp only;rw[cs];exact us h.g
 ·dsimp only;rw[ci];exact ui h.h
 dsimp only;rw[ci];exact ui h.t
theorem a4e {x:Pkt}(h:PkN x):∃ l,keyOf prog 49 (aU x)=some l:=by
 obtain⟨l,hl⟩:=a4c (d:=prog.types.size-3) h;have e:prog.types.size-3+4=prog.types.size+1:=by kernel_rfl
 rw[e] at hl;have h1:prog.keyType 49=true:=by kernel_rfl
 have h2:(aU x).formed prog 49=true:=kr
 refine⟨.string (keyBytes l),?_⟩;unfold keyOf;split
 ·rw[h1,h2,hl];rfl
 ·rw[h1,h2,hl];rfl
 rename_i hu;exact absurd (show (match prog.underlying 49 with|some (.struct _)=>true|_=>false)=true by kernel_rfl) (by
  intro hh;split at hh
  ·rename_i fs he;exact hu fs he
  cases hh)
instance b2L:TyMk prog 176 49 9 aU PkN where
 out:=by kernel_rfl
 law:=Go.Maps.Keyed.of_law a3U
 key:=λ_ h=>a4e h
 inj:=a2r
 val:=by kernel_rfl
end

def bU (evs:List EvX)(p:Pkt):Option Bs:=evs.foldl (λa v=>if v.k=14/\v.x=p then some v.a else a) none
theorem RH {evs:List EvX}{v:EvX}{p:Pkt}:bU (evs++[v]) p=if v.k=14/\v.x=p then some v.a else bU evs p:=by
 unfold bU;rw[List.foldl_append];rfl
theorem Vr {evs:List EvX}{v:EvX}(h:v.k≠14):bU (evs++[v])=bU evs:=by
 funext p
 rw[RH,if_neg (λq=>h q.1)]
theorem Vq {evs:List EvX}{v:EvX}(h:v.k=14):bU (evs++[v]) v.x=some v.a/\∀ x,x≠v.x->bU (evs++[v]) x=bU evs x:=by
 refine⟨?_,λx hx=>?_⟩
 ·rw[RH,if_pos ⟨h,rfl⟩]
 rw[RH,if_neg (λq=>hx q.2.symm)]
theorem lY {α:Type _}{l:List α}{i:Nat}(h:i<l.length):l.take (i+1)=l.take i++[l[i]]:=(List.take_append_getElem h).symm
theorem a6o {gb gs1:Nat}{b1 b2 b3 b4:Value}{c1:ChX}(hl1:c1.ev.length<=1000000)(hp:∀ v∈c1.ev,PkN v.x):Av.Spec prog GL 88 [ptr gb] [.var gb 113 (y7 gs1 b1 b2 b3 b4 c1)] λu m=>∃ g es ck,u=aA g/\MkOk PkN es (bU c1.ev)/\m=.obj g (X8 aU es ck)::[.var gb 113 (y7 gs1 b1 b2 b3 b4 c1)]:=by
 have hm:(c1.ev.map Q0).length=c1.ev.length:=llm _;refine ze func88 ntmps88 λ_ hs=>?_;repeat' first|refine Z ?_|intro
 refine a9v (λgA=>?_);repeat' first|refine Z ?_|intro
 rw[hm];refine y9 (α:=Nat × List (MkE Pkt) × Nat) (λq=>[(3,aA gA),(8,.sl 15 (c1.ev.map Q0) none),(9,int c1.ev.length),(10,int q.1)]) (λq=>.obj gA (X8 aU q.2.1 q.2.2)::[.var gb 113 (y7 gs1 b1 b2 b3 b4 c1)])
  (λq=>q.1<=c1.ev.length/\MkOk PkN q.2.1 (bU (c1.ev.take q.1))) (λq=>c1.ev.length-q.1) (0,[],0) zc slr ⟨Nat.zero_le _,⟨sm,sm,λx h=>absurd rfl h,sm⟩⟩ ?_
 rintro⟨i,es,ck⟩ ⟨hi,hF⟩;dsimp only at hi hF ⊢;by_cases hil:i<c1.ev.length
 rotate_left
 ·obtain rfl:i=c1.ev.length:=by omega
  rw[List.take_length] at hF;repeat' first|refine Z ?_|intro
  exact l9 _ ⟨gA,es,ck,rfl,hF,rfl⟩ slr
 have hk:=hp _ (List.getElem_mem hil);repeat' first|refine Z ?_|intro
 rename_i gv;by_cases h14:c1.ev[i].k=14
 ·rw[dT h14];repeat' first|refine Z ?_|intro
  refine a9s (pre:=[_]) (F':=bU (c1.ev.take i++[c1.ev[i]])) (a:=c1.ev[i].x) (b:=c1.ev[i].a) hF hk (λok w v hv=>Jm hv) (Vq h14).1 (Vq h14).2 (λes' ck' hF'=>?_) rfl;repeat' first|refine Z ?_|intro
  exact o9 (i+1,es',ck') zc (List.sublist_cons_self _ _) ⟨hil,by rw[lY hil];exact hF'⟩ (by dsimp only;omega)
 rw[dZ h14];repeat' first|refine Z ?_|intro
 exact o9 (i+1,es,ck) zc (List.sublist_cons_self _ _) ⟨hil,by rw[lY hil,Vr h14];exact hF⟩ (by dsimp only;omega)

section
variable {p:Pkt}{k:Int}
def xS (d:List Ent)(p:Pkt):Bool:=(gO d (F6 [80] p.s p.q)).isSome
def SC (d:List Ent)(k:Int)(p:Pkt)(a:Bs):TxX:={ Y5 with k:=15,x:=p,a:=a,t:=k,f:=iV d (G6 d (F6 [71] p.k p.q)) (K5 d (F6 [71] p.k p.q)) }
def BL (d:List Ent)(k:Int)(p:Pkt):TxX:={ Y5 with k:=16,x:=p,t:=k,g:=rV d (G6 d (F6 [71] p.k p.q)) (K5 d (F6 [71] p.k p.q)) }
def qI (c:ChX)(k:Int):Option Int:=if 1<=k/\k<=(c.hs.length:Int) then some (c.hs.getD (k-1).toNat ⟨[],0,0,E9⟩).t else none
def FU (o:Option Int)(p:Pkt)(k:Int):Bool:=match o with
 | some x=>V9 p k x
 | none=>false
def pO (e d:List Ent)(A:Pkt->Option Bs)(k:Int)(o:Option Int)(p:Pkt):List TxX:=
 if xS e p=false then [] else if K5 d (F6 [71] p.k p.q)=true then [SC d k p ((A p).getD [])] else if FU o p k=true then [BL d k p] else []
def gM (e d:List Ent)(A:Pkt->Option Bs)(k:Int)(o:Option Int)(ps:List Pkt):List TxX:=ps.flatMap (pO e d A k o)
theorem GY {e d:List Ent}{A:Pkt->Option Bs}{o:Option Int}{ps:List Pkt}:gM e d A k o (ps++[p])=gM e d A k o ps++pO e d A k o p:=by
 unfold gM;rw[List.flatMap_append,List.flatMap_singleton]
theorem a8u {e d:List Ent}{A:Pkt->Option Bs}{o:Option Int}:(pO e d A k o p).length<=1:=by
 unfold pO;split
 ·exact Nat.zero_le _
 split
 ·exact Nat.le_refl 1
 split
 ·exact Nat.le_refl 1
 exact Nat.zero_le _
theorem LV {e d:List Ent}{A:Pkt->Option Bs}{k:Int}{o:Option Int}:∀ ps:List Pkt,(gM e d A k o ps).length<=ps.length
 | []=>Nat.le_refl _
 | p::ps=>by
  have:=LV (e:=e) (d:=d) (A:=A) (k:=k) (o:=o) ps;unfold gM at this ⊢;rw[List.flatMap_cons,lla];have h2:=a8u (e:=e) (d:=d) (A:=A) (k:=k) (o:=o) (p:=p);simp only[List.length_cons];omega
theorem a4U {a:Bs}{f:Prf}:Imp (.agg 100 [int 15,str [],str [],str [],str [],str [],int 0,.agg 35 [str [],int 0,int 0,hA E9],hA E9,aT p,str a,int k,Z9 f,.agg 9 [int 0,J2,J2,.agg 3 [int 0,int 0,J2],.agg 3 [int 0,int 0,J2]]]) (x9 { Y5 with k:=15,x:=p,a:=a,t:=k,f:=f }):=by
 exact(inferInstance:ImpR _ (.agg 100 [int 15,str [],str [],str [],str [],str [],int 0,.agg 35 [str [],int 0,int 0,hA E9],hA E9,aT p,str a,int k,Z9 f,.agg 9 [int 0,.sl 2 [] none,.sl 2 [] none,.agg 3 [int 0,int 0,.sl 32 [] none],.agg 3 [int 0,int 0,.sl 32 [] none]]])).imp
theorem a4D {g:Gp}:Imp (.agg 100 [int 16,str [],str [],str [],str [],str [],int 0,.agg 35 [str [],int 0,int 0,hA E9],hA E9,aT p,str [],int k,.agg 3 [int 0,int 0,J2],eZ g]) (x9 { Y5 with k:=16,x:=p,t:=k,g:=g }):=by
 exact(inferInstance:ImpR _ (.agg 100 [int 16,str [],str [],str [],str [],str [],int 0,.agg 35 [str [],int 0,int 0,hA E9],hA E9,aT p,str [],int k,.agg 3 [int 0,int 0,.sl 32 [] none],eZ g])).imp
section
variable {ga gb gs0 gs1:Nat} {a1 a2 a3 a4 b1 b2 b3 b4:Value} {c0 c1:ChX} {i:Bs}
set_option maxHeartbeats 8000000 in
theorem Qe (hk0:(c0.hs.length<c0.ms.length/\c0.ms.length<=1000000)/\DOk (j5 c0))(hv0:c0.ev.length<=1000000)(hp0:∀ v∈c0.ev,PkN v.x)(hq1:(c1.hs.length<=1000000/\c1.ky.length<=1000000)/\∀ y∈c1.hs,y.h<=9223372036854775807/\y.t<=9223372036854775807)(hm1:c1.ms.length<=1000000)(hd1:∀ d∈c1.ms,d.length<=1000000)(hv1:c1.ev.length<=1000000)(hp1:∀ v∈c1.ev,PkN v.x) :
  Av.Spec prog GL 34 [ptr ga,ptr gb,str i] [.var ga 113 (y7 gs0 a1 a2 a3 a4 c0),.var gb 113 (y7 gs1 b1 b2 b3 b4 c1)] λu m=>
   u=.sl 100 ((gM (j5 c0) (K4 c1 (A9 (j5 c0) i)) (bU c1.ev) (A9 (j5 c0) i) (qI c1 (A9 (j5 c0) i)) (O9 c0.ev c0.hs.length)).map x9) none /\
   m=[.var ga 113 (y7 gs0 a1 a2 a3 a4 c0),.var gb 113 (y7 gs1 b1 b2 b3 b4 c1)]:=by
 have hst:=hk0.1;have hdk:=hk0.2;have hh0:c0.hs.length<=1000000:=by omega
 refine TZ func34 rfl ntmps34 rfl (λsB hs=>?_);repeat' first|refine Z ?_|intro
 obtain⟨hX,mX,bX,hif,hlo⟩:∃ hX mX bX,(if 1<=A9 (j5 c0) i/\A9 (j5 c0) i<=(c1.hs.length:Int) then AV.tup [Q7 (c1.hs.getD (A9 (j5 c0) i-1).toNat ⟨[],0,0,E9⟩),hA (cK c1.ky (c1.hs.getD (A9 (j5 c0) i-1).toNat ⟨[],0,0,E9⟩)),d9 true] else .tup [Q7 ⟨[],0,0,E9⟩,hA E9,d9 false])=.tup [Q7 hX,hA mX,d9 bX]/\∀ p,FU (qI c1 (A9 (j5 c0) i)) p (A9 (j5 c0) i)=(bX&&V9 p (A9 (j5 c0) i) hX.t):=by
  unfold qI;split
  ·exact⟨_,_,_,rfl,λp=>rfl⟩
  exact⟨_,_,_,rfl,λp=>rfl⟩
 rw[hif];clear hif;repeat' first|refine Z ?_|intro
 rename_i gto gk gd ghd gma gbo;have hdl:=Lf (k:=A9 (j5 c0) i) hd1;rw[show (if 0<=A9 (j5 c0) i/\A9 (j5 c0) i<c1.ms.length then c1.ms.getD (A9 (j5 c0) i).toNat [] else [])=K4 c1 (A9 (j5 c0) i) from rfl];generalize (K4 c1 (A9 (j5 c0) i))=d at hdl ⊢;generalize qI c1 (A9 (j5 c0) i)=oX at hlo ⊢;generalize A9 (j5 c0) i=k at *;refine H6 (args:=[ptr gb]) [.var gb 113 (y7 gs1 b1 b2 b3 b4 c1)] [.var gbo 4 (d9 bX),.var gma 40 (hA mX),.var ghd 42 (Q7 hX),.var gd 64 (dA d),.var gk 3 (int k),.var gto 24 (ptr ga),.var ga 113 (y7 gs0 a1 a2 a3 a4 c0)] (by rw[hs];exact a6o hv1 hp1) (λu m1 hh=>?_) (rF _ rG [7,0,1,2,3,4,5,6]);obtain⟨gA,es,ck,rfl,hF,rfl⟩:=hh;generalize bU c1.ev=A at hF ⊢;repeat' (first|refine eP ?_|refine K3 ?_|refine M9 ?_|refine J8 ?_|intro _)
 rename_i gva go;refine dY (g:=go) (v':=.sl 100 (([]:List TxX).map x9) (some (.slice none 0 0))) ImpC.nilT ?_;refine P6 (λok w h=>h.full 57 100 none 0) ?_;refine MH [.var gto 24 (ptr ga),.var ga 113 (y7 gs0 a1 a2 a3 a4 c0),.var go 36 (.sl 100 (([]:List TxX).map x9) (some (.slice none 0 0))),.tail 57 100 (.slice none 0 0),.var gva 176 (aA gA),.obj gA (X8 aU es ck),.var gb 113 (y7 gs1 b1 b2 b3 b4 c1),.var gbo 4 (d9 bX),.var gma 40 (hA mX),.var ghd 42 (Q7 hX),.var gd 64 (dA d),.var gk 3 (int k)] _ ?_ (List.Perm.symm (rF _ rG [10,11,1,0,2,3,4,5,6,7,8,9])) slr;repeat' first|refine Z ?_|intro
 apply U2 [];exact rfl;exact rfl;kernel_rfl;kernel_rfl;intro sQ hQ;refine H6 (args:=[ptr ga,int c0.hs.length]) [] [] (by rw[hQ];exact Em rfl rfl) (λu m1 hh=>?_) lpr;obtain⟨g1,g2,rfl,rfl⟩:=hh;refine j3 (N7 [] (eQ g1 g2 (ptr ga) (c0.hs.length)) rfl rfl lpr rfl ?_);repeat' first|refine Z ?_|intro
 refine Bq (gf:=173) (lb:=[.pointer (some ⟨g1,0,none⟩),.pointer (some ⟨g2,0,none⟩)]) (by simp[Value.oneCell']) (λok w a fn hS ha ok1 w1 st1 hS1 ha1=>?_);generalize hr0:zU fn a _ _ _ w=r0 at hS1 ⊢;have e1:r0.state=.ready:=by rw[<- hr0]
 have e2:r0.pending=none:=by rw[<- hr0]
 have e3:r0.tmps=a.tmps:=by rw[<- hr0]
 have e4:r0.params=#[45]:=by rw[<- hr0]
 have e5:{ { r0 with state:=.busy } with state:=.ready,pending:=none }=r0:=by rw[<- hr0]
 generalize hD:w.heap.size=D at hS1 ⊢;have hS2:=hS1.perm (m':=(eQ g1 g2 (ptr ga) (((c0.hs.length:Nat):Int))++(.var ga 113 (y7 gs0 a1 a2 a3 a4 c0)::[.obj (D+1) (.loop r0),.obj D (.deferred (some [])),.var gto 24 (ptr ga),.var go 36 (.sl 100 (([]:List TxX).map x9) (some (.slice none 0 0))),.tail 57 100 (.slice none 0 0),.var gva 176 (aA gA),.obj gA (X8 aU es ck),.var gb 113 (y7 gs1 b1 b2 b3 b4 c1),.var gbo 4 (d9 bX),.var gma 40 (hA mX),.var ghd 42 (Q7 hX),.var gd 64 (dA d),.var gk 3 (int k)]))++[]) (List.Perm.symm (rF _ rG [14,15,3,0,1,2,4,5,6,7,8,9,10,11,12,13]));have hIt:=En (ok0:=ok1) (w0:=w1) (L:=D+1) (g1:=g1) (g2:=g2) (k:=((c0.hs.length:Nat):Int)) (A:=Value × List TxX) (z0:=(.slice none 0 0,[])) (X:=[.var ga 113 (y7 gs0 a1 a2 a3 a4 c0)]) (Y:=[]) rfl (J:=λz=>[.obj (D+1) (.loop r0),.obj D (.deferred (some [])),.var gto 24 (ptr ga),.var go 36 (.sl 100 (z.2.map x9) (some z.1)),.tail 57 100 z.1,.var gva 176 (aA gA),.obj gA (X8 aU es ck),.var gb 113 (y7 gs1 b1 b2 b3 b4 c1),.var gbo 4 (d9 bX),.var gma 40 (hA mX),.var ghd 42 (Q7 hX),.var gd 64 (dA d),.var gk 3 (int k)])
  (G:=λpre z=>z.2=gM (j5 c0) d A k oX pre) (λpre x z hG hp=>?_) rfl hv0 (Stp.refl _ _) (by rw[<- hs];exact hS2.lend)
 rotate_left
 ·have hxn:PkN x:=by
   have h1:x∈O9 c0.ev (c0.hs.length:Int):=hp.sublist.subset (List.mem_append_right _ List.mem_cons_self);unfold O9 at h1;obtain⟨y,hy,rfl⟩:=List.mem_map.1 h1;exact hp0 y (List.mem_filter.1 hy).1
  have hxq:x.q<=9223372036854775807:=hxn.q.2;have e6:=congrArg Loop.assign hr0.symm;have e7:=congrArg Loop.body hr0.symm;dsimp only at e6 e7;obtain⟨v,l⟩:=z;dsimp only[List.cons_append,List.nil_append] at hG ⊢;have hll:l.length<=1000000:=by
   have h1:=LV (e:=j5 c0) (d:=d) (A:=A) (k:=k) (o:=oX) pre;have h2:=hp.length_le;have h3:=yZ c0.ev c0.hs.length;rw[hG];simp only[List.length_append,List.length_singleton] at h2;omega
  refine SX (N:=106) (p:=45) ha1 e3 e4 rfl (λs2 hs2=>?_);rw[e6,e7];refine pM ?_;repeat' (first|refine K3 ?_|refine J8 ?_|refine M9 ?_|intro _|simp only[List.set]|fail)
  rename_i gp;refine j3 (Ak (m1:=.var gp 49 (aT x)::[.var gto 24 (ptr ga),.var ga 113 (y7 gs0 a1 a2 a3 a4 c0),.var gk 3 (int k),.var go 36 (.sl 100 (l.map x9) (some v)),.var gva 176 (aA gA),.obj gA (X8 aU es ck),.tail 57 100 v,.var gd 64 (dA d),.var gbo 4 (d9 bX),.var ghd 42 (Q7 hX),.var gb 113 (y7 gs1 b1 b2 b3 b4 c1),.var gma 40 (hA mX),.obj D (.deferred (some []))]) (rF _ rG [1,0,3,14,13,4,6,7,5,12,9,11,8,10,2]) e1 ?_);refine RB (nY (LU hs2 ?_));repeat' first|refine Z ?_|intro
  generalize hgb:(gO (j5 c0) (F6 [80] x.s x.q)).isSome=bg;refine jB ?_;repeat refine nY ?_
  refine pM ?_;repeat' (first|refine K3 ?_|refine J8 ?_|refine M9 ?_|intro _|simp only[List.set]|fail)
  refine j3 (jB ?_);repeat refine nY ?_
  refine pM ?_;repeat' (first|refine K3 ?_|refine J8 ?_|refine M9 ?_|intro _|simp only[List.set]|fail)
  refine j3 (jB ?_);repeat refine nY ?_
  refine RB ?_;repeat refine nY ?_
  refine pM ?_;cases bg
  ·repeat' (first|refine K3 ?_|refine J8 ?_|refine M9 ?_|intro _|simp only[List.set]|fail)
   refine j3 (jB (GV ?_));refine LQ ?_;exact wC (wC (dW [.obj (D+1) (.loop { r0 with state:=.busy }),.var gto 24 (ptr ga),.var ga 113 (y7 gs0 a1 a2 a3 a4 c0),.var gk 3 (int k),.var go 36 (.sl 100 (l.map x9) (some v)),.var gva 176 (aA gA),.obj gA (X8 aU es ck),.tail 57 100 v,.var gd 64 (dA d),.var gbo 4 (d9 bX),.var ghd 42 (Q7 hX),.var gb 113 (y7 gs1 b1 b2 b3 b4 c1),.var gma 40 (hA mX),.obj D (.deferred (some []))] _ (yO (r:={ r0 with state:=.busy }) (m1:=[.obj D (.deferred (some [])),.var gto 24 (ptr ga),.var go 36 (.sl 100 (l.map x9) (some v)),.tail 57 100 v,.var gva 176 (aA gA),.obj gA (X8 aU es ck),.var gb 113 (y7 gs1 b1 b2 b3 b4 c1),.var gbo 4 (d9 bX),.var gma 40 (hA mX),.var ghd 42 (Q7 hX),.var gd 64 (dA d),.var gk 3 (int k),.var ga 113 (y7 gs0 a1 a2 a3 a4 c0)]) (rF _ rG [0,13,1,4,7,5,6,11,9,12,10,8,3,2]) ⟨rfl,(v,l),by
    show l=_;rw[GY,hG,pO,if_pos (show xS (j5 c0) x=false from hgb),List.append_nil],by rw[e5]⟩) lpr (by
    exact zd)))
  repeat' (first|refine K3 ?_|refine J8 ?_|refine M9 ?_|intro _|simp only[List.set]|fail)
  have hno:¬ xS (j5 c0) x=false:=λh=>by
   rw[show xS (j5 c0) x=true from hgb] at h;cases h
  refine j3 (jB (GX ?_));repeat refine nY ?_
  refine pM ?_;cases hiq:K5 d (F6 [71] x.k x.q)
  ·have hnq:¬ K5 d (F6 [71] x.k x.q)=true:=by rw[hiq];decide
   repeat' (first|refine K3 ?_|refine J8 ?_|refine M9 ?_|intro _|simp only[List.set]|fail)
   refine j3 (jB (GX ?_));repeat refine nY ?_
   refine pM ?_;cases bX
   ·repeat' first|refine Z ?_|intro
    refine jB (GX ?_);refine LQ ?_;exact wC (wC (dW [.obj (D+1) (.loop { r0 with state:=.busy }),.var gto 24 (ptr ga),.var ga 113 (y7 gs0 a1 a2 a3 a4 c0),.var gk 3 (int k),.var go 36 (.sl 100 (l.map x9) (some v)),.var gva 176 (aA gA),.obj gA (X8 aU es ck),.tail 57 100 v,.var gd 64 (dA d),.var gbo 4 (d9 false),.var ghd 42 (Q7 hX),.var gb 113 (y7 gs1 b1 b2 b3 b4 c1),.var gma 40 (hA mX),.obj D (.deferred (some []))] _ (yO (r:={ r0 with state:=.busy }) (m1:=[.obj D (.deferred (some [])),.var gto 24 (ptr ga),.var go 36 (.sl 100 (l.map x9) (some v)),.tail 57 100 v,.var gva 176 (aA gA),.obj gA (X8 aU es ck),.var gb 113 (y7 gs1 b1 b2 b3 b4 c1),.var gbo 4 (d9 false),.var gma 40 (hA mX),.var ghd 42 (Q7 hX),.var gd 64 (dA d),.var gk 3 (int k),.var ga 113 (y7 gs0 a1 a2 a3 a4 c0)]) (rF _ rG [0,13,1,4,7,5,6,11,9,12,10,8,3,2]) ⟨rfl,(v,l),by
     show l=_;rw[GY,hG,pO,if_neg hno,if_neg hnq,hlo,if_neg (show ¬ (false&&V9 x k hX.t)=true from by rw[Bool.false_and];decide),List.append_nil],by rw[e5]⟩) lpr (by
     exact zd)))
   repeat' first|refine Z ?_|intro
   cases hl:V9 x k hX.t
   ·refine jB (GX ?_);refine LQ ?_;exact wC (wC (dW [.obj (D+1) (.loop { r0 with state:=.busy }),.var gto 24 (ptr ga),.var ga 113 (y7 gs0 a1 a2 a3 a4 c0),.var gk 3 (int k),.var go 36 (.sl 100 (l.map x9) (some v)),.var gva 176 (aA gA),.obj gA (X8 aU es ck),.tail 57 100 v,.var gd 64 (dA d),.var gbo 4 (d9 true),.var ghd 42 (Q7 hX),.var gb 113 (y7 gs1 b1 b2 b3 b4 c1),.var gma 40 (hA mX),.obj D (.deferred (some []))] _ (yO (r:={ r0 with state:=.busy }) (m1:=[.obj D (.deferred (some [])),.var gto 24 (ptr ga),.var go 36 (.sl 100 (l.map x9) (some v)),.tail 57 100 v,.var gva 176 (aA gA),.obj gA (X8 aU es ck),.var gb 113 (y7 gs1 b1 b2 b3 b4 c1),.var gbo 4 (d9 true),.var gma 40 (hA mX),.var ghd 42 (Q7 hX),.var gd 64 (dA d),.var gk 3 (int k),.var ga 113 (y7 gs0 a1 a2 a3 a4 c0)]) (rF _ rG [0,13,1,4,7,5,6,11,9,12,10,8,3,2]) ⟨rfl,(v,l),by
     show l=_;rw[GY,hG,pO,if_neg hno,if_neg hnq,hlo,hl,if_neg dc,List.append_nil],by rw[e5]⟩) lpr (by
     exact zd)))
   refine jB (GV ?_);repeat refine nY ?_
   refine pM ?_;repeat' (first|refine K3 ?_|refine J8 ?_|refine M9 ?_|intro _|simp only[List.set]|fail)
   refine j3 (jB ?_);refine pM ?_
   iterate 5 (first|refine K3 ?_|refine J8 ?_)
   refine dF 102 a4D ?_;repeat' (first|refine K3 ?_|refine J8 ?_|refine M9 ?_|intro _|simp only[]|fail)
   refine H7 (λv'=>?_);repeat' (first|refine K3 ?_|refine J8 ?_|refine M9 ?_|intro _|simp only[List.set]|fail)
   refine j3 ?_;exact wC (wC (dW [.obj (D+1) (.loop { r0 with state:=.busy }),.var gto 24 (ptr ga),.var ga 113 (y7 gs0 a1 a2 a3 a4 c0),.var gk 3 (int k),.var go 36 (.sl 100 ((l++[BL d k x]).map x9) (some v')),.var gva 176 (aA gA),.obj gA (X8 aU es ck),.tail 57 100 v',.var gd 64 (dA d),.var gbo 4 (d9 true),.var ghd 42 (Q7 hX),.var gb 113 (y7 gs1 b1 b2 b3 b4 c1),.var gma 40 (hA mX),.obj D (.deferred (some []))] _ (yO (r:={ r0 with state:=.busy }) (m1:=[.obj D (.deferred (some [])),.var gto 24 (ptr ga),.var go 36 (.sl 100 ((l++[BL d k x]).map x9) (some v')),.tail 57 100 v',.var gva 176 (aA gA),.obj gA (X8 aU es ck),.var gb 113 (y7 gs1 b1 b2 b3 b4 c1),.var gbo 4 (d9 true),.var gma 40 (hA mX),.var ghd 42 (Q7 hX),.var gd 64 (dA d),.var gk 3 (int k),.var ga 113 (y7 gs0 a1 a2 a3 a4 c0)]) (rF _ rG [0,13,1,4,7,5,6,11,9,12,10,8,3,2]) ⟨rfl,(v',l++[BL d k x]),by
    show l++[BL d k x]=_;rw[GY,hG,pO,if_neg hno,if_neg hnq,hlo,hl,if_pos dc],by rw[e5]⟩) lpr (by
    rw[List.map_append];exact zd)))
  repeat' (first|refine K3 ?_|refine J8 ?_|refine M9 ?_|intro _|simp only[List.set]|fail)
  refine j3 (jB (GV ?_));refine LU hs2 ?_
  iterate 3 (first|refine nO ?_|refine lG ?_)
  iterate 1 (first|refine nO ?_|refine lG ?_)
  apply zf [8];exact zi
  ·intro _ _;refine a9x (F:=A) (a:=x) hF hxn (λok w v hv=>Jm hv) ?_;exact j3 (p9 rfl rfl)
  iterate 2 (first|refine nO ?_|refine lG ?_)
  apply zf [];exact zi
  ·intro _ _
   iterate 1 (first|refine K3 ?_|refine J8 ?_)
   refine dF 80 a4U ?_;exact j3 (p9 rfl rfl)
  iterate 1 (first|refine nO ?_|refine lG ?_)
  apply U2 [9];exact rfl;exact rfl;exact rfl;kernel_rfl;intro _ _;refine H7 (λv'=>?_);refine j3 (N7 [.tail 57 100 v'] [] rfl rfl lpr rfl ?_);repeat' first|refine Z ?_|intro
  refine dW [.obj (D+1) (.loop { r0 with state:=.busy }),.var gto 24 (ptr ga),.var ga 113 (y7 gs0 a1 a2 a3 a4 c0),.var gk 3 (int k),.var go 36 (.sl 100 ((l++[({ Y5 with k:=15,x:=x,a:=(A x).getD [],t:=k,f:=iV d (G6 d (F6 [71] x.k x.q)) true }:TxX)]).map x9) (some v')),.var gva 176 (aA gA),.obj gA (X8 aU es ck),.tail 57 100 v',.var gd 64 (dA d),.var gbo 4 (d9 bX),.var ghd 42 (Q7 hX),.var gb 113 (y7 gs1 b1 b2 b3 b4 c1),.var gma 40 (hA mX),.obj D (.deferred (some []))] _ ?_ lpr ?_
  ·refine yO (r:={ r0 with state:=.busy }) (m1:=[.obj D (.deferred (some [])),.var gto 24 (ptr ga),.var go 36 (.sl 100 ((l++[({ Y5 with k:=15,x:=x,a:=(A x).getD [],t:=k,f:=iV d (G6 d (F6 [71] x.k x.q)) true }:TxX)]).map x9) (some v')),.tail 57 100 v',.var gva 176 (aA gA),.obj gA (X8 aU es ck),.var gb 113 (y7 gs1 b1 b2 b3 b4 c1),.var gbo 4 (d9 bX),.var gma 40 (hA mX),.var ghd 42 (Q7 hX),.var gd 64 (dA d),.var gk 3 (int k),.var ga 113 (y7 gs0 a1 a2 a3 a4 c0)]) (rF _ rG [0,13,1,4,7,5,6,11,9,12,10,8,3,2]) ⟨rfl,(v',l++[({ Y5 with k:=15,x:=x,a:=(A x).getD [],t:=k,f:=iV d (G6 d (F6 [71] x.k x.q)) true }:TxX)]),?_,by rw[e5]⟩;show l++[_]=_;rw[GY,hG,pO,if_neg hno,if_pos hiq,SC,hiq]
  rw[List.map_append];exact u7
 refine Calls.mono hIt λx w2 hx=>?_;obtain⟨u,m',ok',cv,hK,rfl,hv,hSt⟩:=hx;have hSt':=hS2.back (fr:=[]) (by rw[hs];exact hSt);rw[List.append_nil] at hSt';have hmk:wP w=[{ target:=.collected D,args:=#[] }]:=by rw[<- hD]
 obtain⟨v,l,hl,rfl⟩:∃ v l,l=gM (j5 c0) d A k oX (O9 c0.ev c0.hs.length)/\m'=eQ g1 g2 (ptr ga) (((c0.hs.length:Nat):Int))++(.var ga 113 (y7 gs0 a1 a2 a3 a4 c0)::[.obj (D+1) (.loop r0),.obj D (.deferred (some [])),.var gto 24 (ptr ga),.var go 36 (.sl 100 (l.map x9) (some v)),.tail 57 100 v,.var gva 176 (aA gA),.obj gA (X8 aU es ck),.var gb 113 (y7 gs1 b1 b2 b3 b4 c1),.var gbo 4 (d9 bX),.var gma 40 (hA mX),.var ghd 42 (Q7 hX),.var gd 64 (dA d),.var gk 3 (int k)]):=by
  obtain⟨z,h1,h2⟩:=hK;exact⟨z.1,z.2,h1,h2⟩
 refine⟨cv,ok',r0,.obj D (.deferred (some []))::[.var gto 24 (ptr ga),.var ga 113 (y7 gs0 a1 a2 a3 a4 c0),.var go 36 (.sl 100 (l.map x9) (some v)),.tail 57 100 v,.var gva 176 (aA gA),.obj gA (X8 aU es ck),.var gb 113 (y7 gs1 b1 b2 b3 b4 c1),.var gbo 4 (d9 bX),.var gma 40 (hA mX),.var ghd 42 (Q7 hX),.var gd 64 (dA d),.var gk 3 (int k),.var g2 3 (int (((c0.hs.length:Nat):Int))),.var g1 24 (ptr ga)],rfl,by rw[e1];decide,hSt'.perm (List.Perm.symm (rF _ rG [3,4,5,2,6,7,8,9,10,11,12,13,14,15,0,1])),hSt.stp,λok3 w3 hS3 st3=>?_⟩;rw[e2,hmk];dsimp only;refine(?_:AED 106 [{ target:=.collected D,args:=#[] }] .normal _ sB _ _) ok3 w3 a hS3 (((ha.stp st1).stp hSt.stp).stp st3);refine Bn ?_;refine BH (SF (SK (α:=Unit) (λ_=>[(6,.sl 100 (l.map x9) none)]) (λ_=>.obj (D+1) (.loop { r0 with state:=.exhausted })::.obj D (.deferred (some []))::[.var gto 24 (ptr ga),.var ga 113 (y7 gs0 a1 a2 a3 a4 c0),.var go 36 (.sl 100 (l.map x9) (some v)),.tail 57 100 v,.var gva 176 (aA gA),.obj gA (X8 aU es ck),.var gb 113 (y7 gs1 b1 b2 b3 b4 c1),.var gbo 4 (d9 bX),.var gma 40 (hA mX),.var ghd 42 (Q7 hX),.var gd 64 (dA d),.var gk 3 (int k),.var g2 3 (int (((c0.hs.length:Nat):Int))),.var g1 24 (ptr ga)]) ?_ (λ_=>?_)))
 ·repeat' (first|refine K3 ?_|refine J8 ?_|refine M9 ?_|intro _|simp only[List.set]|fail)
  refine j3 (X4 6 (v':=.sl 100 (l.map x9) none) Imp.sl ?_);exact(aZ () zc slr)
 refine BH (SH ?_);refine RZ (D:=D) (m1:=.obj (D+1) (.loop { r0 with state:=.exhausted })::[.var gto 24 (ptr ga),.var ga 113 (y7 gs0 a1 a2 a3 a4 c0),.var go 36 (.sl 100 (l.map x9) (some v)),.tail 57 100 v,.var gva 176 (aA gA),.obj gA (X8 aU es ck),.var gb 113 (y7 gs1 b1 b2 b3 b4 c1),.var gbo 4 (d9 bX),.var gma 40 (hA mX),.var ghd 42 (Q7 hX),.var gd 64 (dA d),.var gk 3 (int k),.var g2 3 (int (((c0.hs.length:Nat):Int))),.var g1 24 (ptr ga)]) rfl (List.Perm.swap _ _ _) (zH (zI rfl rfl) vC) (.inl rfl) ⟨by rw[hl];rfl,rfl⟩ ?_;exact u7
theorem QG (hk0:(c0.hs.length<c0.ms.length/\c0.ms.length<=1000000)/\DOk (j5 c0))(hv0:c0.ev.length<=1000000)(hp0:∀ v∈c0.ev,PkN v.x)(hq1:(c1.hs.length<=1000000/\c1.ky.length<=1000000)/\∀ y∈c1.hs,y.h<=9223372036854775807/\y.t<=9223372036854775807)(hm1:c1.ms.length<=1000000)(hd1:∀ d∈c1.ms,d.length<=1000000)(hv1:c1.ev.length<=1000000)(hp1:∀ v∈c1.ev,PkN v.x)(hq:∀ v∈c1.ev,v.x.q<=9223372036854775807) :
  Av.Spec prog GL 9 [ptr ga,ptr gb,str i] [.var ga 113 (y7 gs0 a1 a2 a3 a4 c0),.var gb 113 (y7 gs1 b1 b2 b3 b4 c1)] λu m=>
   u=.sl 100 ((dQ (j5 c0) (K4 c1 (A9 (j5 c0) i)) (c0.hs.length+1) (X7 c0) (A9 (j5 c0) i) (O9 c1.ev (A9 (j5 c0) i))++gM (j5 c0) (K4 c1 (A9 (j5 c0) i)) (bU c1.ev) (A9 (j5 c0) i) (qI c1 (A9 (j5 c0) i)) (O9 c0.ev c0.hs.length)).map x9) none /\
   m=[.var ga 113 (y7 gs0 a1 a2 a3 a4 c0),.var gb 113 (y7 gs1 b1 b2 b3 b4 c1)]:=by
 have h1:=Nat.le_trans (LC (e:=j5 c0) (d:=(K4 c1 (A9 (j5 c0) i))) (h:=c0.hs.length+1) (t:=X7 c0) (k:=A9 (j5 c0) i) (O9 c1.ev (A9 (j5 c0) i))) (Nat.le_trans (yZ _ _) hv1);have h2:=Nat.le_trans (LV (e:=j5 c0) (d:=(K4 c1 (A9 (j5 c0) i))) (A:=bU c1.ev) (k:=A9 (j5 c0) i) (o:=qI c1 (A9 (j5 c0) i)) (O9 c0.ev c0.hs.length)) (Nat.le_trans (yZ _ _) hv0);have hC:=Qc (ga:=ga) (gb:=gb) (gs0:=gs0) (gs1:=gs1) (a1:=a1) (a2:=a2) (a3:=a3) (a4:=a4) (b1:=b1) (b2:=b2) (b3:=b3) (b4:=b4) (i:=i) hk0 hm1 hd1 hv1 hq;have hB:=Qe (ga:=ga) (gb:=gb) (gs0:=gs0) (gs1:=gs1) (a1:=a1) (a2:=a2) (a3:=a3) (a4:=a4) (b1:=b1) (b2:=b2) (b3:=b3) (b4:=b4) (i:=i) hk0 hv0 hp0 hq1 hm1 hd1 hv1 hp1;generalize dQ (j5 c0) (K4 c1 (A9 (j5 c0) i)) (c0.hs.length+1) (X7 c0) (A9 (j5 c0) i) (O9 c1.ev (A9 (j5 c0) i))=L1 at *;generalize gM (j5 c0) (K4 c1 (A9 (j5 c0) i)) (bU c1.ev) (A9 (j5 c0) i) (qI c1 (A9 (j5 c0) i)) (O9 c0.ev c0.hs.length)=L2 at *;refine ze func9 ntmps9 λ_ hs=>?_;repeat' first|refine Z ?_|intro
 refine R7 hC (λu m1 hh=>?_);obtain⟨v,rfl,rfl⟩:=hh;repeat' first|refine Z ?_|intro
 refine Bf [_] _ hB (λu m1 hh=>?_);obtain⟨rfl,rfl⟩:=hh;refine H7 (λv'=>?_);repeat' first|refine Z ?_|intro
 refine U6 (.sl 100 ((L1++L2).map x9) none) [.var ga 113 (y7 gs0 a1 a2 a3 a4 c0),.var gb 113 (y7 gs1 b1 b2 b3 b4 c1)] ?_ ⟨rfl,rfl⟩ ?_
 ·rw[List.map_append];exact Imp.sl
 exact u7
end
end
end Go.Proofs.Z
