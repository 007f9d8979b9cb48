/- . -/
import Derived.Maps.Keyed
import Derived.DeepKeys5
import Derived.Test.YtcdbijbhifhkeaaGreatDoorV36
namespace Go.Proofs.Z
open Go Go.RowKit Tw Av
section
variable {K T V:TypeId}{ck:Nat}
class TyMk (P:Program)(T:TypeId)(K V:outParam TypeId){X:Type}(kv:X->Value)(K0:X->Prop):Prop where
 out:P.underlying T=some (.map K V)
 law:Go.Maps.Keyed P K
 key:∀ x,K0 x->∃ l,keyOf P K (kv x)=some l
 inj:∀ {x y},kv x=kv y->x=y
 val:(P.info? V).map (·.zero)=some (some (sv []))
abbrev MkE (X:Type):=X × Bs × Nat
abbrev xU {X:Type}(kv:X->Value)(e:MkE X):MapEntry:=⟨kv e.1,sv e.2.1,e.2.2⟩
abbrev Y9 {X:Type}(kv:X->Value)(es:List (MkE X))(ck:Nat):Obj:=.map (es.map (xU kv)).toArray ck
structure MkOk {X:Type}(K0:X->Prop)(es:List (MkE X))(F:X->Option Bs):Prop where
 key:∀ e∈es,K0 e.1
 get:∀ e∈es,F e.1=some e.2.1
 non:∀ x,F x≠none->∃ e∈es,e.1=x
 nod:(es.map (·.1)).Nodup
section
variable {P:Program} {N:Nat} {ops:Array Oper} {Q:Exit->Act->World->Prop} {rest:List Oper} {s:Av.Base} {e:Av.Env} {m:List Av.Piece} {d:Nat} {ty:TypeId} {pos:String} {af:Array Edge}
theorem a5K {X:Type}{kv:X->Value}{K0:X->Prop}[t:TyMk P T K V kv K0]:∃ i,P.info? V=some i/\i.zero=some (sv []):=by
 have:=t.val;cases h:P.info? V with
 | none=>rw[h] at this;cases this
 | some i=>
  rw[h] at this;exact⟨i,rfl,by simpa using this⟩
theorem b2G {X:Type}{kv:X->Value}{K0:X->Prop}[t:TyMk P T K V kv K0]{x i:Operand}{g:Nat}{a:X}{av:AV}{es:List (MkE X)}{F:X->Option Bs}(hF:MkOk K0 es F)(ha:K0 a)(hav:∀ ok w v,RV ok w av v->v=kv a)
  (h:AL P N ops Q s rest ((d,str ((F a).getD []))::e) m) (hx:ev e x=some (aK g):=by exact rfl) (hi:ev e i=some av:=by exact rfl)
  (hm:Has m (.obj g (Y9 kv es ck)):=by (repeat (first|exact Av.Has.here|apply Av.Has.there))) (hd:Nat.blt d N=true:=by exact rfl):AL P N ops Q s (⟨some d,.lookup T x i false,ty,pos,af,none⟩::rest) e m:=
 dR (λok w A hS hA=>by
  obtain⟨ho,_⟩:=hS.at_ _ hm.mem;obtain⟨iz,q1,q2⟩:=a5K (P:=P) (T:=T) (kv:=kv) (K0:=K0);have hv1:=hav _ _ _ (hA.eval hi);obtain⟨l,hl⟩:=t.key a ha;have h2:=t.law.check w (es.map (xU kv)).toArray.isEmpty hl;have h1:=t.law.find w hl (es.map (xU kv)) (λy hy=>by
   obtain⟨z,hz,rfl⟩:=List.mem_map.1 hy;exact t.key _ (hF.key z hz))
  refine⟨sv ((F a).getD []),?_,RV0.of_lit rfl⟩;have hg:(getObj g).run P w=.ok (Y9 kv es ck) w:=by simp[getObj,Sem.run,ho]
  simp only[execOp,hA.lit hx,hv1,Instr.lookup,Sem.run_bind,run_underlying t.out,Result.andThen_ok,hg,h2,Sem.run_pure];rcases h1 with⟨h3,h4⟩|⟨j,y,h3,h4,h5⟩
  ·have h6:F a=none:=by
    cases h7:F a with
    | none=>rfl
    | some b=>
     obtain⟨z,hz,rfl⟩:=hF.non a (by rw[h7];simp);exact absurd rfl (h4 _ (List.mem_map_of_mem hz))
   rw[h6];simp[h3,zeroValue,typeInfo,q1,q2]
  have h6:=List.mem_of_getElem? h4;obtain⟨z,hz,rfl⟩:=List.mem_map.1 h6;obtain rfl:=t.inj h5;rw[hF.get z hz];simp[h3]) hd h
theorem Pk {X:Type}{K0:X->Prop}{es:List (MkE X)}{F F':X->Option Bs}{a:X}{b:Bs}{j:Nat}(hF:MkOk K0 es F)(ha:K0 a)(h1:F' a=some b)(h2:∀ x,x≠a->F' x=F x) :
  (∀ hj:j<es.length,es[j].1=a->MkOk K0 (es.set j (a,b,es[j].2.2)) F')/\((∀ e∈es,e.1≠a)->MkOk K0 (es++[(a,b,ck)]) F'):=by
 refine⟨λhj he=>?_,λhn=>?_⟩
 ·have hm:(es.set j (a,b,es[j].2.2)).map (·.1)=es.map (·.1):=by
   apply List.ext_getElem
   ·simp
   intro i hi1 hi2;simp only[List.getElem_map,List.getElem_set];split
   ·rename_i h;subst h;exact he.symm
   rfl
  refine⟨λy hy=>?_,λy hy=>?_,λx hx=>?_,by rw[hm];exact hF.nod⟩
  ·rcases List.mem_or_eq_of_mem_set hy with h|rfl
   ·exact hF.key y h
   exact ha
  ·obtain⟨i,hi,rfl⟩:=List.mem_iff_getElem.1 hy;rw[List.getElem_set];split
   ·exact h1
   rename_i hij;have hi':i<es.length:=by simpa using hi
   have hne:es[i].1≠a:=by
    intro h;have hp:=List.pairwise_iff_getElem.1 hF.nod;rcases Nat.lt_or_gt_of_ne hij with q|q
    ·exact hp j i (by simpa using hj) (by simpa using hi') q (by simp only[List.getElem_map];rw[he,h])
    exact hp i j (by simpa using hi') (by simpa using hj) q (by simp only[List.getElem_map];rw[he,h])
   rw[h2 _ hne];exact hF.get _ (List.getElem_mem _)
  by_cases h:x=a
  ·subst h;exact⟨(x,b,es[j].2.2),List.mem_iff_getElem.2 ⟨j,by simpa using hj,sm⟩,rfl⟩
  rw[h2 x h] at hx;obtain⟨y,hy,rfl⟩:=hF.non x hx;obtain⟨i,hi,rfl⟩:=List.mem_iff_getElem.1 hy;refine⟨es[i],?_,rfl⟩;refine List.mem_iff_getElem.2 ⟨i,by simpa using hi,?_⟩;rw[List.getElem_set,if_neg];rintro rfl;exact h he
 refine⟨λy hy=>?_,λy hy=>?_,λx hx=>?_,?_⟩
 ·rcases List.mem_append.1 hy with h|h
  ·exact hF.key y h
  obtain rfl:=List.mem_singleton.1 h;exact ha
 ·rcases List.mem_append.1 hy with h|h
  ·rw[h2 _ (hn y h)];exact hF.get y h
  obtain rfl:=List.mem_singleton.1 h;exact h1
 ·by_cases h:x=a
  ·subst h;exact⟨_,List.mem_append_right _ List.mem_cons_self,rfl⟩
  rw[h2 x h] at hx;obtain⟨y,hy,rfl⟩:=hF.non x hx;exact⟨y,List.mem_append_left _ hy,rfl⟩
 rw[List.map_append,List.nodup_append];refine⟨hF.nod,sm,λx hx y hy=>?_⟩;obtain⟨z,hz,rfl⟩:=List.mem_map.1 hx;obtain rfl:=List.mem_singleton.1 hy;exact hn z hz
theorem b2A {X:Type}{kv:X->Value}{K0:X->Prop}[t:TyMk P T K V kv K0]{x i y:Operand}{g:Nat}{a:X}{b:Bs}{av:AV}{es:List (MkE X)}{F F':X->Option Bs}{pre post:List Av.Piece}(hF:MkOk K0 es F)(ha:K0 a)(hav:∀ ok w v,RV ok w av v->v=kv a)(h1:F' a=some b)(h2:∀ x,x≠a->F' x=F x)
  (h:∀ es' ck',MkOk K0 es' F'->AL P N ops Q s rest e (pre++.obj g (Y9 kv es' ck')::post)) (hm:m=pre++.obj g (Y9 kv es ck)::post) (hx:ev e x=some (aK g):=by exact rfl) (hi:ev e i=some av:=by exact rfl) (hy:ev e y=some (str b):=by exact rfl) :
  AL P N ops Q s (⟨none,.mapUpdate T x i y,ty,pos,af,none⟩::rest) e m:=by
 subst hm;by_cases hin:∃ j,∃ hj:j<es.length,es[j].1=a
 ·obtain⟨j,hj,he⟩:=hin;refine LJ (λok w A hS hA=>?_) (h _ ck ((Pk (ck:=ck) hF ha h1 h2).1 hj he));obtain⟨ho,hno⟩:=hS.at_ (.obj g (Y9 kv es ck)) sm;obtain⟨g1,g2⟩:=hS.setObj (o':=Y9 kv (es.set j (a,b,es[j].2.2)) ck) rfl;have hv1:=hav _ _ _ (hA.eval hi);obtain⟨l,hl⟩:=t.key a ha;have h3:=t.law.check w false hl;have h4:=t.law.find w hl (es.map (xU kv)) (λy hy=>by
   obtain⟨z,hz,rfl⟩:=List.mem_map.1 hy;exact t.key _ (hF.key z hz))
  have h5:=QS (P:=P) (o':=Y9 kv (es.set j (a,b,es[j].2.2)) ck) ho hno;have h7:=t.law.stays w hl;refine⟨_,ok,?_,g1,g2⟩;have hg:(getObj g).run P w=.ok (Y9 kv es ck) w:=by simp[getObj,Sem.run,ho]
  simp only[execOp,hA.lit hx,hv1,hA.lit hy,Instr.mapUpdate,Sem.run_bind,run_underlying t.out,Result.andThen_ok,hg,h3];rcases h4 with⟨_,h4⟩|⟨j',z,h4,h8,h9⟩
  ·exact absurd (by rw[<- he]) (h4 (xU kv es[j]) (List.mem_map_of_mem (List.getElem_mem hj)))
  obtain⟨hj',h8⟩:=List.getElem?_eq_some_iff.1 h8;have hj1:j'<es.length:=by simpa using hj'
  rw[List.getElem_map] at h8;have h10:es[j'].1=a:=t.inj (by rw[<- h9,<- h8]);have h11:j'=j:=by
   have hp:=List.pairwise_iff_getElem.1 hF.nod;rcases Nat.lt_trichotomy j' j with q|q|q
   ·have h11:=hp j' j (by simpa using hj1) (by simpa using hj) q;rw[List.getElem_map,List.getElem_map,he,h10] at h11;exact absurd rfl h11
   ·exact q
   have h11:=hp j j' (by simpa using hj) (by simpa using hj1) q;rw[List.getElem_map,List.getElem_map,he,h10] at h11;exact absurd rfl h11
  subst h11;have h12:((es.map (xU kv)).modify j' λe=>{ key:=kv a,val:=sv b,born:=e.born })=(es.set j' (a,b,es[j'].2.2)).map (xU kv):=by
   apply List.ext_getElem
   ·simp
   intro i hi1 hi2;rw[List.getElem_modify,List.getElem_map,List.getElem_map,List.getElem_set];split
   ·rename_i q;subst q;rfl
   rfl
  simp[h4,List.getElem?_eq_getElem hj,he,h7,h12];rw[show Obj.map ((es.map (xU kv)).set j' (xU kv (a,b,es[j'].2.2))).toArray ck=Y9 kv (es.set j' (a,b,es[j'].2.2)) ck by rw[<- List.map_set],h5];rfl
 have hn:∀ y∈es,y.1≠a:=λy hy q=>by
  obtain⟨j,hj,rfl⟩:=List.mem_iff_getElem.1 hy;exact hin ⟨j,hj,q⟩
 refine LJ (λok w A hS hA=>?_) (h _ (ck+1) ((Pk (j:=0) (ck:=ck) hF ha h1 h2).2 hn));obtain⟨ho,hno⟩:=hS.at_ (.obj g (Y9 kv es ck)) sm;obtain⟨g1,g2⟩:=hS.setObj (o':=Y9 kv (es++[(a,b,ck)]) (ck+1)) rfl;have hv1:=hav _ _ _ (hA.eval hi);obtain⟨l,hl⟩:=t.key a ha;have h3:=t.law.check w false hl;have h4:=t.law.find w hl (es.map (xU kv)) (λy hy=>by
  obtain⟨z,hz,rfl⟩:=List.mem_map.1 hy;exact t.key _ (hF.key z hz))
 have h5:=QS (P:=P) (o':=Y9 kv (es++[(a,b,ck)]) (ck+1)) ho hno;refine⟨_,ok,?_,g1,g2⟩;have hg:(getObj g).run P w=.ok (Y9 kv es ck) w:=by simp[getObj,Sem.run,ho]
 simp only[execOp,hA.lit hx,hv1,hA.lit hy,Instr.mapUpdate,Sem.run_bind,run_underlying t.out,Result.andThen_ok,hg,h3];rcases h4 with⟨h4,_⟩|⟨j',z,_,h8,h9⟩
 ·have h7:Obj.map ((es.map (xU kv)).toArray.push { key:=kv a,val:=sv b,born:=ck }) (ck+1)=Y9 kv (es++[(a,b,ck)]) (ck+1):=by
   simp[Y9]
  simp only[h4,h7,h5,Result.andThen_ok,Sem.run_pure]
 have h6:=List.mem_of_getElem? h8;obtain⟨z,hz,rfl⟩:=List.mem_map.1 h6;exact absurd (t.inj h9) (hn z hz)
end
end
end Go.Proofs.Z

namespace Go.Proofs.Z
open Go Go.RowKit Tw Av Go.Proofs.Tryz
theorem a6x:laidOutB prog=true:=by kernel_rfl
theorem a6v:WideMaps.KeyLaw prog 51:=deep_law_laid a6x (m:=6) om (of_decide_eq_true kr) kr kr
def bL (x:Pkt):Value:=.agg #[.int .i64 x.q,sv x.s,sv x.k,sv x.d,.int .u64 (lm x.a.n 0),.int .u64 (lm x.a.n 1),.int .u64 (lm x.a.n 2),.int .u64 (lm x.a.n 3),sv x.f,sv x.g,.int .i64 x.h,.int .i64 x.t]
theorem Nn {x:Pkt}{ok:Ok}{w:World}{v:Value}(h:RV ok w (eZ x) v):v=bL x:=by
 obtain⟨h1,h2⟩:=(show RV0 ok w (eZ x) v from h);simp only[RC,RCs] at h1;obtain⟨_,_,_,e0,⟨rfl,_⟩,_,_,rfl,⟨rfl,_⟩,_,_,rfl,⟨rfl,_⟩,_,_,rfl,⟨_,_,_,rfl,⟨rfl,_⟩,_,_,rfl,⟨_,_,_,rfl,⟨rfl,_⟩,_,_,rfl,⟨rfl,_⟩,_,_,rfl,⟨rfl,_⟩,_,_,rfl,⟨rfl,_⟩,rfl⟩,_,_,rfl,⟨rfl,_⟩,_,_,rfl,⟨rfl,_⟩,rfl⟩,_,_,rfl,⟨rfl,_⟩,_,_,rfl,⟨rfl,_⟩,rfl⟩:=h1;obtain⟨cs,rfl⟩:∃ cs,v=.agg cs:=by
  cases v <;> first|exact⟨_,rfl⟩|cases h2
 have e1:cs=(bL x).cells:=Array.toList_inj.1 e0;rw[e1];rfl
theorem a4P {x y:Pkt}(h:bL x=bL y):x=y:=by
 unfold bL at h;simp only[Value.agg.injEq,Array.mk.injEq,List.cons.injEq,Value.int.injEq,Value.string.injEq,ByteArray.mk.injEq,true_and,and_true,Int.natCast_inj] at h;obtain⟨h1,h2,h3,h4,a0,a1,a2,a3,h5,h6,h7,h8⟩:=h;have ha:x.a=y.a:=Wd.ext' (Oh x.a.lt y.a.lt a0 a1 a2 a3);cases x;cases y
 simp_all

section
variable {t:TypeId}{d:Nat}{P:Program}
theorem Qm {q:IntKind}{n:Int}(hu:P.underlying t=some (.int q))(h:(Lit.int q n).wf=true):∃ l,P.keyLits (d+1) t [.int q n]=some l:=⟨[.int q n],by
 simp[Program.keyLits,hu,h]⟩
theorem a6F {b:Bs}(hu:P.underlying t=some .string)(h:b.length<=maxLen):∃ l,P.keyLits (d+1) t [sv b]=some l:=⟨[.string b],by
 simp[Program.keyLits,hu,ByteArray.size,h]⟩
theorem ZR {α β:Type}{f:α->Option β}:∀ l:List α,(∀ x∈l,∃ y,f x=some y)->∃ ys,l.mapM f=some ys
 | [],_=>⟨[],rfl⟩
 | x::l,h=>by
  obtain⟨y,hy⟩:=h x List.mem_cons_self;obtain⟨ys,hys⟩:=ZR l λz hz=>h z (List.mem_cons_of_mem _ hz);exact⟨y::ys,by rw[List.mapM_cons,hy,hys];rfl⟩
def Tv (P:Program)(t:TypeId):List (TypeId × Nat):=match P.underlying t with
 | some (.struct fs) => if fs.all (·.name != "_") = true then fs.toList.map fun f => (f.type, f.offset) else []
 | _=>[]
theorem Ql {cs:List Value}{x:TypeId × Nat}{L:List (TypeId × Nat)}(hL:Tv P t=x::L)(hc:cs.length=P.cellsOf t)(h:∀ f∈x::L,∃ l,P.keyLits d f.1 ((cs.drop f.2).take (P.cellsOf f.1))=some l):∃ l,P.keyLits (d+1) t cs=some l:=by
 unfold Tv at hL;split at hL
 ·rename_i fs hu;split at hL
  ·rename_i hn;obtain⟨ys,hys⟩:=ZR (f:=λf:Field=>P.keyLits d f.type ((cs.drop f.offset).take (P.cellsOf f.type))) fs.toList λf hf=>h (f.type,f.offset) (by rw[<- hL];exact List.mem_map_of_mem hf);refine⟨ys.flatten,?_⟩;simp only[Program.keyLits,hu];rw[if_pos ⟨hc,hn⟩,hys];rfl
  cases hL
 cases hL
theorem a6H {n:Nat}{e:TypeId}{cs:List Value}(hu:P.underlying t=some (.array n e))(hc:cs.length=P.cellsOf t)(h:∀ i<n,∃ l,P.keyLits d e ((cs.drop (i*P.cellsOf e)).take (P.cellsOf e))=some l):∃ l,P.keyLits (d+1) t cs=some l:=by
 obtain⟨ys,hys⟩:=ZR (f:=λi=>P.keyLits d e ((cs.drop (i*P.cellsOf e)).take (P.cellsOf e))) (List.range n) λi hi=>h i (List.mem_range.1 hi);refine⟨ys.flatten,?_⟩;simp only[Program.keyLits,hu];rw[if_pos hc,hys];rfl
theorem wf_i64 {n:Int}(h:-9223372036854775808<=n/\n<=9223372036854775807):(Lit.int .i64 n).wf=true:=by
 have e1:IntKind.min .i64=-9223372036854775808:=dc
 have e2:IntKind.max .i64=9223372036854775807:=dc
 show (decide (IntKind.min .i64<=n)&&decide (n<=IntKind.max .i64))=true;rw[e1,e2,dT h.1,dT h.2];rfl
theorem wf_u64 {n:Nat}(h:n<18446744073709551616):(Lit.int .u64 n).wf=true:=by
 have e1:IntKind.min .u64=0:=dc
 have e2:IntKind.max .u64=18446744073709551615:=dc
 show (decide (IntKind.min .u64<=(n:Int))&&decide ((n:Int)<=IntKind.max .u64))=true;rw[e1,e2,dT (Int.natCast_nonneg n),dT (show (n:Int)<=18446744073709551615 by omega)];rfl
structure PkN (x:Pkt):Prop where
 q:-9223372036854775808<=x.q/\x.q<=9223372036854775807
 h:-9223372036854775808<=x.h/\x.h<=9223372036854775807
 t:-9223372036854775808<=x.t/\x.t<=9223372036854775807
 s:x.s.length<=1000000000
 k:x.k.length<=1000000000
 d:x.d.length<=1000000000
 f:x.f.length<=1000000000
 g:x.g.length<=1000000000
theorem mxl {n:Nat}(h:n<=1000000000):n<=maxLen:=by
 unfold maxLen;omega
theorem a6G {x:Pkt}(h:PkN x):∃ l,prog.keyLits (d+4) 51 (bL x).cells.toList=some l:=by
 have ui:∀ {d:Nat} {n:Int},-9223372036854775808<=n/\n<=9223372036854775807->∃ l,prog.keyLits (d+1) 3 [.int .i64 n]=some l:=λhn=>Qm kr (wf_i64 hn);have us:∀ {d:Nat} {b:Bs},b.length<=1000000000->∃ l,prog.keyLits (d+1) 9 [sv b]=some l:=λhn=>a6F kr (mxl hn);have uu:∀ {d i:Nat},∃ l,prog.keyLits (d+1) 37 [.int .u64 (lm x.a.n i)]=some l:=fun {d i}=>Qm kr (wf_u64 (Nat.mod_lt _ dc));have ci:prog.cellsOf 3=1:=by kernel_rfl
 have cs:prog.cellsOf 9=1:=kr
 have cu:prog.cellsOf 37=1:=kr
 have cc:prog.cellsOf 49=7:=kr
 have cw:prog.cellsOf 39=4:=kr
 refine Ql (L:=[(9,1),(9,2),(49,3),(3,10),(3,11)]) (x:=(3,0)) kr kr ?_;intro f hf;simp only[List.mem_cons,List.not_mem_nil,or_false] at hf;rcases hf with rfl|rfl|rfl|rfl|rfl|rfl
 ·dsimp only;rw[ci];exact ui h.q
 ·dsimp only;rw[cs];exact us h.s
 ·dsimp only;rw[cs];exact us h.k
 ·dsimp only;rw[cc];refine Ql (L:=[(39,1),(9,5),(9,6)]) (x:=(9,0)) kr kr ?_;intro f hf;simp only[List.mem_cons,List.not_mem_nil,or_false] at hf;rcases hf with rfl|rfl|rfl|rfl
  ·dsimp only;rw[cs];exact us h.d
  ·dsimp only;rw[cw];refine a6H (n:=4) (e:=37) kr kr ?_;intro i hi;obtain rfl|rfl|rfl|rfl:i=0\/i=1\/i=2\/i=3:=by omega
   ·rw[cu];exact uu (i:=0)
   ·rw[cu];exact uu (i:=1)
   ·rw[cu];exact uu (i:=2)
   rw[cu];exact uu (i:=3)
  ·dsimp only;rw[cs];exact us h.f
  dsimp only;rw[cs];exact us h.g
 ·dsimp only;rw[ci];exact ui h.h
 dsimp only;rw[ci];exact ui h.t
theorem a6I {x:Pkt}(h:PkN x):∃ l,keyOf prog 51 (bL x)=some l:=by
 obtain⟨l,hl⟩:=a6G (d:=prog.types.size-3) h;have e:prog.types.size-3+4=prog.types.size+1:=by kernel_rfl
 rw[e] at hl;have h1:prog.keyType 51=true:=by kernel_rfl
 have h2:(bL x).formed prog 51=true:=kr
 refine⟨.string (keyBytes l),?_⟩;unfold keyOf;split
 ·rw[h1,h2,hl];rfl
 ·rw[h1,h2,hl];rfl
 rename_i hu;exact absurd (show (match prog.underlying 51 with|some (.struct _)=>true|_=>false)=true by kernel_rfl) (by
  intro hh;split at hh
  ·rename_i fs he;exact hu fs he
  cases hh)
instance b5Q:TyMk prog 249 51 9 bL PkN where
 out:=by kernel_rfl
 law:=Go.Maps.Keyed.of_law a6v
 key:=λ_ h=>a6I h
 inj:=a4P
 val:=by kernel_rfl
end

def gV (evs:List EvX)(p:Pkt):Option Bs:=evs.foldl (λa v=>if v.k=14/\v.x=p then some v.a else a) none
theorem VC {evs:List EvX}{v:EvX}{p:Pkt}:gV (evs++[v]) p=if v.k=14/\v.x=p then some v.a else gV evs p:=by
 unfold gV;rw[List.foldl_append];rfl
theorem b1Q {evs:List EvX}{v:EvX}(h:v.k≠14):gV (evs++[v])=gV evs:=by
 funext p
 rw[VC,if_neg (λq=>h q.1)]
theorem a0e {evs:List EvX}{v:EvX}(h:v.k=14):gV (evs++[v]) v.x=some v.a/\∀ x,x≠v.x->gV (evs++[v]) x=gV evs x:=by
 refine⟨?_,λx hx=>?_⟩
 ·rw[VC,if_pos ⟨h,rfl⟩]
 rw[VC,if_neg (λq=>hx q.2.symm)]
theorem uB {α:Type _}{l:List α}{i:Nat}(h:i<l.length):l.take (i+1)=l.take i++[l[i]]:=(List.take_append_getElem h).symm
theorem a8Y {gb gs1:Nat}{b1 b2 b3 b4:Value}{c1:ChX}(hl1:c1.ev.length<=1000000)(hp:∀ v∈c1.ev,PkN v.x):Av.Spec prog GL 172 [ptr gb] [.var gb 111 (z8 gs1 b1 b2 b3 b4 c1)] λu m=>∃ g es ck,u=aK g/\MkOk PkN es (gV c1.ev)/\m=.obj g (Y9 bL es ck)::[.var gb 111 (z8 gs1 b1 b2 b3 b4 c1)]:=by
 have hm:(c1.ev.map O0).length=c1.ev.length:=llm _;refine zc func172 ntmps172 λ_ hs=>?_;repeat' first|refine O ?_|intro
 refine b2D (λgA=>?_);repeat' first|refine O ?_|intro
 rw[hm];refine H7 (α:=Nat × List (MkE Pkt) × Nat) (λq=>[(3,aK gA),(8,.sl 15 (c1.ev.map O0) none),(9,int c1.ev.length),(10,int q.1)]) (λq=>.obj gA (Y9 bL q.2.1 q.2.2)::[.var gb 111 (z8 gs1 b1 b2 b3 b4 c1)])
  (λq=>q.1<=c1.ev.length/\MkOk PkN q.2.1 (gV (c1.ev.take q.1))) (λq=>c1.ev.length-q.1) (0,[],0) za slr ⟨Nat.zero_le _,⟨sm,sm,λx h=>absurd rfl h,sm⟩⟩ ?_
 rintro⟨i,es,ck⟩ ⟨hi,hF⟩;dsimp only at hi hF ⊢;by_cases hil:i<c1.ev.length
 rotate_left
 ·obtain rfl:i=c1.ev.length:=by omega
  rw[List.take_length] at hF;repeat' first|refine O ?_|intro
  exact j4 _ ⟨gA,es,ck,rfl,hF,rfl⟩ slr
 have hk:=hp _ (List.getElem_mem hil);repeat' first|refine O ?_|intro
 rename_i gv;by_cases h14:c1.ev[i].k=14
 ·rw[dT h14];repeat' first|refine O ?_|intro
  refine b2A (pre:=[_]) (F':=gV (c1.ev.take i++[c1.ev[i]])) (a:=c1.ev[i].x) (b:=c1.ev[i].a) hF hk (λok w v hv=>Nn hv) (a0e h14).1 (a0e h14).2 (λes' ck' hF'=>?_) rfl;repeat' first|refine O ?_|intro
  exact y7 (i+1,es',ck') za (List.sublist_cons_self _ _) ⟨hil,by rw[uB hil];exact hF'⟩ (by dsimp only;omega)
 rw[dZ h14];repeat' first|refine O ?_|intro
 exact y7 (i+1,es,ck) za (List.sublist_cons_self _ _) ⟨hil,by rw[uB hil,b1Q h14];exact hF⟩ (by dsimp only;omega)

section
variable {p:Pkt}{k:Int}
def BA (d:List Ent)(p:Pkt):Bool:=(gO d (G9 [80] p.s p.q)).isSome
def yJ (d:List Ent)(k:Int)(p:Pkt)(a:Bs):TxX:={ X0 with k:=15,x:=p,a:=a,t:=k,f:=fV d (G5 d (G9 [71] p.k p.q)) (K8 d (G9 [71] p.k p.q)) }
def IY (d:List Ent)(k:Int)(p:Pkt):TxX:={ X0 with k:=16,x:=p,t:=k,g:=zT d (G5 d (G9 [71] p.k p.q)) (K8 d (G9 [71] p.k p.q)) }
def qW (c:ChX)(k:Int):Option Int:=if 1<=k/\k<=(c.hs.length:Int) then some (c.hs.getD (k-1).toNat ⟨[],0,0,G8⟩).t else none
def TK (o:Option Int)(p:Pkt)(k:Int):Bool:=match o with
 | some x=>aV p k x
 | none=>false
def pG (e d:List Ent)(A:Pkt->Option Bs)(k:Int)(o:Option Int)(p:Pkt):List TxX:=
 if BA e p=false then [] else if K8 d (G9 [71] p.k p.q)=true then [yJ d k p ((A p).getD [])] else if TK o p k=true then [IY d k p] else []
def iQ (e d:List Ent)(A:Pkt->Option Bs)(k:Int)(o:Option Int)(ps:List Pkt):List TxX:=ps.flatMap (pG e d A k o)
theorem PO {e d:List Ent}{A:Pkt->Option Bs}{o:Option Int}{ps:List Pkt}:iQ e d A k o (ps++[p])=iQ e d A k o ps++pG e d A k o p:=by
 unfold iQ;rw[List.flatMap_append,List.flatMap_singleton]
theorem b1y {e d:List Ent}{A:Pkt->Option Bs}{o:Option Int}:(pG e d A k o p).length<=1:=by
 unfold pG;split
 ·exact Nat.zero_le _
 split
 ·exact Nat.le_refl 1
 split
 ·exact Nat.le_refl 1
 exact Nat.zero_le _
theorem UX {e d:List Ent}{A:Pkt->Option Bs}{k:Int}{o:Option Int}:∀ ps:List Pkt,(iQ e d A k o ps).length<=ps.length
 | []=>Nat.le_refl _
 | p::ps=>by
  have:=UX (e:=e) (d:=d) (A:=A) (k:=k) (o:=o) ps;unfold iQ at this ⊢;rw[List.flatMap_cons,lla];have h2:=b1y (e:=e) (d:=d) (A:=A) (k:=k) (o:=o) (p:=p);simp only[List.length_cons];omega
theorem a7r {a:Bs}{f:Prf}:Imp (.agg 100 [int 15,str [],str [],str [],str [],str [],int 0,.agg 35 [str [],int 0,int 0,hA G8],hA G8,eZ p,str a,int k,bK f,.agg 9 [int 0,K5,K5,.agg 3 [int 0,int 0,K5],.agg 3 [int 0,int 0,K5]]]) (D8 { X0 with k:=15,x:=p,a:=a,t:=k,f:=f }):=by
 exact(inferInstance:ImpR _ (.agg 100 [int 15,str [],str [],str [],str [],str [],int 0,.agg 35 [str [],int 0,int 0,hA G8],hA G8,eZ p,str a,int k,bK f,.agg 9 [int 0,.sl 2 [] none,.sl 2 [] none,.agg 3 [int 0,int 0,.sl 32 [] none],.agg 3 [int 0,int 0,.sl 32 [] none]]])).imp
theorem a7h {g:Gp}:Imp (.agg 100 [int 16,str [],str [],str [],str [],str [],int 0,.agg 35 [str [],int 0,int 0,hA G8],hA G8,eZ p,str [],int k,.agg 3 [int 0,int 0,K5],jS g]) (D8 { X0 with k:=16,x:=p,t:=k,g:=g }):=by
 exact(inferInstance:ImpR _ (.agg 100 [int 16,str [],str [],str [],str [],str [],int 0,.agg 35 [str [],int 0,int 0,hA G8],hA G8,eZ p,str [],int k,.agg 3 [int 0,int 0,.sl 32 [] none],jS g])).imp
section
variable {ga gb gs0 gs1:Nat} {a1 a2 a3 a4 b1 b2 b3 b4:Value} {c0 c1:ChX} {i:Bs}
set_option maxHeartbeats 8000000 in
theorem a8X (hk0:(c0.hs.length<c0.ms.length/\c0.ms.length<=1000000)/\DOk (j3 c0))(hv0:c0.ev.length<=1000000)(hp0:∀ v∈c0.ev,PkN v.x)(hq1:(c1.hs.length<=1000000/\c1.ky.length<=1000000)/\∀ y∈c1.hs,y.h<=9223372036854775807/\y.t<=9223372036854775807)(hm1:c1.ms.length<=1000000)(U9:∀ d∈c1.ms,d.length<=1000000)(hv1:c1.ev.length<=1000000)(hp1:∀ v∈c1.ev,PkN v.x) :
  Av.Spec prog GL 113 [ptr ga,ptr gb,str i] [.var ga 111 (z8 gs0 a1 a2 a3 a4 c0),.var gb 111 (z8 gs1 b1 b2 b3 b4 c1)] λu m=>
   u=.sl 100 ((iQ (j3 c0) (Q7 c1 (A9 (j3 c0) i)) (gV c1.ev) (A9 (j3 c0) i) (qW c1 (A9 (j3 c0) i)) (V6 c0.ev c0.hs.length)).map D8) none /\
   m=[.var ga 111 (z8 gs0 a1 a2 a3 a4 c0),.var gb 111 (z8 gs1 b1 b2 b3 b4 c1)]:=by
 have hst:=hk0.1;have hdk:=hk0.2;have hh0:c0.hs.length<=1000000:=by omega
 refine WM func113 rfl ntmps113 rfl (λsB hs=>?_);repeat' first|refine O ?_|intro
 obtain⟨hX,mX,bX,hif,hlo⟩:∃ hX mX bX,(if 1<=A9 (j3 c0) i/\A9 (j3 c0) i<=(c1.hs.length:Int) then AV.tup [R4 (c1.hs.getD (A9 (j3 c0) i-1).toNat ⟨[],0,0,G8⟩),hA (O7 c1.ky (c1.hs.getD (A9 (j3 c0) i-1).toNat ⟨[],0,0,G8⟩)),d9 true] else .tup [R4 ⟨[],0,0,G8⟩,hA G8,d9 false])=.tup [R4 hX,hA mX,d9 bX]/\∀ p,TK (qW c1 (A9 (j3 c0) i)) p (A9 (j3 c0) i)=(bX&&aV p (A9 (j3 c0) i) hX.t):=by
  unfold qW;split
  ·exact⟨_,_,_,rfl,λp=>rfl⟩
  exact⟨_,_,_,rfl,λp=>rfl⟩
 rw[hif];clear hif;repeat' first|refine O ?_|intro
 rename_i gto gk gd ghd gma gbo;have hdl:=Px (k:=A9 (j3 c0) i) U9;rw[show (if 0<=A9 (j3 c0) i/\A9 (j3 c0) i<c1.ms.length then c1.ms.getD (A9 (j3 c0) i).toNat [] else [])=Q7 c1 (A9 (j3 c0) i) from rfl];generalize (Q7 c1 (A9 (j3 c0) i))=d at hdl ⊢;generalize qW c1 (A9 (j3 c0) i)=oX at hlo ⊢;generalize A9 (j3 c0) i=k at *;refine J6 (args:=[ptr gb]) [.var gb 111 (z8 gs1 b1 b2 b3 b4 c1)] [.var gbo 4 (d9 bX),.var gma 91 (hA mX),.var ghd 93 (R4 hX),.var gd 32 (dA d),.var gk 3 (int k),.var gto 33 (ptr ga),.var ga 111 (z8 gs0 a1 a2 a3 a4 c0)] (by rw[hs];exact a8Y hv1 hp1) (λu m1 hh=>?_) (vW _ vZ [7,0,1,2,3,4,5,6]);obtain⟨gA,es,ck,rfl,hF,rfl⟩:=hh;generalize gV c1.ev=A at hF ⊢;repeat' (first|refine iP ?_|refine M8 ?_|refine Q4 ?_|refine L8 ?_|intro _)
 rename_i gva go;refine jK (g:=go) (v':=.sl 100 (([]:List TxX).map D8) (some (.slice none 0 0))) ImpC.nilT ?_;refine eO (λok w h=>h.full 100 100 none 0) ?_;refine Fq [.var gto 33 (ptr ga),.var ga 111 (z8 gs0 a1 a2 a3 a4 c0),.var go 141 (.sl 100 (([]:List TxX).map D8) (some (.slice none 0 0))),.tail 100 100 (.slice none 0 0),.var gva 249 (aK gA),.obj gA (Y9 bL es ck),.var gb 111 (z8 gs1 b1 b2 b3 b4 c1),.var gbo 4 (d9 bX),.var gma 91 (hA mX),.var ghd 93 (R4 hX),.var gd 32 (dA d),.var gk 3 (int k)] _ ?_ (List.Perm.symm (vW _ vZ [10,11,1,0,2,3,4,5,6,7,8,9])) slr;repeat' first|refine O ?_|intro
 apply aH [];exact rfl;exact rfl;kernel_rfl;kernel_rfl;intro sQ hQ;refine J6 (args:=[ptr ga,int c0.hs.length]) [] [] (by rw[hQ];exact Im rfl rfl) (λu m1 hh=>?_) lpr;obtain⟨g1,g2,rfl,rfl⟩:=hh;refine j5 (W9 [] (fJ g1 g2 (ptr ga) (c0.hs.length)) rfl rfl lpr rfl ?_);repeat' first|refine O ?_|intro
 refine Fp (gf:=216) (lb:=[.pointer (some ⟨g1,0,none⟩),.pointer (some ⟨g2,0,none⟩)]) (by simp[Value.oneCell']) (λok w a fn hS ha ok1 w1 st1 hS1 ha1=>?_);generalize hr0:DU fn a _ _ _ w=r0 at hS1 ⊢;have e1:r0.state=.ready:=by rw[<- hr0]
 have e2:r0.pending=none:=by rw[<- hr0]
 have e3:r0.tmps=a.tmps:=by rw[<- hr0]
 have e4:r0.params=#[45]:=by rw[<- hr0]
 have e5:{ { r0 with state:=.busy } with state:=.ready,pending:=none }=r0:=by rw[<- hr0]
 generalize hD:w.heap.size=D at hS1 ⊢;have hS2:=hS1.perm (m':=(fJ g1 g2 (ptr ga) (((c0.hs.length:Nat):Int))++(.var ga 111 (z8 gs0 a1 a2 a3 a4 c0)::[.obj (D+1) (.loop r0),.obj D (.deferred (some [])),.var gto 33 (ptr ga),.var go 141 (.sl 100 (([]:List TxX).map D8) (some (.slice none 0 0))),.tail 100 100 (.slice none 0 0),.var gva 249 (aK gA),.obj gA (Y9 bL es ck),.var gb 111 (z8 gs1 b1 b2 b3 b4 c1),.var gbo 4 (d9 bX),.var gma 91 (hA mX),.var ghd 93 (R4 hX),.var gd 32 (dA d),.var gk 3 (int k)]))++[]) (List.Perm.symm (vW _ vZ [14,15,3,0,1,2,4,5,6,7,8,9,10,11,12,13]));have hIt:=Io (ok0:=ok1) (w0:=w1) (L:=D+1) (g1:=g1) (g2:=g2) (k:=((c0.hs.length:Nat):Int)) (A:=Value × List TxX) (z0:=(.slice none 0 0,[])) (X:=[.var ga 111 (z8 gs0 a1 a2 a3 a4 c0)]) (Y:=[]) rfl (J:=λz=>[.obj (D+1) (.loop r0),.obj D (.deferred (some [])),.var gto 33 (ptr ga),.var go 141 (.sl 100 (z.2.map D8) (some z.1)),.tail 100 100 z.1,.var gva 249 (aK gA),.obj gA (Y9 bL es ck),.var gb 111 (z8 gs1 b1 b2 b3 b4 c1),.var gbo 4 (d9 bX),.var gma 91 (hA mX),.var ghd 93 (R4 hX),.var gd 32 (dA d),.var gk 3 (int k)])
  (G:=λpre z=>z.2=iQ (j3 c0) d A k oX pre) (λpre x z hG hp=>?_) rfl hv0 (Stp.refl _ _) (by rw[<- hs];exact hS2.lend)
 rotate_left
 ·have hxn:PkN x:=by
   have h1:x∈V6 c0.ev (c0.hs.length:Int):=hp.sublist.subset (List.mem_append_right _ List.mem_cons_self);unfold V6 at h1;obtain⟨y,hy,rfl⟩:=List.mem_map.1 h1;exact hp0 y (List.mem_filter.1 hy).1
  have hxq:x.q<=9223372036854775807:=hxn.q.2;have e6:=congrArg Loop.assign hr0.symm;have e7:=congrArg Loop.body hr0.symm;dsimp only at e6 e7;obtain⟨v,l⟩:=z;dsimp only[List.cons_append,List.nil_append] at hG ⊢;have hll:l.length<=1000000:=by
   have h1:=UX (e:=j3 c0) (d:=d) (A:=A) (k:=k) (o:=oX) pre;have h2:=hp.length_le;have h3:=IZ c0.ev c0.hs.length;rw[hG];simp only[List.length_append,List.length_singleton] at h2;omega
  refine VT (N:=106) (p:=45) ha1 e3 e4 rfl (λs2 hs2=>?_);rw[e6,e7];refine sH ?_;repeat' (first|refine M8 ?_|refine L8 ?_|refine Q4 ?_|intro _|simp only[List.set]|fail)
  rename_i gp;refine j5 (Dz (m1:=.var gp 51 (eZ x)::[.var gto 33 (ptr ga),.var ga 111 (z8 gs0 a1 a2 a3 a4 c0),.var gk 3 (int k),.var go 141 (.sl 100 (l.map D8) (some v)),.var gva 249 (aK gA),.obj gA (Y9 bL es ck),.tail 100 100 v,.var gd 32 (dA d),.var gbo 4 (d9 bX),.var ghd 93 (R4 hX),.var gb 111 (z8 gs1 b1 b2 b3 b4 c1),.var gma 91 (hA mX),.obj D (.deferred (some []))]) (vW _ vZ [1,0,3,14,13,4,6,7,5,12,9,11,8,10,2]) e1 ?_);refine UV (qO (PN hs2 ?_));repeat' first|refine O ?_|intro
  generalize hgb:(gO (j3 c0) (G9 [80] x.s x.q)).isSome=bg;refine jX ?_;repeat refine qO ?_
  refine sH ?_;repeat' (first|refine M8 ?_|refine L8 ?_|refine Q4 ?_|intro _|simp only[List.set]|fail)
  refine j5 (jX ?_);repeat refine qO ?_
  refine sH ?_;repeat' (first|refine M8 ?_|refine L8 ?_|refine Q4 ?_|intro _|simp only[List.set]|fail)
  refine j5 (jX ?_);repeat refine qO ?_
  refine UV ?_;repeat refine qO ?_
  refine sH ?_;cases bg
  ·repeat' (first|refine M8 ?_|refine L8 ?_|refine Q4 ?_|intro _|simp only[List.set]|fail)
   refine j5 (jX (LD ?_));refine PM ?_;exact yI (yI (bG [.obj (D+1) (.loop { r0 with state:=.busy }),.var gto 33 (ptr ga),.var ga 111 (z8 gs0 a1 a2 a3 a4 c0),.var gk 3 (int k),.var go 141 (.sl 100 (l.map D8) (some v)),.var gva 249 (aK gA),.obj gA (Y9 bL es ck),.tail 100 100 v,.var gd 32 (dA d),.var gbo 4 (d9 bX),.var ghd 93 (R4 hX),.var gb 111 (z8 gs1 b1 b2 b3 b4 c1),.var gma 91 (hA mX),.obj D (.deferred (some []))] _ (BU (r:={ r0 with state:=.busy }) (m1:=[.obj D (.deferred (some [])),.var gto 33 (ptr ga),.var go 141 (.sl 100 (l.map D8) (some v)),.tail 100 100 v,.var gva 249 (aK gA),.obj gA (Y9 bL es ck),.var gb 111 (z8 gs1 b1 b2 b3 b4 c1),.var gbo 4 (d9 bX),.var gma 91 (hA mX),.var ghd 93 (R4 hX),.var gd 32 (dA d),.var gk 3 (int k),.var ga 111 (z8 gs0 a1 a2 a3 a4 c0)]) (vW _ vZ [0,13,1,4,7,5,6,11,9,12,10,8,3,2]) ⟨rfl,(v,l),by
    show l=_;rw[PO,hG,pG,if_pos (show BA (j3 c0) x=false from hgb),List.append_nil],by rw[e5]⟩) lpr (by
    exact zb)))
  repeat' (first|refine M8 ?_|refine L8 ?_|refine Q4 ?_|intro _|simp only[List.set]|fail)
  have hno:¬ BA (j3 c0) x=false:=λh=>by
   rw[show BA (j3 c0) x=true from hgb] at h;cases h
  refine j5 (jX (LF ?_));repeat refine qO ?_
  refine sH ?_;cases hiq:K8 d (G9 [71] x.k x.q)
  ·have hnq:¬ K8 d (G9 [71] x.k x.q)=true:=by rw[hiq];decide
   repeat' (first|refine M8 ?_|refine L8 ?_|refine Q4 ?_|intro _|simp only[List.set]|fail)
   refine j5 (jX (LF ?_));repeat refine qO ?_
   refine sH ?_;cases bX
   ·repeat' first|refine O ?_|intro
    refine jX (LF ?_);refine PM ?_;exact yI (yI (bG [.obj (D+1) (.loop { r0 with state:=.busy }),.var gto 33 (ptr ga),.var ga 111 (z8 gs0 a1 a2 a3 a4 c0),.var gk 3 (int k),.var go 141 (.sl 100 (l.map D8) (some v)),.var gva 249 (aK gA),.obj gA (Y9 bL es ck),.tail 100 100 v,.var gd 32 (dA d),.var gbo 4 (d9 false),.var ghd 93 (R4 hX),.var gb 111 (z8 gs1 b1 b2 b3 b4 c1),.var gma 91 (hA mX),.obj D (.deferred (some []))] _ (BU (r:={ r0 with state:=.busy }) (m1:=[.obj D (.deferred (some [])),.var gto 33 (ptr ga),.var go 141 (.sl 100 (l.map D8) (some v)),.tail 100 100 v,.var gva 249 (aK gA),.obj gA (Y9 bL es ck),.var gb 111 (z8 gs1 b1 b2 b3 b4 c1),.var gbo 4 (d9 false),.var gma 91 (hA mX),.var ghd 93 (R4 hX),.var gd 32 (dA d),.var gk 3 (int k),.var ga 111 (z8 gs0 a1 a2 a3 a4 c0)]) (vW _ vZ [0,13,1,4,7,5,6,11,9,12,10,8,3,2]) ⟨rfl,(v,l),by
     show l=_;rw[PO,hG,pG,if_neg hno,if_neg hnq,hlo,if_neg (show ¬ (false&&aV x k hX.t)=true from by rw[Bool.false_and];decide),List.append_nil],by rw[e5]⟩) lpr (by
     exact zb)))
   repeat' first|refine O ?_|intro
   cases hl:aV x k hX.t
   ·refine jX (LF ?_);refine PM ?_;exact yI (yI (bG [.obj (D+1) (.loop { r0 with state:=.busy }),.var gto 33 (ptr ga),.var ga 111 (z8 gs0 a1 a2 a3 a4 c0),.var gk 3 (int k),.var go 141 (.sl 100 (l.map D8) (some v)),.var gva 249 (aK gA),.obj gA (Y9 bL es ck),.tail 100 100 v,.var gd 32 (dA d),.var gbo 4 (d9 true),.var ghd 93 (R4 hX),.var gb 111 (z8 gs1 b1 b2 b3 b4 c1),.var gma 91 (hA mX),.obj D (.deferred (some []))] _ (BU (r:={ r0 with state:=.busy }) (m1:=[.obj D (.deferred (some [])),.var gto 33 (ptr ga),.var go 141 (.sl 100 (l.map D8) (some v)),.tail 100 100 v,.var gva 249 (aK gA),.obj gA (Y9 bL es ck),.var gb 111 (z8 gs1 b1 b2 b3 b4 c1),.var gbo 4 (d9 true),.var gma 91 (hA mX),.var ghd 93 (R4 hX),.var gd 32 (dA d),.var gk 3 (int k),.var ga 111 (z8 gs0 a1 a2 a3 a4 c0)]) (vW _ vZ [0,13,1,4,7,5,6,11,9,12,10,8,3,2]) ⟨rfl,(v,l),by
     show l=_;rw[PO,hG,pG,if_neg hno,if_neg hnq,hlo,hl,if_neg dc,List.append_nil],by rw[e5]⟩) lpr (by
     exact zb)))
   refine jX (LD ?_);repeat refine qO ?_
   refine sH ?_;repeat' (first|refine M8 ?_|refine L8 ?_|refine Q4 ?_|intro _|simp only[List.set]|fail)
   refine j5 (jX ?_);refine sH ?_
   iterate 5 (first|refine M8 ?_|refine L8 ?_)
   refine eH 102 a7h ?_;repeat' (first|refine M8 ?_|refine L8 ?_|refine Q4 ?_|intro _|simp only[]|fail)
   refine aP (λv'=>?_);repeat' (first|refine M8 ?_|refine L8 ?_|refine Q4 ?_|intro _|simp only[List.set]|fail)
   refine j5 ?_;exact yI (yI (bG [.obj (D+1) (.loop { r0 with state:=.busy }),.var gto 33 (ptr ga),.var ga 111 (z8 gs0 a1 a2 a3 a4 c0),.var gk 3 (int k),.var go 141 (.sl 100 ((l++[IY d k x]).map D8) (some v')),.var gva 249 (aK gA),.obj gA (Y9 bL es ck),.tail 100 100 v',.var gd 32 (dA d),.var gbo 4 (d9 true),.var ghd 93 (R4 hX),.var gb 111 (z8 gs1 b1 b2 b3 b4 c1),.var gma 91 (hA mX),.obj D (.deferred (some []))] _ (BU (r:={ r0 with state:=.busy }) (m1:=[.obj D (.deferred (some [])),.var gto 33 (ptr ga),.var go 141 (.sl 100 ((l++[IY d k x]).map D8) (some v')),.tail 100 100 v',.var gva 249 (aK gA),.obj gA (Y9 bL es ck),.var gb 111 (z8 gs1 b1 b2 b3 b4 c1),.var gbo 4 (d9 true),.var gma 91 (hA mX),.var ghd 93 (R4 hX),.var gd 32 (dA d),.var gk 3 (int k),.var ga 111 (z8 gs0 a1 a2 a3 a4 c0)]) (vW _ vZ [0,13,1,4,7,5,6,11,9,12,10,8,3,2]) ⟨rfl,(v',l++[IY d k x]),by
    show l++[IY d k x]=_;rw[PO,hG,pG,if_neg hno,if_neg hnq,hlo,hl,if_pos dc],by rw[e5]⟩) lpr (by
    rw[List.map_append];exact zb)))
  repeat' (first|refine M8 ?_|refine L8 ?_|refine Q4 ?_|intro _|simp only[List.set]|fail)
  refine j5 (jX (LD ?_));refine PN hs2 ?_
  iterate 3 (first|refine rG ?_|refine qH ?_)
  iterate 1 (first|refine rG ?_|refine qH ?_)
  apply zd [8];exact zg
  ·intro _ _;refine b2G (F:=A) (a:=x) hF hxn (λok w v hv=>Nn hv) ?_;exact j5 (A7 rfl rfl)
  iterate 2 (first|refine rG ?_|refine qH ?_)
  apply zd [];exact zg
  ·intro _ _
   iterate 1 (first|refine M8 ?_|refine L8 ?_)
   refine eH 80 a7r ?_;exact j5 (A7 rfl rfl)
  iterate 1 (first|refine rG ?_|refine qH ?_)
  apply aH [9];exact rfl;exact rfl;exact rfl;kernel_rfl;intro _ _;refine aP (λv'=>?_);refine j5 (W9 [.tail 100 100 v'] [] rfl rfl lpr rfl ?_);repeat' first|refine O ?_|intro
  refine bG [.obj (D+1) (.loop { r0 with state:=.busy }),.var gto 33 (ptr ga),.var ga 111 (z8 gs0 a1 a2 a3 a4 c0),.var gk 3 (int k),.var go 141 (.sl 100 ((l++[({ X0 with k:=15,x:=x,a:=(A x).getD [],t:=k,f:=fV d (G5 d (G9 [71] x.k x.q)) true }:TxX)]).map D8) (some v')),.var gva 249 (aK gA),.obj gA (Y9 bL es ck),.tail 100 100 v',.var gd 32 (dA d),.var gbo 4 (d9 bX),.var ghd 93 (R4 hX),.var gb 111 (z8 gs1 b1 b2 b3 b4 c1),.var gma 91 (hA mX),.obj D (.deferred (some []))] _ ?_ lpr ?_
  ·refine BU (r:={ r0 with state:=.busy }) (m1:=[.obj D (.deferred (some [])),.var gto 33 (ptr ga),.var go 141 (.sl 100 ((l++[({ X0 with k:=15,x:=x,a:=(A x).getD [],t:=k,f:=fV d (G5 d (G9 [71] x.k x.q)) true }:TxX)]).map D8) (some v')),.tail 100 100 v',.var gva 249 (aK gA),.obj gA (Y9 bL es ck),.var gb 111 (z8 gs1 b1 b2 b3 b4 c1),.var gbo 4 (d9 bX),.var gma 91 (hA mX),.var ghd 93 (R4 hX),.var gd 32 (dA d),.var gk 3 (int k),.var ga 111 (z8 gs0 a1 a2 a3 a4 c0)]) (vW _ vZ [0,13,1,4,7,5,6,11,9,12,10,8,3,2]) ⟨rfl,(v',l++[({ X0 with k:=15,x:=x,a:=(A x).getD [],t:=k,f:=fV d (G5 d (G9 [71] x.k x.q)) true }:TxX)]),?_,by rw[e5]⟩;show l++[_]=_;rw[PO,hG,pG,if_neg hno,if_pos hiq,yJ,hiq]
  rw[List.map_append];exact A8
 refine Calls.mono hIt λx w2 hx=>?_;obtain⟨u,m',ok',cv,hK,rfl,hv,hSt⟩:=hx;have hSt':=hS2.back (fr:=[]) (by rw[hs];exact hSt);rw[List.append_nil] at hSt';have hmk:zC w=[{ target:=.collected D,args:=#[] }]:=by rw[<- hD]
 obtain⟨v,l,hl,rfl⟩:∃ v l,l=iQ (j3 c0) d A k oX (V6 c0.ev c0.hs.length)/\m'=fJ g1 g2 (ptr ga) (((c0.hs.length:Nat):Int))++(.var ga 111 (z8 gs0 a1 a2 a3 a4 c0)::[.obj (D+1) (.loop r0),.obj D (.deferred (some [])),.var gto 33 (ptr ga),.var go 141 (.sl 100 (l.map D8) (some v)),.tail 100 100 v,.var gva 249 (aK gA),.obj gA (Y9 bL es ck),.var gb 111 (z8 gs1 b1 b2 b3 b4 c1),.var gbo 4 (d9 bX),.var gma 91 (hA mX),.var ghd 93 (R4 hX),.var gd 32 (dA d),.var gk 3 (int k)]):=by
  obtain⟨z,h1,h2⟩:=hK;exact⟨z.1,z.2,h1,h2⟩
 refine⟨cv,ok',r0,.obj D (.deferred (some []))::[.var gto 33 (ptr ga),.var ga 111 (z8 gs0 a1 a2 a3 a4 c0),.var go 141 (.sl 100 (l.map D8) (some v)),.tail 100 100 v,.var gva 249 (aK gA),.obj gA (Y9 bL es ck),.var gb 111 (z8 gs1 b1 b2 b3 b4 c1),.var gbo 4 (d9 bX),.var gma 91 (hA mX),.var ghd 93 (R4 hX),.var gd 32 (dA d),.var gk 3 (int k),.var g2 3 (int (((c0.hs.length:Nat):Int))),.var g1 33 (ptr ga)],rfl,by rw[e1];decide,hSt'.perm (List.Perm.symm (vW _ vZ [3,4,5,2,6,7,8,9,10,11,12,13,14,15,0,1])),hSt.stp,λok3 w3 hS3 st3=>?_⟩;rw[e2,hmk];dsimp only;refine(?_:AED 106 [{ target:=.collected D,args:=#[] }] .normal _ sB _ _) ok3 w3 a hS3 (((ha.stp st1).stp hSt.stp).stp st3);refine Fe ?_;refine ES (VN (VP (α:=Unit) (λ_=>[(6,.sl 100 (l.map D8) none)]) (λ_=>.obj (D+1) (.loop { r0 with state:=.exhausted })::.obj D (.deferred (some []))::[.var gto 33 (ptr ga),.var ga 111 (z8 gs0 a1 a2 a3 a4 c0),.var go 141 (.sl 100 (l.map D8) (some v)),.tail 100 100 v,.var gva 249 (aK gA),.obj gA (Y9 bL es ck),.var gb 111 (z8 gs1 b1 b2 b3 b4 c1),.var gbo 4 (d9 bX),.var gma 91 (hA mX),.var ghd 93 (R4 hX),.var gd 32 (dA d),.var gk 3 (int k),.var g2 3 (int (((c0.hs.length:Nat):Int))),.var g1 33 (ptr ga)]) ?_ (λ_=>?_)))
 ·repeat' (first|refine M8 ?_|refine L8 ?_|refine Q4 ?_|intro _|simp only[List.set]|fail)
  refine j5 (xE 6 (v':=.sl 100 (l.map D8) none) Imp.sl ?_);exact(P9 () za slr)
 refine ES (VO ?_);refine VK (D:=D) (m1:=.obj (D+1) (.loop { r0 with state:=.exhausted })::[.var gto 33 (ptr ga),.var ga 111 (z8 gs0 a1 a2 a3 a4 c0),.var go 141 (.sl 100 (l.map D8) (some v)),.tail 100 100 v,.var gva 249 (aK gA),.obj gA (Y9 bL es ck),.var gb 111 (z8 gs1 b1 b2 b3 b4 c1),.var gbo 4 (d9 bX),.var gma 91 (hA mX),.var ghd 93 (R4 hX),.var gd 32 (dA d),.var gk 3 (int k),.var g2 3 (int (((c0.hs.length:Nat):Int))),.var g1 33 (ptr ga)]) rfl (List.Perm.swap _ _ _) (CU (CV rfl rfl) xQ) (.inl rfl) ⟨by rw[hl];rfl,rfl⟩ ?_;exact A8
theorem a8v (hk0:(c0.hs.length<c0.ms.length/\c0.ms.length<=1000000)/\DOk (j3 c0))(hv0:c0.ev.length<=1000000)(hp0:∀ v∈c0.ev,PkN v.x)(hq1:(c1.hs.length<=1000000/\c1.ky.length<=1000000)/\∀ y∈c1.hs,y.h<=9223372036854775807/\y.t<=9223372036854775807)(hm1:c1.ms.length<=1000000)(U9:∀ d∈c1.ms,d.length<=1000000)(hv1:c1.ev.length<=1000000)(hp1:∀ v∈c1.ev,PkN v.x)(hq:∀ v∈c1.ev,v.x.q<=9223372036854775807) :
  Av.Spec prog GL 77 [ptr ga,ptr gb,str i] [.var ga 111 (z8 gs0 a1 a2 a3 a4 c0),.var gb 111 (z8 gs1 b1 b2 b3 b4 c1)] λu m=>
   u=.sl 100 ((eD (j3 c0) (Q7 c1 (A9 (j3 c0) i)) (c0.hs.length+1) (M6 c0) (A9 (j3 c0) i) (V6 c1.ev (A9 (j3 c0) i))++iQ (j3 c0) (Q7 c1 (A9 (j3 c0) i)) (gV c1.ev) (A9 (j3 c0) i) (qW c1 (A9 (j3 c0) i)) (V6 c0.ev c0.hs.length)).map D8) none /\
   m=[.var ga 111 (z8 gs0 a1 a2 a3 a4 c0),.var gb 111 (z8 gs1 b1 b2 b3 b4 c1)]:=by
 have h1:=Nat.le_trans (UL (e:=j3 c0) (d:=(Q7 c1 (A9 (j3 c0) i))) (h:=c0.hs.length+1) (t:=M6 c0) (k:=A9 (j3 c0) i) (V6 c1.ev (A9 (j3 c0) i))) (Nat.le_trans (IZ _ _) hv1);have h2:=Nat.le_trans (UX (e:=j3 c0) (d:=(Q7 c1 (A9 (j3 c0) i))) (A:=gV c1.ev) (k:=A9 (j3 c0) i) (o:=qW c1 (A9 (j3 c0) i)) (V6 c0.ev c0.hs.length)) (Nat.le_trans (IZ _ _) hv0);have hC:=a8R (ga:=ga) (gb:=gb) (gs0:=gs0) (gs1:=gs1) (a1:=a1) (a2:=a2) (a3:=a3) (a4:=a4) (b1:=b1) (b2:=b2) (b3:=b3) (b4:=b4) (i:=i) hk0 hm1 U9 hv1 hq;have hB:=a8X (ga:=ga) (gb:=gb) (gs0:=gs0) (gs1:=gs1) (a1:=a1) (a2:=a2) (a3:=a3) (a4:=a4) (b1:=b1) (b2:=b2) (b3:=b3) (b4:=b4) (i:=i) hk0 hv0 hp0 hq1 hm1 U9 hv1 hp1;generalize eD (j3 c0) (Q7 c1 (A9 (j3 c0) i)) (c0.hs.length+1) (M6 c0) (A9 (j3 c0) i) (V6 c1.ev (A9 (j3 c0) i))=L1 at *;generalize iQ (j3 c0) (Q7 c1 (A9 (j3 c0) i)) (gV c1.ev) (A9 (j3 c0) i) (qW c1 (A9 (j3 c0) i)) (V6 c0.ev c0.hs.length)=L2 at *;refine zc func77 ntmps77 λ_ hs=>?_;repeat' first|refine O ?_|intro
 refine T9 hC (λu m1 hh=>?_);obtain⟨v,rfl,rfl⟩:=hh;repeat' first|refine O ?_|intro
 refine J5 [_] _ hB (λu m1 hh=>?_);obtain⟨rfl,rfl⟩:=hh;refine aP (λv'=>?_);repeat' first|refine O ?_|intro
 refine Y1 (.sl 100 ((L1++L2).map D8) none) [.var ga 111 (z8 gs0 a1 a2 a3 a4 c0),.var gb 111 (z8 gs1 b1 b2 b3 b4 c1)] ?_ ⟨rfl,rfl⟩ ?_
 ·rw[List.map_append];exact Imp.sl
 exact A8
end
end
end Go.Proofs.Z
