/- the references' dictionary (08) -/
import Derived.Test.YtlkkekpcofjbeaaGreatDoorA19
namespace Go.Proofs.YtlkkekpcofjbeaaGreatDoor
open Go Go.RowKit Tw Av
theorem cloneE_spec {xs:List AV}{id:Option Value}(hx:xs.length<=1073741824):Av.Spec Tryz.prog GL 33 [.sl 2 xs id] [] (OwnK 95 2 xs):=by
 refine qE Tryz.func33 rfl Tryz.ntmps33 rfl (fun _ hs=>?_)
 repeat' first|refine Wz ?_|intro _
 refine al_slN (fun q c hq hc=>?_)
 repeat' first|refine Wz ?_|intro _
 injection hc with hc
 subst hc
 refine ac_condB (fun h=>?_) (fun h=>?_)
 ·repeat' first|refine Wz ?_|intro _
  exact reK [] (.inl ⟨hq h,rfl,rfl⟩) (List.nil_sublist _)
 ·repeat' first|refine Wz ?_|intro _
  refine al_build0B (fun g=>?_)
  repeat' first|refine Wz ?_|intro _
  refine al_appendB (fun g' c' hc'=>?_)
  repeat' first|refine Wz ?_|intro _
  refine reK [.buf g' 95 2 ([]++xs) c'] (.inr ⟨g',c',?_,rfl,?_⟩) slr
  ·simp [outOf]
  ·simpa using hc'
theorem insL {α:Type}(xs:List α)(i:Nat)(x:α)(h:i<=xs.length):over (over xs (i + 1) ((xs.drop i).take (xs.length - i))) i [x]=xs.take i++x::xs.drop i:=by
 obtain⟨a,b,rfl,rfl⟩:∃ a b,xs=a++b/\a.length=i:=⟨xs.take i,xs.drop i,(List.take_append_drop _ _).symm,by simp;omega⟩
 rw [List.drop_left,List.take_left,show (a++b).length - a.length=b.length by simp,List.take_length]
 cases b with
 | nil=>simp [over]
 | cons y b=>
  have e1:over (a++y::b) (a.length + 1) (y::b)=a++y::y::b:=by
   unfold over
   rw [List.drop_of_length_le (by simp),show a++y::b=(a++[y])++b by simp,show a.length + 1=(a++[y]).length by simp,List.take_left]
   simp
  rw [e1]
  unfold over
  rw [List.take_left,show a++y::y::b=(a++[y])++(y::b) by simp,show a.length + [x].length=(a++[y]).length by simp,List.drop_left]
  simp
theorem insZ {α:Type}(xs:List α)(i q:Nat)(x z:α)(h:i<=xs.length)(hq:i + q=xs.length + 1):over (over (xs.take i++List.replicate q z) i [x]) (i + 1) ((xs.drop i).take (q - 1))=xs.take i++x::xs.drop i:=by
 obtain⟨a,b,rfl,rfl⟩:∃ a b,xs=a++b/\a.length=i:=⟨xs.take i,xs.drop i,(List.take_append_drop _ _).symm,by simp;omega⟩
 simp only [List.length_append] at hq
 obtain rfl:q=b.length + 1:=by omega
 rw [List.drop_left,List.take_left,show b.length + 1 - 1=b.length by omega,List.take_length]
 have e1:over (a++List.replicate (b.length + 1) z) a.length [x]=a++x::List.replicate b.length z:=by
  unfold over
  rw [List.take_left,List.replicate_succ,show a++z::List.replicate b.length z=(a++[z])++List.replicate b.length z by simp,show a.length + [x].length=(a++[z]).length by simp,List.drop_left]
  simp
 rw [e1]
 unfold over
 rw [show a++x::List.replicate b.length z=(a++[x])++List.replicate b.length z by simp,show a.length + 1=(a++[x]).length by simp,List.take_left,List.drop_of_length_le (by simp;omega)]
 simp
theorem one_take {α:Type}(x:α)(p:Nat)(h:1<=p):([x].drop 0).take p=[x]:=List.take_of_length_le (by simpa using h)
theorem insL' {α:Type}{xs:List α}{i:Nat}{x:α}{p q:Nat}(h:i<=xs.length)(hp:p=xs.length - i)(hq:1<=q):over (over xs (i + 1) ((xs.drop i).take p)) i (([x].drop 0).take q)=xs.take i++x::xs.drop i:=by
 rw [one_take x q hq,hp]
 exact insL xs i x h
theorem insZ' {α:Type}{xs:List α}{i q:Nat}{x z:α}{p r:Nat}(h:i<=xs.length)(hq:i + q=xs.length + 1)(hp:p=q - 1)(hr:1<=r):over (over (xs.take i++List.replicate q z) i (([x].drop 0).take r)) (i + 1) ((xs.drop i).take p)=xs.take i++x::xs.drop i:=by
 rw [one_take x r hr,hp]
 exact insZ xs i q x z h hq
theorem insertE_nil {gv:Nat}{x:AV}:Av.Spec Tryz.prog GL 59 [nils,int 0,.lit (.slice (some ⟨gv,0,none⟩) 1 1)] [.buf gv 95 2 [x] 1] (OwnK 95 2 [x]):=by
 refine qE Tryz.func59 rfl Tryz.ntmps59 rfl (fun _ hs=>?_)
 repeat' first|refine Wz ?_|intro _
 refine al_sliceL 0 0 ?_
 repeat' first|refine Wz ?_|intro _
 refine al_freeze 24 ?_
 refine al_appendN (fun g' c' hc'=>?_)
 repeat' first|refine Wz ?_|intro _
 exact reK [.buf g' 95 2 [x] c'] (.inr ⟨g',c',rfl,rfl,hc'⟩) (by simp)
theorem insertE_spec {g gv n c i:Nat}{xs:List AV}{x:AV}(hn:xs.length=n)(hc:n<=c)(hi:i<=n)(hb:n<=1073741824):Av.Spec Tryz.prog GL 59 [.lit (.slice (some ⟨g,0,none⟩) n c),int i,.lit (.slice (some ⟨gv,0,none⟩) 1 1)] [.buf g 95 2 xs c,.buf gv 95 2 [x] 1] (OwnK 95 2 (xs.take i++x::xs.drop i)):=by
 subst hn
 refine qE Tryz.func59 rfl Tryz.ntmps59 rfl (fun _ hs=>?_)
 repeat' first|refine Wz ?_|intro _
 refine al_sliceL i xs.length ?_
 repeat' first|refine Wz ?_|intro _
 refine ac_cond (fun hin=>?_) (fun hin=>?_)
 ·repeat' first|refine Wz ?_|intro _
  refine al_freeze 24 ?_
  refine al_appendB (fun g' c' hc'=>?_)
  repeat' first|refine Wz ?_|intro _
  have hin':i=xs.length:=by omega
  subst hin'
  refine reK [.buf g' 95 2 (xs++[x]) c'] (.inr ⟨g',c',?_,?_,?_⟩) (by simp)
  ·simp [outOf]
  ·simp
  ·simpa using hc'
 ·repeat' first|refine Wz ?_|intro _
  have hl:(xs.take i++x::xs.drop i).length=xs.length + 1:=by simp;omega
  refine ac_cond (fun hcap=>?_) (fun hcap=>?_)
  ·obtain⟨q,hq⟩:∃ q,i + q=xs.length + 1:=⟨xs.length + 1 - i,by omega⟩
   repeat' first|refine Wz ?_|intro _
   refine al_sliceP 0 i ?_
   repeat' first|refine Wz ?_|intro _
   refine al_appendZ (i:=i) q (fun g' c' hc'=>?_)
   repeat' first|refine Wz ?_|intro _
   refine al_sliceP i (i + q) ?_
   repeat' first|refine Wz ?_|intro _
   refine al_copyB (j:=i) (j2:=0) ?_
   repeat' first|refine Wz ?_|intro _
   apply obl_read [];exact rfl;exact rfl;kernel_rfl;intro _ _
   refine al_sliceP (i + 1) (i + q) ?_
   exact al_nil (ae_got rfl rfl)
   repeat' first|refine Wz ?_|intro _
   apply obl_read [];exact rfl;exact rfl;kernel_rfl;intro _ _
   refine al_sliceP i xs.length ?_
   exact al_nil (ae_got rfl rfl)
   apply obl_write [0,1];exact rfl;exact rfl;kernel_rfl;intro _ _
   refine al_copyB (j:=i + 1) (j2:=i) ?_
   exact al_nil (ae_got rfl rfl)
   exact rfl
   exact rfl
   repeat' first|refine Wz ?_|intro _
   rw [insZ' (by omega) hq (by omega) (by omega)]
   refine reK [.buf g' 95 2 _ c'] (.inr ⟨g',c',?_,rfl,?_⟩) (List.singleton_sublist.2 List.mem_cons_self)
   ·rw [hl,<- hq]
    rfl
   ·omega
  ·repeat' first|refine Wz ?_|intro _
   refine al_sliceP 0 (xs.length + 1) ?_
   repeat' first|refine Wz ?_|intro _
   refine al_sliceP (i + 1) (xs.length + 1) ?_
   apply al_ext (v:=boo false) Tryz.func101;kernel_rfl;exact rfl;kernel_rfl;kernel_rfl;exact rfl;exact rfl;exact rfl
   ·intro ok w cs hS hv
    exact⟨_,overlaps_run (b:=32) (tS:=23) 4 hS (fun h=>buf_ne (pre:=[]) (mid:=[]) hS h.symm) (List.mem_cons_of_mem _ List.mem_cons_self) List.mem_cons_self (by omega) hv,RVl rfl⟩
   repeat' first|refine Wz ?_|intro _
   apply obl_read [];exact rfl;exact rfl;kernel_rfl;intro _ _
   refine al_sliceP (i + 1) (xs.length + 1) ?_
   exact al_nil (ae_got rfl rfl)
   repeat' first|refine Wz ?_|intro _
   apply obl_read [];exact rfl;exact rfl;kernel_rfl;intro _ _
   refine al_sliceP i (xs.length + 1) ?_
   exact al_nil (ae_got rfl rfl)
   apply obl_write [0];exact rfl;exact rfl;kernel_rfl;intro _ _
   refine al_copyB (j:=i + 1) (j2:=i) ?_
   exact al_nil (ae_got rfl rfl)
   exact rfl
   exact rfl
   repeat' first|refine Wz ?_|intro _
   refine al_sliceP i (xs.length + 1) ?_
   repeat' first|refine Wz ?_|intro _
   refine al_copyB (j:=i) (j2:=0) ?_
   repeat' first|refine Wz ?_|intro _
   rw [insL' (by omega) (by omega) (by omega)]
   refine reK [.buf g 95 2 _ c] (.inr ⟨g,c,?_,rfl,?_⟩) (by simp)
   ·rw [hl]
    rfl
   ·omega

theorem delL {α:Type}{xs:List α}{i n j:Nat}{w z:List α}(hn:xs.length=n + 1)(hi:i<=n)(hj:j=n)(hw:w=xs.drop (i + 1))(_:z.length=1):(over (over xs i w) j z).take n=xs.take i++xs.drop (i + 1):=by
 subst hj hw
 obtain⟨a,b,rfl,rfl⟩:∃ a b,xs=a++b/\a.length=i:=⟨xs.take i,xs.drop i,(List.take_append_drop _ _).symm,by simp;omega⟩
 cases b with
 | nil=>simp at hn;omega
 | cons y b=>
  simp only [List.length_append,List.length_cons] at hn
  have e0:(a++y::b).drop (a.length + 1)=b:=by
   rw [show a++y::b=(a++[y])++b by simp,show a.length + 1=(a++[y]).length by simp,List.drop_left]
  rw [e0,List.take_left]
  have e1:((over (a++y::b) a.length b)).take j=a++b:=by
   unfold over
   rw [List.take_left,List.take_left' (by simp;omega)]
  have e2:over (over (a++y::b) a.length b) j z=(a++b)++z++(over (a++y::b) a.length b).drop (j + z.length):=by
   rw [<- e1]
   rfl
  rw [e2,List.append_assoc,List.take_left' (by simp;omega)]
theorem deleteE_spec {g n c i:Nat}{xs:List AV}(hn:xs.length=n + 1)(hc:n + 1<=c)(hi:i<=n)(hb:n<=1073741824):Av.Spec Tryz.prog GL 251 [.lit (.slice (some ⟨g,0,none⟩) (n + 1) c),int i,int (i + 1:Nat)] [.buf g 95 2 xs c] (OwnK 95 2 (xs.take i++xs.drop (i + 1))):=by
 have hl:(xs.take i++xs.drop (i + 1)).length=n:=by simp;omega
 have hend:∀ {xs':List AV},xs'=xs.take i++xs.drop (i + 1)->OwnK 95 2 (xs.take i++xs.drop (i + 1)) (.lit (.slice (some ⟨g,0,none⟩) n c)) [.buf g 95 2 xs' c]:=fun h=>.inr ⟨g,c,by rw [hl],by rw [h],by omega⟩
 refine qE Tryz.func251 rfl Tryz.ntmps251 rfl (fun _ hs=>?_)
 repeat' first|refine Wz ?_|intro _
 refine al_sliceL3 i (i + 1) (n + 1) ?_
 repeat' first|refine Wz ?_|intro _
 refine ac_cond (fun h=>?_) (fun _=>?_)
 ·omega
 repeat' first|refine Wz ?_|intro _
 apply obl_read [];exact rfl;exact rfl;kernel_rfl;intro _ _
 refine al_sliceP 0 i ?_
 exact al_nil (ae_got rfl rfl)
 repeat' first|refine Wz ?_|intro _
 by_cases hcc:c=i + 1
 ·have hin:i=n:=by omega
  subst hin hcc
  apply obl_read [];exact rfl;exact rfl;kernel_rfl;intro _ _
  refine al_sliceL (i + 1) (i + 1) ?_
  rw [if_pos rfl]
  exact al_nil (ae_got rfl rfl)
  apply obl_write [0];exact rfl;exact rfl;kernel_rfl;intro _ _
  refine al_appendO (i:=i) (c:=i + 1) (j2:=0) ?_
  exact al_nil (ae_got rfl rfl)
  exact rfl
  exact rfl
  repeat' first|refine Wz ?_|intro _
  refine al_sliceP i (i + 1) ?_
  refine al_clear (j:=i) ?_
  refine al_trim i ?_
  repeat' first|refine Wz ?_|intro _
  refine reK [.buf g 95 2 _ (i + 1)] ?_ slr
  simp only [outOf]
  rw [show i + (i + 1 - (i + 1))=i by omega]
  exact hend (delL hn hi rfl (by rw [show i + 1 - (i + 1)=0 by omega,List.drop_of_length_le (i:=i + 1) (by omega),List.take_zero]) (by simp))
 ·apply obl_read [];exact rfl;exact rfl;kernel_rfl;intro _ _
  refine al_sliceP (i + 1) (n + 1) ?_
  exact al_nil (ae_got rfl rfl)
  apply obl_write [0];exact rfl;exact rfl;kernel_rfl;intro _ _
  refine al_appendO (i:=i) (c:=c) (j2:=i + 1) ?_
  exact al_nil (ae_got rfl rfl)
  exact rfl
  exact rfl
  repeat' first|refine Wz ?_|intro _
  refine al_sliceP n (n + 1) ?_
  refine al_clear (j:=n) ?_
  refine al_trim n ?_
  repeat' first|refine Wz ?_|intro _
  refine reK [.buf g 95 2 _ c] ?_ slr
  simp only [outOf]
  rw [show i + (n + 1 - (i + 1))=n by omega]
  exact hend (delL hn hi rfl (List.take_of_length_le (by simp;omega)) (by simp))
theorem deleteE' {g c i:Nat}{xs:List AV}(hi:i < xs.length)(hc:xs.length<=c)(hb:xs.length<=1073741824):Av.Spec Tryz.prog GL 251 [.lit (.slice (some ⟨g,0,none⟩) xs.length c),int i,int (i + 1:Int)] [.buf g 95 2 xs c] (OwnK 95 2 (xs.take i++xs.drop (i + 1))):=by
 obtain⟨n,hn⟩:∃ n,xs.length=n + 1:=⟨xs.length - 1,by omega⟩
 rw [hn] at hc hi hb ⊢
 exact deleteE_spec hn hc (by omega) (by omega)

def scmp (a b:Bs):Int:=Extern.BytealgCompare.cmp ⟨a.toArray⟩ ⟨b.toArray⟩
theorem run_scmp (a b:Bs)(w:World):(Extern.BytealgCompare.compare #[sv a,sv b]).run Tryz.prog w=.ok (.int .i64 (scmp a b)) w:=by
 rfl
instance fnCmpS {a b:Bs}:Ans Tryz.prog GL 158 [str a,str b] True (int (scmp a b)):=⟨fun _=>by
 refine qE Tryz.func158 rfl Tryz.ntmps158 rfl (fun _ hs=>?_)
 repeat' first|refine Wz ?_|intro _
 apply al_ext (v:=int (scmp a b)) Tryz.func216;kernel_rfl;exact rfl;kernel_rfl;kernel_rfl;exact rfl;exact rfl;exact rfl
 ·rintro ok w cs _ ⟨u1,us,rfl,h1,u2,us2,rfl,h2,rfl⟩
  rw [RV0.lit h1,RV0.lit h2]
  exact⟨_,run_scmp a b _,RVl rfl⟩
 repeat' first|refine Wz ?_|intro _
 refine reE ?_
 rfl⟩
instance fnCompare {a b:Bs}:Ans Tryz.prog GL 100 [str a,str b] True (int (scmp a b)):=⟨fun _=>by
 refine qE Tryz.func100 rfl Tryz.ntmps100 rfl (fun _ hs=>?_)
 repeat' first|refine Wz ?_|intro _
 refine reE ?_
 rfl⟩
instance fnFindC {x y k:Bs}:Ans Tryz.prog GL 99 [.agg 2 [str x,str y],str k] True (int (scmp x k)):=⟨fun _=>by
 refine qE Tryz.func99 rfl Tryz.ntmps99 rfl (fun _ hs=>?_)
 repeat' first|refine Wz ?_|intro _
 refine reE ?_
 rfl⟩
def bsF (l:List Ent)(k:Bs):Nat->Nat->Nat->Nat
 | 0,i,_=>i
 | f + 1,i,j=>if i < j then
   (let h:=(i + j) / 2
   if scmp ((l.getD h ⟨[],[]⟩).key) k < 0 then bsF l k f (h + 1) j else bsF l k f i h)
  else i
def bsAt (l:List Ent)(k:Bs):Nat:=bsF l k l.length 0 l.length
def bsIs (l:List Ent)(k:Bs):Bool:=decide (bsAt l k < l.length) && decide (scmp ((l.getD (bsAt l k) ⟨[],[]⟩).key) k=0)
instance fnBs {l:List Ent}{k:Bs}{xs:List AV}{id:Option Value}[hx:Ents xs l]:Ans Tryz.prog GL 98 [.sl 2 xs id,str k,fnv 99 []] (l.length < 4611686018427387904) (.tup [int (bsAt l k),boo (bsIs l k)]):=⟨fun hmx=>by
 have h:=hx.out
 subst h
 refine qE Tryz.func98 rfl Tryz.ntmps98 rfl (fun _ hs=>?_)
 repeat' first|refine Wz ?_|intro _
 refine ac_loop (α:=Nat × Nat × Nat) (fun q=>[(0,.sl 2 (l.map entA) id),(1,str k),(2,fnv 99 []),(8,int (l.map entA).length),(9,int q.1),(10,int q.2.1)]) (fun _=>[])
  (fun q=>q.1<=q.2.1/\q.2.1<=l.length/\q.2.1 - q.1<=q.2.2/\bsF l k q.2.2 q.1 q.2.1=bsAt l k) (fun q=>q.2.2) (0,(l.map entA).length,l.length) ⟨rfl,rfl,rfl,rfl,rfl,rfl,trivial⟩ slr ⟨Nat.zero_le _,by simp,by simp,by simp [bsAt]⟩ ?_
 rintro⟨i,j,f⟩ ⟨g1,g2,g3,g4⟩
 dsimp only at g1 g2 g3 g4 ⊢
 repeat' first|refine Wz ?_|intro _
 refine ac_cond (fun hlt=>?_) (fun hlt=>?_)
 ·repeat' first|refine Wz ?_|intro _
  have hw:IntKind.i64.wrap (((i:Int) + (j:Int)) / ((2 ^ 1:Nat):Int))=(((i + j) / 2:Nat):Int):=by rw [IntKind.wrap_i64];omega
  rw [hw]
  obtain⟨f,rfl⟩:∃ f',f=f' + 1:=⟨f - 1,by omega⟩
  rw [bsF,if_pos (by omega)] at g4
  generalize hh:(i + j) / 2=h at *
  have hlt':h < l.length:=by omega
  have hgd:l.getD h ⟨[],[]⟩=l[h]:=by simp [List.getD,hlt']
  simp only [hgd] at g4
  refine al_idxM h hlt' ?_
  repeat' first|refine Wz ?_|intro _
  refine ac_cond (fun hc=>?_) (fun hc=>?_)
  ·rw [if_pos hc] at g4
   repeat' first|refine Wz ?_|intro _
   refine ae_round (h + 1,j,f) ⟨rfl,rfl,rfl,rfl,rfl,rfl,trivial⟩ slr ⟨by simp only;omega,g2,by simp only;omega,g4⟩ (by simp only;omega)
  ·rw [if_neg hc] at g4
   repeat' first|refine Wz ?_|intro _
   refine ae_round (i,h,f) ⟨rfl,rfl,rfl,rfl,rfl,rfl,trivial⟩ slr ⟨by simp only;omega,by simp only;omega,by simp only;omega,g4⟩ (by simp only;omega)
 ·have g5:bsAt l k=i:=by
   rw [<- g4]
   cases f with
   | zero=>rfl
   | succ f=>rw [bsF,if_neg (by omega)]
  repeat' first|refine Wz ?_|intro _
  refine gu1 (fun hn=>?_) (fun hn=>?_)
  ·have hlt':i < l.length:=by simpa using hn
   repeat' first|refine Wz ?_|intro _
   refine al_idxM i hlt' ?_
   repeat' first|refine Wz ?_|intro _
   refine reE ?_
   have hgd:l.getD i ⟨[],[]⟩=l[i]:=by simp [List.getD,hlt']
   simp [bsIs,g5,hlt',outOf]
  ·have hlt':¬ i < l.length:=by simpa using hn
   repeat' first|refine Wz ?_|intro _
   refine reE ?_
   simp [bsIs,g5,hlt',outOf]⟩
instance fnFind {l:List Ent}{k:Bs}{xs:List AV}{id:Option Value}[hx:Ents xs l]:Ans Tryz.prog GL 58 [.agg 1 [.sl 2 xs id],str k] (l.length < 4611686018427387904) (.tup [int (bsAt l k),boo (bsIs l k)]):=⟨fun hl=>by
 have h:=hx.out
 subst h
 refine qE Tryz.func58 rfl Tryz.ntmps58 rfl (fun _ hs=>?_)
 repeat' first|refine Wz ?_|intro _
 refine reE ?_
 rfl⟩

abbrev dA (l:List Ent):AV:=.agg 1 [.sl 2 (l.map entA) none]
def putE (l:List Ent)(k v:Bs):Int:=if 400 < k.length\/4000 < v.length then 11 else if bsIs l k=true then 0 else if 2000<=l.length then 15 else 0
def putL (l:List Ent)(k v:Bs):List Ent:=if bsIs l k=true then l.set (bsAt l k) ⟨(l.getD (bsAt l k) ⟨[],[]⟩).key,v⟩ else l.take (bsAt l k)++⟨k,v⟩::l.drop (bsAt l k)
def putA (l:List Ent)(k v:Bs):AV:=if putE l k v=0 then dA (putL l k v) else .agg 1 [nils]
theorem bsF_le (l:List Ent)(k:Bs):∀ f i j,i<=j->bsF l k f i j<=j
 | 0,i,j,h=>h
 | f + 1,i,j,h=>by
  unfold bsF
  split
  ·dsimp only
   split
   ·exact bsF_le l k f _ _ (by omega)
   ·exact Nat.le_trans (bsF_le l k f _ _ (by omega)) (by omega)
  ·exact h
theorem bsAt_le (l:List Ent)(k:Bs):bsAt l k<=l.length:=bsF_le l k _ _ _ (Nat.zero_le _)
theorem bsIs_lt {l:List Ent}{k:Bs}(h:bsIs l k=true):bsAt l k < l.length:=by
 unfold bsIs at h
 simp at h
 exact h.1
instance fnPut {l:List Ent}{k v:Bs}{xs:List AV}{id:Option Value}[hx:Ents xs l]:Ans Tryz.prog GL 27 [.agg 1 [.sl 2 xs id],str k,str v] (l.length<=1073741823) (.tup [putA l k v,int (putE l k v)]):=⟨fun hl=>by
 have h:=hx.out
 subst h
 have hat:=bsAt_le l k
 refine qE Tryz.func27 rfl Tryz.ntmps27 rfl (fun _ hs=>?_)
 repeat' first|refine Wz ?_|intro _
 refine gu1 (fun h1=>?_) (fun h1=>?_)
 ·repeat' first|refine Wz ?_|intro _
  refine reE ?_
  have hh:400 < k.length:=by omega
  have:putE l k v=11:=by simp [putE,hh]
  simp [outOf,putA,this]
 ·repeat' first|refine Wz ?_|intro _
  refine ac_cond (fun h2=>?_) (fun h2=>?_)
  ·repeat' first|refine Wz ?_|intro _
   refine reE ?_
   have hh:4000 < v.length:=by omega
   have:putE l k v=11:=by simp [putE,hh]
   simp [outOf,putA,this]
  ·repeat' first|refine Wz ?_|intro _
   have hne:¬ (400 < k.length\/4000 < v.length):=by omega
   refine al_callK [] _ (by rw [hs];exact cloneE_spec (xs:=l.map entA) (id:=id) (by rw [llm];omega)) (fun c m1 hh=>?_) lpr
   rcases hh with⟨hnil,rfl,rfl⟩|⟨g,cap,rfl,rfl,hcap⟩
   ·obtain rfl:l=[]:=by simpa using hnil
    repeat' (first|refine ct1 ?_|refine op1 ?_|refine ob1 ?_|refine dr1 hs ?_|refine ob2 (fun _=>?_)|intro _)
    refine al_buildB (fun gv=>?_)
    refine al_callK [.buf gv 95 2 [entA ⟨k,v⟩] 1] _ (by rw [hs];exact insertE_nil) (fun c m1 hh=>?_) lpr
    rcases hh with⟨hnil,rfl,rfl⟩|⟨g,cap,rfl,rfl,hcap⟩
    ·simp at hnil
    ·refine al_freeze 35 ?_
     refine al_as 35 Imp.sl ?_
     repeat' first|refine Wz ?_|intro _
     refine reE ?_
     have e0:bsIs [] k=false:=rfl
     have e1:putE [] k v=0:=by simp [putE,hne,e0]
     have e2:[entA ⟨k,v⟩]=(putL [] k v).map entA:=by simp [putL,e0]
     simp only [outOf,putA,e1,if_true,e2]
   ·repeat' (first|refine ct1 ?_|refine op1 ?_|refine ob1 ?_|refine dr1 hs ?_|refine ob2 (fun _=>?_)|intro _)
    refine ac_condB (fun h3=>?_) (fun h3=>?_)
    ·repeat' first|refine Wz ?_|intro _
     have hlt:=bsIs_lt h3
     have hgd:l.getD (bsAt l k) ⟨[],[]⟩=l[bsAt l k]:=by simp [List.getD,hlt]
     refine al_idxB (bsAt l k) ?_
     repeat' first|refine Wz ?_|intro _
     refine al_storeB (y:=entA l[bsAt l k]) (y':=entA ⟨l[bsAt l k].key,v⟩) ?_ ?_
     ·simp [hlt]
     refine al_freeze 10 ?_
     refine al_as 10 Imp.sl ?_
     repeat' first|refine Wz ?_|intro _
     refine reE ?_
     have e1:putE l k v=0:=by simp [putE,hne,h3]
     have e2:(l.map entA).set (bsAt l k) (entA ⟨l[bsAt l k].key,v⟩)=(putL l k v).map entA:=by rw [putL,if_pos h3,hgd,List.map_set]
     simp only [outOf,putA,e1,if_true,e2]
    ·repeat' (first|refine ct1 ?_|refine op1 ?_|refine ob1 ?_|refine dr1 hs ?_|refine ob2 (fun _=>?_)|intro _)
     refine ac_cond (fun h4=>?_) (fun h4=>?_)
     ·repeat' first|refine Wz ?_|intro _
      refine reE ?_
      have e1:putE l k v=15:=by
       have:2000<=l.length:=by simp at h4;omega
       simp [putE,hne,h3,this]
      simp [outOf,putA,e1]
     ·repeat' (first|refine ct1 ?_|refine op1 ?_|refine ob1 ?_|refine dr1 hs ?_|refine ob2 (fun _=>?_)|intro _)
      refine al_buildB (fun gv=>?_)
      refine al_callK [.buf g 95 2 (l.map entA) cap,.buf gv 95 2 [entA ⟨k,v⟩] 1] _ (by rw [hs];exact insertE_spec rfl hcap (by simpa using hat) (by rw [List.length_map];omega)) (fun c m1 hh=>?_) (List.Perm.swap _ _ _)
      rcases hh with⟨hnil,rfl,rfl⟩|⟨g,cap,rfl,rfl,hcap⟩
      ·simp at hnil
      ·refine al_freeze 35 ?_
       refine al_as 35 Imp.sl ?_
       repeat' first|refine Wz ?_|intro _
       refine reE ?_
       have e1:putE l k v=0:=by
        have:¬ 2000<=l.length:=by simp at h4;omega
        simp [putE,hne,h3,this]
       have e2:(l.map entA).take (bsAt l k)++entA ⟨k,v⟩::(l.map entA).drop (bsAt l k)=(putL l k v).map entA:=by simp [putL,h3,List.map_take,List.map_drop]
       simp only [outOf,putA,e1,if_true,e2]⟩
instance fnGet {l:List Ent}{k:Bs}{xs:List AV}{id:Option Value}[hx:Ents xs l]:Ans Tryz.prog GL 55 [.agg 1 [.sl 2 xs id],str k] (l.length<=1073741823) (.tup [str (if bsIs l k=true then (l.getD (bsAt l k) ⟨[],[]⟩).val else []),boo (bsIs l k)]):=⟨fun hl=>by
 have h:=hx.out
 subst h
 have hat:=bsAt_le l k
 refine qE Tryz.func55 rfl Tryz.ntmps55 rfl (fun _ hs=>?_)
 repeat' first|refine Wz ?_|intro _
 refine ac_condB (fun h3=>?_) (fun h3=>?_)
 ·repeat' first|refine Wz ?_|intro _
  refine reE ?_
  have h4:bsIs l k=false:=by simpa using h3
  simp [outOf,h4]
 ·have h3:bsIs l k=true:=by simpa using h3
  repeat' first|refine Wz ?_|intro _
  have hlt:=bsIs_lt h3
  have hgd:l.getD (bsAt l k) ⟨[],[]⟩=l[bsAt l k]:=by simp [List.getD,hlt]
  refine al_idxM (bsAt l k) hlt ?_
  repeat' first|refine Wz ?_|intro _
  refine reE ?_
  simp only [outOf,h3,if_true,hgd]⟩
instance fnDrop {l:List Ent}{k:Bs}{xs:List AV}[hx:Ents xs l]:Ans Tryz.prog GL 210 [.agg 1 [.sl 2 xs none],str k] (l.length<=1073741823) (.tup [dA (if bsIs l k=true then l.take (bsAt l k)++l.drop (bsAt l k + 1) else l),boo (bsIs l k)]):=⟨fun hl=>by
 have h:=hx.out
 subst h
 have hat:=bsAt_le l k
 refine qE Tryz.func210 rfl Tryz.ntmps210 rfl (fun _ hs=>?_)
 repeat' first|refine Wz ?_|intro _
 refine ac_condB (fun h3=>?_) (fun h3=>?_)
 ·repeat' first|refine Wz ?_|intro _
  refine reE ?_
  have h4:bsIs l k=false:=by simpa using h3
  simp [outOf,h4]
 ·have h3:bsIs l k=true:=by simpa using h3
  repeat' first|refine Wz ?_|intro _
  have hlt:=bsIs_lt h3
  refine al_callK [] _ (by rw [hs];exact cloneE_spec (xs:=l.map entA) (id:=none) (by rw [llm];omega)) (fun c m1 hh=>?_) lpr
  rcases hh with⟨hnil,rfl,rfl⟩|⟨g,cap,rfl,rfl,hcap⟩
  ·have:l=[]:=by simpa using hnil
   simp [this] at hlt
  ·repeat' first|refine Wz ?_|intro _
   refine al_callK [.buf g 95 2 (l.map entA) cap] _ (by rw [hs];exact deleteE' (xs:=l.map entA) (i:=bsAt l k) (c:=cap) (by simpa using hlt) hcap (by rw [List.length_map];omega)) (fun c m1 hh=>?_) lpr
   have e2:(l.map entA).take (bsAt l k)++(l.map entA).drop (bsAt l k + 1)=(l.take (bsAt l k)++l.drop (bsAt l k + 1)).map entA:=by simp [List.map_take,List.map_drop]
   rw [e2] at hh
   rcases hh with⟨hnil,rfl,rfl⟩|⟨g,cap,rfl,rfl,hcap⟩
   ·refine al_as 23 (Imp.nilN (k:=2)) ?_
    repeat' first|refine Wz ?_|intro _
    refine reE ?_
    simp only [outOf,h3,if_true,dA,hnil]
   ·refine al_freeze 23 ?_
    refine al_as 23 Imp.sl ?_
    repeat' first|refine Wz ?_|intro _
    refine reE ?_
    simp only [outOf,h3,if_true]⟩
instance fnAll {l:List Ent}{xs:List AV}{id:Option Value}[hx:Ents xs l]:Ans Tryz.prog GL 14 [.agg 1 [.sl 2 xs id]] (l.length<=1073741823) (.sl 2 (l.map entA) none):=⟨fun hl=>by
 have h:=hx.out
 subst h
 refine qE Tryz.func14 rfl Tryz.ntmps14 rfl (fun _ hs=>?_)
 repeat' first|refine Wz ?_|intro _
 refine al_callK [] _ (by rw [hs];exact cloneE_spec (xs:=l.map entA) (id:=id) (by rw [llm];omega)) (fun c m1 hh=>?_) lpr
 rcases hh with⟨hnil,rfl,rfl⟩|⟨g,cap,rfl,rfl,hcap⟩
 ·obtain rfl:l=[]:=by simpa using hnil
  refine al_as 5 (Imp.nilN (k:=2)) ?_
  repeat' first|refine Wz ?_|intro _
  refine reE ?_
  rfl
 ·refine al_freeze 5 ?_
  refine al_as 5 Imp.sl ?_
  repeat' first|refine Wz ?_|intro _
  refine reE ?_
  rfl⟩

def putS (d:List Ent)(x:Ent):List Ent:=if putE d x.key x.val=0 then putL d x.key x.val else d
def dictOf (l:List Ent):List Ent:=l.foldl putS []
theorem putS_len {d:List Ent}{x:Ent}(h:d.length<=2000):(putS d x).length<=2000:=by
 have hat:=bsAt_le d x.key
 unfold putS putE putL
 by_cases h1:400 < x.key.length\/4000 < x.val.length
 ·simpa [h1] using h
 ·by_cases h2:bsIs d x.key=true
  ·simpa [h1,h2] using h
  ·by_cases h3:2000<=d.length
   ·simpa [h1,h2,h3] using h
   ·simp [h1,h2,h3]
    omega
instance fnDOf {l:List Ent}{xs:List AV}{id:Option Value}[hx:Ents xs l]:Ans Tryz.prog GL 10 [.sl 2 xs id] (l.length<=1073741823) (dA (dictOf l)):=⟨fun hl=>by
 have h:=hx.out
 subst h
 refine qE Tryz.func10 rfl Tryz.ntmps10 rfl (fun _ hs=>?_)
 repeat' first|refine Wz ?_|intro _
 rename_i g2 g3
 refine ac_asV (g:=g3) (v':=dA []) (ImpC.agg1 ImpC.nil) ?_
 refine ac_loop (α:=Nat × List Ent) (fun q=>[(2,ptr g2),(3,ptr g3),(8,.sl 2 (l.map entA) id),(9,int (l.map entA).length),(10,int q.1)]) (fun q=>[.var g3 70 (dA q.2),.var g2 70 (.agg 1 [nils])])
  (fun q=>q.1<=l.length/\q.2.length<=2000/\(l.drop q.1).foldl putS q.2=dictOf l) (fun q=>l.length - q.1) (0,[]) ⟨rfl,rfl,rfl,rfl,rfl,trivial⟩ slr ⟨Nat.zero_le _,by simp,rfl⟩ ?_
 rintro⟨i,d⟩ ⟨g1,g2',g4⟩
 dsimp only at g1 g2' g4 ⊢
 repeat' first|refine Wz ?_|intro _
 refine ac_cond (fun hlt=>?_) (fun hlt=>?_)
 ·have hlt':i < l.length:=by simpa using hlt
  repeat' first|refine Wz ?_|intro _
  refine al_idxM i hlt' ?_
  repeat' first|refine Wz ?_|intro _
  have hst:(l.drop i).foldl putS d=(l.drop (i + 1)).foldl putS (putS d l[i]):=by rw [List.drop_eq_getElem_cons hlt'];rfl
  rw [hst] at g4
  by_cases h0:putE d l[i].key l[i].val=0
  ·have e1:putA d l[i].key l[i].val=dA (putS d l[i]):=by simp [putA,putS,h0]
   rw [e1,h0]
   repeat' first|refine Wz ?_|intro _
   refine ae_round (i + 1,putS d l[i]) ⟨rfl,rfl,rfl,rfl,rfl,trivial⟩ ?_ ⟨hlt',putS_len g2',g4⟩ (by simp only;omega)
   exact sbl
  ·have e1:putA d l[i].key l[i].val=.agg 1 [nils]:=by simp [putA,h0]
   have e2:putS d l[i]=d:=by simp [putS,h0]
   rw [e2] at g4
   rw [e1]
   repeat' first|refine Wz ?_|intro _
   refine ac_cond (fun h=>absurd h h0) (fun _=>?_)
   repeat' first|refine Wz ?_|intro _
   refine ae_round (i + 1,d) ⟨rfl,rfl,rfl,rfl,rfl,trivial⟩ ?_ ⟨hlt',g2',g4⟩ (by simp only;omega)
   exact sbl
 ·repeat' first|refine Wz ?_|intro _
  refine reE ?_
  rw [List.drop_of_length_le (by simpa using hlt)] at g4
  simp only [List.foldl_nil] at g4
  rw [g4]
  rfl⟩

def leafH (x:Ent):Hsh:=ofH [[76],tlvT 107 x.key,tlvT 118 x.val]
def nodeH (a b:Hsh):Hsh:=ofH [[78],a.l,b.l]
def topH (n:Int)(h:Hsh):Hsh:=ofH [[84],tlvI 110 n,h.l]
instance fnLeaf {a b:Bs}:Ans Tryz.prog GL 278 [.agg 2 [str a,str b]] True (hA (leafH ⟨a,b⟩)):=⟨fun _=>by
 refine qE Tryz.func278 rfl Tryz.ntmps278 rfl (fun _ hs=>?_)
 repeat' first|refine Wz ?_|intro _
 refine reE ?_
 rfl⟩
instance fnNode {a b:Hsh}:Ans Tryz.prog GL 300 [hA a,hA b] True (hA (nodeH a b)):=⟨fun _=>by
 refine qE Tryz.func300 rfl Tryz.ntmps300 rfl (fun _ hs=>?_)
 repeat' first|refine Wz ?_|intro _
 refine reE ?_
 rfl⟩
instance fnTop {n:Int}{h:Hsh}:Ans Tryz.prog GL 280 [int n,hA h] (n<=9223372036854775807) (hA (topH n h)):=⟨fun hn=>by
 refine qE Tryz.func280 rfl Tryz.ntmps280 rfl (fun _ hs=>?_)
 repeat' first|refine Wz ?_|intro _
 refine reE ?_
 rfl⟩

instance fnHalf {n:Int}:Ans Tryz.prog GL 302 [int n] (0<=n/\n < 4611686018427387904) (int ((n + 1) / 2)):=⟨fun hn=>by
 refine qE Tryz.func302 rfl Tryz.ntmps302 rfl (fun _ hs=>?_)
 repeat' first|refine Wz ?_|intro _
 refine reE ?_
 rfl⟩
abbrev WayStep:=Bool × Nat × Nat
abbrev trA (t:WayStep):AV:=.agg 3 [boo t.1,int t.2.1,int t.2.2]
def turnsF:Nat->Nat->Nat->List WayStep
 | 0,_,_=>[]
 | f + 1,n,i=>if n<=1 then [] else
  (decide (i < (n + 1) / 2),(n + 1) / 2,n - (n + 1) / 2)::(if i < (n + 1) / 2 then turnsF f ((n + 1) / 2) i else turnsF f (n - (n + 1) / 2) (i - (n + 1) / 2))
def turns (n i:Nat):List WayStep:=turnsF n n i
theorem turnsF_more:∀ (f f' n i:Nat),n<=f->n<=f'->turnsF f n i=turnsF f' n i
 | 0,0,_,_,_,_=>rfl
 | 0,f' + 1,n,i,h,_=>by
  have:n=0:=by omega
  subst this
  rfl
 | f + 1,0,n,i,_,h=>by
  have:n=0:=by omega
  subst this
  rfl
 | f + 1,f' + 1,n,i,h,h'=>by
  unfold turnsF
  split
  ·rfl
  ·rw [turnsF_more f f' _ i (by omega) (by omega),turnsF_more f f' _ (i - (n + 1) / 2) (by omega) (by omega)]
theorem turns_step (n i:Nat)(h:1 < n):turns n i=(decide (i < (n + 1) / 2),(n + 1) / 2,n - (n + 1) / 2)::(if i < (n + 1) / 2 then turns ((n + 1) / 2) i else turns (n - (n + 1) / 2) (i - (n + 1) / 2)):=by
 obtain⟨f,rfl⟩:∃ f,n=f + 1:=⟨n - 1,by omega⟩
 unfold turns
 rw [turnsF,if_neg (by omega),turnsF_more f _ _ i (by omega) (Nat.le_refl _),turnsF_more f _ _ (i - (f + 1 + 1) / 2) (by omega) (Nat.le_refl _)]
theorem turns_one (i:Nat):turns 1 i=[]:=rfl
def wayOf (n i:Int):List WayStep:=if i < 0\/n<=i\/2000 < n then [] else turns n.toNat i.toNat
instance fnTurns {n i:Int}:Ans Tryz.prog GL 299 [int n,int i] True (.sl 3 ((wayOf n i).map trA) none):=⟨fun _=>by
 refine qE Tryz.func299 rfl Tryz.ntmps299 rfl (fun _ hs=>?_)
 repeat' first|refine Wz ?_|intro _
 refine gu1 (fun h1=>?_) (fun h1=>?_)
 ·repeat' first|refine Wz ?_|intro _
  refine ae_as 4 (Imp.nilN (k:=3)) ?_
  refine reE ?_
  simp [outOf,wayOf,h1]
 ·repeat' first|refine Wz ?_|intro _
  refine gu1 (fun h2=>?_) (fun h2=>?_)
  ·repeat' first|refine Wz ?_|intro _
   refine ae_as 4 (Imp.nilN (k:=3)) ?_
   refine reE ?_
   simp [outOf,wayOf,h2]
  ·repeat' first|refine Wz ?_|intro _
   refine ac_cond (fun h3=>?_) (fun h3=>?_)
   ·repeat' first|refine Wz ?_|intro _
    refine ae_as 4 (Imp.nilN (k:=3)) ?_
    refine reE ?_
    simp [outOf,wayOf,h3]
   ·repeat' first|refine Wz ?_|intro _
    obtain⟨N,rfl⟩:∃ N:Nat,n=N:=⟨n.toNat,by omega⟩
    obtain⟨I,rfl⟩:∃ I:Nat,i=I:=⟨i.toNat,by omega⟩
    have hway:wayOf N I=turns N I:=by simp [wayOf,h1,h2,h3]
    refine ac_as 5 (Imp.nil (k:=3)) ?_
    refine ac_st (fun ok w h=>h.full 326 3 none 0) ?_
    refine ac_loop (α:=Nat × Nat × Value × List WayStep) (fun q=>[(0,int q.1),(1,int q.2.1),(5,.sl 3 (q.2.2.2.map trA) (some q.2.2.1))]) (fun q=>[.tail 326 3 q.2.2.1])
     (fun q=>q.2.1 < q.1/\q.2.2.2.length + q.1<=2001/\q.2.2.2++turns q.1 q.2.1=turns N I) (fun q=>q.1) (N,I,.slice none 0 0,[]) ⟨rfl,rfl,rfl,trivial⟩ slr ⟨by simp only;omega,by simp only [List.length_nil];omega,rfl⟩ ?_
    rintro⟨n',i',v,done⟩ ⟨g1,g2,g3⟩
    dsimp only at g1 g2 g3 ⊢
    repeat' first|refine Wz ?_|intro _
    refine ac_cond (fun hone=>?_) (fun hone=>?_)
    ·obtain rfl:n'=1:=by omega
     repeat' first|refine Wz ?_|intro _
     refine ae_as 4 Imp.sl ?_
     refine reE ?_
     rw [turns_one,List.append_nil] at g3
     rw [hway,<- g3]
     rfl
    ·repeat' first|refine Wz ?_|intro _
     have hstep:=turns_step n' i' (by omega)
     have hk0:((n':Int) + 1) / 2=(((n' + 1) / 2:Nat):Int):=by omega
     rw [hk0]
     generalize hk:(n' + 1) / 2=k at *
     have hd0:decide ((i':Int) < (k:Int))=decide (i' < k):=by simp
     have hs0:(n':Int) - (k:Int)=((n' - k:Nat):Int):=by omega
     rw [hd0,hs0]
     refine al_append (fun v'=>?_)
     have e1:done.map trA++[.agg 3 [boo (decide (i' < k)),int k,int (n' - k:Nat)]]=(done++[(decide (i' < k),k,n' - k)]).map trA:=by simp
     rw [e1]
     have hlen:(done++[(decide (i' < k),k,n' - k)]).length=done.length + 1:=by simp
     repeat' first|refine Wz ?_|intro _
     refine ac_condB (fun hc=>?_) (fun hc=>?_)
     ·have hge:¬ i' < k:=by intro h;simp [h] at hc
      repeat' first|refine Wz ?_|intro _
      rw [show (i':Int) - (k:Int)=((i' - k:Nat):Int) by omega]
      refine ae_round (n' - k,i' - k,v',done++[(decide (i' < k),k,n' - k)]) ⟨rfl,rfl,rfl,trivial⟩ ?_ ⟨by simp only;omega,by simp only [hlen];omega,?_⟩ (by simp only;omega)
      ·exact sbl
      ·rw [<- g3,hstep,if_neg hge,laa]
       rfl
     ·have hlt:i' < k:=by
       rcases Nat.lt_or_ge i' k with h|h
       ·exact h
       ·simp [Nat.not_lt.2 h] at hc
      repeat' first|refine Wz ?_|intro _
      refine ae_round (k,i',v',done++[(decide (i' < k),k,n' - k)]) ⟨rfl,rfl,rfl,trivial⟩ ?_ ⟨by simp only;omega,by simp only [hlen];omega,?_⟩ (by simp only;omega)
      ·exact sbl
      ·rw [<- g3,hstep,if_pos hlt,laa]
       rfl⟩

def treeF:Nat->List Hsh->Hsh
 | 0,_=>zeroH
 | f + 1,l=>match l with
  | []=>zeroH
  | [x]=>x
  | _=>nodeH (treeF f (l.take ((l.length + 1) / 2))) (treeF f (l.drop ((l.length + 1) / 2)))
def treeH (l:List Hsh):Hsh:=treeF l.length l
theorem treeF_more:∀ (f f':Nat) (l:List Hsh),l.length<=f->l.length<=f'->treeF f l=treeF f' l
 | 0,0,_,_,_=>rfl
 | 0,f' + 1,l,h,_=>by
  have:l=[]:=List.eq_nil_of_length_eq_zero (by omega)
  subst this
  rfl
 | f + 1,0,l,_,h=>by
  have:l=[]:=List.eq_nil_of_length_eq_zero (by omega)
  subst this
  rfl
 | f + 1,f' + 1,[],_,_=>rfl
 | f + 1,f' + 1,[x],_,_=>rfl
 | f + 1,f' + 1,x::y::l,h,h'=>by
  simp only [List.length_cons] at h h'
  unfold treeF
  simp only
  rw [treeF_more f f' _ (by simp [List.length_take];omega) (by simp [List.length_take];omega),treeF_more f f' (List.drop _ _) (by simp;omega) (by simp;omega)]
theorem treeH_step (l:List Hsh)(h:2<=l.length):treeH l=nodeH (treeH (l.take ((l.length + 1) / 2))) (treeH (l.drop ((l.length + 1) / 2))):=by
 match l,h with
 | x::y::l,_=>
  show nodeH (treeF (y::l).length _) (treeF (y::l).length _)=_
  rw [treeF_more (y::l).length _ (List.take _ _) (by simp [List.length_take];omega) (Nat.le_refl _),treeF_more (y::l).length _ (List.drop _ _) (by simp;omega) (Nat.le_refl _)]
  rfl
theorem ImpC.nilS {k:Nat}:ImpC nils (.sl k [] (some (.slice none 0 0))):=fun ok w cs h=>by
 rw [RC] at h
 rw [RC]
 exact⟨none,0,h.1,by simp,Nat.le_refl _,by simp [maxLen],by simp,by simp⟩

def getR (l:List Ent)(k:Bs):Option Ent:=l.find? fun x=>decide (x.key=k)
theorem getR_cons {l:List Ent}{k:Bs}{i:Nat}(h:i < l.length):getR (l.drop i) k=if l[i].key=k then some l[i] else getR (l.drop (i + 1)) k:=by
 rw [List.drop_eq_getElem_cons h]
 unfold getR
 rw [List.find?_cons]
 by_cases h:l[i].key=k <;> simp [h]
instance fnRGet {l:List Ent}{k:Bs}{xs:List AV}{id:Option Value}[hx:Ents xs l]:Ans Tryz.prog GL 48 [.sl 2 xs id,str k] (l.length<=1073741823) (.tup [str (((getR l k).map (·.val)).getD []),boo (getR l k).isSome]):=⟨fun hl=>by
 have h:=hx.out
 subst h
 refine qE Tryz.func48 rfl Tryz.ntmps48 rfl (fun _ hs=>?_)
 repeat' first|refine Wz ?_|intro _
 refine ac_loop (α:=Nat) (fun i=>[(0,.sl 2 (l.map entA) id),(1,str k),(6,int i)]) (fun _=>[]) (fun i=>i<=l.length/\getR (l.drop i) k=getR l k) (fun i=>l.length - i) 0 ⟨rfl,rfl,rfl,trivial⟩ slr ⟨Nat.zero_le _,rfl⟩ ?_
 rintro i ⟨g1,g2⟩
 repeat' first|refine Wz ?_|intro _
 refine ac_cond (fun hlt=>?_) (fun hlt=>?_)
 ·have hlt':i < l.length:=by simpa using hlt
  rw [getR_cons hlt'] at g2
  repeat' first|refine Wz ?_|intro _
  refine al_idxM i hlt' ?_
  repeat' first|refine Wz ?_|intro _
  refine ac_cond (fun he=>?_) (fun he=>?_)
  ·rw [if_pos he] at g2
   repeat' first|refine Wz ?_|intro _
   refine al_idxM i hlt' ?_
   repeat' first|refine Wz ?_|intro _
   refine reE ?_
   simp [outOf,<- g2]
  ·rw [if_neg he] at g2
   repeat' first|refine Wz ?_|intro _
   exact ae_round (i + 1) ⟨rfl,rfl,rfl,trivial⟩ slr ⟨hlt',g2⟩ (by omega)
 ·repeat' first|refine Wz ?_|intro _
  refine reE ?_
  rw [List.drop_of_length_le (by simpa using hlt)] at g2
  rw [<- g2]
  rfl⟩
end Go.Proofs.YtlkkekpcofjbeaaGreatDoor
