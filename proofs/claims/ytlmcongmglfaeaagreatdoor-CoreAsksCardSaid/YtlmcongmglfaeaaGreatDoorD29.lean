/- law TreeLeads -/
import Derived.Test.YtlmcongmglfaeaaGreatDoorD17
import Derived.Test.YtlmcongmglfaeaaGreatDoorD23
import Derived.Test.YtlmcongmglfaeaaGreatDoorD24
import Derived.Test.YtlmcongmglfaeaaGreatDoorD27
namespace Go.Proofs.YtlmcongmglfaeaaGreatDoor
open Go Go.RowKit Tw Av
def fill {α:Type}(f:α->Value)(z:Value)(l:List α)(i:Nat):List AV:=(l.take i).map (fun x=>.lit (f x))++List.replicate (l.length - i) (.lit z)
instance {α:Type}{f:α->Value}{z:Value}{l:List α}{i:Nat}:Siz (fill f z l i) 1:=by unfold fill;infer_instance
theorem fill_len {α:Type}{f:α->Value}{z:Value}{l:List α}{i:Nat}(h:i<=l.length):(fill f z l i).length=l.length:=by simp [fill];omega
theorem fill_set {α:Type}{f:α->Value}{z:Value}{l:List α}{i:Nat}(h:i < l.length):(fill f z l i).set i (.lit (f l[i]))=fill f z l (i + 1):=by
 have hl:((l.take i).map fun x=>AV.lit (f x)).length=i:=by simp;omega
 unfold fill
 rw [List.set_append,if_neg (by omega),hl,Nat.sub_self,show l.length - i=(l.length - (i + 1)) + 1 by omega,List.replicate_succ,List.set_cons_zero,List.take_succ_eq_append_getElem h,List.map_append,laa]
 rfl
theorem fill_all {α:Type}{f:α->Value}{z:Value}{l:List α}:fill f z l l.length=l.map fun x=>.lit (f x):=by simp [fill]
class U8s (xs:List AV)(l:outParam Bs):Prop where
 out:xs=l.map u8A
instance {l:Bs}:U8s (l.map u8A) l:=⟨rfl⟩
instance {xs:List AV}{l:Bs}{i:Nat}[h:U8s xs l]:U8s (xs.take i) (l.take i):=⟨by rw [h.out,List.map_take]⟩
instance {xs:List AV}{l:Bs}{i:Nat}[h:U8s xs l]:U8s (xs.drop i) (l.drop i):=⟨by rw [h.out,List.map_drop]⟩
instance fnRBlock' {x:H8}{xs:List AV}{blk:Bs}{id:Option Value}[h:U8s xs blk]:Ans Tryz.prog GL 336 [tabA,hwA x,.sl 1 xs id] (blk.length=64) (hwA (compress x blk)):=by
 rw [h.out]
 infer_instance
def padZ (n:Nat):Nat:=(119 - n % 64) % 64
theorem pad_len (s:Bs):(pad s).length=s.length + 1 + padZ s.length + 8:=by
 have:(be64 (8 * s.length)).length=8:=rfl
 simp [pad,zeros,this,padZ]
 omega
theorem u8w (q:Nat):Value.int .u8 (IntKind.u8.wrap (q:Int))=u8v (UInt8.ofNat q):=by
 unfold u8v
 rw [IntKind.wrap_u8]
 congr 1
attribute [local irreducible] Av.Obl
set_option maxHeartbeats 4000000 in
instance fnRSum {s:Bs}:Ans Tryz.prog GL 277 [tabA,str s] (s.length<=35184372088832) (hA (shaH s)):=⟨fun hl=>by
 refine qE Tryz.func277 rfl Tryz.ntmps277 rfl (fun _ hs=>?_)
 repeat' (first|refine ct1 ?_|refine al_move ?_|refine al_box (fun _=>?_)|refine al_alloc (fun _=>?_)|intro _|fail)
 rename_i g2 g4
 refine al_bytesT (fun v=>?_)
 repeat' first|refine Wz ?_|intro _
 refine al_append (fun v'=>?_)
 repeat' first|refine Wz ?_|intro _
 have hZ:padZ s.length < 64:=by unfold padZ;omega
 have hs0:s.map (fun c=>AV.lit (u8v c))++[.lit (.int .u8 128)]=(s++128::zeros 0).map u8A:=by
  rw [List.map_append]
  rfl
 refine ac_as 5 (v':=.sl 1 ((s++128::zeros 0).map u8A) (some v')) (Imp.of_eq (by rw [<- hs0])) ?_
 refine ac_loop (α:=Nat × Value) (fun q=>[(1,str s),(2,ptr g2),(4,ptr g4),(5,.sl 1 ((s++128::zeros q.1).map u8A) (some q.2))]) (fun q=>[.tail 5 1 q.2,.var g4 38 (hA zeroH),.var g2 299 tabA])
  (fun q=>q.1<=padZ s.length) (fun q=>padZ s.length - q.1) (0,v') ⟨rfl,rfl,rfl,rfl,trivial⟩ slr (Nat.zero_le _) ?_
 rintro⟨z,v''⟩ hz
 dsimp only at hz ⊢
 have hlz:((s++128::zeros z).map u8A).length=s.length + 1 + z:=by simp [zeros];omega
 repeat' first|refine Wz ?_|intro _
 refine ac_cond (fun hne=>?_) (fun hne=>?_)
 ·repeat' first|refine Wz ?_|intro _
  rw [hlz] at hne
  refine al_append (hb:=by rw [hlz];simp;omega) (hl:=by rw [hlz];simp [maxLen];omega) (fun v3=>?_)
  repeat' first|refine Wz ?_|intro _
  have e:(s++128::zeros z).map u8A++[.lit (.int .u8 0)]=(s++128::zeros (z + 1)).map u8A:=by
   simp [zeros,List.replicate_succ',u8v]
  rw [e]
  exact ae_round (z + 1,v3) ⟨rfl,rfl,rfl,rfl,trivial⟩ slr (by simp only;unfold padZ at *;omega) (by simp only;unfold padZ at *;omega)
 ·rw [hlz] at hne
  obtain rfl:z=padZ s.length:=by unfold padZ at *;omega
  repeat' first|refine Wz ?_|intro _
  refine al_arith ?_
  have hw:IntKind.u64.wrap ((s.length:Int) * 8)=((8 * s.length:Nat):Int):=by rw [IntKind.wrap_u64];omega
  rw [hw]
  repeat' first|refine Wz ?_|intro _
  generalize hB:s++128::zeros (padZ s.length)=B at *
  have hlB:B.length=s.length + 1 + padZ s.length:=by simpa using hlz
  refine ac_loop (α:=Nat × Value) (fun q=>[(2,ptr g2),(4,ptr g4),(5,.sl 1 ((B++(be64 (8 * s.length)).take q.1).map u8A) (some q.2)),(6,.lit (.int .u64 ((8 * s.length:Nat):Int))),(7,int (7 - (q.1:Int)))]) (fun q=>[.tail 5 1 q.2,.var g4 38 (hA zeroH),.var g2 299 tabA])
   (fun q=>q.1<=8) (fun q=>8 - q.1) (0,v'') ⟨rfl,rfl,by simp;rfl,rfl,rfl,trivial⟩ slr (Nat.zero_le _) ?_
  rintro⟨i,v4⟩ hi
  dsimp only at hi ⊢
  have hl8:(be64 (8 * s.length)).length=8:=rfl
  have hlq:((B++(be64 (8 * s.length)).take i).map u8A).length=B.length + i:=by simp [hl8];omega
  repeat' first|refine Wz ?_|intro _
  refine ac_cond (fun hge=>?_) (fun hge=>?_)
  ·repeat' first|refine Wz ?_|intro _
   refine al_shrC (k:=.u64) (n:=8 * (7 - i)) (hb:=by show _=((8 * (7 - i):Nat):Int);omega) (hn:=Nat.ble_eq_true_of_le (show 8 * (7 - i)<=64 by omega)) ?_
   repeat' first|refine Wz ?_|intro _
   rw [<- Int.natCast_ediv,u8w]
   refine al_append (hb:=by rw [hlq];simp;omega) (hl:=by rw [hlq];simp [maxLen];omega) (fun v5=>?_)
   repeat' first|refine Wz ?_|intro _
   have hg:=be64_get (8 * s.length) (7 - i) (by omega)
   rw [show 7 - (7 - i)=i by omega] at hg
   have hi8:i < (be64 (8 * s.length)).length:=by omega
   have e:(B++(be64 (8 * s.length)).take i).map u8A++[.lit (u8v (UInt8.ofNat (8 * s.length / 2 ^ (8 * (7 - i)))))]=(B++(be64 (8 * s.length)).take (i + 1)).map u8A:=by
    rw [List.getElem?_eq_getElem hi8] at hg
    injection hg with hg
    rw [<- hg,List.take_succ_eq_append_getElem hi8,<- laa,List.map_append (l₁:=B++List.take i _)]
    rfl
   rw [e]
   have e7:(7:Int) - (i:Int) - 1=7 - ((i + 1:Nat):Int):=by omega
   rw [e7]
   exact ae_round (i + 1,v5) ⟨rfl,rfl,rfl,rfl,rfl,trivial⟩ slr (by simp only;omega) (by simp only;omega)
  ·obtain rfl:i=8:=by omega
   rw [List.take_of_length_le (by omega)] at hlq ⊢
   have hP:B++be64 (8 * s.length)=pad s:=by rw [<- hB,pad,laa];rfl
   rw [hP] at hlq ⊢
   have hlP:(pad s).length=s.length + 1 + padZ s.length + 8:=pad_len s
   have hm64:(pad s).length % 64=0:=by rw [hlP];unfold padZ;omega
   generalize hPP:pad s=P at *
   repeat' first|refine Wz ?_|intro _
   rename_i g8
   refine ac_loop (α:=Nat) (fun i=>[(2,ptr g2),(4,ptr g4),(5,.sl 1 (P.map u8A) (some v4)),(8,ptr g8),(9,int i)]) (fun i=>[.var g8 339 (.agg 8 (fill w32v (w32v 0) h0.words i)),.tail 5 1 v4,.var g4 38 (hA zeroH),.var g2 299 tabA])
    (fun i=>i<=8) (fun i=>8 - i) 0 ⟨rfl,rfl,rfl,rfl,rfl,trivial⟩ slr (Nat.zero_le _) ?_
   intro i hi
   have hw8:h0.words.length=8:=rfl
   repeat' first|refine Wz ?_|intro _
   refine ac_cond (fun hlt=>?_) (fun hlt=>?_)
   ·have hi8:i < h0.words.length:=by omega
    repeat' first|refine Wz ?_|intro _
    refine al_idxM (l:=h0.words) (f:=fun x=>.lit (w32v x)) i hi8 ?_
    repeat' first|refine Wz ?_|intro _
    refine al_idxA i ?_
    repeat' first|refine Wz ?_|intro _
    refine al_storeE (j:=i) (ps:=fill w32v (w32v 0) h0.words i) (by rw [fill_len (by omega)];omega) ?_
    rw [fill_set hi8]
    repeat' first|refine Wz ?_|intro _
    exact ae_round (i + 1) ⟨rfl,rfl,rfl,rfl,rfl,trivial⟩ slr (by omega) (by omega)
   ·obtain rfl:i=h0.words.length:=by omega
    rw [fill_all]
    repeat' first|refine Wz ?_|intro _
    refine ac_loop (α:=Nat) (fun q=>[(2,ptr g2),(4,ptr g4),(5,.sl 1 (P.map u8A) (some v4)),(8,ptr g8),(10,int (64 * (q:Int)))]) (fun q=>[.var g8 339 (hwA (absorb h0 q P)),.tail 5 1 v4,.var g4 38 (hA zeroH),.var g2 299 tabA])
     (fun q=>64 * q<=P.length) (fun q=>P.length - 64 * q) 0 ⟨rfl,rfl,rfl,rfl,rfl,trivial⟩ slr (Nat.zero_le _) ?_
    intro q hq
    have hlPm:(P.map u8A).length=P.length:=llm _
    repeat' first|refine Wz ?_|intro _
    refine ac_cond (fun hlt=>?_) (fun hlt=>?_)
    ·rw [hlPm] at hlt
     repeat' first|refine Wz ?_|intro _
     apply obl_read [];exact rfl;exact rfl;kernel_rfl;intro _ _
     refine al_sliceD (64 * q) (64 * q + 64) ?_
     exact al_nil (ae_got rfl rfl)
     repeat' first|refine Wz ?_|intro _
     have e:compress (absorb h0 q P) ((P.take (64 * q + 64)).drop (64 * q))=absorb h0 (q + 1) P:=by
      rw [absorb_succ,List.drop_take]
      congr 2
      omega
     rw [e]
     have e2:(64:Int) * (q:Int) + 64=64 * ((q + 1:Nat):Int):=by omega
     rw [e2]
     exact ae_round (q + 1) ⟨rfl,rfl,rfl,rfl,rfl,trivial⟩ slr (by omega) (by omega)
    ·rw [hlPm] at hlt
     obtain rfl:q=P.length / 64:=by omega
     have hsha:shaH s=⟨(absorb h0 (P.length / 64) P).bytes,rfl⟩:=Hsh.ext' (by rw [<- hPP];rfl)
     rw [hsha]
     generalize absorb h0 (P.length / 64) P=X at *
     repeat' first|refine Wz ?_|intro _
     rename_i g11
     refine ac_loop (α:=Nat) (fun i=>[(4,ptr g4),(8,ptr g8),(11,ptr g11),(12,int i)]) (fun i=>[.var g11 38 (.agg 32 (fill u8v (u8v 0) X.bytes i)),.var g8 339 (hwA X),.var g4 38 (hA zeroH)])
      (fun i=>i<=32) (fun i=>32 - i) 0 ⟨rfl,rfl,rfl,rfl,trivial⟩ (by repeat (first|exact List.nil_sublist _|exact List.Sublist.refl _|apply List.Sublist.cons_cons|apply List.Sublist.cons)) (Nat.zero_le _) ?_
     intro i hi
     have hb32:X.bytes.length=32:=rfl
     repeat' first|refine Wz ?_|intro _
     refine ac_cond (fun hlt=>?_) (fun hlt=>?_)
     ·have hi32:i < X.bytes.length:=by omega
      repeat' first|refine Wz ?_|intro _
      refine al_idxA (i / 4) ?_
      repeat' first|refine Wz ?_|intro _
      refine al_loadE (j:=i / 4) (ps:=X.words.map fun x=>.lit (w32v x)) (u:=w32A (X.words.getD (i / 4) 0)) (by rw [List.getElem?_map,words_get X (i / 4) (by omega)];rfl) ?_
      repeat' first|refine Wz ?_|intro _
      refine al_shr32 (24 - 8 * (i % 4)) ?_
      repeat' first|refine Wz ?_|intro _
      have hg:=bytes_get X i (by omega)
      rw [List.getElem?_eq_getElem hi32] at hg
      injection hg with hg
      rw [BitVec.toNat_ushiftRight,Nat.shiftRight_eq_div_pow,u8w,<- hg]
      refine al_idxA i ?_
      refine al_storeE (j:=i) (ps:=fill u8v (u8v 0) X.bytes i) (by rw [fill_len (by omega)];omega) ?_
      rw [fill_set hi32]
      repeat' first|refine Wz ?_|intro _
      exact ae_round (i + 1) ⟨rfl,rfl,rfl,rfl,trivial⟩ slr (by omega) (by omega)
     ·obtain rfl:i=X.bytes.length:=by omega
      rw [fill_all]
      repeat' first|refine Wz ?_|intro _
      refine reE ?_
      rfl⟩
end Go.Proofs.YtlmcongmglfaeaaGreatDoor

namespace Go.Proofs.YtlmcongmglfaeaaGreatDoor
open Go Go.RowKit Tw Av
theorem quick_spec {s:Bs}(hl:s.length<=35184372088832):SpecE Tryz.prog GL 194 [str s] (hA (shaH s)):=by
 refine qE Tryz.func194 rfl Tryz.ntmps194 rfl (fun _ hs=>?_)
 repeat' first|refine Wz ?_|intro _
 refine al_callP (args:=[tabA,str s]) (hc:=fnRSum) hl ?_
 repeat' first|refine Wz ?_|intro _
 refine reE ?_
 rfl
instance fnQuick {s:Bs}{n:Nat}[h:LenLe s n]:Ans Tryz.prog GL 194 [str s] (n<=35184372088832) (hA (shaH s)):=⟨fun hn=>quick_spec (Nat.le_trans h.out hn)⟩
theorem ofH3 (a b c:Bs):ofH [a,b,c]=shaH (a++b++c):=by simp [ofH]
instance fnRLeaf {a b:Bs}:Ans Tryz.prog GL 160 [.agg 2 [str a,str b]] True (hA (leafH ⟨a,b⟩)):=⟨fun _=>by
 refine qE Tryz.func160 rfl Tryz.ntmps160 rfl (fun _ hs=>?_)
 repeat' first|refine Wz ?_|intro _
 refine reE ?_
 rw [leafH,ofH3]
 rfl⟩
instance fnRNode {a b:Hsh}:Ans Tryz.prog GL 276 [hA a,hA b] True (hA (nodeH a b)):=⟨fun _=>by
 refine qE Tryz.func276 rfl Tryz.ntmps276 rfl (fun _ hs=>?_)
 repeat' first|refine Wz ?_|intro _
 refine reE ?_
 rw [nodeH,ofH3]
 rfl⟩
instance fnRTop {n:Int}{h:Hsh}:Ans Tryz.prog GL 192 [int n,hA h] (n<=9223372036854775807) (hA (topH n h)):=⟨fun hn=>by
 refine qE Tryz.func192 rfl Tryz.ntmps192 rfl (fun _ hs=>?_)
 repeat' first|refine Wz ?_|intro _
 refine reE ?_
 rw [topH,ofH3]
 rfl⟩
theorem rtree_ans (n:Nat):n<=1000000->∀ {l:List Ent} {xs:List AV} {id:Option Value} [Ents xs l],Ans Tryz.prog GL 193 [.sl 2 xs id] (l.length<=n) (hA (treeH (l.map leafH))):=by
 induction n with
 | zero=>
  intro _ l xs id hx
  refine⟨fun hl=>?_⟩
  have h:=hx.out
  subst h
  obtain rfl:l=[]:=List.eq_nil_of_length_eq_zero (by omega)
  refine qE Tryz.func193 rfl Tryz.ntmps193 rfl (fun _ hs=>?_)
  repeat' first|refine Wz ?_|intro _
  refine reE ?_
  rfl
 | succ n ih=>
  intro hn l xs id hx
  have ih:=@ih (by omega)
  refine⟨fun hl=>?_⟩
  have h:=hx.out
  subst h
  have hm:(l.map entA).length=l.length:=llm _
  refine qE Tryz.func193 rfl Tryz.ntmps193 rfl (fun _ hs=>?_)
  repeat' first|refine Wz ?_|intro _
  refine ac_cond (fun h0=>?_) (fun h0=>?_)
  ·obtain rfl:l=[]:=List.eq_nil_of_length_eq_zero (by omega)
   repeat' first|refine Wz ?_|intro _
   refine reE ?_
   rfl
  ·repeat' first|refine Wz ?_|intro _
   refine ac_cond (fun h1=>?_) (fun h1=>?_)
   ·obtain⟨x,rfl⟩:∃ x,l=[x]:=List.length_eq_one_iff.1 (by omega)
    repeat' first|refine Wz ?_|intro _
    refine al_idxM 0 (show 0 < [x].length by simp) ?_
    repeat' first|refine Wz ?_|intro _
    refine reE ?_
    rfl
   ·repeat' first|refine Wz ?_|intro _
    have hk0:(((l.map entA).length:Int) + 1) / 2=(((l.length + 1) / 2:Nat):Int):=by omega
    rw [hk0]
    have hst:=treeH_step (l.map leafH) (by rw [llm];omega)
    rw [llm,<- List.map_take,<- List.map_drop] at hst
    generalize hk:(l.length + 1) / 2=k at *
    apply obl_read [];exact rfl;exact rfl;kernel_rfl;intro _ _
    refine al_sliceD 0 k ?_
    exact al_nil (ae_got rfl rfl)
    repeat' first|refine Wz ?_|intro _
    apply obl_read [];exact rfl;exact rfl;kernel_rfl;intro _ _
    refine al_sliceD k l.length ?_
    exact al_nil (ae_got rfl rfl)
    repeat' first|refine Wz ?_|intro _
    refine reE ?_
    rw [hst,List.drop_zero,List.take_length]
    rfl
instance fnRTree {l:List Ent}{xs:List AV}{id:Option Value}[Ents xs l]:Ans Tryz.prog GL 193 [.sl 2 xs id] (l.length<=1000000) (hA (treeH (l.map leafH))):=rtree_ans 1000000 (Nat.le_refl _)
instance fnRRoot {d:List Ent}{xs:List AV}{id:Option Value}[hx:Ents xs d]:Ans Tryz.prog GL 116 [.sl 2 xs id] (d.length<=1000000) (hA (topH d.length (treeH (d.map leafH)))):=⟨fun hl=>by
 have h:=hx.out
 subst h
 have hm:(d.map leafH).length=d.length:=llm _
 have hm2:(d.map entA).length=d.length:=llm _
 refine qE Tryz.func116 rfl Tryz.ntmps116 rfl (fun _ hs=>?_)
 repeat' first|refine Wz ?_|intro _
 refine reE ?_
 rw [<- hm2]
 rfl⟩

def pathDown:List WayStep->List Hsh->List Hsh
 | [],_=>[]
 | t::ts,l=>if t.1=true then treeH (l.drop t.2.1)::pathDown ts (l.take t.2.1) else treeH (l.take t.2.1)::pathDown ts (l.drop t.2.1)
def pathH (l:List Hsh)(i:Int):List Hsh:=(pathDown (wayOf l.length i) l).reverse
def upH:List WayStep->Hsh->List Hsh->Hsh
 | [],h,_=>h
 | t::ts,h,p=>if t.1=true then nodeH (upH ts h p.dropLast) (p.getLastD zeroH) else nodeH (p.getLastD zeroH) (upH ts h p.dropLast)
def foldH (n i:Int)(h:Hsh)(p:List Hsh):Option Hsh:=if i < 0\/n<=i\/2000 < n\/(wayOf n i).length≠p.length then none else some (topH n (upH (wayOf n i) h p))
theorem pathDown_len:∀ (ts:List WayStep) (l:List Hsh),(pathDown ts l).length=ts.length
 | [],_=>rfl
 | t::ts,l=>by
  unfold pathDown
  split <;> simp [pathDown_len ts]
theorem turns_len:∀ (f n i:Nat),n<=f->(turns n i).length<=n
 | 0,n,i,h=>by
  obtain rfl:n=0:=by omega
  simp [turns,turnsF]
 | f + 1,n,i,h=>by
  by_cases hn:1 < n
  ·rw [turns_step n i hn,List.length_cons]
   split
   ·have:=turns_len f ((n + 1) / 2) i (by omega)
    omega
   ·have:=turns_len f (n - (n + 1) / 2) (i - (n + 1) / 2) (by omega)
    omega
  ·obtain rfl|rfl:n=0\/n=1:=by omega
   ·simp [turns,turnsF]
   ·simp [turns_one]
theorem pathH_len (l:List Hsh)(i:Int):(pathH l i).length=(wayOf l.length i).length:=by simp [pathH,pathDown_len]
theorem way_len (n:Nat)(i:Int):(wayOf n i).length<=n:=by
 unfold wayOf
 split
 ·simp
 ·exact turns_len n _ _ (by simp)
theorem way_eq {n i:Nat}(h:i < n)(hn:n<=2000):wayOf (n:Int) (i:Int)=turns n i:=by
 unfold wayOf
 rw [if_neg (by omega)]
 simp
theorem getLastD_append {α:Type}(l:List α)(x z:α):(l++[x]).getLastD z=x:=by simp [List.getLastD_eq_getLast?]
theorem upH_snoc (t:WayStep)(ts:List WayStep)(h x:Hsh)(p:List Hsh):upH (t::ts) h (p++[x])=if t.1=true then nodeH (upH ts h p) x else nodeH x (upH ts h p):=by
 rw [upH,List.dropLast_concat,getLastD_append]
theorem way_row {n i:Nat}(_h:i < n)(hn:1 < n):turns n i=(decide (i < (n + 1) / 2),(n + 1) / 2,n - (n + 1) / 2)::turns (if i < (n + 1) / 2 then (n + 1) / 2 else n - (n + 1) / 2) (if i < (n + 1) / 2 then i else i - (n + 1) / 2):=by
 rw [turns_step n i hn]
 split <;> rfl

theorem bad_fold {n i:Int}{h:Hsh}{p:List Hsh}(hb:i < 0\/n<=i\/2000 < n\/(wayOf n i).length≠p.length):foldH n i h p=none:=if_pos hb
theorem good_fold {n i:Int}{h:Hsh}{p:List Hsh}(hb:¬ (i < 0\/n<=i\/2000 < n\/(wayOf n i).length≠p.length)):foldH n i h p=some (topH n (upH (wayOf n i) h p)):=if_neg hb
instance fnFold {n i:Int}{h:Hsh}{p:List Hsh}{xs:List AV}{id:Option Value}[hx:Hshs xs p]:Ans Tryz.prog GL 155 [int n,int i,hA h,.sl 32 xs id] (n<=9223372036854775807) (.tup [hA ((foldH n i h p).getD zeroH),boo (foldH n i h p).isSome]):=⟨fun hn=>by
 have hh:=hx.out
 subst hh
 have hmp:(p.map hA).length=p.length:=llm _
 have hmt:((wayOf n i).map trA).length=(wayOf n i).length:=llm _
 refine qE Tryz.func155 rfl Tryz.ntmps155 rfl (fun _ hs=>?_)
 repeat' first|refine Wz ?_|intro _
 refine gu1 (fun h1=>?_) (fun h1=>?_)
 ·repeat' first|refine Wz ?_|intro _
  refine reE ?_
  rw [bad_fold (.inl h1)]
  rfl
 ·repeat' first|refine Wz ?_|intro _
  refine gu1 (fun h2=>?_) (fun h2=>?_)
  ·repeat' first|refine Wz ?_|intro _
   refine reE ?_
   rw [bad_fold (.inr (.inl h2))]
   rfl
  ·repeat' first|refine Wz ?_|intro _
   refine gu1 (fun h3=>?_) (fun h3=>?_)
   ·repeat' first|refine Wz ?_|intro _
    refine reE ?_
    rw [bad_fold (.inr (.inr (.inl h3)))]
    rfl
   ·repeat' first|refine Wz ?_|intro _
    refine ac_cond (fun h4=>?_) (fun h4=>?_)
    ·repeat' first|refine Wz ?_|intro _
     refine reE ?_
     rw [bad_fold (.inr (.inr (.inr (by omega))))]
     rfl
    ·have hgd:=good_fold (h:=h) (show ¬ (i < 0\/n<=i\/2000 < n\/(wayOf n i).length≠p.length) by omega)
     rw [hgd]
     have hm:(wayOf n i).length=p.length:=by omega
     have hpl:p.length<=2000:=by
      rw [<- hm]
      unfold wayOf
      split
      ·simp
      ·exact Nat.le_trans (turns_len _ _ _ (Nat.le_refl _)) (by omega)
     generalize wayOf n i=ts at *
     repeat' first|refine Wz ?_|intro _
     rename_i g6 g8 g11
     refine ac_loop (α:=Nat) (fun j=>[(0,int n),(6,ptr g6),(8,ptr g8),(10,.sl 3 (ts.map trA) none),(11,ptr g11),(37,.sl 32 (p.map hA) id),(38,int (p.map hA).length),(39,int j)]) (fun j=>[.var g11 38 (hA (upH (ts.drop (p.length - j)) h (p.take j))),.var g8 38 (hA zeroH)])
      (fun j=>j<=p.length) (fun j=>p.length - j) 0 ⟨rfl,rfl,rfl,rfl,rfl,rfl,rfl,rfl,trivial⟩ ?_ (Nat.zero_le _) ?_
     ·rw [Nat.sub_zero,<- hm,List.drop_length,upH]
      exact sbl
     intro j hj
     repeat' first|refine Wz ?_|intro _
     refine ac_cond (fun hlt=>?_) (fun hlt=>?_)
     ·have hjp:j < p.length:=by omega
      have hjt:p.length - 1 - j < ts.length:=by omega
      have hst:upH (ts.drop (p.length - (j + 1))) h (p.take (j + 1))=if ts[p.length - 1 - j].1=true then nodeH (upH (ts.drop (p.length - j)) h (p.take j)) p[j] else nodeH p[j] (upH (ts.drop (p.length - j)) h (p.take j)):=by
       rw [show p.length - (j + 1)=p.length - 1 - j by omega,List.drop_eq_getElem_cons hjt,List.take_succ_eq_append_getElem hjp,upH_snoc,show p.length - 1 - j + 1=p.length - j by omega]
      repeat' first|refine Wz ?_|intro _
      refine al_idxM (l:=p) (f:=hA) j hjp ?_
      repeat' first|refine Wz ?_|intro _
      refine al_idxM (l:=ts) (f:=trA) (p.length - 1 - j) hjt ?_
      repeat' first|refine Wz ?_|intro _
      refine ac_condB (fun hb=>?_) (fun hb=>?_)
      ·rw [if_pos hb] at hst
       repeat' first|refine Wz ?_|intro _
       refine ae_round (j + 1) ⟨rfl,rfl,rfl,rfl,rfl,rfl,rfl,rfl,trivial⟩ ?_ hjp (by omega)
       rw [hst]
       exact sbl
      ·rw [if_neg (by rw [hb];simp)] at hst
       repeat' first|refine Wz ?_|intro _
       refine ae_round (j + 1) ⟨rfl,rfl,rfl,rfl,rfl,rfl,rfl,rfl,trivial⟩ ?_ hjp (by omega)
       rw [hst]
       exact sbl
     ·obtain rfl:j=p.length:=by omega
      rw [Nat.sub_self,List.drop_zero,List.take_length]
      repeat' first|refine Wz ?_|intro _
      refine reE ?_
      rfl⟩

theorem up_ans (N:Nat):N<=2000->∀ {n i:Nat} {h:Hsh} {p:List Hsh} {xs:List AV} {id:Option Value} [Hshs xs p],Ans Tryz.prog GL 266 [int n,int i,hA h,.sl 32 xs id] (n<=N/\i < n/\p.length=(turns n i).length) (hA (upH (turns n i) h p)):=by
 induction N with
 | zero=>exact fun _=>⟨fun hc=>absurd hc.2.1 (by omega)⟩
 | succ N ih=>
  intro hN n i h p xs id hx
  have ih:=@ih (by omega)
  refine⟨fun hc=>?_⟩
  obtain⟨c1,c2,c3⟩:=hc
  have hh:=hx.out
  subst hh
  have hm:(p.map hA).length=p.length:=llm _
  refine qE Tryz.func266 rfl Tryz.ntmps266 rfl (fun _ hs=>?_)
  repeat' first|refine Wz ?_|intro _
  refine ac_cond (fun h1=>?_) (fun h1=>?_)
  ·obtain rfl:n=1:=by omega
   repeat' first|refine Wz ?_|intro _
   refine reE ?_
   rfl
  ·have hr:=way_row c2 (by omega)
   have hk0:((n:Int) + 1) / 2=(((n + 1) / 2:Nat):Int):=by omega
   have hpb:p.length<=n:=by rw [c3];exact turns_len n n i (Nat.le_refl _)
   rw [hr,List.length_cons] at c3
   have hpn:p.length - 1 < p.length:=by omega
   have hpe:p=p.take (p.length - 1)++[p[p.length - 1]]:=by
    rw [<- List.take_succ_eq_append_getElem hpn,show p.length - 1 + 1=p.length by omega,List.take_length]
   have hup:∀ t ts,upH (t::ts) h p=if t.1=true then nodeH (upH ts h (p.take (p.length - 1))) p[p.length - 1] else nodeH p[p.length - 1] (upH ts h (p.take (p.length - 1))):=fun t ts=>by
    have:=upH_snoc t ts h p[p.length - 1] (p.take (p.length - 1))
    rwa [<- hpe] at this
   have htl:((p.take (p.length - 1)).drop 0).length=p.length - 1:=by simp
   repeat' first|refine Wz ?_|intro _
   rw [hk0]
   generalize hk:(n + 1) / 2=k at *
   refine al_idxM (l:=p) (f:=hA) (p.length - 1) hpn ?_
   repeat' first|refine Wz ?_|intro _
   refine ac_cond (fun hlt=>?_) (fun hlt=>?_)
   ·have hik:i < k:=by omega
    rw [if_pos hik,if_pos hik] at hr c3
    repeat' first|refine Wz ?_|intro _
    apply obl_read [];exact rfl;exact rfl;kernel_rfl;intro _ _
    refine al_sliceD 0 (p.length - 1) ?_
    exact al_nil (ae_got rfl rfl)
    apply obl_read [];exact rfl;exact rfl;kernel_rfl;intro _ _
    refine al_callE (hp:=by exact⟨by omega,hik,by rw [htl];omega⟩) ?_
    exact al_nil (ae_got rfl rfl)
    repeat' first|refine Wz ?_|intro _
    refine reE ?_
    rw [hr,hup,if_pos (by simpa using hik),List.drop_zero]
    rfl
   ·have hik:¬ i < k:=by omega
    rw [if_neg hik,if_neg hik] at hr c3
    repeat' first|refine Wz ?_|intro _
    have e1:(n:Int) - (k:Int)=((n - k:Nat):Int):=by omega
    have e2:(i:Int) - (k:Int)=((i - k:Nat):Int):=by omega
    rw [e1,e2]
    repeat' first|refine Wz ?_|intro _
    apply obl_read [];exact rfl;exact rfl;kernel_rfl;intro _ _
    refine al_sliceD 0 (p.length - 1) ?_
    exact al_nil (ae_got rfl rfl)
    apply obl_read [];exact rfl;exact rfl;kernel_rfl;intro _ _
    refine al_callE (hp:=by exact⟨by omega,by omega,by rw [htl];omega⟩) ?_
    exact al_nil (ae_got rfl rfl)
    repeat' first|refine Wz ?_|intro _
    refine reE ?_
    rw [hr,hup,if_neg (by simpa using hik),List.drop_zero]
    rfl
instance fnUp {n i:Nat}{h:Hsh}{p:List Hsh}{xs:List AV}{id:Option Value}[Hshs xs p]:Ans Tryz.prog GL 266 [int n,int i,hA h,.sl 32 xs id] (n<=2000/\i < n/\p.length=(turns n i).length) (hA (upH (turns n i) h p)):=up_ans 2000 (Nat.le_refl _)
instance fnRFold {n i:Int}{h:Hsh}{p:List Hsh}{xs:List AV}{id:Option Value}[hx:Hshs xs p]:Ans Tryz.prog GL 159 [int n,int i,hA h,.sl 32 xs id] (n<=9223372036854775807) (.tup [hA ((foldH n i h p).getD zeroH),boo (foldH n i h p).isSome]):=⟨fun hn=>by
 have hh:=hx.out
 subst hh
 have hmp:(p.map hA).length=p.length:=llm _
 refine qE Tryz.func159 rfl Tryz.ntmps159 rfl (fun _ hs=>?_)
 repeat' first|refine Wz ?_|intro _
 refine gu1 (fun h1=>?_) (fun h1=>?_)
 ·repeat' first|refine Wz ?_|intro _
  refine reE ?_
  rw [bad_fold (.inl h1)]
  rfl
 ·repeat' first|refine Wz ?_|intro _
  refine gu1 (fun h2=>?_) (fun h2=>?_)
  ·repeat' first|refine Wz ?_|intro _
   refine reE ?_
   rw [bad_fold (.inr (.inl h2))]
   rfl
  ·repeat' first|refine Wz ?_|intro _
   refine gu1 (fun h3=>?_) (fun h3=>?_)
   ·repeat' first|refine Wz ?_|intro _
    refine reE ?_
    rw [bad_fold (.inr (.inr (.inl h3)))]
    rfl
   ·repeat' first|refine Wz ?_|intro _
    refine ac_cond (fun h4=>?_) (fun h4=>?_)
    ·repeat' first|refine Wz ?_|intro _
     refine reE ?_
     rw [bad_fold (.inr (.inr (.inr (by omega))))]
     rfl
    ·rw [good_fold (h:=h) (show ¬ (i < 0\/n<=i\/2000 < n\/(wayOf n i).length≠p.length) by omega)]
     obtain⟨N,rfl⟩:∃ N:Nat,n=N:=⟨n.toNat,by omega⟩
     obtain⟨I,rfl⟩:∃ I:Nat,i=I:=⟨i.toNat,by omega⟩
     have hw:wayOf (N:Int) (I:Int)=turns N I:=way_eq (by omega) (by omega)
     rw [hw] at h4 ⊢
     repeat' first|refine Wz ?_|intro _
     refine reE ?_
     rfl⟩
theorem pathH_bad {l:List Hsh}{i:Int}(h:i < 0\/(l.length:Int)<=i\/l.length < 2):pathH l i=[]:=by
 unfold pathH wayOf
 by_cases hc:i < 0\/(l.length:Int)<=i\/2000 < (l.length:Int)
 ·rw [if_pos hc]
  rfl
 ·rw [if_neg hc]
  have h1:l.length=1:=by omega
  rw [show (l.length:Int).toNat=1 by omega,turns_one]
  rfl
theorem pathH_step {l:List Hsh}{i k:Nat}(h:i < l.length)(h1:1 < l.length)(h2:l.length<=2000)(hk:(l.length + 1) / 2=k):pathH l i=if i < k then pathH (l.take k) i++[treeH (l.drop k)] else pathH (l.drop k) ((i - k:Nat):Int)++[treeH (l.take k)]:=by
 have e1:pathH l i=(pathDown (turns l.length i) l).reverse:=by rw [pathH,way_eq h h2]
 rw [e1,way_row h h1,hk,pathDown]
 by_cases hik:i < k
 ·have hl:(l.take k).length=k:=by simp;omega
  have e2:pathH (l.take k) i=(pathDown (turns k i) (l.take k)).reverse:=by rw [pathH,hl,way_eq hik (by omega)]
  rw [if_pos hik,e2]
  simp [hik]
 ·have hl:(l.drop k).length=l.length - k:=by simp
  have e2:pathH (l.drop k) ((i - k:Nat):Int)=(pathDown (turns (l.length - k) (i - k)) (l.drop k)).reverse:=by rw [pathH,hl,way_eq (by omega) (by omega)]
  rw [if_neg hik,e2]
  simp [hik]
theorem rpath_ans (N:Nat):N<=2000->∀ {d:List Ent} {i:Int} {xs:List AV} {id:Option Value} [Ents xs d],Ans Tryz.prog GL 196 [.sl 2 xs id,int i] (d.length<=N) (.sl 32 ((pathH (d.map leafH) i).map hA) none):=by
 induction N with
 | zero=>
  intro _ d i xs id hx
  refine⟨fun hl=>?_⟩
  have h:=hx.out
  subst h
  obtain rfl:d=[]:=List.eq_nil_of_length_eq_zero (by omega)
  rw [pathH_bad (.inr (.inr (by simp)))]
  refine qE Tryz.func196 rfl Tryz.ntmps196 rfl (fun _ hs=>?_)
  repeat' first|refine Wz ?_|intro _
  refine gu1 (fun h1=>?_) (fun h1=>?_)
  ·repeat' first|refine Wz ?_|intro _
   refine ae_as 4 (Imp.nilN (k:=32)) ?_
   refine reE ?_
   rfl
  ·repeat' first|refine Wz ?_|intro _
   refine gu1 (fun h2=>?_) (fun h2=>?_)
   ·repeat' first|refine Wz ?_|intro _
    refine ae_as 4 (Imp.nilN (k:=32)) ?_
    refine reE ?_
    rfl
   ·exfalso
    simp at h2
    omega
 | succ N ih=>
  intro hN d i xs id hx
  have ih:=@ih (by omega)
  refine⟨fun hl=>?_⟩
  have h:=hx.out
  subst h
  have hm:(d.map entA).length=d.length:=llm _
  have hml:(d.map leafH).length=d.length:=llm _
  refine qE Tryz.func196 rfl Tryz.ntmps196 rfl (fun _ hs=>?_)
  repeat' first|refine Wz ?_|intro _
  refine gu1 (fun h1=>?_) (fun h1=>?_)
  ·repeat' first|refine Wz ?_|intro _
   refine ae_as 4 (Imp.nilN (k:=32)) ?_
   refine reE ?_
   rw [pathH_bad (.inl h1)]
   rfl
  ·repeat' first|refine Wz ?_|intro _
   refine gu1 (fun h2=>?_) (fun h2=>?_)
   ·repeat' first|refine Wz ?_|intro _
    refine ae_as 4 (Imp.nilN (k:=32)) ?_
    refine reE ?_
    rw [pathH_bad (.inr (.inl (by omega)))]
    rfl
   ·repeat' first|refine Wz ?_|intro _
    refine ac_cond (fun h3=>?_) (fun h3=>?_)
    ·repeat' first|refine Wz ?_|intro _
     refine ae_as 4 (Imp.nilN (k:=32)) ?_
     refine reE ?_
     rw [pathH_bad (.inr (.inr (by omega)))]
     rfl
    ·obtain⟨I,rfl⟩:∃ I:Nat,i=I:=⟨i.toNat,by omega⟩
     have hst:=pathH_step (l:=d.map leafH) (i:=I) (by omega) (by omega) (by omega) rfl
     rw [hml] at hst
     rw [hst]
     have hk0:(((d.map entA).length:Int) + 1) / 2=(((d.length + 1) / 2:Nat):Int):=by omega
     repeat' first|refine Wz ?_|intro _
     rw [hk0]
     generalize hk:(d.length + 1) / 2=k at *
     have hwl:∀ (l:List Hsh) (i:Int),(pathH l i).length<=l.length:=fun l i=>by rw [pathH_len];exact way_len _ _
     have hw1:=hwl ((d.map leafH).take k) I
     have hw2:=hwl ((d.map leafH).drop k) ((I - k:Nat):Int)
     rw [List.length_take] at hw1
     rw [List.length_drop] at hw2
     have hmt:(((d.map entA).take k).drop 0)=(d.take k).map entA:=by rw [List.drop_zero,List.map_take]
     have hmd:(((d.map entA).take d.length).drop k)=(d.drop k).map entA:=by rw [List.take_of_length_le (by omega),List.map_drop]
     refine ac_as 6 (Imp.nil (k:=32)) ?_
     refine ac_st (fun ok w h=>h.full 38 32 none 0) ?_
     repeat' first|refine Wz ?_|intro _
     refine ac_cond (fun hlt=>?_) (fun hlt=>?_)
     ·have hik:I < k:=by omega
      rw [if_pos hik]
      repeat' first|refine Wz ?_|intro _
      refine al_sliceD 0 k ?_
      rw [hmt]
      refine al_move ?_
      refine al_callE (hp:=by simp;omega) ?_
      rw [List.map_take]
      refine al_append (fun v=>?_)
      repeat' first|refine Wz ?_|intro _
      refine al_sliceD k d.length ?_
      rw [hmd]
      refine al_callE (hp:=by simp;omega) ?_
      repeat' first|refine Wz ?_|intro _
      refine al_append (fun v'=>?_)
      repeat' first|refine Wz ?_|intro _
      refine ae_as 4 Imp.sl ?_
      refine reE ?_
      simp [outOf]
     ·have hik:¬ I < k:=by omega
      rw [if_neg hik]
      repeat' first|refine Wz ?_|intro _
      refine al_sliceD k d.length ?_
      rw [hmd]
      repeat' first|refine Wz ?_|intro _
      rw [show (I:Int) - (k:Int)=((I - k:Nat):Int) by omega,List.map_drop]
      refine al_append (fun v=>?_)
      repeat' first|refine Wz ?_|intro _
      refine al_sliceD 0 k ?_
      rw [hmt]
      refine al_callE (hp:=by simp;omega) ?_
      repeat' first|refine Wz ?_|intro _
      refine al_append (fun v'=>?_)
      repeat' first|refine Wz ?_|intro _
      refine ae_as 4 Imp.sl ?_
      refine reE ?_
      simp [outOf]

theorem take_eq_step {α:Type}{a b:List α}{i:Nat}(h:a.take i=b.take i)(ha:i < a.length)(hb:i < b.length)(he:a[i]=b[i]):a.take (i + 1)=b.take (i + 1):=by
 rw [List.take_succ_eq_append_getElem ha,List.take_succ_eq_append_getElem hb,h,he]


instance fnRPath {d:List Ent}{i:Int}{xs:List AV}{id:Option Value}[Ents xs d]:Ans Tryz.prog GL 196 [.sl 2 xs id,int i] (d.length<=2000) (.sl 32 ((pathH (d.map leafH) i).map hA) none):=rpath_ans 2000 (Nat.le_refl _)

end Go.Proofs.YtlmcongmglfaeaaGreatDoor
