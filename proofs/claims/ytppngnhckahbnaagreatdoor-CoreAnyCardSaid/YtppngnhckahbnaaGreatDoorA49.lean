/- law CoreAny -/
import Derived.Test.YtppngnhckahbnaaGreatDoorA48
namespace Go.Proofs.YtppngnhckahbnaaGreatDoor
open Go Go.RowKit Tw Av
attribute [local irreducible] doR
theorem small_b {x:TxX}(h1:x.h.h≤9223372036854775807∧x.h.t≤9223372036854775807)(h2:x.f.m≤9223372036854775807)(h3:x.g.a.m≤9223372036854775807∧x.g.b.m≤9223372036854775807):TxB (smallX x):=by
 have hl:∀ s:Bs,(s.take 40).length≤400000000:=fun s=>by rw [List.length_take];omega
 exact⟨hl _,hl _,hl _,hl _,hl _,hl _,hl _,hl _,hl _,hl _,hl _,h1.1,h1.2,h2,h3⟩
set_option maxRecDepth 100000 in
set_option maxHeartbeats 4000000 in
instance fnCoreAny {l:List Ent}{x:TxX}{a b:Int}{xs:List AV}{id:Option Value}[hx:Ents xs l]:Ans Tryz.prog GL 5 [.sl 2 xs id,txA x,.agg 2 [int a,int b]] ((x.h.h≤9223372036854775807∧x.h.t≤9223372036854775807)∧x.f.m≤9223372036854775807∧x.g.a.m≤9223372036854775807∧x.g.b.m≤9223372036854775807) (boo true):=⟨fun hp=>by
 obtain⟨p1,p2,p3⟩:=hp
 have h:=hx.out
 subst h
 have hB:=small_b p1 p2 p3
 have hm:(l.map entA).length=l.length:=List.length_map _
 refine spec_enter Tryz.func5 rfl Tryz.ntmps5 rfl (fun _ hs=>?_)
 repeat' first|refine Zz ?_|intro _
 rename_i g4 g5
 refine ac_as 8 (Imp.nil (k:=2)) ?_
 refine ac_st (fun ok w h=>h.full 89 2 none 0) ?_
 refine ac_loop (α:=Nat × Value) (fun q=>[(0,.sl 2 (l.map entA) id),(4,ptr g4),(5,ptr g5),(7,boo true),(8,.sl 2 (((l.take q.1).map cut40).map entA) (some q.2)),(9,int q.1)]) (fun q=>[.tail 89 2 q.2,.var g5 100 (.agg 2 [int a,int b]),.var g4 54 (txA x)]) (fun q=>q.1≤l.length∧q.1≤5) (fun q=>5 - q.1) (0,.slice none 0 0) ⟨rfl,rfl,rfl,rfl,rfl,rfl,trivial⟩ (List.Sublist.refl _) ⟨Nat.zero_le _,Nat.zero_le _⟩ ?_
 rintro⟨i,v⟩ ⟨g1,g2⟩
 dsimp only at g1 g2 ⊢
 repeat' first|refine Zz ?_|intro _
 refine gu1 (fun h1=>?_) (fun h1=>?_)
 ·repeat' first|refine Zz ?_|intro _
  refine ac_cond (fun h2=>?_) (fun h2=>?_)
  ·have hlt:i < l.length:=by omega
   have hml:(((l.take i).map cut40).map entA).length≤5:=by simp;omega
   repeat' first|refine Zz ?_|intro _
   apply obl_fresh [0];exact rfl;exact rfl;exact rfl;kernel_rfl;intro _ _
   refine al_append (fun v'=>?_)
   refine al_nil (ae_fresh [.tail 89 2 v'] [] rfl rfl (List.Perm.refl _) rfl ?_)
   repeat' first|refine Zz ?_|intro _
   refine ae_as 8 (v':=.sl 2 (((l.take (i + 1)).map cut40).map entA) (some v')) (Imp.of_eq (by rw [List.take_succ_eq_append_getElem hlt,List.map_append,List.map_append])) ?_
   refine ae_round (i + 1,v') ⟨rfl,rfl,rfl,rfl,rfl,rfl,trivial⟩ (List.Sublist.refl _) ⟨hlt,by dsimp only;omega⟩ (by dsimp only;omega)
  rotate_left
  ·obtain rfl:i=5:=by omega
   have hql:((l.take 5).map cut40).length≤5:=by simp;omega
   generalize (l.take 5).map cut40=q at *
   repeat' first|refine Zz ?_|intro _
   refine al_mask 40 ?_ rfl rfl rfl (by decide)
   repeat' first|refine Zz ?_|intro _
   refine al_mask 40 ?_ rfl rfl rfl (by decide)
   rw [refOf_eq]
   have hd:DOk (dictOf q):=DOk.of q
   have hdi:=hd.id
   have hdl:(dictOf q).length≤2000:=hd.l
   generalize dictOf q=d at *
   have hdm:(d.map entA).length=d.length:=List.length_map _
   have hq2:DOk d∧TxB (smallX x):=⟨hd,hB⟩
   repeat' first|refine Zz ?_|intro _
   rw [hdi]
   iterate 4 refine ob1 ?_
   apply obl_float [61,59];kernel_rfl;kernel_rfl;kernel_rfl;exact⟨⟨_,inferInstance⟩,⟨_,inferInstance⟩,trivial⟩;intro g12
   apply obl_float [61,59];kernel_rfl;kernel_rfl;kernel_rfl;exact⟨⟨_,inferInstance⟩,⟨_,inferInstance⟩,trivial⟩;intro g13
   have hdo:DOk (doR d (smallX x) (a % ((2 ^ 40:Nat):Int)) (b % ((2 ^ 40:Nat):Int))).1:=doR_dok hd
   have hdl2:=hdo.l
   repeat' first|refine Zz ?_|intro _
   refine reE ?_
   simp [outOf]
 ·obtain rfl:i=l.length:=by omega
  have hql:((l.take l.length).map cut40).length≤5:=by simp;omega
  generalize (l.take l.length).map cut40=q at *
  repeat' first|refine Zz ?_|intro _
  refine al_mask 40 ?_ rfl rfl rfl (by decide)
  repeat' first|refine Zz ?_|intro _
  refine al_mask 40 ?_ rfl rfl rfl (by decide)
  rw [refOf_eq]
  have hd:DOk (dictOf q):=DOk.of q
  have hdi:=hd.id
  have hdl:(dictOf q).length≤2000:=hd.l
  generalize dictOf q=d at *
  have hdm:(d.map entA).length=d.length:=List.length_map _
  have hq2:DOk d∧TxB (smallX x):=⟨hd,hB⟩
  repeat' first|refine Zz ?_|intro _
  rw [hdi]
  iterate 4 refine ob1 ?_
  apply obl_float [61,59];kernel_rfl;kernel_rfl;kernel_rfl;exact⟨⟨_,inferInstance⟩,⟨_,inferInstance⟩,trivial⟩;intro g12
  apply obl_float [61,59];kernel_rfl;kernel_rfl;kernel_rfl;exact⟨⟨_,inferInstance⟩,⟨_,inferInstance⟩,trivial⟩;intro g13
  have hdo:DOk (doR d (smallX x) (a % ((2 ^ 40:Nat):Int)) (b % ((2 ^ 40:Nat):Int))).1:=doR_dok hd
  have hdl2:=hdo.l
  repeat' first|refine Zz ?_|intro _
  refine reE ?_
  simp [outOf]⟩
abbrev EntZ:=Bs × Bs × Unit
def ents (l:List EntZ):List Ent:=l.map fun z=>⟨z.1,z.2.1⟩
theorem ents_eq (l:List EntZ):l.map (fun z=>AV.agg 2 [str z.fst,str z.snd.fst])=(ents l).map entA:=by
 rw [ents,List.map_map]
 rfl
theorem amount {w:List Nat}(hl:w.length=4)(hb:∀ x ∈ w,x < 18446744073709551616):∃ a:Wd,(AV.agg 4 (w.map fun n:Nat=>AV.lit (.int .u64 (n:Int))))=widA a:=by
 match w,hl,hb with
 | [a,b,c,d],_,hb=>
  obtain⟨h1,h2,h3,h4,h5⟩:=wj_lm (hb a (by simp)) (hb b (by simp)) (hb c (by simp)) (hb d (by simp))
  refine⟨⟨wj a b c d,h1⟩,?_⟩
  show _=widN (wj a b c d)
  rw [widN,h2,h3,h4,h5]
  rfl
theorem coreAny_in {l gl gr:List EntZ}{k e hh ht xq xh xt t fa fm gn ga gm gb gbm u v:Int}{i o p q y hc xs xk cd cf cg a:Bs}{hr m:Hsh}{ca:List Nat}{fp gp gbp:List Hsh}
  (h1:-9223372036854775808≤hh∧hh≤9223372036854775807) (h2:-9223372036854775808≤ht∧ht≤9223372036854775807) (hl4:ca.length=4) (hb4:∀ x ∈ ca,x < 18446744073709551616) (h3:-9223372036854775808≤fm∧fm≤9223372036854775807) (h4:-9223372036854775808≤gm∧gm≤9223372036854775807) (h5:-9223372036854775808≤gbm∧gbm≤9223372036854775807) :
  SpecE Tryz.prog GL 5 [.sl 2 (l.map fun z=>AV.agg 2 [str z.fst,str z.snd.fst]) none,.agg 100 [int k,str i,str o,str p,str q,str y,int e,.agg 35 [str hc,int hh,int ht,hA hr],hA m,.agg 12 [int xq,str xs,str xk,.agg 7 [str cd,.agg 4 (ca.map fun n:Nat=>AV.lit (.int .u64 (n:Int))),str cf,str cg],int xh,int xt],str a,int t,.agg 3 [int fa,int fm,.sl 32 (fp.map hA) none],.agg 9 [int gn,.sl 2 (gl.map fun z=>AV.agg 2 [str z.fst,str z.snd.fst]) none,.sl 2 (gr.map fun z=>AV.agg 2 [str z.fst,str z.snd.fst]) none,.agg 3 [int ga,int gm,.sl 32 (gp.map hA) none],.agg 3 [int gb,int gbm,.sl 32 (gbp.map hA) none]]],.agg 2 [int u,int v]] (boo true):=by
 obtain⟨A,hA'⟩:=amount hl4 hb4
 rw [ents_eq,ents_eq,ents_eq,hA']
 exact (fnCoreAny (l:=ents l) (x:=⟨k,i,o,p,q,y,e,⟨hc,hh,ht,hr⟩,m,⟨xq,xs,xk,cd,A,cf,cg,xh,xt⟩,a,t,⟨fa,fm,fp⟩,⟨gn,ents gl,ents gr,⟨ga,gm,gp⟩,⟨gb,gbm,gbp⟩⟩⟩) (a:=u) (b:=v) (xs:=(ents l).map entA) (id:=none)).spec ⟨⟨h1.2,h2.2⟩,h3.2,h4.2,h5.2⟩
end Go.Proofs.YtppngnhckahbnaaGreatDoor
