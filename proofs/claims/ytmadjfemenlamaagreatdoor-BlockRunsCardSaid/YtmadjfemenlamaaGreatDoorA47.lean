/- law BlockParts -/
import Derived.Test.YtmadjfemenlamaaGreatDoorA40
import Derived.Test.YtmadjfemenlamaaGreatDoorA41
import Derived.Test.YtmadjfemenlamaaGreatDoorA42
import Derived.Test.YtmadjfemenlamaaGreatDoorA43
namespace Go.Proofs.YtmadjfemenlamaaGreatDoor
open Go Go.RowKit Tw Av
def K19 (k:Int):Prop:=k=1∨k=2∨k=3∨k=4∨k=13∨k=14
attribute [local irreducible] doR callV fundR movR creR updR sndR rcvR
set_option maxHeartbeats 4000000 in
theorem fnCoDo19 {d:List Ent}{h t:Int}{x:TxX}:Ans Tryz.prog GL 21 [.agg 1 [.sl 2 (d.map entA) none],txA x,int h,int t] (DOk d∧TxB x∧K19 x.k) (.tup [dA (doR d x h t).1,repA (doR d x h t).2]):=⟨fun hp=>by
 obtain⟨hd,hb,hk⟩:=hp
 have hq:DOk d∧TxB x:=⟨hd,hb⟩
 refine spec_enter Tryz.func21 rfl Tryz.ntmps21 rfl (fun _ hs=>?_)
 repeat' first|refine Zz ?_|intro _
 rcases hk with h|h|h|h|h|h
 ·rw [h,call1,do1 h]
  repeat' first|refine Zz ?_|intro _
  refine al_fnNF (by kernel_rfl) ?_
  repeat' first|refine Zz ?_|intro _
  refine reE ?_
  rfl
 ·rw [h,call2,do2 h]
  repeat' first|refine Zz ?_|intro _
  refine al_fnNF (by kernel_rfl) ?_
  repeat' first|refine Zz ?_|intro _
  refine reE ?_
  rfl
 ·rw [h,call3,do3 h]
  repeat' first|refine Zz ?_|intro _
  refine al_fnNF (by kernel_rfl) ?_
  repeat' first|refine Zz ?_|intro _
  refine reE ?_
  rfl
 ·rw [h,call4,do4 h]
  repeat' first|refine Zz ?_|intro _
  refine al_fnNF (by kernel_rfl) ?_
  repeat' first|refine Zz ?_|intro _
  refine reE ?_
  rfl
 ·rw [h,call13,do13 h]
  repeat' first|refine Zz ?_|intro _
  refine al_fnNF (by kernel_rfl) ?_
  repeat' first|refine Zz ?_|intro _
  refine reE ?_
  rfl
 ·rw [h,call14,do14 h]
  repeat' first|refine Zz ?_|intro _
  refine al_fnNF (by kernel_rfl) ?_
  repeat' first|refine Zz ?_|intro _
  refine reE ?_
  rfl⟩
instance fnBlRun19 {d:List Ent}{l:List Bs}{h t:Int}{xs ys:List AV}{id:Option Value}[hx:Ents xs d][hy:Strs ys l]:Ans Tryz.prog GL 10 [.agg 1 [.sl 2 xs none],.agg 3 [int h,int t,.sl 1 ys id]] (DOk d∧l.length≤1000000∧∀ s ∈ l,s.length≤1000000000∧(rtxE (xs0 s)=0→K19 (rtxV (xs0 s)).k))
   (.tup [dA (runR d ⟨h,t,l⟩).1,.sl 3 ((runR d ⟨h,t,l⟩).2.1.map repA) none,.sl 15 ((runR d ⟨h,t,l⟩).2.2.map evA) none]):=fnBlRunK (K:=K19) fnCoDo19
structure Spc where
 k:Int
 a:Int
 r:Bs
abbrev spcA (s:Spc):AV:=.agg 3 [int s.k,int s.a,str s.r]
class Spcs (xs:List AV)(l:outParam (List Spc)):Prop where
 out:xs=l.map spcA
instance {l:List Spc}:Spcs (l.map spcA) l:=⟨rfl⟩
def spcB (s:Spc):Bs:=specB s.k s.a s.r
theorem specK_K {k a:Int}:K19 (specK k a).k:=by
 unfold specK K19
 dsimp only
 repeat' split
 all_goals omega
theorem spc_k (s:Spc):(spcB s).length≤1000000000∧(rtxE (xs0 (spcB s))=0→K19 (rtxV (xs0 (spcB s))).k):=by
 unfold spcB specB
 split
 ·have:(s.r.take 30).length≤30:=by
   rw [List.length_take]
   omega
  exact⟨by omega,fun e=>absurd (rtx_short (show (s.r.take 30).length < 32 by omega)) (by rw [e];decide)⟩
 ·exact⟨txB_len _,fun _=>by rw [(spec_back (Int.emod_nonneg _ (by decide)) (Int.emod_lt_of_pos _ (by decide))).1];exact specK_K⟩
theorem spcs_k {l:List Spc}:∀ s ∈ l.map spcB,s.length≤1000000000∧(rtxE (xs0 s)=0→K19 (rtxV (xs0 s)).k):=fun s h=>by
 obtain⟨x,_,rfl⟩:=List.mem_map.1 h
 exact spc_k x
theorem runS_pre {h t:Int}{d:List Ent}{a:List Rep}{b:List EvX}{s:Bs}:runS h t (d,a,b) s=((runS h t (d,[],[]) s).1,a++(runS h t (d,[],[]) s).2.1,b++(runS h t (d,[],[]) s).2.2):=by
 unfold runS runD
 dsimp only
 split
 ·split
  ·rfl
  ·simp
 ·simp
theorem runL_pre {h t:Int}:∀ {l:List Bs} {d:List Ent} {a:List Rep} {b:List EvX},runL h t (d,a,b) l=((runL h t (d,[],[]) l).1,a++(runL h t (d,[],[]) l).2.1,b++(runL h t (d,[],[]) l).2.2)
 | [],d,a,b=>by
  show (d,a,b)=(d,a++[],b++[])
  simp
 | s::l,d,a,b=>by
  rw [runL_cons,runL_cons,runS_pre,runL_pre]
  have e:runL h t (runS h t (d,[],[]) s) l=_:=runL_pre (l:=l) (d:=(runS h t (d,[],[]) s).1) (a:=(runS h t (d,[],[]) s).2.1) (b:=(runS h t (d,[],[]) s).2.2)
  rw [e]
  simp only [List.append_assoc]
theorem runR_app {d:List Ent}{h t:Int}{l r:List Bs}:runR d ⟨h,t,l++r⟩=((runR (runR d ⟨h,t,l⟩).1 ⟨h,t,r⟩).1,(runR d ⟨h,t,l⟩).2.1++(runR (runR d ⟨h,t,l⟩).1 ⟨h,t,r⟩).2.1,(runR d ⟨h,t,l⟩).2.2++(runR (runR d ⟨h,t,l⟩).1 ⟨h,t,r⟩).2.2):=by
 unfold runR
 dsimp only
 rw [runL_app]
 exact runL_pre (d:=(runL h t (d,[],[]) l).1) (a:=(runL h t (d,[],[]) l).2.1) (b:=(runL h t (d,[],[]) l).2.2)
theorem runR_dok {d:List Ent}{b:BlkX}(h:DOk d):DOk (runR d b).1:=runL_dok h
end Go.Proofs.YtmadjfemenlamaaGreatDoor

namespace Go.Proofs.YtmadjfemenlamaaGreatDoor
open Go Go.RowKit Tw Av
theorem tmod_rng19 (a:Int){b:Int}(h:0 < b):-b < a.tmod b∧a.tmod b < b:=⟨Int.lt_tmod_of_pos a h,Int.tmod_lt_of_pos a h⟩
theorem pick19 (a:Int)(n:Nat):∃ k:Nat,(a.tmod ((n:Int) + 1) + n + 1) % ((n:Int) + 1)=k∧k≤n:=by
 have h1:=tmod_rng19 a (b:=(n:Int) + 1) (by omega)
 have h2:=Int.emod_nonneg (a.tmod ((n:Int) + 1) + n + 1) (b:=(n:Int) + 1) (by omega)
 have h3:=Int.emod_lt_of_pos (a.tmod ((n:Int) + 1) + n + 1) (b:=(n:Int) + 1) (by omega)
 exact⟨((a.tmod ((n:Int) + 1) + n + 1) % ((n:Int) + 1)).toNat,by omega,by omega⟩
theorem run_vlen (d:List Ent)(h t:Int)(L:List Bs):(runR d ⟨h,t,L⟩).2.2.length≤L.length:=by
 have:=(runL_len (h:=h) (t:=t) (l:=L) (q:=(d,[],[]))).2
 unfold runR
 simpa using this
theorem runR_eq {d:List Ent}{h t:Int}{l:List Bs}:runR d ⟨h,t,l⟩=runL h t (d,[],[]) l:=rfl
theorem runS_do {h t:Int}{q:Run3}{s:Bs}(e:rtxE (xs0 s)=0):(runS h t q s).1=(doR q.1 (rtxV (xs0 s)) h t).1:=by
 rw [runS,if_pos e]
 rfl
theorem runL_nil {h t:Int}{q:Run3}:runL h t q []=q:=rfl
attribute [local irreducible] runR runL blB zb1 zb2 specK txB rtxE rtxV xs0 doR specB
set_option maxRecDepth 100000 in
set_option maxHeartbeats 8000000 in
instance fnBlockParts {o:Bool}{l:List Spc}{at_:Int}{xs:List AV}{id:Option Value}[hx:Spcs xs l]:Ans Tryz.prog GL 4 [boo o,.sl 3 xs id,int at_] True (boo true):=⟨fun _=>by
 have h:=hx.out
 subst h
 have hm:(l.map spcA).length=l.length:=List.length_map _
 have hd:=start_ok o
 have hdl:=hd.l
 have hdi:=hd.id
 haveI hDoI:∀ {d:List Ent} {h t:Int} {x:TxX},Ans Tryz.prog GL 21 [.agg 1 [.sl 2 (d.map entA) none],txA x,int h,int t] (DOk d∧TxB x∧K19 x.k) (.tup [dA (doR d x h t).1,repA (doR d x h t).2]):=fnCoDo19
 refine spec_enter Tryz.func4 rfl Tryz.ntmps4 rfl (fun _ hs=>?_)
 refine ac_bnd 1 (fun hb=>?_)
 have hb:=maxLen_le hb
 repeat' first|refine Zz ?_|intro _
 rename_i g8 g9
 rw [hdi]
 refine ac_asV (g:=g9) (v':=.agg 3 [int 7,int 7,.sl 1 [] (some (.slice none 0 0))]) imp_bvar ?_
 refine ac_st (fun ok w h=>h.full 9 1 none 0) ?_
 refine ac_loop (α:=Nat × Value) (fun q=>[(1,.sl 3 (l.map spcA) id),(2,int at_),(6,.lit (.bool false)),(7,boo true),(8,ptr g8),(9,ptr g9),(10,int q.1)]) (fun q=>[.tail 9 1 q.2,.var g9 30 (.agg 3 [int 7,int 7,.sl 1 (((l.take q.1).map spcB).map str) (some q.2)]),.var g8 35 (dA (startL o))]) (fun q=>q.1≤l.length∧q.1≤12) (fun q=>12 - q.1) (0,.slice none 0 0) ⟨rfl,rfl,rfl,rfl,rfl,rfl,rfl,trivial⟩ (List.Sublist.refl _) ⟨Nat.zero_le _,Nat.zero_le _⟩ ?_
 rintro⟨i,v⟩ ⟨g1,g2⟩
 dsimp only at g1 g2 ⊢
 have hml2:((l.take i).map spcB).length=i:=by
  rw [List.length_map,List.length_take]
  omega
 by_cases hc:i < l.length∧i < 12
 ·obtain⟨hc1,hc2⟩:=hc
  have hml3:(l.take i).length=i:=by rw [List.length_take];omega
  have hsu:(l.take (i + 1)).map spcB=(l.take i).map spcB++[spcB l[i]]:=by rw [List.take_succ_eq_append_getElem hc1,List.map_append];rfl
  repeat' first|refine Zz ?_|intro _
  apply obl_fresh [0];exact rfl;exact rfl;exact rfl;kernel_rfl;intro _ _
  refine al_append (fun v'=>?_)
  refine al_nil (ae_fresh [.tail 9 1 v'] [] rfl rfl (List.Perm.refl _) rfl ?_)
  repeat' first|refine Zz ?_|intro _
  refine ae_round (i + 1,v') ⟨rfl,rfl,rfl,rfl,rfl,rfl,rfl,trivial⟩ ?_ ⟨hc1,hc2⟩ (by dsimp only;omega)
  dsimp only
  rw [hsu,List.map_append]
  exact sbl
 ·have hk:=spcs_k (l:=l.take i)
  generalize (l.take i).map spcB=L at *
  have hmL:(L.map str).length=L.length:=List.length_map _
  have hp2:DOk (startL o)∧L.length≤1000000∧∀ s ∈ L,s.length≤1000000000∧(rtxE (xs0 s)=0→K19 (rtxV (xs0 s)).k):=⟨hd,by omega,hk⟩
  obtain⟨k,hke,hkn⟩:=pick19 at_ (L.map str).length
  have ht:=tmod_rng19 at_ (b:=((L.map str).length:Int) + 1) (by omega)
  have hk1:∀ s ∈ L.take k,s.length≤1000000000∧(rtxE (xs0 s)=0→K19 (rtxV (xs0 s)).k):=fun s hm=>hk s (List.mem_of_mem_take hm)
  have hk2:∀ s ∈ L.drop k,s.length≤1000000000∧(rtxE (xs0 s)=0→K19 (rtxV (xs0 s)).k):=fun s hm=>hk s (List.mem_of_mem_drop hm)
  have hp3:DOk (startL o)∧(L.take k).length≤1000000∧∀ s ∈ L.take k,s.length≤1000000000∧(rtxE (xs0 s)=0→K19 (rtxV (xs0 s)).k):=⟨hd,by rw [List.length_take];omega,hk1⟩
  have hdq:DOk (runR (startL o) ⟨7,7,L.take k⟩).1:=runR_dok hd
  have hp4:DOk (runR (startL o) ⟨7,7,L.take k⟩).1∧(L.drop k).length≤1000000∧∀ s ∈ L.drop k,s.length≤1000000000∧(rtxE (xs0 s)=0→K19 (rtxV (xs0 s)).k):=⟨hdq,by rw [List.length_drop];omega,hk2⟩
  have hR:=runR_app (d:=startL o) (h:=7) (t:=7) (l:=L.take k) (r:=L.drop k)
  rw [List.take_append_drop] at hR
  have hrl:=run_rlen (startL o) 7 7 L
  have hrl1:=run_rlen (startL o) 7 7 (L.take k)
  have hrl2:=run_rlen (runR (startL o) ⟨7,7,L.take k⟩).1 7 7 (L.drop k)
  have hvl1:=run_vlen (startL o) 7 7 (L.take k)
  have hvl2:=run_vlen (runR (startL o) ⟨7,7,L.take k⟩).1 7 7 (L.drop k)
  have hlt:(L.take k).length≤12:=by rw [List.length_take];omega
  have hld:(L.drop k).length≤12:=by rw [List.length_drop];omega
  have hdt:(L.map str).take k=(L.take k).map str:=by rw [List.map_take]
  have hdd:(L.map str).drop k=(L.drop k).map str:=by rw [List.map_drop]
  by_cases h1:i < l.length
  all_goals
   repeat' first|refine Zz ?_|intro _
   apply obl_read [];exact rfl;exact rfl;kernel_rfl;intro _ _
   refine al_tmod ?_
   exact al_nil (ae_got rfl rfl)
   generalize at_.tmod (((L.map str).length:Int) + 1)=r2 at *
   repeat' first|refine Zz ?_|intro _
   rw [hke]
   repeat' first|refine Zz ?_|intro _
   apply obl_read [];exact rfl;exact rfl;kernel_rfl;intro _ _
   refine al_sliceD 0 k ?_
   rw [List.drop_zero,hdt]
   exact al_nil (ae_got rfl rfl)
   repeat' first|refine Zz ?_|intro _
   apply obl_read [];exact rfl;exact rfl;kernel_rfl;intro _ _
   refine al_sliceD k (L.map str).length ?_
   rw [List.take_length,hdd]
   exact al_nil (ae_got rfl rfl)
   repeat' first|refine Zz ?_|intro _
   have hal:(runL 7 7 (startL o,[],[]) L).1=(runR (startL o) ⟨7,7,L⟩).1:=by rw [runR_eq]
   generalize runR (startL o) ⟨7,7,L⟩=R at *
   generalize runR (startL o) ⟨7,7,L.take k⟩=Q at *
   generalize runR Q.1 ⟨7,7,L.drop k⟩=Z at *
   have hR1:R.1=Z.1:=by rw [hR]
   have hR2:R.2.1=Q.2.1++Z.2.1:=by rw [hR]
   have hR3:R.2.2=Q.2.2++Z.2.2:=by rw [hR]
   have hm1:(Q.2.1.map repA).length=Q.2.1.length:=List.length_map _
   have hm2:(Z.2.1.map repA).length=Z.2.1.length:=List.length_map _
   have hm3:(Q.2.2.map evA).length=Q.2.2.length:=List.length_map _
   have hm4:(Z.2.2.map evA).length=Z.2.2.length:=List.length_map _
   have hm5:(R.2.1.map repA).length=R.2.1.length:=List.length_map _
   refine al_as 99 (Imp.nil (k:=3)) ?_
   refine al_st (fun ok w h=>h.full 74 3 none 0) ?_
   refine al_append (fun w1=>?_)
   rw [List.nil_append]
   repeat' first|refine Zz ?_|intro _
   refine al_append (fun w2=>?_)
   repeat' first|refine Zz ?_|intro _
   refine al_as 105 (Imp.nil (k:=15)) ?_
   refine al_st (fun ok w h=>h.full 92 15 none 0) ?_
   refine al_append (fun w3=>?_)
   rw [List.nil_append]
   repeat' first|refine Zz ?_|intro _
   refine al_append (fun w4=>?_)
   rw [← List.map_append,← List.map_append,← hR2,← hR3]
   repeat' first|refine Zz ?_|intro _
   rename_i g12 g15 g18 g25
   refine ac_loop (α:=Nat) (fun j=>[(7,boo true),(9,ptr g9),(12,ptr g12),(13,.sl 3 (R.2.1.map repA) none),(18,ptr g18),(23,boo true),(24,boo true),(25,ptr g25),(26,int j)]) (fun j=>[.var g25 35 (dA (runL 7 7 (startL o,[],[]) (L.take j)).1),.var g12 35 (dA R.1),.var g9 30 (.agg 3 [int 7,int 7,.sl 1 (L.map str) (some v)]),.var g18 35 (dA Z.1)]) (fun j=>j≤L.length) (fun j=>L.length - j) 0 ⟨rfl,rfl,rfl,rfl,rfl,rfl,rfl,rfl,rfl,trivial⟩ ?_ (Nat.zero_le _) ?_
   ·rw [List.take_zero,runL_nil]
    exact List.Sublist.cons_cons _ (List.Sublist.cons _ (List.Sublist.cons _ (List.Sublist.cons_cons _ (List.Sublist.cons _ (List.Sublist.cons_cons _ (List.Sublist.cons _ (List.Sublist.cons _ (List.Sublist.cons_cons _ (List.nil_sublist _)))))))))
   intro j hj
   repeat' first|refine Zz ?_|intro _
   refine ac_cond (fun h2=>?_) (fun h2=>?_)
   ·have hjl:j < L.length:=by omega
    have hq:=runL_succ (h:=7) (t:=7) (q:=(startL o,[],[])) hjl
    have hdj:DOk (runL 7 7 (startL o,[],[]) (L.take j)).1:=runL_dok hd
    have hlj:L[j].length≤1000000000:=(hk _ (List.getElem_mem hjl)).1
    have hkj:=(hk _ (List.getElem_mem hjl)).2
    generalize runL 7 7 (startL o,[],[]) (L.take j)=q at *
    repeat' first|refine Zz ?_|intro _
    by_cases hE:rtxE (xs0 L[j])=0
    ·rw [hE]
     have hx3:DOk q.1∧TxB (rtxV (xs0 L[j]))∧K19 (rtxV (xs0 L[j])).k:=⟨hdj,rtxV_b _,hkj hE⟩
     repeat' first|refine Zz ?_|intro _
     refine ae_round (j + 1) ⟨rfl,rfl,rfl,rfl,rfl,rfl,rfl,rfl,rfl,trivial⟩ ?_ hjl (by omega)
     rw [hq,runS_do hE]
     exact sbl
    ·repeat' first|refine Zz ?_|intro _
     refine ae_round (j + 1) ⟨rfl,rfl,rfl,rfl,rfl,rfl,rfl,rfl,rfl,trivial⟩ ?_ hjl (by omega)
     rw [hq,runS_no hE]
     exact sbl
   ·obtain rfl:j=L.length:=by omega
    rw [List.take_length,hal,hR1]
    repeat' first|refine Zz ?_|intro _
    refine reE ?_
    exact congrArg boo (decide_eq_true (by omega))⟩
end Go.Proofs.YtmadjfemenlamaaGreatDoor
