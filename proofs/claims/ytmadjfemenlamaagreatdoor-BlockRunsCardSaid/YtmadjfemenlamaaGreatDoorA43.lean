/- law BlockFails -/
import Derived.Test.YtmadjfemenlamaaGreatDoorA42
namespace Go.Proofs.YtmadjfemenlamaaGreatDoor
open Go Go.RowKit Tw Av
theorem run_x:runR [] ⟨1,0,[[120]]⟩=([],[repE 10],[]):=by
 unfold runR runL
 show runS 1 0 ([],[],[]) [120]=_
 rw [runS_no (by rw [rtx_short (by decide)];decide)]
 rfl
theorem short_no {s:Bs}(h:s.length < 32){p:Prop}:rtxE (xs0 s)=0→p:=fun e=>by
 rw [rtx_short h] at e
 exact absurd e (by decide)
theorem dead_t:doR stD3 (specK 2 1) 3 0=(stD3,repE 16):=by kernel_rfl
theorem dead_f:doR [] (specK 2 1) 3 0=([],repE 16):=by kernel_rfl
theorem dead_o (o:Bool):doR (startL o) (specK 2 1) 3 0=(startL o,repE 16):=by
 cases o
 ·exact dead_f
 ·exact dead_t
theorem dead_s {o:Bool}{s:Bs}(h:s.length≤30∨s=txB (specK 2 1)):Dead (startL o) 3 0 s:=fun e=>by
 rcases h with h|rfl
 ·exact short_no (by omega) e
 ·rw [(spec_back (by decide) (by decide)).1,dead_o]
  exact⟨rfl,by show (16:Int)≠0;decide⟩
theorem k21:(specK 2 1).k=2:=rfl
theorem run_dead {o:Bool}{L:List Bs}(h:∀ s ∈ L,Dead (startL o) 3 0 s):(runR (startL o) ⟨3,0,L⟩).1=startL o∧(∀ r ∈ (runR (startL o) ⟨3,0,L⟩).2.1,r.e≠0)∧(runR (startL o) ⟨3,0,L⟩).2.2=[]:=runL_dead (q:=(startL o,[],[])) h (fun r hr=>by cases hr)
theorem run_rlen (d:List Ent)(h t:Int)(L:List Bs):(runR d ⟨h,t,L⟩).2.1.length=L.length:=by
 have:=(runL_len (h:=h) (t:=t) (l:=L) (q:=(d,[],[]))).1
 unfold runR
 simpa using this
attribute [local irreducible] runR runL blB zb1 zb2 specK txB rtxE rtxV xs0
set_option maxRecDepth 100000 in
set_option maxHeartbeats 4000000 in
instance fnAwake19:Ans Tryz.prog GL 7 [] True (boo true):=⟨fun _=>by
 refine spec_enter Tryz.func7 rfl Tryz.ntmps7 rfl (fun _ hs=>?_)
 have hp1:DOk ([]:List Ent)∧([[120]]:List Bs).length≤1000000∧∀ s ∈ ([[120]]:List Bs),s.length≤1000000000∧(rtxE (xs0 s)=0→(rtxV (xs0 s)).k=2):=⟨.nil,by decide,fun s hm=>by
  obtain rfl:=List.mem_singleton.1 hm
  exact⟨by decide,short_no (by decide)⟩⟩
 repeat' first|refine Zz ?_|intro _
 refine al_callI [.agg 1 [.sl 2 [] none],.agg 3 [int 1,int 0,.sl 1 [str [120]] none]] (hc:=fnBlRun2 (d:=[]) (l:=[[120]]) (hx:=⟨rfl⟩) (hy:=⟨rfl⟩)) (hp:=hp1) ?_
 rw [run_x]
 repeat' first|refine Zz ?_|intro _
 refine reE ?_
 rfl⟩
def failL (l:List Bs):List Bs:=l.flatMap fun s=>[s.take 30,specB 2 1 []]
theorem failL_len (l:List Bs):(failL l).length=2 * l.length:=by
 induction l with
 | nil=>rfl
 | cons s l ih=>
  show (s.take 30::specB 2 1 []::failL l).length=_
  rw [List.length_cons,List.length_cons,ih,List.length_cons]
  omega
theorem failL_succ {l:List Bs}{i:Nat}(h:i < l.length):failL (l.take (i + 1))=failL (l.take i)++[l[i].take 30,specB 2 1 []]:=by
 rw [List.take_succ_eq_append_getElem h,failL,failL,List.flatMap_append]
 rfl
theorem failL_mem {l:List Bs}{s:Bs}(h:s ∈ failL l):s.length≤30∨s=txB (specK 2 1):=by
 obtain⟨x,hx,hm⟩:=List.mem_flatMap.1 h
 rcases List.mem_cons.1 hm with rfl|hm
 ·left
  rw [List.length_take]
  omega
 ·right
  rw [List.mem_singleton.1 hm,spec21]
theorem fail_k {l:List Bs}:∀ s ∈ failL l,s.length≤1000000000∧(rtxE (xs0 s)=0→(rtxV (xs0 s)).k=2):=fun s h=>by
 rcases failL_mem h with h|rfl
 ·exact⟨by omega,short_no (by omega)⟩
 ·exact⟨txB_len _,fun _=>by rw [(spec_back (by decide) (by decide)).1];exact k21⟩
set_option maxRecDepth 100000 in
set_option maxHeartbeats 4000000 in
instance fnBlockFails {o:Bool}{l:List Bs}{xs:List AV}{id:Option Value}[hx:Strs xs l]:Ans Tryz.prog GL 5 [boo o,.sl 1 xs id] True (boo true):=⟨fun _=>by
 have h:=hx.out
 subst h
 have hm:(l.map str).length=l.length:=List.length_map _
 have hd:=start_ok o
 have hdl:=hd.l
 have hdi:=hd.id
 refine spec_enter Tryz.func5 rfl Tryz.ntmps5 rfl (fun _ hs=>?_)
 refine ac_bnd 1 (fun hb=>?_)
 have hb:=maxLen_le hb
 repeat' first|refine Zz ?_|intro _
 rename_i g6 g7
 rw [hdi]
 refine ac_asV (g:=g7) (v':=.agg 3 [int 3,int 0,.sl 1 [] (some (.slice none 0 0))]) imp_bvar ?_
 refine ac_st (fun ok w h=>h.full 9 1 none 0) ?_
 refine ac_loop (α:=Nat × Value) (fun q=>[(1,.sl 1 (l.map str) id),(4,.lit (.bool false)),(5,boo true),(6,ptr g6),(7,ptr g7),(8,int q.1)]) (fun q=>[.tail 9 1 q.2,.var g7 30 (.agg 3 [int 3,int 0,.sl 1 ((failL (l.take q.1)).map str) (some q.2)]),.var g6 35 (dA (startL o))]) (fun q=>q.1≤l.length∧q.1≤12) (fun q=>12 - q.1) (0,.slice none 0 0) ⟨rfl,rfl,rfl,rfl,rfl,rfl,trivial⟩ (List.Sublist.refl _) ⟨Nat.zero_le _,Nat.zero_le _⟩ ?_
 rintro⟨i,v⟩ ⟨g1,g2⟩
 dsimp only at g1 g2 ⊢
 have hml:((failL (l.take i)).map str).length=2 * i:=by
  rw [List.length_map,failL_len,List.length_take]
  omega
 have hml2:(failL (l.take i)).length≤24:=by
  rw [failL_len,List.length_take]
  omega
 by_cases hc:i < l.length∧i < 12
 ·obtain⟨hc1,hc2⟩:=hc
  have hsu:=failL_succ hc1
  repeat' first|refine Zz ?_|intro _
  apply obl_fresh [1];exact rfl;exact rfl;exact rfl;kernel_rfl;intro _ _
  refine al_append (fun v'=>?_)
  refine al_nil (ae_fresh [.tail 9 1 v'] [] rfl rfl (List.Perm.refl _) rfl ?_)
  repeat' first|refine Zz ?_|intro _
  refine ae_round (i + 1,v') ⟨rfl,rfl,rfl,rfl,rfl,rfl,trivial⟩ ?_ ⟨hc1,hc2⟩ (by dsimp only;omega)
  dsimp only
  rw [hsu,List.map_append]
  exact sbl
 ·have hlen:i=l.length∨i=12:=by omega
  have hk:=fail_k (l:=l.take i)
  have hdd:∀ s ∈ failL (l.take i),Dead (startL o) 3 0 s:=fun s hm=>dead_s (failL_mem hm)
  generalize failL (l.take i)=L at *
  have hp2:DOk (startL o)∧L.length≤1000000∧∀ s ∈ L,s.length≤1000000000∧(rtxE (xs0 s)=0→(rtxV (xs0 s)).k=2):=⟨hd,by omega,hk⟩
  obtain⟨hr1,hr2,hr3⟩:=run_dead (L:=L) hdd
  have hr4:=run_rlen (startL o) 3 0 L
  have hL2:L.length=2 * i:=by
   rw [List.length_map] at hml
   exact hml
  by_cases h1:i < l.length
  all_goals
   repeat' first|refine Zz ?_|intro _
   refine al_sliceD 0 (2 * i) ?_
   rw [List.drop_zero,List.take_of_length_le (show (L.map str).length≤2 * i by omega)]
   repeat' first|refine Zz ?_|intro _
   rw [hr1,hr3]
   generalize (runR (startL o) ⟨3,0,L⟩).2.1=rs at *
   have hmr:(rs.map repA).length=rs.length:=List.length_map _
   rename_i g10
   refine ac_loop (α:=Nat) (fun j=>[(4,.lit (.bool false)),(5,boo true),(6,ptr g6),(7,ptr g7),(10,ptr g10),(11,.sl 3 (rs.map repA) none),(12,.sl 15 (([]:List EvX).map evA) none),(13,int j)]) (fun _=>[.var g10 35 (dA (startL o)),.var g7 30 (.agg 3 [int 3,int 0,.sl 1 (L.map str) none]),.var g6 35 (dA (startL o))]) (fun j=>j≤rs.length) (fun j=>rs.length - j) 0 ⟨rfl,rfl,rfl,rfl,rfl,rfl,rfl,rfl,trivial⟩ ?_ (Nat.zero_le _) ?_
   focus
    exact sbl
   intro j hj
   repeat' first|refine Zz ?_|intro _
   refine ac_cond (fun h2=>?_) (fun h2=>?_)
   ·have hjl:j < rs.length:=by omega
    have hne:rs[j].e≠0:=hr2 _ (List.getElem_mem hjl)
    repeat' first|refine Zz ?_|intro _
    exact ae_round (j + 1) ⟨rfl,rfl,rfl,rfl,rfl,rfl,rfl,rfl,trivial⟩ (List.Sublist.refl _) hjl (by omega)
   ·repeat' first|refine Zz ?_|intro _
    refine reE ?_
    exact congrArg boo (decide_eq_true (by omega))⟩
end Go.Proofs.YtmadjfemenlamaaGreatDoor
