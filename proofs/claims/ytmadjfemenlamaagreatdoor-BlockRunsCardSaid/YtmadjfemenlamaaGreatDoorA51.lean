/- law BlockRoots -/
import Derived.Test.YtmadjfemenlamaaGreatDoorA28
import Derived.Test.YtmadjfemenlamaaGreatDoorA47
namespace Go.Proofs.YtmadjfemenlamaaGreatDoor
open Go Go.RowKit Tw Av
def rootE (d:List Ent):Hsh:=topH d.length (treeH (d.map leafH))
instance fnBlHeader {c:Bs}{h t:Int}{d:List Ent}{xs ys:List AV}{id:Option Value}[hx:Ents xs d]:Ans Tryz.prog GL 17 [str c,.agg 3 [int h,int t,.sl 1 ys id],.agg 1 [.sl 2 xs none]] (d.length≤1000000) (hdrA ⟨c,h,t,rootE d⟩):=⟨fun hl=>by
 have e:=hx.out
 subst e
 refine spec_enter Tryz.func17 rfl Tryz.ntmps17 rfl (fun _ hs=>?_)
 repeat' first|refine Zz ?_|intro _
 refine reE ?_
 rfl⟩
theorem rootE_eq (d:List Ent):rootE d=topH d.length (treeH (d.map leafH)):=rfl
theorem runR_nil {d:List Ent}{h t:Int}:runR d ⟨h,t,[]⟩=(d,[],[]):=rfl
attribute [local irreducible] runR runL blB zb1 zb2 specK txB rtxE rtxV xs0 doR specB rootE
set_option maxRecDepth 100000 in
set_option maxHeartbeats 8000000 in
instance fnBlockRoots {o:Bool}{l:List Spc}{hh tt:Int}{cc:Bs}{xs:List AV}{id:Option Value}[hx:Spcs xs l]:Ans Tryz.prog GL 6 [boo o,.sl 3 xs id,.agg 3 [int hh,int tt,str cc]] True (boo true):=⟨fun _=>by
 have h:=hx.out
 subst h
 have hm:(l.map spcA).length=l.length:=List.length_map _
 have hd:=start_ok o
 have hdl:=hd.l
 have hdi:=hd.id
 refine spec_enter Tryz.func6 rfl Tryz.ntmps6 rfl (fun _ hs=>?_)
 refine ac_bnd 1 (fun hb=>?_)
 have hb:=maxLen_le hb
 repeat' first|refine Zz ?_|intro _
 rename_i g5 g8 g9
 rw [hdi]
 have hH0:1≤1 + hh % 64∧1 + hh % 64≤64:=by omega
 have hT0:0≤tt % 64∧tt % 64≤63:=by omega
 generalize 1 + hh % 64=H at *
 generalize tt % 64=T at *
 refine ac_asV (g:=g9) (v':=.agg 3 [int H,int T,.sl 1 [] (some (.slice none 0 0))]) imp_bvar ?_
 refine ac_st (fun ok w h=>h.full 9 1 none 0) ?_
 refine ac_loop (α:=Nat × Value) (fun q=>[(1,.sl 3 (l.map spcA) id),(6,.lit (.bool false)),(7,boo true),(8,ptr g8),(9,ptr g9),(10,int q.1)]) (fun q=>[.tail 9 1 q.2,.var g9 30 (.agg 3 [int H,int T,.sl 1 (((l.take q.1).map spcB).map str) (some q.2)]),.var g8 35 (dA (startL o))]) (fun q=>q.1≤l.length∧q.1≤8) (fun q=>8 - q.1) (0,.slice none 0 0) ⟨rfl,rfl,rfl,rfl,rfl,rfl,trivial⟩ ?_ ⟨Nat.zero_le _,Nat.zero_le _⟩ ?_
 focus
  exact sbl
 rintro⟨i,v⟩ ⟨g1,g2⟩
 dsimp only at g1 g2 ⊢
 have hml2:((l.take i).map spcB).length=i:=by
  rw [List.length_map,List.length_take]
  omega
 by_cases hc:i < l.length∧i < 8
 ·obtain⟨hc1,hc2⟩:=hc
  have hml3:(l.take i).length=i:=by rw [List.length_take];omega
  have hsu:(l.take (i + 1)).map spcB=(l.take i).map spcB++[spcB l[i]]:=by rw [List.take_succ_eq_append_getElem hc1,List.map_append];rfl
  repeat' first|refine Zz ?_|intro _
  apply obl_fresh [0];exact rfl;exact rfl;exact rfl;kernel_rfl;intro _ _
  refine al_append (fun v'=>?_)
  refine al_nil (ae_fresh [.tail 9 1 v'] [] rfl rfl (List.Perm.refl _) rfl ?_)
  repeat' first|refine Zz ?_|intro _
  refine ae_round (i + 1,v') ⟨rfl,rfl,rfl,rfl,rfl,rfl,trivial⟩ ?_ ⟨hc1,hc2⟩ (by dsimp only;omega)
  dsimp only
  rw [hsu,List.map_append]
  exact sbl
 ·have hk:=spcs_k (l:=l.take i)
  generalize (l.take i).map spcB=L at *
  have hmL:(L.map str).length=L.length:=List.length_map _
  have hp2:DOk (startL o)∧L.length≤1000000∧∀ s ∈ L,s.length≤1000000000∧(rtxE (xs0 s)=0→K19 (rtxV (xs0 s)).k):=⟨hd,by omega,hk⟩
  have hdR:DOk (runR (startL o) ⟨H,T,L⟩).1:=runR_dok hd
  have hlR:=hdR.l
  have hp3:DOk (runR (startL o) ⟨H,T,L⟩).1∧([]:List Bs).length≤1000000∧∀ s ∈ ([]:List Bs),s.length≤1000000000∧(rtxE (xs0 s)=0→K19 (rtxV (xs0 s)).k):=⟨hdR,by decide,fun s hs=>by cases hs⟩
  by_cases h1:i < l.length
  all_goals
   repeat' first|refine Zz ?_|intro _
   rename_i g11 g14
   refine al_as 68 (v':=.agg 3 [int (H + 1),int T,.sl 1 [] (some (.slice none 0 0))]) (Imp.ofC imp_bvar) ?_
   refine al_asV (g:=g14) (v':=.agg 3 [int (H + 1),int T,.sl 1 [] (some (.slice none 0 0))]) imp_bvar ?_
   repeat' first|refine Zz ?_|intro _
   rw [runR_nil]
   dsimp only
   generalize (runR (startL o) ⟨H,T,L⟩).1=X at *
   have e0:(List.map repA ([]:List Rep)).length=0:=rfl
   have e1:(List.map evA ([]:List EvX)).length=0:=rfl
   repeat' first|refine Zz ?_|intro _
   rw [show (!(decide True && (decide (H=H + 1) && (decide True && (decide True && true)))))=true from by rw [decide_eq_false (show ¬ H=H + 1 by omega)];rfl]
   repeat' first|refine Zz ?_|intro _
   refine reE ?_
   rw [← rootE_eq]
   exact congrArg boo (decide_eq_true rfl)⟩
end Go.Proofs.YtmadjfemenlamaaGreatDoor
