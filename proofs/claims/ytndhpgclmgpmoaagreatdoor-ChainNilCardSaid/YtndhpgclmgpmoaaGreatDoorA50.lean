/- law 20: of no chain nothing comes -/
import Derived.Test.YtndhpgclmgpmoaaGreatDoorA46
namespace Go.Proofs.YtndhpgclmgpmoaaGreatDoor
open Go Go.RowKit Tw Av
abbrev nilP:AV:=.lit (.pointer none)
abbrev zCh:AV:=.agg 8 [str [],str [],nilP,nils,nils,nils,nils,boo false]
instance nilmade:Ans Tryz.prog GL 34 [nilP] True (boo false):=⟨fun _=>by
 refine qE Tryz.func34 rfl Tryz.ntmps34 rfl (fun _ hs=>?_)
 repeat' first|refine Zz ?_|intro _
 refine reE ?_
 rfl⟩
instance nilDead:Ans Tryz.prog GL 16 [nilP] True (boo true):=⟨fun _=>by
 refine qE Tryz.func16 rfl Tryz.ntmps16 rfl (fun _ hs=>?_)
 repeat' first|refine Zz ?_|intro _
 refine reE ?_
 rfl⟩
instance nilName:Ans Tryz.prog GL 12 [nilP] True (str []):=⟨fun _=>by
 refine qE Tryz.func12 rfl Tryz.ntmps12 rfl (fun _ hs=>?_)
 repeat' first|refine Zz ?_|intro _
 refine reE ?_
 rfl⟩
instance nilHeight:Ans Tryz.prog GL 13 [nilP] True (int 0):=⟨fun _=>by
 refine qE Tryz.func13 rfl Tryz.ntmps13 rfl (fun _ hs=>?_)
 repeat' first|refine Zz ?_|intro _
 refine reE ?_
 rfl⟩
instance nilWaiting:Ans Tryz.prog GL 21 [nilP] True (int 0):=⟨fun _=>by
 refine qE Tryz.func21 rfl Tryz.ntmps21 rfl (fun _ hs=>?_)
 repeat' first|refine Zz ?_|intro _
 refine reE ?_
 rfl⟩
instance nilTime:Ans Tryz.prog GL 18 [nilP] True (int 0):=⟨fun _=>by
 refine qE Tryz.func18 rfl Tryz.ntmps18 rfl (fun _ hs=>?_)
 repeat' first|refine Zz ?_|intro _
 refine reE ?_
 rfl⟩
instance nilEvents:Ans Tryz.prog GL 27 [nilP] True (nils):=⟨fun _=>by
 refine qE Tryz.func27 rfl Tryz.ntmps27 rfl (fun _ hs=>?_)
 repeat' first|refine Zz ?_|intro _
 refine reE ?_
 rfl⟩
instance nilAt {h:Int}:Ans Tryz.prog GL 26 [nilP,int h] True (.tup [.agg 1 [nils],boo false]):=⟨fun _=>by
 refine qE Tryz.func26 rfl Tryz.ntmps26 rfl (fun _ hs=>?_)
 repeat' first|refine Zz ?_|intro _
 refine reE ?_
 rfl⟩
instance nilState:Ans Tryz.prog GL 14 [nilP] True (.agg 1 [nils]):=⟨fun _=>by
 refine qE Tryz.func14 rfl Tryz.ntmps14 rfl (fun _ hs=>?_)
 repeat' first|refine Zz ?_|intro _
 refine reE ?_
 rfl⟩
instance nilCut {t:Int}:Ans Tryz.prog GL 19 [nilP,int t] True (.tup [nils,int 1]):=⟨fun _=>by
 refine qE Tryz.func19 rfl Tryz.ntmps19 rfl (fun _ hs=>?_)
 repeat' first|refine Zz ?_|intro _
 refine reE ?_
 rfl⟩
instance nilSubmit {s:Bs}:Ans Tryz.prog GL 22 [nilP,str s] True (int 1):=⟨fun _=>by
 refine qE Tryz.func22 rfl Tryz.ntmps22 rfl (fun _ hs=>?_)
 repeat' first|refine Zz ?_|intro _
 refine reE ?_
 rfl⟩
section
variable {g:Nat}
instance (priority:=high) zmade:AnsM Tryz.prog GL 34 g [] 61 zCh True (boo false) zCh:=⟨fun _=>by
 refine qE Tryz.func34 rfl Tryz.ntmps34 rfl (fun _ hs=>?_)
 repeat' first|refine Zz ?_|intro _
 exact reK _ ⟨rfl,rfl⟩ slr⟩
instance (priority:=high) zDead:AnsM Tryz.prog GL 16 g [] 61 zCh True (boo true) zCh:=⟨fun _=>by
 refine qE Tryz.func16 rfl Tryz.ntmps16 rfl (fun _ hs=>?_)
 repeat' first|refine Zz ?_|intro _
 exact reK _ ⟨rfl,rfl⟩ slr⟩
instance (priority:=high) zHeight:AnsM Tryz.prog GL 13 g [] 61 zCh True (int 0) zCh:=⟨fun _=>by
 refine qE Tryz.func13 rfl Tryz.ntmps13 rfl (fun _ hs=>?_)
 repeat' first|refine Zz ?_|intro _
 exact reK _ ⟨rfl,rfl⟩ slr⟩
instance (priority:=high) zTime:AnsM Tryz.prog GL 18 g [] 61 zCh True (int 0) zCh:=⟨fun _=>by
 refine qE Tryz.func18 rfl Tryz.ntmps18 rfl (fun _ hs=>?_)
 repeat' first|refine Zz ?_|intro _
 exact reK _ ⟨rfl,rfl⟩ slr⟩
instance (priority:=high) zHeader {h:Int}:AnsM Tryz.prog GL 20 g [int h] 61 zCh True (.tup [.agg 35 [str [],int 0,int 0,hA zeroH],hA zeroH,boo false]) zCh:=⟨fun _=>by
 refine qE Tryz.func20 rfl Tryz.ntmps20 rfl (fun _ hs=>?_)
 by_cases h0:1<=h
 ·repeat' first|refine Zz ?_|intro _
  refine reK [.var g 61 zCh] ⟨rfl,rfl⟩ ?_
  exact sbl
 ·repeat' first|refine Zz ?_|intro _
  refine reK [.var g 61 zCh] ⟨rfl,rfl⟩ ?_
  repeat (first|exact List.nil_sublist _|exact List.Sublist.refl _|apply List.Sublist.cons_cons|apply List.Sublist.cons)⟩
instance (priority:=high) zCut {t:Int}:AnsM Tryz.prog GL 19 g [int t] 61 zCh True (.tup [nils,int 13]) zCh:=⟨fun _=>by
 refine qE Tryz.func19 rfl Tryz.ntmps19 rfl (fun _ hs=>?_)
 repeat' first|refine Zz ?_|intro _
 exact reK _ ⟨rfl,rfl⟩ slr⟩
instance (priority:=high) zSubmit {s:Bs}:AnsM Tryz.prog GL 22 g [str s] 61 zCh True (int 13) zCh:=⟨fun _=>by
 refine qE Tryz.func22 rfl Tryz.ntmps22 rfl (fun _ hs=>?_)
 repeat' first|refine Zz ?_|intro _
 exact reK _ ⟨rfl,rfl⟩ slr⟩
end
instance nilSectors:Ans Tryz.prog GL 44 [nilP] True (int 0):=⟨fun _=>by
 refine qE Tryz.func44 rfl Tryz.ntmps44 rfl (fun _ hs=>?_)
 repeat' first|refine Zz ?_|intro _
 refine reE ?_
 rfl⟩
instance nilSlOpen:Ans Tryz.prog GL 30 [nilP] True (.tup [nilP,nils,int 1]):=⟨fun _=>by
 refine qE Tryz.func30 rfl Tryz.ntmps30 rfl (fun _ hs=>?_)
 repeat' first|refine Zz ?_|intro _
 refine reE ?_
 rfl⟩
instance nilOpen:Ans Tryz.prog GL 10 [nilP,str [97],str [107],nils] True (.tup [nilP,int 1]):=⟨fun _=>by
 refine qE Tryz.func10 rfl Tryz.ntmps10 rfl (fun _ hs=>?_)
 repeat' first|refine Zz ?_|intro _
 refine reE ?_
 rfl⟩
set_option maxRecDepth 100000 in
set_option maxHeartbeats 8000000 in
instance fnChainNil {h:Int}:Ans Tryz.prog GL 7 [int h] True (boo true):=⟨fun _=>by
 refine qE Tryz.func7 rfl Tryz.ntmps7 rfl (fun _ hs=>?_)
 repeat' first|refine Zz ?_|intro _
 refine al_callEnd _ [] (by exact fnDvNew (n:=9) (by decide) (by decide)) (fun u m1 hu=>?_) (by exact (List.append_nil _).symm)
 obtain⟨I,rfl,rfl⟩:=hu
 repeat' first|refine Zz ?_|intro _
 have hS:Av.Spec Tryz.prog GL 10 [ptr I.gd,str [],str [107],nils] [] _:=spec_args (fnChOpenE (dp:=.pointer (some ⟨I.gd,0,none⟩)) (nm:=[]) (ky:=[107]) (xs:=[]) (id:=none) rfl (by decide))
 refine al_callK [] _ (by rw [hs];exact hS) (fun u m1 hu=>?_) lpr
 obtain⟨rfl,rfl⟩:=hu
 repeat' first|refine Zz ?_|intro _
 have hdk:DOk ([]:List Ent):=.nil
 have hz:([]:List Ent).length=0:=rfl
 refine al_as 112 (v':=dA []) (show Imp (.agg 1 [.lit (.slice none 0 0)]) (.agg 1 [.sl 2 [] none]) from ImpR.imp) ?_
 repeat' first|refine Zz ?_|intro _
 refine reE ?_
 rfl⟩
end Go.Proofs.YtndhpgclmgpmoaaGreatDoor
