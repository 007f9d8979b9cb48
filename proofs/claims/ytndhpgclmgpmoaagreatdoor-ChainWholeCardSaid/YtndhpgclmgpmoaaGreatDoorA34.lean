/- a map, read behind what was put or dropped -/
import Derived.Test.YtndhpgclmgpmoaaGreatDoorA33
namespace Go.Proofs.YtndhpgclmgpmoaaGreatDoor
open Go Go.RowKit Tw Av
structure DOk (d:List Ent):Prop where
 s:Srt d
 f:Fits d
 l:d.length<=2000
def gO (d:List Ent)(k:Bs):Option Bs:=(getR d k).map (·.val)
def valE (d:List Ent)(k:Bs):Bs:=(gO d k).getD []
def drpL (d:List Ent)(k:Bs):List Ent:=if bsIs d k=true then d.take (bsAt d k)++d.drop (bsAt d k + 1) else d
theorem is_bs {d:List Ent}{k:Bs}(h:Srt d):bsIs d k=(gO d k).isSome:=by rw [gO,Option.isSome_map,getR_bsIs h]
theorem val_bs {d:List Ent}{k:Bs}(h:Srt d):(if bsIs d k=true then (d.getD (bsAt d k) ⟨[],[]⟩).val else [])=valE d k:=by
 obtain⟨A,B,hA,hB,hl,h1⟩:=bs_parts k h
 have hg:=getR_parts hA hB
 rcases h1 with⟨h1,rfl⟩|⟨v,h1,rfl⟩
 ·rw [h1,if_neg (by simp),valE,gO,hg.1];rfl
 ·rw [h1,if_pos rfl,hl,getD_mid,valE,gO,hg.2];rfl
theorem gO_mid {A B:List Ent}{k v q:Bs}(hq:q≠k):gO (A++⟨k,v⟩::B) q=gO (A++B) q:=by
 unfold gO getR
 rw [List.find?_append,List.find?_append,List.find?_cons]
 have:decide ((⟨k,v⟩:Ent).key=q)=false:=dZ fun e=>hq e.symm
 rw [this]
theorem gO_put {d:List Ent}{k v q:Bs}(h:Srt d):gO (putL d k v) q=if q=k then some v else gO d q:=by
 obtain⟨A,B,hA,hB,hl,h1⟩:=bs_parts k h
 have hg:=getR_parts hA hB
 rw [putL_parts v hl h1]
 by_cases hq:q=k
 ·rw [if_pos hq,hq,gO,hg.2];rfl
 ·rw [if_neg hq,gO_mid hq]
  rcases h1 with⟨_,rfl⟩|⟨u,_,rfl⟩
  ·rfl
  ·rw [gO_mid hq]
theorem drp_parts {A B d:List Ent}{k:Bs}(hl:bsAt d k=A.length)(h1:(bsIs d k=false/\d=A++B)\/∃ v,bsIs d k=true/\d=A++⟨k,v⟩::B):drpL d k=A++B:=by
 unfold drpL
 rcases h1 with⟨h1,h2⟩|⟨v,h1,h2⟩
 ·rw [h1,if_neg (by simp),h2]
 ·rw [if_pos h1,hl]
  subst h2
  rw [List.take_append_of_le_length (Nat.le_refl _),List.take_length,List.drop_append,List.drop_of_length_le (by omega),show A.length + 1 - A.length=1 by omega]
  rfl
theorem gO_drp {d:List Ent}{k q:Bs}(h:Srt d):gO (drpL d k) q=if q=k then none else gO d q:=by
 obtain⟨A,B,hA,hB,hl,h1⟩:=bs_parts k h
 have hg:=getR_parts hA hB
 rw [drp_parts hl h1]
 by_cases hq:q=k
 ·rw [if_pos hq,hq,gO,hg.1];rfl
 ·rw [if_neg hq]
  rcases h1 with⟨_,rfl⟩|⟨u,_,rfl⟩
  ·rfl
  ·rw [gO_mid hq]
theorem valE_put {d:List Ent}{k v q:Bs}(h:Srt d):valE (putL d k v) q=if q=k then v else valE d q:=by
 unfold valE
 rw [gO_put h]
 split <;> rfl
theorem valE_drp {d:List Ent}{k q:Bs}(h:Srt d):valE (drpL d k) q=if q=k then [] else valE d q:=by
 unfold valE
 rw [gO_drp h]
 split <;> rfl
theorem drp_sub (d:List Ent)(k:Bs):(drpL d k).Sublist d:=by
 unfold drpL
 split
 ·conv=>rhs;rw [<- List.take_append_drop (bsAt d k) d]
  refine List.Sublist.append slr ?_
  rw [<- List.drop_drop]
  exact List.drop_sublist _ _
 ·exact List.Sublist.refl _
theorem DOk.drp {d:List Ent}(h:DOk d)(k:Bs):DOk (drpL d k):=
 ⟨List.Pairwise.sublist (drp_sub d k) h.s,fun x hx=>h.f x ((drp_sub d k).mem hx),Nat.le_trans (drp_sub d k).length_le h.l⟩
theorem DOk.put {d:List Ent}{k v:Bs}(h:DOk d)(he:putE d k v=0):DOk (putL d k v):=by
 have e:putL d k v=putS d ⟨k,v⟩:=by rw [putS,if_pos he]
 refine⟨h.s.put v,?_,?_⟩
 ·rw [e];exact putS_fits _ h.s h.f
 ·have:=foldPut_len [⟨k,v⟩] d h.l
  rw [e]
  exact this
theorem DOk.nil:DOk []:=⟨srt_nil,fun x hx=>(by cases hx),Nat.zero_le _⟩
theorem putE_eq0 {d:List Ent}{k v:Bs}:putE d k v=0↔k.length<=400/\v.length<=4000/\(bsIs d k=true\/d.length < 2000):=by
 unfold putE
 constructor
 ·intro h
  split at h
  ·cases h
  ·rename_i h1
   split at h
   ·rename_i h2
    exact⟨by omega,by omega,.inl h2⟩
   ·split at h
    ·cases h
    ·exact⟨by omega,by omega,.inr (by omega)⟩
 ·rintro⟨h1,h2,h3⟩
  rw [if_neg (by omega)]
  rcases h3 with h3|h3
  ·rw [if_pos h3]
  ·by_cases hb:bsIs d k=true
   ·rw [if_pos hb]
   ·rw [if_neg hb,if_neg (by omega)]
def putR (d:List Ent)(k v:Bs):List Ent × Int:=if putE d k v=0 then (putL d k v,0) else ([],putE d k v)
theorem putR_ok {d:List Ent}{k v:Bs}(h:DOk d)(_he:(putR d k v).2=0):DOk (putR d k v).1:=by
 unfold putR at _he ⊢
 split
 ·rename_i h1
  exact h.put h1
 ·exact .nil
theorem putR_e (d:List Ent)(k v:Bs):(putR d k v).2=putE d k v:=by
 unfold putR
 split
 ·rename_i h;rw [h]
 ·rfl
end Go.Proofs.YtndhpgclmgpmoaaGreatDoor
