/- law 20: what transactions by numbers are -/
import Derived.Test.YtndhpgclmgpmoaaGreatDoorA08
import Derived.Test.YtndhpgclmgpmoaaGreatDoorA16
import Derived.Test.YtndhpgclmgpmoaaGreatDoorA32
import Derived.Test.YtndhpgclmgpmoaaGreatDoorA43
import Derived.Test.YtndhpgclmgpmoaaGreatDoorA44
namespace Av
open Go Go.RowKit Tw
section
variable {P:Program} {N:Nat} {ops:Array Oper} {Q:Exit->Act->World->Prop} {rest:List Oper} {s:Base} {e:Env} {m:List Piece} {d:Nat} {ty:TypeId} {pos:String} {af:Array Edge}
theorem al_buildLF {T E:TypeId}{k b:Nat}[t:TyE P T E k b]{n:Nat}{parts:List (Nat × Operand)}{vals:List AV}(h:∀ A,AL P N ops Q s rest ((d,.sl k vals (some (.slice A n n)))::e) (.tail E k (.slice A n n)::m))(hx:evs e (parts.map (·.2))=some vals:=by exact rfl)
  (hi:parts.map (·.1)=List.range n:=by exact rfl) (hk:vals.all (fun v=>Nat.beq v.size k)=true:=by exact rfl) (hn:vals.all noTup=true:=by exact rfl) (hs:Nat.ble (n * k) 65536=true:=by exact rfl) (hn0:Nat.blt 0 n=true:=by exact rfl) (hd:Nat.blt d N=true:=by exact rfl) :
  AL P N ops Q s (⟨some d,.buildSlice T n parts.toArray,ty,pos,af,none⟩::rest) e m:=by
 have hkv:∀ v ∈ vals,v.size=k:=fun z hz=>Nat.eq_of_beq_eq_true (List.all_eq_true.1 hk z hz)
 have hkp:0 < k:=nlb t.k0
 have hnp:0 < n:=nlb hn0
 have hnk:n * k<=65536:=nlb hs
 refine al_stepV (fun ok w A hS hA=>?_) hd
 obtain⟨vs,hvs,hmap⟩:=hmap_of hA hx hn
 have hpv:=PR.of_vs hvs
 have hlv:=hpv.length
 have hsv:=hpv.sizes hkv
 have hlen:vs.length=n:=by
  have h1:((parts.map (·.2)).map A.eval).length=vs.length:=by rw [hlv,(hA.evals hx hn).length.symm]
  have h2:(parts.map (·.1)).length=n:=by rw [hi];simp
  simp at h1 h2
  omega
 obtain⟨i,z,q1,q2,hzk,_,_⟩:=t.zero
 have hzr:(zeroValue E).run P w=.ok z w:=by simp [zeroValue,typeInfo,q1,q2]
 subst hlen
 have hcells:((Array.range (vs.length * k)).map (z.cells[· % z.cells.size]!))=(fl (List.replicate vs.length (.agg z.cells))).toArray:=by
  apply Array.ext'
  rw [fl_replicate z.cells (v:=.agg z.cells) rfl,hzk]
  simp
 have hset:=setP_full (z:=.agg z.cells) vs [] (fun v hv=>by rw [hsv v hv];exact hzk)
 simp only [List.nil_append,List.length_nil] at hset
 have hfill:=(fill_setP (place:=fun i=>some (i * k,k)) (by
  intro i u hiu
  obtain⟨hil,hie⟩:=List.getElem?_eq_some_iff.1 hiu
  rw [List.getElem_replicate] at hie
  subst hie
  have hil':i < vs.length:=by simpa using hil
  rw [fl_length (k:=k) (fun x hx=>by
   have:=List.mem_of_mem_take hx
   rw [List.mem_replicate] at this
   rw [this.2]
   exact hzk)]
  simp [Nat.min_eq_left (Nat.le_of_lt hil')]
  exact hzk.symm) hset).1
 have hE:=Ext.alloc w (.cells (fl vs).toArray E)
 have hblk:(w.alloc (.cells (fl vs).toArray E)).heap[w.heap.size]?=some (.cells (fl vs).toArray E (0,0)):=heap_alloc_new w _
 have hst:=Ext.astp hE ok
 refine⟨.sl k vals (some (.slice (some ⟨w.heap.size,0,none⟩) vs.length vs.length)),.slice (some ⟨w.heap.size,0,none⟩) vs.length vs.length,w.alloc (.cells (fl vs).toArray E),ok,_,?_,?_,(hS.ext hE).full E k (some ⟨w.heap.size,0,none⟩) vs.length,hst,h _⟩
 ·have h0:¬ vs.length * k > 2 ^ 24:=by omega
  have h1:¬ vs.length * k=0:=by
   have:=Nat.mul_pos hnp hkp
   omega
  have hmap':(Array.map (fun (x:Nat × Operand)=>(x.fst,A.eval x.snd)) parts.toArray).toList=(List.range' 0 vs.length).zip vs:=by rw [hmap,hi,List.range_eq_range']
  simp only [execOp,Instr.buildSlice,Sem.run_bind,run_underlying t.l.out,Result.andThen_ok,run_sizeOf t.l.size,h0,h1,if_false,Sem.run_pure,hzr]
  rw [hmap',hcells,hfill]
  simp [newRow,newObj,Sem.run]
 ·refine RV.sl hlv (fun v hv=>by injection hv with hv;rw [<- hv]) (Nat.le_refl _) (by
   have:vs.length<=vs.length * k:=Nat.le_mul_of_pos_right _ hkp
   simp only [maxLen]
   omega) (fun _=>⟨w.heap.size,0,fl vs,rfl,by rw [fl_length hsv],fun j v hj=>?_,(hpv.cells).stp hst⟩) hkv
  rw [Nat.zero_add,cell_of_row _ _ _ _ _ _ hblk]
  exact⟨by simpa using hj,hS.fresh _ _ (Nat.le_refl _)⟩
end
end Av

namespace Go.Proofs.YtndhpgclmgpmoaaGreatDoor
open Go Go.RowKit Tw Av
def tmL (l:List BlkX):Int:=((l.getLast?).map (·.t)).getD 0
structure BsG (bs:List BlkX):Prop where
 l:bs.length<=1000
 g:∀ b ∈ bs,BkG b/\∀ s ∈ b.x,Tx20 s
 h:∀ i (h:i < bs.length),bs[i].h=i + 1/\tmL (bs.take i)<=bs[i].t
def iniC (nm ky:Bs)(d:List Ent):ChX:=⟨nm,ky,[d],[],[],[],[],false⟩
def opC (nm ky:Bs)(d:List Ent)(bs:List BlkX):ChX:=bs.foldl donC (iniC nm ky d)
structure OpI (nm ky:Bs)(bs:List BlkX)(c:ChX):Prop where
 nm:c.nm=nm
 ky:c.ky=ky
 hs:c.hs.length=bs.length
 ms:c.ms.length=bs.length + 1
 bl:c.bl=bs
 ev:c.ev.length<=16 * bs.length
 st:DOk (stC c)
 tm:tmC c=tmL bs
 ws:c.ws=[]
 dd:c.dd=false
theorem tmL_snoc (l:List BlkX)(b:BlkX):tmL (l++[b])=b.t:=by
 unfold tmL
 rw [List.getLast?_append]
 rfl
theorem opI_done {nm ky:Bs}{bs:List BlkX}{c:ChX}{b:BlkX}(h:OpI nm ky bs c)(hl:b.x.length<=16):OpI nm ky (bs++[b]) (donC c b):=by
 have hs:=h.hs
 have hm:=h.ms
 have hr:stC (donC c b)=(runR (stC c) b).1:=by
  unfold stC donC
  dsimp only
  rw [lla,List.length_singleton,List.getD_eq_getElem?_getD,List.getElem?_append_right (by omega),show c.hs.length + 1 - c.ms.length=0 by omega]
  rfl
 have hev:=(runL_len (h:=b.h) (t:=b.t) (l:=b.x) (q:=(stC c,[],[]))).2
 refine⟨h.nm,h.ky,?_,?_,?_,?_,?_,?_,h.ws,h.dd⟩
 ·unfold donC
  dsimp only
  rw [lla,lla,hs]
  rfl
 ·unfold donC
  dsimp only
  rw [lla,lla,hm]
  rfl
 ·unfold donC
  dsimp only
  rw [h.bl]
 ·unfold donC
  dsimp only
  have:=h.ev
  have e:(runR (stC c) b).2.2.length<=([]:List EvX).length + b.x.length:=hev
  simp only [List.length_append,List.length_nil,List.length_singleton] at e ⊢
  omega
 ·rw [hr]
  exact runR_dok20 h.st
 ·rw [tmL_snoc]
  unfold tmC donC
  dsimp only
  rw [List.getLast?_append]
  rfl
theorem opI_ini {nm ky:Bs}{d:List Ent}(hd:DOk d):OpI nm ky [] (iniC nm ky d):=⟨rfl,rfl,rfl,rfl,rfl,Nat.le_refl _,hd,rfl,rfl,rfl⟩
theorem opC_snoc {nm ky:Bs}{d:List Ent}{bs:List BlkX}{b:BlkX}:opC nm ky d (bs++[b])=donC (opC nm ky d bs) b:=by
 unfold opC
 rw [List.foldl_append]
 rfl
theorem opC_take {nm ky:Bs}{d:List Ent}{bs:List BlkX}{i:Nat}(h:i < bs.length):opC nm ky d (bs.take (i + 1))=donC (opC nm ky d (bs.take i)) bs[i]:=by
 rw [<- List.take_append_getElem h,opC_snoc]
theorem opI_opC {nm ky:Bs}{d:List Ent}(hd:DOk d){bs:List BlkX}(hb:BsG bs):∀ i,i<=bs.length->OpI nm ky (bs.take i) (opC nm ky d (bs.take i))
 | 0,_=>opI_ini hd
 | i + 1,h=>by
  rw [opC_take h,<- List.take_append_getElem h]
  exact opI_done (opI_opC hd hb i (by omega)) (hb.g _ (List.getElem_mem _)).1.l
set_option maxHeartbeats 1000000 in
theorem fnChOpenE {dp:Value}{nm ky:Bs}{xs:List AV}{id:Option Value}(_:dp.oneCell'=true)(h:¬ (1<=nm.length/\nm.length<=32/\ky.length<=64)):Av.Spec Tryz.prog GL 10 [.lit dp,str nm,str ky,.sl 2 xs id] [] fun u m=>u=.tup [.lit (.pointer none),int 1]/\m=[]:=by
 refine qE Tryz.func10 rfl Tryz.ntmps10 rfl (fun _ hs=>?_)
 repeat' first|refine Zz ?_|intro _
 by_cases h1:nm=[]
 ·repeat' first|refine Zz ?_|intro _
  exact reK _ ⟨rfl,rfl⟩ slr
 have hp:0 < nm.length:=List.length_pos_iff.2 h1
 by_cases h2:nm.length<=32
 ·have h3:¬ ky.length<=64:=fun e=>h ⟨hp,h2,e⟩
  repeat' first|refine Zz ?_|intro _
  exact reK _ ⟨rfl,rfl⟩ slr
 ·repeat' first|refine Zz ?_|intro _
  exact reK _ ⟨rfl,rfl⟩ slr
theorem fnChOpen1 {I:DvI}{x:DvX}{nm ky:Bs}{xs:List AV}{id:Option Value}(h:1<=nm.length/\nm.length<=32/\ky.length<=64)(hn:x.n<=2):Av.Spec Tryz.prog GL 10 [ptr I.gd,str nm,str ky,.sl 2 xs id] (dvM I x) fun u m=>u=.tup [.lit (.pointer none),int 1]/\m=dvM I x:=by
 have hne:nm≠[]:=by rintro rfl;simp at h
 refine qE Tryz.func10 rfl Tryz.ntmps10 rfl (fun _ hs=>?_)
 repeat' first|refine Zz ?_|intro _
 refine al_callW (fnSlOpen1 hn) (fun u m1 hu=>?_)
 obtain⟨rfl,rfl⟩:=hu
 repeat' first|refine Zz ?_|intro _
 exact reK _ ⟨rfl,rfl⟩ slr
theorem imp_cho {nm ky:Bs}{gs:Nat}{xs:List AV}{i:Option Value}:ImpC (.agg 8 [str nm,str ky,ptr gs,.sl 1 xs i,nils,nils,nils,boo false]) (.agg 8 [str nm,str ky,ptr gs,.sl 1 xs i,.sl 35 [] (some (.slice none 0 0)),.sl 15 [] (some (.slice none 0 0)),.sl 1 [] (some (.slice none 0 0)),boo false]):=(inferInstance:ImpT _ _).imp
set_option maxHeartbeats 4000000 in
theorem fnChOpen {I:DvI}{x:DvX}{nm ky:Bs}{gen:List Ent}{bs:List BlkX}{xs:List AV}{id:Option Value}(hxs:xs=gen.map entA)(h:1<=nm.length/\nm.length<=32/\ky.length<=64)(hx:DvOk x)(hw:x.ws.length<=1000)(h0:opnE x=0)(hr:opR x=bs.map bkB)(hb:BsG bs)(hg:gen.length<=1000)(hd:DOk (dictOf gen)) :
  Av.Spec Tryz.prog GL 10 [ptr I.gd,str nm,str ky,.sl 2 xs id] (dvM I x) fun u m=>∃ J:ChI,J.gd=I.gd/\J.gm=I.gm/\u=.tup [ptr J.gc,int 0]/\m=chM J x (opS x) (opC nm ky (dictOf gen) bs):=by
 subst hxs
 have hne:nm≠[]:=by rintro rfl;simp at h
 have hbl:=hb.l
 have hmb:((bs.map bkB).map str).length=bs.length:=by rw [llm,llm]
 refine qE Tryz.func10 rfl Tryz.ntmps10 rfl (fun _ hs=>?_)
 repeat' first|refine Zz ?_|intro _
 refine al_callW (fnSlOpen0 hx (by omega) h0) (fun u m1 hu=>?_)
 obtain⟨gs,rfl,rfl⟩:=hu
 rw [hr]
 repeat' (first|refine ct1 ?_|refine op1 ?_|refine op2 ?_|intro _|simp only [List.set]|refine gdT ?_|refine gdF ?_|refine cdT ?_|refine cdF ?_|fail)
 refine al_buildLF (fun A=>?_)
 repeat' first|refine Zz ?_|intro _
 rename_i gc
 rw [hmb]
 refine ac_asV (g:=gc) imp_cho ?_
 refine ac_st (fun ok w h=>h.full 9 1 none 0) ?_
 refine ac_st (fun ok w h=>h.full 112 15 none 0) ?_
 refine ac_st (fun ok w h=>h.full 44 35 none 0) ?_
 refine ac_ord (chM ⟨⟨I,gs⟩,gc,.slice A 1 1,.slice none 0 0,.slice none 0 0,.slice none 0 0⟩ x (opS x) (iniC nm ky (dictOf gen))) ([_,_,_]++([_,_]++slM ⟨I,gs⟩ x (opS x))) ?_ (List.perm_append_comm_assoc [_,_] [_,_,_] _) slr
 refine ac_loop (α:=Nat × Value × Value × Value) (fun z=>[(13,ptr gc),(14,boo true),(48,.sl 1 ((bs.map bkB).map str) none),(49,int bs.length),(50,int z.1)]) (fun z=>chM ⟨⟨I,gs⟩,gc,z.2.1,z.2.2.1,z.2.2.2,.slice none 0 0⟩ x (opS x) (opC nm ky (dictOf gen) (bs.take z.1)))
  (fun z=>z.1<=bs.length) (fun z=>bs.length - z.1) (0,.slice A 1 1,.slice none 0 0,.slice none 0 0) ⟨rfl,rfl,rfl,rfl,rfl,trivial⟩ slr (Nat.zero_le _) ?_
 rintro⟨i,vm,vh,ve⟩ hi
 dsimp only at hi ⊢
 have hI:=opI_opC (nm:=nm) (ky:=ky) hd hb i hi
 by_cases hil:i < bs.length
 ·obtain⟨hbg,hbx⟩:=hb.g _ (List.getElem_mem hil)
  have hbh:=hb.h i hil
  have hst:=opC_take (nm:=nm) (ky:=ky) (d:=dictOf gen) hil
  have hsl:=hI.hs
  have hml:=hI.ms
  have hev:=hI.ev
  have htm:=hI.tm
  rw [List.length_take,Nat.min_eq_left (by omega)] at hsl hml hev
  have hgi:(bs.map bkB)[i]'(by rw [llm];exact hil)=bkB bs[i]:=List.getElem_map ..
  have hll:i < (bs.map bkB).length:=by rw [llm];exact hil
  generalize opC nm ky (dictOf gen) (bs.take i)=c at *
  repeat' first|refine Zz ?_|intro _
  rw [hgi]
  repeat' first|refine Zz ?_|intro _
  rw [dT (show bs[i].h=(c.hs.length:Int) + 1 by omega)]
  repeat' first|refine Zz ?_|intro _
  rw [dT (show tmC c<=bs[i].t by omega)]
  repeat' first|refine Zz ?_|intro _
  rename_i g17
  refine al_callF [_] (chM ⟨⟨I,gs⟩,gc,vm,vh,ve,.slice none 0 0⟩ x (opS x) c) [] (fnChDone (b:=bs[i]) (id:=none) ⟨by omega,by omega⟩ (by omega) hI.st hbg.l hbx) (fun u m1 hu=>?_)
  obtain⟨rfl,v1,v2,v3,rfl⟩:=hu
  rw [<- hst]
  repeat' first|refine Zz ?_|intro _
  exact ae_round (i + 1,v1,v2,v3) ⟨rfl,rfl,rfl,rfl,rfl,trivial⟩ (List.sublist_cons_self _ _) hil (by dsimp only;omega)
 ·obtain rfl:i=bs.length:=by omega
  rw [List.take_length]
  repeat' first|refine Zz ?_|intro _
  refine reK _ ⟨⟨⟨I,gs⟩,gc,vm,vh,ve,.slice none 0 0⟩,rfl,rfl,rfl,rfl⟩ slr

theorem tlvT_le (c:Int)(s:Bs):(tlvT c s).length<=s.length + 4:=by
 simp [tlvT,tlvText,List.length_take]
 omega
theorem tlvI_le (c n:Int):(tlvI c n).length<=12:=by
 have:=digitsF_len 8 n.toNat
 have:=tlvT_le c (digitsF 8 n.toNat)
 show (tlvText _ (digitsF 8 n.toNat)).length<=12
 unfold tlvT at this
 omega
def sumB (l:List Bs):Nat:=(l.map List.length).sum
theorem flatT_le (c:Int):∀ l:List Bs,(l.flatMap (tlvT c)).length<=sumB l + 4 * l.length
 | []=>by simp [sumB]
 | s::l=>by
  have h1:=flatT_le c l
  have h2:=tlvT_le c s
  unfold sumB at h1 ⊢
  rw [List.flatMap_cons,lla,List.map_cons,List.sum_cons,List.length_cons]
  omega
theorem bkB_lenS (b:BlkX):(bkB b).length<=sumB b.x + 4 * b.x.length + 28:=by
 have h1:=tlvI_le 104 b.h
 have h2:=tlvI_le 116 b.t
 have h3:=tlvT_le 120 (b.x.flatMap (tlvT 120))
 have h4:=flatT_le 120 b.x
 show (tlvI 104 b.h++tlvI 116 b.t++tlvT 120 (b.x.flatMap (tlvT 120))).length<=_
 rw [lla,lla]
 omega
theorem sumB_le {n:Nat}:∀ {l:List Bs},(∀ s ∈ l,s.length<=n)->sumB l<=n * l.length
 | [],_=>by simp [sumB]
 | s::l,h=>by
  have h1:=sumB_le (l:=l) (fun t ht=>h t (by simp [ht]))
  have h2:=h s (by simp)
  unfold sumB at h1 ⊢
  rw [List.map_cons,List.sum_cons,List.length_cons,Nat.mul_add]
  omega
theorem bkB_le {b:BlkX}(h:BkG b):(bkB b).length<=200000:=by
 have h1:=bkB_lenS b
 have h2:=sumB_le h.s
 have h3:=h.l
 omega
theorem recB_le (s:Bs):(recB s).length<=s.length + 16:=by
 unfold recB
 rw [lla]
 have:=tlvT_le 82 s
 have:=tlvI_le 83 (smN (tlvT 82 s))
 omega
def lgB (bs:List BlkX):Bs:=logB (bs.map bkB)
def mkL (bs:List BlkX):MkX:=⟨bs.length,(lgB bs).length,bs.length⟩
def slL (bs:List BlkX):SlX:=⟨mkL bs,lgB bs,false⟩
theorem lgB_snoc (bs:List BlkX)(b:BlkX):lgB (bs++[b])=lgB bs++recB (bkB b):=by
 unfold lgB logB
 rw [List.map_append,List.flatMap_append]
 simp
theorem nx_slL (bs:List BlkX)(b:BlkX):nxS (slL bs) (bkB b)=slL (bs++[b]):=by
 unfold nxS slL mkL cmM
 rw [lgB_snoc]
 simp
structure Ro (x:DvX)(bs:List BlkX):Prop where
 dv:DvOk x
 on:x.on=true
 ws:x.ws=[]
 n:3<=x.n
 fit:DFits (dvSafe x) (lgB bs) (mkL bs)
 rm:((lgB bs).length:Int)<=roomD x.n
 bg:BsG bs
theorem pk_z64:pkM mk0=z64:=by kernel_rfl
theorem ro_new {n:Int}(h:3<=n)(h2:n<=4096):Ro (dvNew n) []:=by
 have hz:∀ a,dvSafe (dvNew n) a=z64:=fun a=>rfl
 refine⟨⟨⟨by show 0<=n;omega,h2⟩,?_,?_,?_,by show (0:Int)<=0/\(0:Int)<=1000000;decide⟩,rfl,rfl,h,⟨fun a=>by rw [hz];exact z64_len,?_,⟨by show (0:Int)<=0/\(0:Int) < 200;decide,?_,?_,0,?_,by decide,.inr rfl⟩⟩,?_,?_⟩
 ·exact List.Pairwise.nil
 ·simp [dvNew]
 ·simp [dvNew]
 ·intro j hj
  simp [lgB,logB] at hj
 ·exact⟨by decide,by decide,by decide⟩
 ·rw [hz];exact pk_z64.symm
 ·rw [hz];kernel_rfl
 ·show (0:Int)<=(n - 2) * 64
  omega
 ·exact⟨by simp,by simp,fun i h=>by simp at h⟩
theorem ro_open {x:DvX}{bs:List BlkX}(h:Ro x bs):opnE x=0/\opS x=slL bs/\opR x=bs.map bkB:=
 op_fits h.dv h.on h.ws h.fit rfl (by show ((bs.length:Nat):Int)=((bs.map bkB).length:Nat);rw [llm]) h.rm (by have:=h.n;omega)
  (fun s hs=>by
   obtain⟨b,hb,rfl⟩:=List.mem_map.1 hs
   have:=bkB_le (h.bg.g b hb).1
   omega)
theorem ro_log {x:DvX}{bs:List BlkX}(h:Ro x bs)(he:bs.length < 190):LogOk x (slL bs):=
 ⟨h.dv,h.on,h.ws,h.fit,rfl,h.rm,h.n,rfl,by show ((bs.length:Nat):Int) < 190;omega,by show (0:Int)<=((bs.length:Nat):Int)/\((bs.length:Nat):Int)<=1000;omega⟩
section
variable {nm ky:Bs} {d:List Ent} {bs:List BlkX} {ws:List Bs} {x:DvX}
def chL (nm ky:Bs)(d:List Ent)(bs:List BlkX)(ws:List Bs)(dd:Bool):ChX:={ opC nm ky d bs with ws:=ws,dd:=dd }
theorem chL_op (hd:DOk d)(hb:BsG bs):chL nm ky d bs [] false=opC nm ky d bs:=by
 have h:=opI_opC (nm:=nm) (ky:=ky) hd hb bs.length (Nat.le_refl _)
 rw [List.take_length] at h
 unfold chL
 rw [<- h.ws,<- h.dd]
theorem opI_L (hd:DOk d)(hb:BsG bs):OpI nm ky bs (opC nm ky d bs):=by
 have h:=opI_opC (nm:=nm) (ky:=ky) hd hb bs.length (Nat.le_refl _)
 rwa [List.take_length] at h
structure WsG (ws:List Bs):Prop where
 l:ws.length<=16
 t:∀ s ∈ ws,Tx20 s
theorem tm_ok (hb:BsG bs):0<=tmL bs/\tmL bs<=1099511627776:=by
 unfold tmL
 cases h:bs.getLast? with
 | none=>simp
 | some b=>exact (hb.g b (List.mem_of_getLast? h)).1.t
def nxB (bs:List BlkX)(ws:List Bs)(t:Int):BlkX:=⟨bs.length + 1,max (min t 1099511627776) (tmL bs),ws⟩
theorem nxB_g (hb:BsG bs)(hl:bs.length < 190)(hw:WsG ws)(t:Int):BsG (bs++[nxB bs ws t]):=by
 have ht:=tm_ok hb
 refine⟨by rw [lla,List.length_singleton];omega,?_,?_⟩
 ·intro b hm
  rcases List.mem_append.1 hm with hm|hm
  ·exact hb.g b hm
  ·obtain rfl:=List.mem_singleton.1 hm
   refine⟨⟨?_,?_,hw.l,fun s hs=>(hw.t s hs).1⟩,hw.t⟩
   ·show (1:Int)<=bs.length + 1/\((bs.length:Nat):Int) + 1<=1099511627776
    omega
   ·show 0<=max (min t 1099511627776) (tmL bs)/\max (min t 1099511627776) (tmL bs)<=1099511627776
    omega
 ·intro i hi
  rw [lla,List.length_singleton] at hi
  by_cases h:i < bs.length
  ·rw [List.getElem_append_left h,List.take_append_of_le_length (by omega)]
   exact hb.h i h
  ·obtain rfl:i=bs.length:=by omega
   rw [List.getElem_append_right (Nat.le_refl _),List.take_left]
   simp only [Nat.sub_self,List.getElem_singleton]
   refine⟨rfl,?_⟩
   show tmL bs<=max (min t 1099511627776) (tmL bs)
   omega
theorem ch_ok (hd:DOk d)(h:Ro x bs)(hl:bs.length < 190)(hw:WsG ws):ChOk x (slL bs) (chL nm ky d bs ws false):=by
 have o:=opI_L (nm:=nm) (ky:=ky) hd h.bg
 have h1:=o.hs
 have h2:=o.ms
 have h3:=o.ev
 have h4:=h.dv.n
 have h5:=h.rm
 have h6:roomD x.n=(x.n - 2) * 64:=rfl
 refine⟨h.dv,by rw [h.ws];decide,?_,?_,?_,rfl,?_,?_,o.st,hw.l,hw.t,?_⟩
 ·show (0:Int)<=((bs.length:Nat):Int)/\((bs.length:Nat):Int)<=1000000
  omega
 ·show (0:Int)<=(((lgB bs).length:Nat):Int)/\(((lgB bs).length:Nat):Int)<=1000000
  omega
 ·show (0:Int)<=((bs.length:Nat):Int)/\((bs.length:Nat):Int)<=1000000
  omega
 ·show (opC nm ky d bs).hs.length < (opC nm ky d bs).ms.length/\(opC nm ky d bs).ms.length<=100000
  omega
 ·show (opC nm ky d bs).ev.length<=100000
  omega
 ·show 0<=tmC (opC nm ky d bs)/\tmC (opC nm ky d bs)<=1099511627776
  rw [o.tm]
  exact tm_ok h.bg
theorem cuB_L (hd:DOk d)(hb:BsG bs){t:Int}:cuB (chL nm ky d bs ws false) t=nxB bs ws t:=by
 have o:=opI_L (nm:=nm) (ky:=ky) hd hb
 unfold cuB nxB
 have h1:(chL nm ky d bs ws false).hs.length=bs.length:=o.hs
 have h2:tmC (chL nm ky d bs ws false)=tmL bs:=o.tm
 rw [h1,h2]
 rfl
theorem don_L (hd:DOk d)(hb:BsG bs){b:BlkX}:donC { chL nm ky d bs ws false with ws:=[] } b=chL nm ky d (bs++[b]) [] false:=by
 have o:=opI_L (nm:=nm) (ky:=ky) hd hb
 have e:({ chL nm ky d bs ws false with ws:=[] }:ChX)=opC nm ky d bs:=chL_op hd hb
 rw [e,<- opC_snoc]
 unfold chL
 have hw:(opC nm ky d (bs++[b])).ws=[]:=by rw [opC_snoc];exact o.ws
 have hdd:(opC nm ky d (bs++[b])).dd=false:=by rw [opC_snoc];exact o.dd
 rw [<- hw,<- hdd]
inductive CuS (nm ky:Bs)(d:List Ent)(x:DvX)(bs:List BlkX)(ws:List Bs)(t:Int):DvX->SlX->ChX->Int->List Rep->Prop where
 | full (h:roomD x.n - (lgB bs).length < (recB (bkB (nxB bs ws t))).length):CuS nm ky d x bs ws t x (slL bs) (chL nm ky d bs ws false) 15 []
 | lost (y:DvX) (hy:y.n=x.n) (ha:x.ar=true) (h:Old y (slL bs) (slL (bs++[nxB bs ws t]))) (hr:((lgB (bs++[nxB bs ws t])).length:Int)<=roomD x.n):CuS nm ky d x bs ws t y { slL bs with br:=true } (chL nm ky d bs ws true) 14 []
 | yes (y:DvX) (hy:y.n=x.n) (ha:y.ar=x.ar) (h:Ro y (bs++[nxB bs ws t])):CuS nm ky d x bs ws t y (slL (bs++[nxB bs ws t])) (chL nm ky d (bs++[nxB bs ws t]) [] false) 0 (runR (stC (opC nm ky d bs)) (nxB bs ws t)).2.1
theorem cu_spec (hd:DOk d)(h:Ro x bs)(hl:bs.length < 189)(hw:WsG ws)(t:Int) :
  CuS nm ky d x bs ws t (cuQ x (slL bs) (chL nm ky d bs ws false) t).1 (cuQ x (slL bs) (chL nm ky d bs ws false) t).2.1 (cuC x (slL bs) (chL nm ky d bs ws false) t) (cuQ x (slL bs) (chL nm ky d bs ws false) t).2.2 (cuR x (slL bs) (chL nm ky d bs ws false) t):=by
 have hg:=nxB_g h.bg (by omega) hw t
 have hbl:=bkB_le (hg.g (nxB bs ws t) (by simp)).1
 have hbe:=cuB_L (nm:=nm) (ky:=ky) (ws:=ws) hd h.bg (t:=t)
 unfold cuC cuR
 have hq:cuQ x (slL bs) (chL nm ky d bs ws false) t=cmD x (slL bs) (bkB (nxB bs ws t)):=by unfold cuQ;rw [hbe]
 rw [hq,hbe]
 have hs:=cmD_spec (r:=bkB (nxB bs ws t)) (ro_log h (by omega))
 have hlen:((lgB (bs++[nxB bs ws t])).length:Int)=(lgB bs).length + (recB (bkB (nxB bs ws t))).length:=by
  rw [lgB_snoc,lla]
  omega
 have hst:stC (chL nm ky d bs ws false)=stC (opC nm ky d bs):=rfl
 have hroom:(cmD x (slL bs) (bkB (nxB bs ws t))).2.2≠15->¬ roomD x.n - (lgB bs).length < ((recB (bkB (nxB bs ws t))).length:Int):=by
  intro h1 h2
  apply h1
  unfold cmD
  rw [if_neg (show ¬ (slL bs).br=true from by show ¬ (false=true);decide),if_neg (by omega),if_pos (show roomD x.n - (slL bs).m.b < ((recB (bkB (nxB bs ws t))).length:Int) from h2)]
 generalize hz:cmD x (slL bs) (bkB (nxB bs ws t))=z at *
 rcases hs with⟨e,he⟩|⟨y,hy,ha,ho⟩|⟨y,hy,ha,hr,hL,hf,hk,hn,hw',hm⟩
 ·rcases he with⟨_,he⟩|⟨rfl,he⟩
  ·omega
  ·rw [if_neg (show ¬ ((15:Int)=0) by decide),if_neg (show ¬ ((15:Int)=0) by decide)]
   exact .full he
 ·rw [if_neg (show ¬ ((14:Int)=0) by decide),if_neg (show ¬ ((14:Int)=0) by decide)]
  rw [nx_slL] at ho
  have:=hroom (show (14:Int)≠15 by decide)
  exact .lost y hy ha ho (by omega)
 ·have hst2:=hroom (show (0:Int)≠15 by decide)
  rw [if_pos rfl,if_pos rfl,nx_slL,don_L hd h.bg,hst]
  have e:=congrArg SlX.m (nx_slL bs (nxB bs ws t))
  refine .yes y hy ha ⟨hk,hn,hw',by rw [hy];exact h.n,?_,by rw [hy];omega,hg⟩
  rw [lgB_snoc,<- show cmM (slL bs) (bkB (nxB bs ws t))=mkL (bs++[nxB bs ws t]) from e]
  exact hf
end

attribute [local irreducible] coinQ
set_option maxHeartbeats 4000000 in
instance (priority:=high) fnR18do20 {d:List Ent}{h t:Int}{x:TxX}{xs:List AV}{id:Option Value}[hx:Ents xs d]:Ans Tryz.prog GL 61 [.sl 2 xs id,txA x,int h,int t] ((DOk d/\TxB x)/\K20 x.k) (qA (coinQ d x)):=⟨fun hp=>by
 obtain⟨hq,hk⟩:=hp
 refine qE Tryz.func61 rfl Tryz.ntmps61 rfl (fun _ hs=>?_)
 rcases hk with h|h
 ·repeat' first|refine Zz ?_|intro _
  refine reE ?_
  rfl
 ·repeat' first|refine Zz ?_|intro _
  refine reE ?_
  rfl⟩
theorem fin_k20 {d:List Ent}{x:TxX}{h t:Int}(hk:K20 x.k):finQ d (coinQ d x)=doR d x h t:=by
 rcases hk with e|e
 ·rw [fin_fund e,do1 e]
 ·rw [fin_move e,do2 e]
attribute [local irreducible] doR
instance (priority:=high) fnR18Do20 {d:List Ent}{h t:Int}{x:TxX}{xs:List AV}{id:Option Value}[hx:Ents xs d]:Ans Tryz.prog GL 35 [.sl 2 xs id,txA x,int h,int t] ((DOk d/\TxB x)/\K20 x.k) (.tup [dSl (doR d x h t).1,repA (doR d x h t).2]):=⟨fun hp=>by
 have h':=hx.out
 subst h'
 refine qE Tryz.func35 rfl Tryz.ntmps35 rfl (fun _ hs=>?_)
 refine ac_as 0 Imp.sl ?_
 repeat' first|refine Zz ?_|intro _
 rw [<- fin_k20 hp.2]
 unfold finQ
 by_cases h:(coinQ d x).2.e=0
 ·rw [if_pos h,dZ (nni h)]
  repeat' first|refine Zz ?_|intro _
  refine reE ?_
  rfl
 ·rw [if_neg h,dT h]
  repeat' first|refine Zz ?_|intro _
  refine reE ?_
  rfl⟩
def xGn:TxX:=⟨1,[],[],[],[],[],0,⟨[],0,0,zeroH⟩,zeroH,⟨0,[],[],[120],⟨20,by decide⟩,[],[97,110,110],0,0⟩,[],0,⟨0,0,[]⟩,⟨0,[],[],⟨0,0,[]⟩,⟨0,0,[]⟩⟩⟩
def dGn:List Ent:=[⟨balK [97,110,110] [120],beB 20⟩,⟨totK [120],beB 20⟩]
theorem do_Gn:doR [] xGn 1 1=(dGn,rep0):=by kernel_rfl
theorem dGn_ok:DOk dGn:=⟨by simp [Srt,dGn];decide,by intro x hx;simp [dGn] at hx;rcases hx with rfl|rfl <;> decide,by decide⟩
theorem dGn_of:dictOf dGn=dGn:=by kernel_rfl
theorem xGn_b:TxB xGn:=⟨by decide,by decide,by decide,by decide,by decide,by decide,by decide,by decide,by decide,by decide,by decide,by decide,by decide,by decide,by decide⟩
set_option maxRecDepth 100000 in
set_option maxHeartbeats 2000000 in
instance fnGen20:Ans Tryz.prog GL 17 [] True (.sl 2 (dGn.map entA) none):=⟨fun _=>by
 refine qE Tryz.func17 rfl Tryz.ntmps17 rfl (fun _ hs=>?_)
 repeat' first|refine Zz ?_|intro _
 refine al_as 10 (v':=txA xGn) ?_ ?_
 ·show Imp _ (.agg 100 [int 1,str [],str [],str [],str [],str [],int 0,.agg 35 [str [],int 0,int 0,hA zeroH],hA zeroH,.agg 12 [int 0,str [],str [],.agg 7 [str [120],.agg 4 [.lit (.int .u64 20),.lit (.int .u64 0),.lit (.int .u64 0),.lit (.int .u64 0)],str [],str [97,110,110]],int 0,int 0],str [],int 0,.agg 3 [int 0,int 0,.sl 32 [] none],.agg 9 [int 0,.sl 2 [] none,.sl 2 [] none,.agg 3 [int 0,int 0,.sl 32 [] none],.agg 3 [int 0,int 0,.sl 32 [] none]]])
  exact ImpR.imp
 have hp:(DOk []/\TxB xGn)/\K20 xGn.k:=⟨⟨.nil,xGn_b⟩,.inl rfl⟩
 refine al_callI [.sl 2 [] none,txA xGn,int 1,int 1] (hc:=fnR18Do20 (d:=[]) (xs:=[]) (id:=none) (hx:=⟨rfl⟩)) (hp:=hp) ?_
 rw [do_Gn]
 repeat' first|refine Zz ?_|intro _
 refine reE ?_
 rfl⟩
end Go.Proofs.YtndhpgclmgpmoaaGreatDoor

namespace Go.Proofs.YtndhpgclmgpmoaaGreatDoor
open Go Go.RowKit Tw Av
def nmI (j:Nat):Bs:=match j with|0=>[97,110,110]|1=>[98,111,98]|2=>[99,97,116]|_=>[97,110,110]
def tyK (k:Int)(a i j:Nat):TxX:=⟨k,[],[],[],[],[],0,⟨[],0,0,zeroH⟩,zeroH,⟨0,[],[],[120],wOf a,nmI i,nmI j,0,0⟩,[],0,⟨0,0,[]⟩,⟨0,[],[],⟨0,0,[]⟩,⟨0,0,[]⟩⟩⟩
def tyX (n:Int):TxX:=tyK (if n / 128 % 4=1 then 1 else 2) (n % 8).toNat (n / 8 % 4).toNat (n / 32 % 4).toNat
def tyB (n:Int):Bs:=if n / 128 % 8=2 then [110,111,110,101] else txB (tyX n)
attribute [local irreducible] txB wOf
theorem tyAV_imp {k a:Int}{i j:Nat}(h0:0<=a)(h1:a < 8):Imp (.agg 100 [int k,str [],str [],str [],str [],str [],int 0,.agg 35 [str [],int 0,int 0,hA zeroH],hA zeroH,.agg 12 [int 0,str [],str [],.agg 7 [str [120],.agg 4 [.lit (.int .u64 a),.lit (.int .u64 0),.lit (.int .u64 0),.lit (.int .u64 0)],str (nmI i),str (nmI j)],int 0,int 0],str [],int 0,.agg 3 [int 0,int 0,nils],.agg 9 [int 0,nils,nils,.agg 3 [int 0,int 0,nils],.agg 3 [int 0,int 0,nils]]]) (txA (tyK k a.toNat i j)):=by
 have e:=wid_small h0 h1
 show Imp _ (.agg 100 [int k,str [],str [],str [],str [],str [],int 0,.agg 35 [str [],int 0,int 0,hA zeroH],hA zeroH,.agg 12 [int 0,str [],str [],.agg 7 [str [120],widA (wOf a.toNat),str (nmI i),str (nmI j)],int 0,int 0],str [],int 0,.agg 3 [int 0,int 0,.sl 32 [] none],.agg 9 [int 0,.sl 2 [] none,.sl 2 [] none,.agg 3 [int 0,int 0,.sl 32 [] none],.agg 3 [int 0,int 0,.sl 32 [] none]]])
 rw [e]
 exact ImpR.imp
theorem nmI_at {i:Nat}(h:i < 4):([str [97,110,110],str [98,111,98],str [99,97,116],str [97,110,110]]:List AV)[i]?=some (str (nmI i)):=by
 match i,h with
 | 0,_=>rfl
 | 1,_=>rfl
 | 2,_=>rfl
 | 3,_=>rfl
theorem zGap_w:GapW ⟨0,[],[],⟨0,0,[]⟩,⟨0,0,[]⟩⟩:=⟨⟨by decide,by decide,by decide,by decide⟩,⟨by decide,by decide,by decide,by decide⟩,by decide⟩
theorem tyK_w {k:Int}{a i j:Nat}(h:k<=16):TxW (tyK k a i j):=
 have z:(0:Int)<=9223372036854775807:=by decide
 ⟨Int.le_trans h (by decide),z,z,z,z,z,z,z,⟨Nat.zero_le _,z,z⟩,zGap_w⟩
set_option maxRecDepth 100000 in
set_option maxHeartbeats 4000000 in
instance fnTx20 {n:Int}:Ans Tryz.prog GL 23 [int n] True (str (tyB n)):=⟨fun _=>by
 obtain⟨i,hi,hi4⟩:∃ i:Nat,n / 8 % 4=(i:Int)/\i < 4:=⟨(n / 8 % 4).toNat,by omega,by omega⟩
 obtain⟨j,hj,hj4⟩:∃ j:Nat,n / 32 % 4=(j:Int)/\j < 4:=⟨(n / 32 % 4).toNat,by omega,by omega⟩
 have ha0:0<=n % 8:=by omega
 have ha1:n % 8 < 8:=by omega
 refine qE Tryz.func23 rfl Tryz.ntmps23 rfl (fun _ hs=>?_)
 repeat' first|refine Zz ?_|intro _
 apply obl_read [];exact rfl;exact rfl;kernel_rfl;intro _ _
 refine al_mask7 ?_
 exact al_nil (ae_got rfl rfl)
 repeat' first|refine Zz ?_|intro _
 apply obl_read [];exact rfl;exact rfl;kernel_rfl;intro _ _
 refine al_idxA i ?_ rfl rfl hi hi4
 exact al_nil (ae_got rfl rfl)
 apply obl_read [0];exact rfl;exact rfl;kernel_rfl;intro _ _
 refine al_loadE (j:=i) (nmI_at hi4) ?_
 exact al_nil (ae_got rfl rfl)
 repeat' first|refine Zz ?_|intro _
 apply obl_read [];exact rfl;exact rfl;kernel_rfl;intro _ _
 refine al_idxA j ?_ rfl rfl hj hj4
 exact al_nil (ae_got rfl rfl)
 apply obl_read [0];exact rfl;exact rfl;kernel_rfl;intro _ _
 refine al_loadE (j:=j) (nmI_at hj4) ?_
 exact al_nil (ae_got rfl rfl)
 repeat' first|refine Zz ?_|intro _
 unfold tyB tyX
 have ei:(n / 8 % 4).toNat=i:=by omega
 have ej:(n / 32 % 4).toNat=j:=by omega
 rw [ei,ej]
 by_cases k1:n / 128 % 4=1
 ·rw [if_neg (show ¬ n / 128 % 8=2 by omega),if_pos k1]
  have hw:TxW (tyK 1 (n % 8).toNat i j):=tyK_w (by decide)
  rw [dT (show n / ((2 ^ 7:Nat):Int) % 4=1 from k1)]
  repeat' first|refine Zz ?_|intro _
  refine al_mask7 ?_
  repeat' first|refine Zz ?_|intro _
  rw [dZ (show ¬ n / ((2 ^ 7:Nat):Int) % 8=2 from fun (e:n / 128 % 8=2)=>by omega)]
  repeat' first|refine Zz ?_|intro _
  refine al_as 33 (v':=txA (tyK 1 (n % 8).toNat i j)) (tyAV_imp ha0 ha1) ?_
  repeat' first|refine Zz ?_|intro _
  refine reE ?_
  rfl
 ·rw [if_neg k1]
  have hw:TxW (tyK 2 (n % 8).toNat i j):=tyK_w (by decide)
  rw [dZ (show ¬ n / ((2 ^ 7:Nat):Int) % 4=1 from k1)]
  by_cases k2:n / 128 % 8=2
  ·rw [if_pos k2]
   repeat' first|refine Zz ?_|intro _
   refine al_mask7 ?_
   repeat' first|refine Zz ?_|intro _
   rw [dT (show n / ((2 ^ 7:Nat):Int) % 8=2 from k2)]
   repeat' first|refine Zz ?_|intro _
   refine reE ?_
   rfl
  ·rw [if_neg k2]
   repeat' first|refine Zz ?_|intro _
   refine al_mask7 ?_
   repeat' first|refine Zz ?_|intro _
   rw [dZ (show ¬ n / ((2 ^ 7:Nat):Int) % 8=2 from k2)]
   repeat' first|refine Zz ?_|intro _
   refine al_as 33 (v':=txA (tyK 2 (n % 8).toNat i j)) (tyAV_imp ha0 ha1) ?_
   repeat' first|refine Zz ?_|intro _
   refine reE ?_
   rfl⟩
end Go.Proofs.YtndhpgclmgpmoaaGreatDoor

namespace Go.Proofs.YtndhpgclmgpmoaaGreatDoor
open Go Go.RowKit Tw Av
theorem nmI_le (i:Nat):(nmI i).length=3:=by
 unfold nmI
 split <;> rfl
theorem tyK_g {k:Int}{a i j:Nat}(h0:0<=k)(h1:k<=16):TxG (tyK k a i j):=
 have z:(0:Int)<=0/\(0:Int)<=1099511627776:=by decide
 have n0:([]:Bs).length<=4000:=by decide
 have n1:([120]:Bs).length<=4000:=by decide
 have nm:∀ i,(nmI i).length<=4000:=fun i=>by rw [nmI_le];decide
 ⟨⟨h0,h1⟩,n0,n0,n0,n0,n0,z,n0,z,z,z,z,z,z,n0,n0,n1,nm i,nm j,n0,zeroP_pg,zeroG_gg,nlb (show Nat.ble (gapB zeroG).length 4000=true by kernel_rfl)⟩
theorem ty_len2:([1,2]:List Int).all (fun k=>(List.range 8).all fun a=>(List.range 4).all fun i=>(List.range 4).all fun j=>Nat.ble (txB (tyK k a i j)).length 1000)=true:=by kernel_rfl
theorem ty_len1 {k:Int}{a i j:Nat}(hk:k=1\/k=2)(ha:a < 8)(hi:i < 4)(hj:j < 4):(txB (tyK k a i j)).length<=1000:=by
 have h1:=List.all_eq_true.1 ty_len2 k (by rcases hk with rfl|rfl <;> simp)
 have h2:=List.all_eq_true.1 h1 a (List.mem_range.2 ha)
 have h3:=List.all_eq_true.1 h2 i (List.mem_range.2 hi)
 exact nlb (List.all_eq_true.1 h3 j (List.mem_range.2 hj))
theorem ty_le (n:Int):(tyB n).length<=1000:=by
 unfold tyB
 split
 ·decide
 ·refine ty_len1 ?_ (by omega) (by omega) (by omega)
  split
  ·exact .inl rfl
  ·exact .inr rfl
theorem ty_tx (n:Int):Tx20 (tyB n):=by
 refine⟨Nat.le_trans (ty_le n) (by decide),fun e=>?_⟩
 unfold tyB at e ⊢
 split at e
 ·rw [rtx_short (by decide)] at e
  cases e
 ·rename_i h
  rw [if_neg h]
  have hk:(0:Int)<=(if n / 128 % 4=1 then 1 else 2)/\(if n / 128 % 4=1 then (1:Int) else 2)<=16:=by split <;> decide
  have:=(rtx_txB (x:=tyX n) (tyK_g hk.1 hk.2) (txB_len _)).1
  rw [this]
  show K20 (if n / 128 % 4=1 then 1 else 2)
  split
  ·exact .inl rfl
  ·exact .inr rfl
end Go.Proofs.YtndhpgclmgpmoaaGreatDoor
