/- a disk, walked: steps; writes and flushes -/
import Derived.Test.YtndhpgclmgpmoaaGreatDoorA22
import Derived.Test.YtndhpgclmgpmoaaGreatDoorA25
import Derived.Test.YtndhpgclmgpmoaaGreatDoorA27
import Derived.Test.YtndhpgclmgpmoaaGreatDoorA28
namespace Go.Proofs.YtndhpgclmgpmoaaGreatDoor
open Go Go.RowKit Tw Av
abbrev mkA (m:MkX):AV:=.agg 3 [int m.e,int m.b,int m.c]
def nmM (m:MkX)(i:Nat):Nat:=if i=0 then m.e.toNat else if i=1 then m.b.toNat else m.c.toNat
def ptB (m:MkX)(j:Nat):UInt8:=UInt8.ofNat (dg (nmM m (j / 8)) (7 - j % 8))
def arF (F:Nat->UInt8):Bs:=(List.range 64).map F
def fP (m:MkX)(i k:Nat):Nat->UInt8:=fun j=>if j < 8 * i\/(8 * i + 8 - k<=j/\j < 8 * i + 8) then ptB m j else 0
theorem arF_len (F:Nat->UInt8):(arF F).length=64:=by simp [arF]
theorem arF_set {F G:Nat->UInt8}{j:Nat}{v:UInt8}(h1:G j=v)(h2:∀ i,i≠j->G i=F i):(arF F).set j v=arF G:=by
 apply List.ext_getElem
 ·simp [arF]
 ·intro i a b
  rw [List.getElem_set]
  simp only [arF,List.getElem_map,List.getElem_range]
  by_cases h:j=i
  ·subst h
   rw [if_pos rfl,h1]
  ·rw [if_neg h,h2 i (fun e=>h e.symm)]
theorem arF_eq {F G:Nat->UInt8}(h:∀ i,i < 64->F i=G i):arF F=arF G:=List.map_congr_left fun i hi=>h i (List.mem_range.1 hi)
theorem fP_set {m:MkX}{i k:Nat}(hk:k < 8):(arF (fP m i k)).set (8 * i + 7 - k) (UInt8.ofNat (nmM m i / 256 ^ k))=arF (fP m i (k + 1)):=by
 refine arF_set ?_ ?_
 ·unfold fP
  rw [if_pos (.inr ⟨by omega,by omega⟩)]
  unfold ptB
  rw [show (8 * i + 7 - k) / 8=i by omega,show 7 - (8 * i + 7 - k) % 8=k by omega]
  unfold dg
  apply UInt8.toNat_inj.1
  rw [UInt8.toNat_ofNat',UInt8.toNat_ofNat']
  omega
 ·intro j hj
  unfold fP
  by_cases h:j < 8 * i\/(8 * i + 8 - k<=j/\j < 8 * i + 8)
  ·rw [if_pos h,if_pos (by omega)]
  ·rw [if_neg h,if_neg (by omega)]
theorem fP_next {m:MkX}{i:Nat}:arF (fP m i 8)=arF (fP m (i + 1) 0):=arF_eq fun j _=>by
 unfold fP
 by_cases h:j < 8 * i\/(8 * i + 8 - 8<=j/\j < 8 * i + 8)
 ·rw [if_pos h,if_pos (by omega)]
 ·rw [if_neg h,if_neg (by omega)]
theorem fP_pk {m:MkX}:layA (arF (fP m 3 0)) 56 0 8=pkM m:=rfl
set_option maxHeartbeats 2000000 in
instance fnSlPack {m:MkX}:Ans Tryz.prog GL 72 [mkA m] (MkB m) (str (pkM m)):=⟨fun hm=>by
 have he:=hm.e
 have hb:=hm.b
 have hc:=hm.c
 refine qE Tryz.func72 rfl Tryz.ntmps72 rfl (fun _ hs=>?_)
 repeat' first|refine Zz ?_|intro _
 rename_i g1 g3
 refine ac_asV (g:=g3) (v':=.agg 64 ((arF (fP m 0 0)).map u8A)) (fun ok w cs h=>h) ?_
 refine ac_loop (α:=Nat) (fun i=>[(3,ptr g3),(13,.agg 3 [int m.e,int m.b,int m.c]),(14,int i)]) (fun i=>[.var g3 190 (.agg 64 ((arF (fP m i 0)).map u8A))]) (fun i=>i<=3) (fun i=>3 - i) 0 ⟨rfl,rfl,rfl,trivial⟩ (by repeat (first|exact List.nil_sublist _|exact List.Sublist.refl _|apply List.Sublist.cons_cons|apply List.Sublist.cons)) (Nat.zero_le _) ?_
 intro i hi
 by_cases hi':i < 3
 rotate_left
 ·obtain rfl:i=3:=by omega
  repeat' first|refine Zz ?_|intro _
  apply obl_read [];exact rfl;exact rfl;kernel_rfl
  ·intro _ _
   refine al_sliceA2 56 64 ?_
   exact al_nil (ae_got rfl rfl)
  apply obl_read [];exact rfl;exact rfl;kernel_rfl
  ·intro _ _
   refine al_sliceA2 0 8 ?_
   exact al_nil (ae_got rfl rfl)
  apply obl_write [0];exact rfl;exact rfl;kernel_rfl
  ·intro _ _
   refine al_copyAA (l:=arF (fP m 3 0)) 8 rfl ?_ (h1:=by rw [arF_len];decide) (h2:=by rw [arF_len];decide)
   exact al_nil (ae_got rfl rfl)
  ·exact rfl
  ·exact rfl
  rw [fP_pk]
  repeat' first|refine Zz ?_|intro _
  refine reE ?_
  rfl
 have hnm:∃ n:Int,[int m.e,int m.b,int m.c][i]?=some (int n)/\(nmM m i:Int)=n/\0<=n:=by
  rcases i with _|_|_|i
  ·exact⟨m.e,rfl,Int.toNat_of_nonneg he.1,he.1⟩
  ·exact⟨m.b,rfl,Int.toNat_of_nonneg hb.1,hb.1⟩
  ·exact⟨m.c,rfl,Int.toNat_of_nonneg hc.1,hc.1⟩
  ·omega
 obtain⟨n,hn1,hn2,hn3⟩:=hnm
 repeat' first|refine Zz ?_|intro _
 refine al_index (nn:=3) (ps:=[int m.e,int m.b,int m.c]) i ?_ rfl hi' hn1 (by simp [AV.size]) rfl
 repeat' first|refine Zz ?_|intro _
 refine ac_loop (α:=Nat) (fun k=>[(3,ptr g3),(13,.agg 3 [int m.e,int m.b,int m.c]),(14,int i),(4,int i),(5,int n),(18,int k)]) (fun k=>[.var g3 190 (.agg 64 ((arF (fP m i k)).map u8A))]) (fun k=>k<=8) (fun k=>8 - k) 0 ⟨rfl,rfl,rfl,rfl,rfl,rfl,trivial⟩ slr (Nat.zero_le _) ?_
 intro k hk
 by_cases hk':k < 8
 rotate_left
 ·obtain rfl:k=8:=by omega
  rw [fP_next]
  repeat' first|refine Zz ?_|intro _
  exact ae_round (i + 1) ⟨rfl,rfl,rfl,trivial⟩ slr hi' (by omega)
 have hst:=fP_set (m:=m) (i:=i) hk'
 have hml:((arF (fP m i k)).map u8A).length=64:=by rw [llm,arF_len]
 repeat' first|refine Zz ?_|intro _
 refine al_as 28 (v:=int (max n 0)) (v':=int (nmM m i:Nat)) (Imp.of_eq (by rw [hn2,Int.max_eq_left hn3])) ?_
 refine al_shrC (k:=.i64) (n:=8 * k) ?_ (hb:=by show (8:Int) * k=((8 * k:Nat):Int);omega) (hn:=Nat.ble_eq_true_of_le (show 8 * k<=64 by omega))
 rw [pow_8,<- Int.natCast_ediv]
 refine al_convI ?_
 rw [u8_wrap]
 refine al_idxA (8 * i + 7 - k) ?_
 refine al_storeE (j:=8 * i + 7 - k) (by rw [hml];omega) ?_
 rw [<- List.map_set,hst]
 repeat' first|refine Zz ?_|intro _
 exact ae_round (k + 1) ⟨rfl,rfl,rfl,rfl,rfl,rfl,trivial⟩ slr hk' (by omega)⟩
attribute [local irreducible] pkM
def nmS (s:Bs)(j:Nat):Nat:=nm8 ((s.drop (8 * j)).take 8)
theorem rdM_is (s:Bs):rdM s=⟨nmS s 0,nmS s 1,nmS s 2⟩:=rfl
abbrev mk3 (s:Bs)(i:Nat):List AV:=[int (if 0 < i then nmS s 0 else 0:Nat),int (if 1 < i then nmS s 1 else 0:Nat),int (if 2 < i then nmS s 2 else 0:Nat)]
theorem mk3_set {s:Bs}{i:Nat}(h:i < 3):(mk3 s i).set i (int (nmS s i))=mk3 s (i + 1):=by
 rcases i with _|_|_|i
 ·rfl
 ·rfl
 ·rfl
 ·omega
theorem un_no {s:Bs}{i:Nat}(h:i < 3)(hn:¬ (nmS s i:Int)<=1099511627776):unM s=none:=by
 unfold unM
 rw [if_neg]
 rintro⟨_,h2,_⟩
 rw [rdM_is] at h2
 have:=of_decide_eq_true h2
 rcases i with _|_|_|i
 ·exact hn this.1
 ·exact hn this.2.1
 ·exact hn this.2.2
 ·omega
set_option maxHeartbeats 4000000 in
instance fnSlUnpack {s:Bs}:Ans Tryz.prog GL 84 [str s] True (.tup [mkA ((unM s).getD mk0),boo (unM s).isSome]):=⟨fun _=>by
 refine qE Tryz.func84 rfl Tryz.ntmps84 rfl (fun _ hs=>?_)
 repeat' first|refine Zz ?_|intro _
 by_cases h64:s.length=64
 rotate_left
 ·have hu:unM s=none:=by
   unfold unM
   rw [if_neg (fun h=>h64 h.1)]
  rw [hu]
  repeat' first|refine Zz ?_|intro _
  refine reE ?_
  rfl
 repeat' first|refine Zz ?_|intro _
 rename_i g2 g4
 refine ac_loop (α:=Nat) (fun i=>[(0,str s),(2,ptr g2),(4,ptr g4),(5,boo true),(15,int i)]) (fun i=>[.var g4 191 (.agg 3 (mk3 s i)),.var g2 119 (mkA mk0)]) (fun i=>i<=3/\∀ j,j < i->nmS s j<=1099511627776) (fun i=>3 - i) 0 ⟨rfl,rfl,rfl,rfl,rfl,trivial⟩ slr ⟨Nat.zero_le _,fun j h=>absurd h (by omega)⟩ ?_
 rintro i ⟨hi,hN⟩
 by_cases hi':i < 3
 rotate_left
 ·obtain rfl:i=3:=by omega
  have h0:=hN 0 (by omega)
  have h1:=hN 1 (by omega)
  have h2:=hN 2 (by omega)
  obtain⟨M,hM⟩:∃ M,rdM s=M:=⟨_,rfl⟩
  have hB:MkB M:=by
   rw [<- hM]
   exact⟨by rw [rdM_is];dsimp only;omega,by rw [rdM_is];dsimp only;omega,by rw [rdM_is];dsimp only;omega⟩
  have hok:okM (rdM s)=true:=by
   rw [hM]
   exact dT ⟨hB.e.2,hB.b.2,hB.c.2⟩
  have hu:unM s=if pkM M=s then some M else none:=by
   unfold unM
   rw [hM] at hok ⊢
   by_cases h:pkM M=s
   ·rw [if_pos ⟨h64,hok,h⟩,if_pos h]
   ·rw [if_neg (fun e=>h e.2.2),if_neg h]
  have hA:AV.agg 3 (mk3 s 3)=mkA M:=by
   rw [<- hM]
   rfl
  rw [hA]
  repeat' first|refine Zz ?_|intro _
  rw [hu]
  refine ac_cond (fun h=>?_) (fun h=>?_)
  ·rw [if_neg h]
   repeat' first|refine Zz ?_|intro _
   refine reE ?_
   rfl
  ·rw [if_pos (Classical.not_not.1 h)]
   repeat' first|refine Zz ?_|intro _
   refine reE ?_
   rfl
 repeat' first|refine Zz ?_|intro _
 refine al_sliceS (8 * i) (8 * i + 8) ?_
 have hc:((s.take (8 * i + 8)).drop (8 * i)).length=8:=by rw [List.length_drop,List.length_take];omega
 have hnm:nmS s i=lmC ((s.take (8 * i + 8)).drop (8 * i)) 8:=by
  unfold nmS nm8 lmC
  rw [List.drop_take,show 8 * i + 8 - 8 * i=8 by omega,List.take_take,Nat.min_self]
 generalize (s.take (8 * i + 8)).drop (8 * i)=c at *
 have hmc:(c.map fun c=>AV.lit (u8v c)).length=8:=by rw [llm,hc]
 repeat' first|refine Zz ?_|intro _
 refine ac_loop (α:=Nat) (fun k=>[(0,str s),(2,ptr g2),(4,ptr g4),(5,boo true),(15,int i),(6,int i),(7,.lit (.int .u64 (lmC c k))),(25,.sl 1 (c.map fun c=>.lit (u8v c)) none),(26,int ((c.map fun c=>AV.lit (u8v c)).length)),(27,int k)])
  (fun k=>[.var g4 191 (.agg 3 (mk3 s i)),.var g2 119 (mkA mk0)]) (fun k=>k<=8) (fun k=>8 - k) 0 ⟨rfl,rfl,rfl,rfl,rfl,rfl,rfl,rfl,rfl,rfl,trivial⟩ slr (Nat.zero_le _) ?_
 intro k hk
 by_cases hk':k < 8
 ·have hkc:k < c.length:=by omega
  have hst:=lmC_step hkc
  have hlt8:=lmC_lt c k
  have hlt9:=lmC_lt c (k + 1)
  have hpw:256 ^ (k + 1)<=18446744073709551616:=Nat.pow_le_pow_right (n:=256) (j:=8) (by decide) (by omega)
  have hby:=c[k].toNat_lt
  repeat' first|refine Yz ?_|intro _
  refine ae_as 7 (v:=.lit (.int .u64 ((lmC c k:Int) * 256 + c[k].toNat))) (v':=.lit (.int .u64 (lmC c (k + 1)))) (Imp.of_eq (by rw [hst,Int.natCast_add,Int.natCast_mul];rfl)) ?_
  exact ae_round (k + 1) ⟨rfl,rfl,rfl,rfl,rfl,rfl,rfl,rfl,rfl,rfl,trivial⟩ slr hk' (by omega)
 ·obtain rfl:k=8:=by omega
  rw [<- hnm]
  by_cases hn:nmS s i<=1099511627776
  ·repeat' first|refine Zz ?_|intro _
   refine al_idxA i ?_
   refine al_storeE (ps:=mk3 s i) (j:=i) (show i < 3 from hi') ?_
   rw [mk3_set hi']
   repeat' first|refine Zz ?_|intro _
   refine ae_as 5 (v:=boo (decide ((nmS s i:Int)<=1099511627776))) (v':=boo true) (Imp.of_eq (by rw [dT (by omega)])) ?_
   refine ae_round (i + 1) ⟨rfl,rfl,rfl,rfl,rfl,trivial⟩ slr ⟨hi',fun j hj=>?_⟩ (by omega)
   by_cases e:j=i
   ·rw [e];exact hn
   ·exact hN j (by omega)
  ·rw [un_no hi' (by omega)]
   repeat' first|refine Zz ?_|intro _
   refine reE ?_
   rfl⟩
attribute [local irreducible] unM mk0
instance fnSlNewest {a b:Bs}:Ans Tryz.prog GL 46 [str a,str b] True (mkA (nwM a b)):=⟨fun _=>by
 refine qE Tryz.func46 rfl Tryz.ntmps46 rfl (fun _ hs=>?_)
 repeat' first|refine Zz ?_|intro _
 unfold nwM
 refine ac_cond (fun h=>?_) (fun h=>?_)
 ·rw [if_pos h]
  repeat' first|refine Zz ?_|intro _
  refine reE ?_
  rfl
 ·rw [if_neg h]
  repeat' first|refine Zz ?_|intro _
  refine reE ?_
  rfl⟩
instance fnSlRoom {g gm:Nat}{x:DvX}{vw:Value}:AnsM Tryz.prog GL 47 g [] 83 (dvA gm x vw) (0<=x.n/\x.n<=4096) (int (roomD x.n)) (dvA gm x vw):=⟨fun hn=>by
 refine qE Tryz.func47 rfl Tryz.ntmps47 rfl (fun _ hs=>?_)
 repeat' first|refine Zz ?_|intro _
 exact reK _ ⟨rfl,rfl⟩ slr⟩
abbrev slA (gd:Nat)(s:SlX):AV:=.agg 6 [ptr gd,mkA s.m,str (endS s.l),boo s.br]
instance fnSlBroken {g gd:Nat}{s:SlX}:AnsM Tryz.prog GL 62 g [] 133 (slA gd s) True (boo s.br) (slA gd s):=⟨fun _=>by
 refine qE Tryz.func62 rfl Tryz.ntmps62 rfl (fun _ hs=>?_)
 repeat' first|refine Zz ?_|intro _
 cases s.br
 ·repeat' first|refine Zz ?_|intro _
  exact reK _ ⟨rfl,rfl⟩ slr
 ·repeat' first|refine Zz ?_|intro _
  exact reK _ ⟨rfl,rfl⟩ slr⟩
structure SlI extends DvI where
 gs:Nat
abbrev slM (I:SlI)(x:DvX)(s:SlX):List Av.Piece:=.var I.gs 133 (slA I.gd s)::dvM I.toDvI x
theorem fnSlsRoom {I:SlI}{x:DvX}{s:SlX}(hn:0<=x.n/\x.n<=4096)(hb:0<=s.m.b/\s.m.b<=1099511627776):Av.Spec Tryz.prog GL 64 [ptr I.gs] (slM I x s) fun u m=>u=int (roomD x.n - s.m.b)/\m=slM I x s:=by
 have hr:-128<=roomD x.n/\roomD x.n<=1000000:=by unfold roomD;omega
 refine qE Tryz.func64 rfl Tryz.ntmps64 rfl (fun _ hs=>?_)
 repeat' first|refine Zz ?_|intro _
 exact reK _ ⟨rfl,rfl⟩ slr
end Go.Proofs.YtndhpgclmgpmoaaGreatDoor

namespace Go.Proofs.YtndhpgclmgpmoaaGreatDoor
open Go Go.RowKit Tw Av
set_option maxHeartbeats 1000000 in
theorem step_spec {f1 f2:FuncId}[FnB Tryz.prog f1][FnB Tryz.prog f2]{cs1 cs2:List Value}{I:DvI}{x:DvX}{A:List Av.Piece}{D L:DvX->DvX}(hlf:0<=x.lf/\x.lf<=1000000)(hc1:∀ v ∈ cs1,v.oneCell'=true)(hc2:∀ v ∈ cs2,v.oneCell'=true)
  (h1:Av.Spec Tryz.prog GL f1 (cs1.map .lit) (dvM I (dvStep x)++A) fun u m=>u=.tup []/\∃ v,m=dvM { I with vw:=v } (D (dvStep x))++A) (h2:Av.Spec Tryz.prog GL f2 (cs2.map .lit) (dvM I (dvOff x)++A) fun u m=>u=.tup []/\∃ v,m=dvM { I with vw:=v } (L (dvOff x))++A) :
  Av.Spec Tryz.prog GL 112 [ptr I.gd,fnv f1 cs1,fnv f2 cs2] (dvM I x++A) fun u m=>u=int (if dvMay x=false then 14 else 0)/\∃ v,m=dvM { I with vw:=v } (if dvMay x=false then L (dvOff x) else D (dvStep x))++A:=by
 obtain⟨n,es,ck,ws,on,ar,lf,st⟩:=x
 dsimp only at hlf
 refine qE Tryz.func112 rfl Tryz.ntmps112 rfl (fun _ hs=>?_)
 unfold dvMay
 dsimp only
 cases ar
 ·repeat' first|refine Zz ?_|intro _
  refine al_arith ?_
  repeat' first|refine Zz ?_|intro _
  refine al_callVW (args:=[]) h1 (fun u m1 hh=>?_) (hcs:=hc1)
  obtain⟨rfl,v,rfl⟩:=hh
  repeat' first|refine Zz ?_|intro _
  exact reK _ ⟨rfl,v,rfl⟩ slr
 ·by_cases hl:lf=0
  ·subst hl
   repeat' first|refine Zz ?_|intro _
   refine al_callVW (args:=[]) h2 (fun u m1 hh=>?_) (hcs:=hc2)
   obtain⟨rfl,v,rfl⟩:=hh
   repeat' first|refine Zz ?_|intro _
   exact reK _ ⟨rfl,v,rfl⟩ slr
  ·rw [dZ hl]
   repeat' first|refine Zz ?_|intro _
   refine al_arith ?_
   repeat' first|refine Zz ?_|intro _
   refine al_callVW (args:=[]) h1 (fun u m1 hh=>?_) (hcs:=hc1)
   obtain⟨rfl,v,rfl⟩:=hh
   repeat' first|refine Zz ?_|intro _
   exact reK _ ⟨rfl,v,rfl⟩ slr
abbrev bxM (T3 T4 T5:TypeId)(g3 g4 g5:Nat)(gd:Nat)(a:Int)(s:Bs):List Av.Piece:=[.var g5 T5 (str s),.var g4 T4 (int a),.var g3 T3 (ptr gd)]
theorem fnDvPut {I:DvI}{x:DvX}{T3 T4 T5:TypeId}{g3 g4 g5:Nat}{a:Int}{s:Bs}(hl:x.ws.length<=1000000):Av.Spec Tryz.prog GL 115 [ptr g3,ptr g4,ptr g5] (dvM I x++bxM T3 T4 T5 g3 g4 g5 I.gd a s) fun u m=>u=.tup []/\∃ v,m=dvM { I with vw:=v } (dvPut x (a,s))++bxM T3 T4 T5 g3 g4 g5 I.gd a s:=by
 have hm:(x.ws.map wrA).length=x.ws.length:=llm _
 refine qE Tryz.func115 rfl Tryz.ntmps115 rfl (fun _ hs=>?_)
 repeat' first|refine Zz ?_|intro _
 apply obl_fresh [2];exact rfl;exact rfl;kernel_rfl;kernel_rfl
 intro _ _
 refine al_append (fun v'=>?_)
 refine al_nil (ae_fresh [.tail 114 2 v'] [] rfl rfl lpr rfl ?_)
 repeat' first|refine Zz ?_|intro _
 refine reN _ ⟨rfl,v',?_⟩ slr
 unfold dvPut
 dsimp only [dvM,dvA]
 rw [List.map_append]
 rfl
attribute [local irreducible] dvHas
set_option maxHeartbeats 1000000 in
theorem fnDvWrite {I:DvI}{x:DvX}{a:Int}{s:Bs}(hlf:0<=x.lf/\x.lf<=1000000)(hl:x.ws.length<=1000000):Av.Spec Tryz.prog GL 71 [ptr I.gd,int a,str s] (dvM I x) fun u m=>u=int (dvWr x a s).2/\∃ v,m=dvM { I with vw:=v } (dvWr x a s).1:=by
 refine qE Tryz.func71 rfl Tryz.ntmps71 rfl (fun _ hs=>?_)
 repeat' first|refine Zz ?_|intro _
 rename_i g3 g4 g5
 unfold dvWr
 cases hon:x.on
 ·rw [if_pos rfl]
  repeat' first|refine Zz ?_|intro _
  refine reK (dvM I x) ⟨rfl,I.vw,rfl⟩ ?_
  exact sbl
 rw [if_neg (by decide)]
 repeat' first|refine Zz ?_|intro _
 cases hh:dvHas x a
 ·rw [if_pos (.inl rfl)]
  repeat' first|refine Zz ?_|intro _
  refine reK (dvM I x) ⟨rfl,I.vw,rfl⟩ ?_
  exact sbl
 repeat' first|refine Zz ?_|intro _
 by_cases h64:s.length=64
 ·rw [if_neg (by rintro (h|h);cases h;exact h h64),h64]
  have hcs:∀ v ∈ [Value.pointer (some ⟨g3,0,none⟩),.pointer (some ⟨g4,0,none⟩),.pointer (some ⟨g5,0,none⟩)],v.oneCell'=true:=by simp [Value.oneCell']
  repeat' first|refine Zz ?_|intro _
  refine al_makeFunc (vs:=[.pointer (some ⟨g3,0,none⟩),.pointer (some ⟨g4,0,none⟩),.pointer (some ⟨g5,0,none⟩)]) ?_
  repeat' first|refine Zz ?_|intro _
  refine al_swp (bxM _ _ _ g3 g4 g5 I.gd a s) (dvM I x) ?_
  refine al_callW (step_spec (D:=fun x=>dvPut x (a,s)) (L:=fun x=>dvPut x (a,s)) hlf hcs hcs (fnDvPut hl) (fnDvPut hl)) (fun u m1 hh=>?_)
  obtain⟨rfl,v,rfl⟩:=hh
  cases hm:dvMay x
  ·rw [if_pos rfl,if_pos rfl,if_pos rfl]
   repeat' first|refine Zz ?_|intro _
   refine reK (dvM { I with vw:=v } (dvPut (dvOff x) (a,s))) ⟨rfl,v,rfl⟩ ?_
   exact sbl
  ·rw [if_neg (by decide),if_neg (by decide),if_neg (by decide)]
   repeat' first|refine Zz ?_|intro _
   refine reK (dvM { I with vw:=v } (dvPut (dvStep x) (a,s))) ⟨rfl,v,rfl⟩ ?_
   exact sbl
 ·rw [if_pos (.inr h64)]
  repeat' first|refine Zz ?_|intro _
  refine reK (dvM I x) ⟨rfl,I.vw,rfl⟩ ?_
  exact sbl
theorem imp_dvw {n:Int}{gm:Nat}{on ar:Bool}{lf st:Int}:ImpC (.agg 7 [int n,mpV gm,.lit (.slice none 0 0),boo on,boo ar,int lf,int st]) (.agg 7 [int n,mpV gm,.sl 2 [] (some (.slice none 0 0)),boo on,boo ar,int lf,int st]):=(inferInstance:ImpT _ _).imp
def kpN (x:DvX)(k:Nat):DvX:=(x.ws.take k).foldl dvKeep x
theorem kpN_succ {x:DvX}{k:Nat}(h:k < x.ws.length):kpN x (k + 1)=dvKeep (kpN x k) x.ws[k]:=by
 unfold kpN
 rw [<- List.take_append_getElem h,List.foldl_append]
 rfl
set_option maxHeartbeats 1000000 in
theorem fnDvFlush1 {I:DvI}{x:DvX}{T1:TypeId}{g1:Nat}(hl:x.ws.length<=1000000):Av.Spec Tryz.prog GL 113 [ptr g1] (dvM I x++[.var g1 T1 (ptr I.gd)]) fun u m=>u=.tup []/\∃ v,m=dvM { I with vw:=v } (dvFl x)++[.var g1 T1 (ptr I.gd)]:=by
 have hm:(x.ws.map wrA).length=x.ws.length:=llm _
 refine qE Tryz.func113 rfl Tryz.ntmps113 rfl (fun _ hs=>?_)
 repeat' first|refine Zz ?_|intro _
 rw [hm]
 refine ac_loop (α:=Nat) (fun k=>[(0,ptr g1),(6,.sl 2 (x.ws.map wrA) (some I.vw)),(7,int x.ws.length),(8,int k)]) (fun k=>dvM I (kpN x k)++[.var g1 T1 (ptr I.gd)]) (fun k=>k<=x.ws.length) (fun k=>x.ws.length - k) 0 ⟨rfl,rfl,rfl,rfl,trivial⟩ slr (Nat.zero_le _) ?_
 intro k hk
 by_cases hk':k < x.ws.length
 ·repeat' first|refine Zz ?_|intro _
  rename_i g2
  refine al_callF [_] (dvM I (kpN x k)) [_] (fnDvKeep (w:=x.ws[k])) (fun u m1 hh=>?_)
  obtain⟨rfl,rfl⟩:=hh
  rw [<- kpN_succ hk']
  repeat' first|refine Zz ?_|intro _
  exact ae_round (k + 1) ⟨rfl,rfl,rfl,rfl,trivial⟩ (List.sublist_cons_self _ _) hk' (by omega)
 ·obtain rfl:k=x.ws.length:=by omega
  repeat' first|refine Zz ?_|intro _
  refine ae_asV (g:=I.gd) imp_dvw ?_
  refine ae_st (fun ok w h=>h.full 114 2 none 0) ?_
  rw [show kpN x x.ws.length=x.ws.foldl dvKeep x by unfold kpN;rw [List.take_length]]
  refine ae_ord (dvM { I with vw:=.slice none 0 0 } (dvFl x)++[.var g1 T1 (ptr I.gd)]) [_,_,_,_] ?_ (List.perm_middle (l₁:=[_,_])) ?_
  ·exact reN _ ⟨rfl,_,rfl⟩ slr
  ·exact sbl
instance : FnB Tryz.prog 114 := ⟨by kernel_rfl⟩
theorem fnDvFlush2 {m:List Av.Piece}:Av.Spec Tryz.prog GL 114 [] m fun u m'=>u=.tup []/\m'=m:=by
 refine qE Tryz.func114 rfl Tryz.ntmps114 rfl (fun _ hs=>?_)
 repeat' first|refine Zz ?_|intro _
 exact reN _ ⟨rfl,rfl⟩ slr
set_option maxHeartbeats 1000000 in
theorem fnDvFlush {I:DvI}{x:DvX}(hlf:0<=x.lf/\x.lf<=1000000)(hl:x.ws.length<=1000000):Av.Spec Tryz.prog GL 66 [ptr I.gd] (dvM I x) fun u m=>u=int (dvFlush x).2/\∃ v,m=dvM { I with vw:=v } (dvFlush x).1:=by
 refine qE Tryz.func66 rfl Tryz.ntmps66 rfl (fun _ hs=>?_)
 repeat' first|refine Zz ?_|intro _
 rename_i g1
 unfold dvFlush
 cases hon:x.on
 ·rw [if_pos rfl]
  repeat' first|refine Zz ?_|intro _
  refine reK (dvM I x) ⟨rfl,I.vw,rfl⟩ ?_
  exact sbl
 rw [if_neg (by decide)]
 have hcs:∀ v ∈ [Value.pointer (some ⟨g1,0,none⟩)],v.oneCell'=true:=by simp [Value.oneCell']
 repeat' first|refine Zz ?_|intro _
 refine al_makeFunc (vs:=[.pointer (some ⟨g1,0,none⟩)]) ?_
 repeat' first|refine Zz ?_|intro _
 refine al_swp [_] (dvM I x) ?_
 refine al_callW (step_spec (cs2:=[]) (D:=dvFl) (L:=fun x=>x) hlf hcs (by simp) (fnDvFlush1 hl) (fnDvFlush2.mono fun _ _ h=>⟨h.1,I.vw,h.2⟩)) (fun u m1 hh=>?_)
 obtain⟨rfl,v,rfl⟩:=hh
 cases hm:dvMay x
 ·rw [if_pos rfl,if_pos rfl,if_pos rfl]
  repeat' first|refine Zz ?_|intro _
  refine reK (dvM { I with vw:=v } (dvOff x)) ⟨rfl,v,rfl⟩ ?_
  exact sbl
 ·rw [if_neg (by decide),if_neg (by decide),if_neg (by decide)]
  repeat' first|refine Zz ?_|intro _
  refine reK (dvM { I with vw:=v } (dvFl (dvStep x))) ⟨rfl,v,rfl⟩ ?_
  exact sbl
theorem getD_no {k:List Bool}{i:Nat}(h:¬ i < k.length):k.getD i false=false:=by
 rw [List.getD_eq_getElem?_getD,List.getElem?_eq_none (by omega)]
 rfl
theorem getD_is {k:List Bool}{i:Nat}(h:i < k.length):k.getD i false=k[i]:=by
 rw [List.getD_eq_getElem?_getD,List.getElem?_eq_getElem h]
 rfl
theorem crF_snoc {k:List Bool}{torn cut:Int}:∀ (l:List (Int × Bs)) (i:Nat) (x:DvX) (w:Int × Bs),crF k torn cut i x (l++[w])=crW (crF k torn cut i x l) k torn cut (i + l.length) w
 | [],_,_,_=>rfl
 | v::l,i,x,w=>by
  show crF k torn cut (i + 1) _ (l++[w])=crW (crF k torn cut (i + 1) _ l) k torn cut (i + (l.length + 1)) w
  rw [crF_snoc l,show i + 1 + l.length=i + (l.length + 1) by omega]
def crN (x:DvX)(k:List Bool)(torn cut:Int)(i:Nat):DvX:=crF k torn cut 0 x (x.ws.take i)
theorem crN_succ {x:DvX}{k:List Bool}{torn cut:Int}{i:Nat}(h:i < x.ws.length):crN x k torn cut (i + 1)=crW (crN x k torn cut i) k torn cut i x.ws[i]:=by
 unfold crN
 rw [<- List.take_append_getElem h,crF_snoc,List.length_take,Nat.min_eq_left (by omega),Nat.zero_add]
theorem crF_f {k:List Bool}{torn cut:Int}:∀ (l:List (Int × Bs)) (i:Nat) (x:DvX),(crF k torn cut i x l).n=x.n/\(crF k torn cut i x l).ws=x.ws
 | [],_,_=>⟨rfl,rfl⟩
 | v::l,i,x=>by
  have h:=crF_f (k:=k) (torn:=torn) (cut:=cut) l (i + 1) (crW x k torn cut i v)
  have e:(crW x k torn cut i v).n=x.n/\(crW x k torn cut i v).ws=x.ws:=by
   unfold crW
   split <;> exact⟨rfl,rfl⟩
  exact⟨h.1.trans e.1,h.2.trans e.2⟩
set_option maxHeartbeats 2000000 in
theorem fnDvCrash {I:DvI}{x:DvX}{k:List Bool}{torn cut:Int}{xs:List AV}{id:Option Value}(hx:DvOk x)(hw:∀ w ∈ x.ws,0<=w.1/\w.1 < x.n)(hn:x.n≠0)(hl:x.ws.length<=1000000)(hk:xs=k.map boo):Av.Spec Tryz.prog GL 29 [ptr I.gd,.sl 1 xs id,int torn,int cut] (dvM I x) fun u m=>u=.tup []/\∃ v,m=dvM { I with vw:=v } (dvCrash x k torn cut):=by
 subst hk
 have hm:(x.ws.map wrA).length=x.ws.length:=llm _
 have hmk:(k.map boo).length=k.length:=llm _
 refine qE Tryz.func29 rfl Tryz.ntmps29 rfl (fun _ hs=>?_)
 repeat' first|refine Zz ?_|intro _
 rw [dZ hn]
 repeat' first|refine Zz ?_|intro _
 rw [hm]
 refine ac_loop (α:=Nat) (fun i=>[(0,ptr I.gd),(1,.sl 1 (k.map boo) id),(2,int torn),(3,int (min (max cut 0) 64)),(25,.sl 2 (x.ws.map wrA) (some I.vw)),(26,int x.ws.length),(27,int i)]) (fun i=>dvM I (crN x k torn cut i)) (fun i=>i<=x.ws.length) (fun i=>x.ws.length - i) 0 ⟨rfl,rfl,rfl,rfl,rfl,rfl,rfl,trivial⟩ slr (Nat.zero_le _) ?_
 intro i hi
 by_cases hi':i < x.ws.length
 ·have hs2:=crN_succ (k:=k) (torn:=torn) (cut:=cut) hi'
  have h64:x.ws[i].2.length=64:=hx.wl _ (List.getElem_mem hi')
  have hn2:(crN x k torn cut i).n=x.n:=(crF_f _ _ _).1
  have hy:DvOk (crN x k torn cut i):=crF_ok hx fun w hw=>hx.wl w (List.mem_of_mem_take hw)
  have hh:dvHas (crN x k torn cut i) x.ws[i].1=true:=by
   unfold dvHas
   rw [hn2]
   exact dT (hw _ (List.getElem_mem hi'))
  have hsl:=dvSafe_len hy x.ws[i].1
  unfold crW at hs2
  generalize crN x k torn cut i=y at *
  have hc:((min (max cut 0) 64).toNat:Int)=min (max cut 0) 64:=by omega
  have hc2:(min (max cut 0) 64).toNat<=64:=by omega
  generalize hC:(min (max cut 0) 64).toNat=C at hc hc2 hs2
  by_cases hik:i < k.length
  rotate_left
  ·rw [if_neg (by rw [getD_no hik];decide)] at hs2
   repeat' first|refine Zz ?_|intro _
   refine ae_round (i + 1) ⟨rfl,rfl,rfl,rfl,rfl,rfl,rfl,trivial⟩ ?_ hi' (by omega)
   rw [hs2]
   exact sbl
  cases hb:k[i]
  ·rw [if_neg (by rw [getD_is hik,hb];decide)] at hs2
   repeat' first|refine Zz ?_|intro _
   rw [hb]
   repeat' first|refine Zz ?_|intro _
   refine ae_round (i + 1) ⟨rfl,rfl,rfl,rfl,rfl,rfl,rfl,trivial⟩ ?_ hi' (by omega)
   rw [hs2]
   exact sbl
  rw [if_pos (by rw [getD_is hik,hb])] at hs2
  repeat' first|refine Zz ?_|intro _
  rw [hb]
  repeat' first|refine Zz ?_|intro _
  by_cases ht:(i:Int)=torn
  ·rw [if_pos ht] at hs2
   repeat' first|refine Zz ?_|intro _
   apply obl_read [];exact rfl;exact rfl;kernel_rfl
   ·intro _ _
    refine al_sliceS 0 C ?_ (h2:=hc.symm) (h4:=by omega)
    exact al_nil (ae_got rfl rfl)
   repeat' first|refine Zz ?_|intro _
   apply obl_read [1,2,3];exact rfl;exact rfl;kernel_rfl
   ·intro _ _
    refine al_callW (fnDvSafe (I:=I) (x:=y) (a:=x.ws[i].1)) (fun u m1 hu=>?_)
    obtain⟨rfl,rfl⟩:=hu
    rw [if_pos hh]
    exact al_nil (ae_got rfl rfl)
   repeat' first|refine Zz ?_|intro _
   apply obl_read [];exact rfl;exact rfl;kernel_rfl
   ·intro _ _
    refine al_sliceS C 64 ?_ (h1:=hc.symm) (h2:=by rw [hsl]) (h4:=by omega)
    exact al_nil (ae_got rfl rfl)
   repeat' first|refine Zz ?_|intro _
   refine al_callF [_] (dvM I y) [] (fnDvKeep (w:=(x.ws[i].1,(x.ws[i].2.take C).drop 0++((dvSafe y x.ws[i].1).take 64).drop C))) (fun u m1 hu=>?_)
   obtain⟨rfl,rfl⟩:=hu
   rw [List.drop_zero,List.take_of_length_le (show (dvSafe y x.ws[i].1).length<=64 by omega),<- hs2]
   repeat' first|refine Zz ?_|intro _
   refine ae_round (i + 1) ⟨rfl,rfl,rfl,rfl,rfl,rfl,rfl,trivial⟩ ?_ hi' (by omega)
   exact sbl
  ·rw [if_neg ht] at hs2
   repeat' first|refine Zz ?_|intro _
   rename_i g9
   refine al_callF [_] (dvM I y) [] (fnDvKeep (w:=x.ws[i])) (fun u m1 hh=>?_)
   obtain⟨rfl,rfl⟩:=hh
   rw [show ((x.ws[i].1,x.ws[i].2):Int × Bs)=x.ws[i] from rfl] at hs2
   rw [<- hs2]
   repeat' first|refine Zz ?_|intro _
   refine ae_round (i + 1) ⟨rfl,rfl,rfl,rfl,rfl,rfl,rfl,trivial⟩ ?_ hi' (by omega)
   exact sbl
 ·obtain rfl:i=x.ws.length:=by omega
  repeat' first|refine Zz ?_|intro _
  have e:dvCrash x k torn cut={ crN x k torn cut x.ws.length with ws:=[],on:=true,ar:=false }:=by
   unfold dvCrash crN
   rw [if_neg hn,List.take_length]
  rw [e]
  generalize crN x k torn cut x.ws.length=y at *
  refine ae_asV (g:=I.gd) imp_dvw ?_
  refine ae_st (fun ok w h=>h.full 114 2 none 0) ?_
  refine ae_ord (dvM { I with vw:=.slice none 0 0 } { y with ws:=[],on:=true,ar:=false }) [_,_,_] ?_ (List.perm_append_comm (l₁:=[_,_]) (l₂:=[_])) ?_
  ·exact reN _ ⟨rfl,_,rfl⟩ slr
  ·exact sbl
end Go.Proofs.YtndhpgclmgpmoaaGreatDoor
