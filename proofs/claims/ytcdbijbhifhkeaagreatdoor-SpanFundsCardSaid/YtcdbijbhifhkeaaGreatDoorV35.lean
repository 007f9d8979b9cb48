/- . -/
import Derived.Test.YtcdbijbhifhkeaaGreatDoorV34
set_option maxHeartbeats 64000000
namespace Go.Proofs.Z
open Go Go.RowKit Tw Av Go.Proofs.Tryz
def R6 (c:ChX)(s:Bs):Int:=if c.dd=true then 13 else if 6000<s.length then 11 else if 16<=c.ws.length then 15 else 0
def pY (c:ChX)(s:Bs):ChX:=if R6 c s=0 then { c with ws:=c.ws++[s] } else c
theorem Tt {I:ChI}{x:DvX}{s:SlX}{c:ChX}{t:Bs}(hw:c.ws.length<=1000000):Av.Spec prog GL 109 [ptr I.gc,str t] (jH I x s c) λu m=>u=int (R6 c t)/\∃ v,m=jH { I with vt:=v } x s (pY c t):=by
 have hm:(c.ws.map str).length=c.ws.length:=llm _;refine zc func109 ntmps109 λ_ hs=>?_;repeat' first|refine O ?_|intro
 unfold pY;by_cases hd:c.dd=true
 ·have he:R6 c t=13:=by unfold R6;rw[if_pos hd]
  rw[he,if_neg dc];rw[hd];repeat' first|refine O ?_|intro
  exact j4 (jH I x s c) ⟨rfl,I.vt,rfl⟩ slr
 have hd0:c.dd=false:=by simpa using hd
 by_cases h1:6000<t.length
 ·have he:R6 c t=11:=by unfold R6;rw[if_neg hd,if_pos h1]
  rw[he,if_neg dc];rw[hd0];repeat' first|refine O ?_|intro
  exact j4 (jH I x s c) ⟨rfl,I.vt,rfl⟩ slr
 by_cases h2:16<=c.ws.length
 ·have he:R6 c t=15:=by unfold R6;rw[if_neg hd,if_neg h1,if_pos h2]
  rw[he,if_neg dc];rw[hd0];repeat' first|refine O ?_|intro
  exact j4 (jH I x s c) ⟨rfl,I.vt,rfl⟩ slr
 have he:R6 c t=0:=by unfold R6;rw[if_neg hd,if_neg h1,if_neg h2]
 rw[he,if_pos rfl];rw[hd0];repeat' first|refine O ?_|intro
 refine aP (λv'=>?_);repeat' first|refine O ?_|intro
 rw[show c.ws.map str++[str t]=(c.ws++[t]).map str by rw[List.map_append];rfl,hd0];exact j4 _ ⟨rfl,v',rfl⟩ slr
theorem WZ {d:List Ent}{b:BlkX}(h:DOk d):DOk (M4 d b).1:=XA h
theorem Tu {I:ChI}{x:DvX}{s:SlX}{c:ChX}{b:BlkX}{id:Option Value}(h1:c.hs.length<c.ms.length/\c.ms.length<=1000000)(h2:c.ev.length<=1000000)(hd:DOk (j3 c))(hl:b.x.length<=16)(hx:∀ s∈b.x,Tx20 s) :
  Av.Spec prog GL 97 [ptr I.gc,.agg 3 [int b.h,int b.t,.sl 1 (b.x.map str) id]] (jH I x s c) λu m=>u=.sl 3 ((M4 (j3 c) b).2.1.map K3) none/\∃ v1 v2 v3,m=jH { I with vm:=v1,vh:=v2,ve:=v3 } x s (iN c b):=by
 have hr:=a1M hd hl hx;have hr2:=WZ (b:=b) hd;have hm1:(c.ms.map dA).length=c.ms.length:=llm _;have hm2:(c.hs.map R4).length=c.hs.length:=llm _;have hm3:(c.ev.map O0).length=c.ev.length:=llm _;have hr3:(M4 (j3 c) ⟨b.h,b.t,b.x⟩).1.length<=1000000:=Nat.le_trans hr2.l dc;have hr4:=(yR (h:=b.h) (t:=b.t) (l:=b.x) (q:=(j3 c,[],[]))).2;have hr5:(M4 (j3 c) ⟨b.h,b.t,b.x⟩).2.2.length<=16:=by
  have e:(M4 (j3 c) ⟨b.h,b.t,b.x⟩).2.2.length<=([]:List EvX).length+b.x.length:=hr4;simp only[List.length_nil] at e;omega
 refine zc func97 ntmps97 λ_ hs=>?_;repeat' first|refine O ?_|intro
 apply iX [10];exact rfl;exact rfl;kernel_rfl
 ·intro _ _;refine gW ?_;exact j5 (jJ rfl)
 ·exact rfl
 ·exact rfl
 repeat' first|refine O ?_|intro
 apply zd [10];exact zg
 ·intro _ _;refine bV ?_;exact j5 (A7 rfl rfl)
 repeat' first|refine O ?_|intro
 apply aH [2];exact rfl;exact rfl;kernel_rfl;kernel_rfl;intro _ _;refine aP (λv1=>?_);refine j5 (W9 [.tail 32 1 v1] [] rfl rfl lpr rfl ?_);repeat' first|refine O ?_|intro
 apply zd [10];exact zg
 ·intro _ _;refine bV ?_;exact j5 (A7 rfl rfl)
 repeat' first|refine O ?_|intro
 apply aH [3];exact rfl;exact rfl;kernel_rfl;kernel_rfl;intro _ _;refine aP (λv2=>?_);refine j5 (W9 [.tail 93 35 v2] [] rfl rfl lpr rfl ?_);repeat' first|refine O ?_|intro
 refine aP (λv3=>?_);repeat' first|refine O ?_|intro
 rw[show c.ms.map dA++[dA (M4 (j3 c) ⟨b.h,b.t,b.x⟩).1]=(c.ms++[(M4 (j3 c) b).1]).map dA by rw[List.map_append];rfl,show c.hs.map R4++[R4 ⟨c.nm,b.h,b.t,N9 (M4 (j3 c) ⟨b.h,b.t,b.x⟩).1⟩]=(c.hs++[OQ c b]).map R4 by rw[List.map_append];rfl,show c.ev.map O0++(M4 (j3 c) ⟨b.h,b.t,b.x⟩).2.2.map O0=(c.ev++(M4 (j3 c) b).2.2).map O0 by rw[List.map_append]];refine j4 (jH { I with vm:=v1,vh:=v2,ve:=v3 } x s (iN c b)) ⟨rfl,v1,v2,v3,rfl⟩ ?_;exact A8

structure ChOk (x:DvX)(s:SlX)(c:ChX):Prop where
 dv:DvOk x
 wl:x.ws.length<=1000
 me:0<=s.m.e/\s.m.e<=1000000
 mb:0<=s.m.b/\s.m.b<=1000000
 mc:0<=s.m.c/\s.m.c<=1000000
 br:s.br=false
 hl:c.hs.length<c.ms.length/\c.ms.length<=100000
 ev:c.ev.length<=100000
 st:DOk (j3 c)
 ws:c.ws.length<=16
 tx:∀ s∈c.ws,Tx20 s
 tm:0<=M6 c/\M6 c<=1099511627776
def dP (c:ChX)(t:Int):BlkX:=⟨c.hs.length+1,max (min t 1099511627776) (M6 c),c.ws⟩
def R5 (x:DvX)(s:SlX)(c:ChX)(t:Int):DvX × SlX × Int:=sD x s (Y4 (dP c t))
def wO (x:DvX)(s:SlX)(c:ChX)(t:Int):ChX:=if (R5 x s c t).2.2=0 then iN { c with ws:=[] } (dP c t) else { c with dd:=decide ((R5 x s c t).2.2=14) }
def fG (x:DvX)(s:SlX)(c:ChX)(t:Int):List Rep:=if (R5 x s c t).2.2=0 then (M4 (j3 c) (dP c t)).2.1 else []
theorem a7p {nm ky:Bs}{gs:Nat}{xs ys zs:List AV}{i j k:Option Value}{d:Bool}:ImpC (.agg 8 [str nm,str ky,ptr gs,.sl 1 xs i,.sl 35 ys j,.sl 15 zs k,.lit (.slice none 0 0),d9 d]) (.agg 8 [str nm,str ky,ptr gs,.sl 1 xs i,.sl 35 ys j,.sl 15 zs k,.sl 1 [] (some (.slice none 0 0)),d9 d]):=(inferInstance:ImpT _ _).imp
theorem Rp {e:Int}:Imp (.tup [K5,int e]) (.tup [.sl 3 [] none,int e]):=(inferInstance:ImpR (.tup [.lit (.slice none 0 0),int e]) (.tup [.sl 3 [] none,int e])).imp
theorem a8V {I:ChI}{x:DvX}{s:SlX}{c:ChX}{t:Int}(h:ChOk x s c)(hd:c.dd=false):Av.Spec prog GL 55 [ptr I.gc,int t] (jH I x s c)
  λu m=>u=.tup [.sl 3 ((fG x s c t).map K3) none,int (R5 x s c t).2.2]/\∃ v vm vh ve vt,m=jH { I with vw:=v,vm:=vm,vh:=vh,ve:=ve,vt:=vt } (R5 x s c t).1 (R5 x s c t).2.1 (wO x s c t):=by
 have hhl:=h.hl;have htm:=h.tm;have hws:=h.ws;have hm:(c.ws.map str).length=c.ws.length:=llm _;refine zc func55 ntmps55 λ_ hs=>?_;repeat' first|refine O ?_|intro
 rw[hd];repeat' first|refine O ?_|intro
 apply iX [9];exact rfl;exact rfl;kernel_rfl
 ·intro _ _;refine gW ?_;exact j5 (jJ rfl)
 ·exact rfl
 ·exact rfl
 repeat' first|refine O ?_|intro
 apply zd [9];exact zg
 ·intro _ _;refine bV ?_;exact j5 (A7 rfl rfl)
 repeat' first|refine O ?_|intro
 apply aH [5,6,7,8];exact rfl;exact rfl;kernel_rfl;kernel_rfl;intro _ _;refine T9 (a8i (I:=I.toSlI) (x:=x) (s:=s) (r:=Y4 (dP c t)) h.dv h.wl h.me h.mb h.mc h.br) (λu m1 hu=>?_);obtain⟨rfl,v,rfl⟩:=hu;have hQ:sD x s (Y4 (dP c t))=R5 x s c t:=rfl;rw[hQ];refine j5 (W9 (U4 { I.toSlI with vw:=v } (R5 x s c t).1 (R5 x s c t).2.1) [] rfl rfl lpr rfl ?_);unfold wO fG;by_cases he:(R5 x s c t).2.2=0
 rotate_left
 ·rw[if_neg he,if_neg he];repeat' first|refine O ?_|intro
  refine Y1 (.tup [.sl 3 (([]:List Rep).map K3) none,int (R5 x s c t).2.2]) (jH { I with vw:=v } (R5 x s c t).1 (R5 x s c t).2.1 { c with dd:=decide ((R5 x s c t).2.2=14) }) ?_ ⟨rfl,v,I.vm,I.vh,I.ve,I.vt,rfl⟩ ?_
  ·exact Rp
  exact A8
 rw[if_pos he,if_pos he];repeat' first|refine O ?_|intro
 refine Ew (g:=I.gc) a7p ?_;refine lC (λok w h=>h.full 9 1 none 0) ?_;refine qQ (jH { I with vw:=v,vt:=.slice none 0 0 } (R5 x s c t).1 (R5 x s c t).2.1 { c with ws:=[] }) (_::([_,_,_,_]++U4 { I.toSlI with vw:=v } (R5 x s c t).1 (R5 x s c t).2.1)) ?_ (List.perm_middle (l₁:=[_,_,_,_])) ?_;rotate_left
 ·exact A8
 refine T9 (Tu (c:={ c with ws:=[] }) (b:=dP c t) (id:=some I.vt) ⟨hhl.1,by dsimp only;omega⟩ (by have:=h.ev;dsimp only;omega) h.st h.ws h.tx) (λu m1 hu=>?_);obtain⟨rfl,v1,v2,v3,rfl⟩:=hu;repeat' first|refine O ?_|intro
 rw[he];exact j4 _ ⟨rfl,v,v1,v2,v3,.slice none 0 0,rfl⟩ slr
end Go.Proofs.Z

namespace Av
open Go Go.RowKit Tw
section
variable {P:Program} {N:Nat} {ops:Array Oper} {Q:Exit->Act->World->Prop} {rest:List Oper} {s:Base} {e:Env} {m:List Piece} {d:Nat} {ty:TypeId} {pos:String} {af:Array Edge}
theorem b3h {T E:TypeId}{k b:Nat}[t:TyE P T E k b]{n:Nat}{parts:List (Nat × Operand)}{vals:List AV}(h:∀ A,AL P N ops Q s rest ((d,.sl k vals (some (.slice A n n)))::e) (.tail E k (.slice A n n)::m))(hx:evs e (parts.map (·.2))=some vals:=by exact rfl)
  (hi:parts.map (·.1)=List.range n:=by exact rfl) (hk:vals.all (λv=>Nat.beq v.size k)=true:=by exact rfl) (hn:vals.all U8=true:=by exact rfl) (hs:Nat.ble (n*k) 65536=true:=by exact rfl) (hn0:Nat.blt 0 n=true:=by exact rfl) (hd:Nat.blt d N=true:=by exact rfl) :
  AL P N ops Q s (⟨some d,.buildSlice T n parts.toArray,ty,pos,af,none⟩::rest) e m:=by
 have hkv:∀ v∈vals,v.size=k:=λz hz=>Nat.eq_of_beq_eq_true (List.all_eq_true.1 hk z hz);have hkp:0<k:=nlb t.k0;have hnp:0<n:=nlb hn0;have hnk:n*k<=65536:=nlb hs;refine mK (λok w A hS hA=>?_) hd;obtain⟨vs,hvs,hmap⟩:=OO hA hx hn;have hpv:=PR.of_vs hvs;have hlv:=hpv.length;have hsv:=hpv.sizes hkv;have hlen:vs.length=n:=by
  have h1:((parts.map (·.2)).map A.eval).length=vs.length:=by rw[hlv,(hA.evals hx hn).length.symm]
  have h2:(parts.map (·.1)).length=n:=by rw[hi];simp
  simp at h1 h2;omega
 obtain⟨i,z,q1,q2,hzk,_,_⟩:=t.zero;have hzr:(zeroValue E).run P w=.ok z w:=by simp[zeroValue,typeInfo,q1,q2]
 subst hlen;have hcells:((Array.range (vs.length*k)).map (z.cells[· % z.cells.size]!))=(fl (List.replicate vs.length (.agg z.cells))).toArray:=by
  apply Array.ext';rw[UC z.cells (v:=.agg z.cells) rfl,hzk];simp
 have hset:=QP (z:=.agg z.cells) vs [] (λv hv=>by rw[hsv v hv];exact hzk);simp only[List.nil_append,List.length_nil] at hset;have hfill:=(KQ (place:=λi=>some (i*k,k)) (by
  intro i u hiu;obtain⟨hil,hie⟩:=List.getElem?_eq_some_iff.1 hiu;rw[List.getElem_replicate] at hie;subst hie;have hil':i<vs.length:=by simpa using hil
  rw[GK (k:=k) (λx hx=>by
   have:=List.mem_of_mem_take hx;rw[List.mem_replicate] at this;rw[this.2];exact hzk)]
  simp[Nat.min_eq_left (Nat.le_of_lt hil')];exact hzk.symm) hset).1
 have hE:=Ext.alloc w (.cells (fl vs).toArray E);have hblk:(w.alloc (.cells (fl vs).toArray E)).heap[w.heap.size]?=some (.cells (fl vs).toArray E (0,0)):=heap_alloc_new w _;have hst:=Ext.astp hE ok;refine⟨.sl k vals (some (.slice (some ⟨w.heap.size,0,none⟩) vs.length vs.length)),.slice (some ⟨w.heap.size,0,none⟩) vs.length vs.length,w.alloc (.cells (fl vs).toArray E),ok,_,?_,?_,(hS.ext hE).full E k (some ⟨w.heap.size,0,none⟩) vs.length,hst,h _⟩
 ·have h0:¬ vs.length*k > 2 ^ 24:=om
  have h1:¬ vs.length*k=0:=by
   have:=Nat.mul_pos hnp hkp;omega
  have hmap':(Array.map (λ(x:Nat × Operand)=>(x.fst,A.eval x.snd)) parts.toArray).toList=(List.range' 0 vs.length).zip vs:=by rw[hmap,hi,List.range_eq_range']
  simp only[execOp,Instr.buildSlice,Sem.run_bind,run_underlying t.l.out,Result.andThen_ok,run_sizeOf t.l.size,h0,h1,if_false,Sem.run_pure,hzr];rw[hmap',hcells,hfill];simp[newRow,newObj,Sem.run]
 refine RV.sl hlv (λv hv=>by injection hv with hv;rw[<- hv]) (Nat.le_refl _) (by
  have:vs.length<=vs.length*k:=Nat.le_mul_of_pos_right _ hkp;simp only[maxLen];omega) (λ_=>⟨w.heap.size,0,fl vs,rfl,by rw[GK hsv],λj v hj=>?_,(hpv.cells).stp hst⟩) hkv
 rw[Nat.zero_add,cell_of_row _ _ _ _ _ _ hblk];exact⟨by simpa using hj,hS.fresh _ _ (Nat.le_refl _)⟩
end
end Av

namespace Go.Proofs.Z
open Go Go.RowKit Tw Av Go.Proofs.Tryz
section
variable {bs:List BlkX}{ky nm:Bs}{d:List Ent}
def X4 (l:List BlkX):Int:=((l.getLast?).map (·.t)).getD 0
structure BsG (bs:List BlkX):Prop where
 l:bs.length<=1000
 g:∀ b∈bs,BkG b/\∀ s∈b.x,Tx20 s
 h:∀ i (h:i<bs.length),bs[i].h=i+1/\X4 (bs.take i)<=bs[i].t
def TN (nm ky:Bs)(d:List Ent):ChX:=⟨nm,ky,[d],[],[],[],[],false⟩
def opC (nm ky:Bs)(d:List Ent)(bs:List BlkX):ChX:=bs.foldl iN (TN nm ky d)
structure OpI (nm ky:Bs)(bs:List BlkX)(c:ChX):Prop where
 nm:c.nm=nm
 ky:c.ky=ky
 hs:c.hs.length=bs.length
 ms:c.ms.length=bs.length+1
 bl:c.bl=bs
 ev:c.ev.length<=16*bs.length
 st:DOk (j3 c)
 tm:M6 c=X4 bs
 ws:c.ws=[]
 dd:c.dd=false
theorem WH (l:List BlkX)(b:BlkX):X4 (l++[b])=b.t:=by
 unfold X4;rw[List.getLast?_append];rfl
theorem a5m {c:ChX}{b:BlkX}(h:OpI nm ky bs c)(hl:b.x.length<=16):OpI nm ky (bs++[b]) (iN c b):=by
 have hs:=h.hs;have hm:=h.ms;have hr:j3 (iN c b)=(M4 (j3 c) b).1:=by
  unfold j3 iN;dsimp only;rw[lla,List.length_singleton,List.getD_eq_getElem?_getD,List.getElem?_append_right om,show c.hs.length+1-c.ms.length=0 by omega];rfl
 have hev:=(yR (h:=b.h) (t:=b.t) (l:=b.x) (q:=(j3 c,[],[]))).2;refine⟨h.nm,h.ky,?_,?_,?_,?_,?_,?_,h.ws,h.dd⟩
 ·unfold iN;dsimp only;rw[lla,lla,hs];rfl
 ·unfold iN;dsimp only;rw[lla,lla,hm];rfl
 ·unfold iN;dsimp only;rw[h.bl]
 ·unfold iN;dsimp only;have:=h.ev;have e:(M4 (j3 c) b).2.2.length<=([]:List EvX).length+b.x.length:=hev;simp only[List.length_append,List.length_nil,List.length_singleton] at e ⊢;omega
 ·rw[hr];exact WZ h.st
 rw[WH];unfold M6 iN;dsimp only;rw[List.getLast?_append];rfl
theorem a5l (hd:DOk d):OpI nm ky [] (TN nm ky d):=⟨rfl,rfl,rfl,rfl,rfl,Nat.le_refl _,hd,rfl,rfl,rfl⟩
theorem FR {b:BlkX}:opC nm ky d (bs++[b])=iN (opC nm ky d bs) b:=by
 unfold opC;rw[List.foldl_append];rfl
theorem YT {i:Nat}(h:i<bs.length):opC nm ky d (bs.take (i+1))=iN (opC nm ky d (bs.take i)) bs[i]:=by
 rw[<- List.take_append_getElem h,FR]
theorem NS {nm ky:Bs}{d:List Ent}(hd:DOk d){bs:List BlkX}(hb:BsG bs):∀ i,i<=bs.length->OpI nm ky (bs.take i) (opC nm ky d (bs.take i))
 | 0,_=>a5l hd
 | i+1,h=>by
  rw[YT h,<- List.take_append_getElem h];exact a5m (NS hd hb i om) (hb.g _ (List.getElem_mem _)).1.l
theorem a7q {gs:Nat}{xs:List AV}{i:Option Value}:ImpC (.agg 8 [str nm,str ky,ptr gs,.sl 1 xs i,K5,K5,K5,d9 false]) (.agg 8 [str nm,str ky,ptr gs,.sl 1 xs i,.sl 35 [] (some (.slice none 0 0)),.sl 15 [] (some (.slice none 0 0)),.sl 1 [] (some (.slice none 0 0)),d9 false]):=(inferInstance:ImpT _ _).imp
theorem a8T {I:DvI}{x:DvX}{gen:List Ent}{xs:List AV}{id:Option Value}(hxs:xs=gen.map J4)(h:1<=nm.length/\nm.length<=32/\ky.length<=64)(hx:DvOk x)(hw:x.ws.length<=1000)(h0:AZ x=0)(hr:NR x=bs.map Y4)(hb:BsG bs)(hg:gen.length<=1000)(hd:DOk (rU gen)) :
  Av.Spec prog GL 53 [ptr I.gd,str nm,str ky,.sl 2 xs id] (I6 I x) λu m=>∃ J:ChI,J.gd=I.gd/\J.gm=I.gm/\u=.tup [ptr J.gc,int 0]/\m=jH J x (uR x) (opC nm ky (rU gen) bs):=by
 subst hxs;have hne:nm≠[]:=by rintro rfl;simp at h
 have hbl:=hb.l;have hmb:((bs.map Y4).map str).length=bs.length:=by rw[llm,llm]
 refine zc func53 ntmps53 λ_ hs=>?_;repeat' first|refine O ?_|intro
 refine T9 (a8g hx om h0) (λu m1 hu=>?_);obtain⟨gs,rfl,rfl⟩:=hu;rw[hr];repeat' (first|refine iP ?_|refine M8 ?_|refine L8 ?_|intro _|simp only[List.set]|refine KI ?_|refine KJ ?_|refine zO ?_|refine EN ?_|fail)
 refine b3h (λA=>?_);repeat' first|refine O ?_|intro
 rename_i gc;rw[hmb];refine jK (g:=gc) a7q ?_;refine eO (λok w h=>h.full 9 1 none 0) ?_;refine eO (λok w h=>h.full 53 15 none 0) ?_;refine eO (λok w h=>h.full 93 35 none 0) ?_;refine Fq (jH ⟨⟨I,gs⟩,gc,.slice A 1 1,.slice none 0 0,.slice none 0 0,.slice none 0 0⟩ x (uR x) (TN nm ky (rU gen))) ([_,_,_]++([_,_]++U4 ⟨I,gs⟩ x (uR x))) ?_ (List.perm_append_comm_assoc [_,_] [_,_,_] _) slr;refine H7 (α:=Nat × Value × Value × Value) (λz=>[(13,ptr gc),(14,d9 true),(48,.sl 1 ((bs.map Y4).map str) none),(49,int bs.length),(50,int z.1)]) (λz=>jH ⟨⟨I,gs⟩,gc,z.2.1,z.2.2.1,z.2.2.2,.slice none 0 0⟩ x (uR x) (opC nm ky (rU gen) (bs.take z.1)))
  (λz=>z.1<=bs.length) (λz=>bs.length-z.1) (0,.slice A 1 1,.slice none 0 0,.slice none 0 0) za slr (Nat.zero_le _) ?_
 rintro⟨i,vm,vh,ve⟩ hi;dsimp only at hi ⊢;have hI:=NS (nm:=nm) (ky:=ky) hd hb i hi;by_cases hil:i<bs.length
 ·obtain⟨hbg,hbx⟩:=hb.g _ (List.getElem_mem hil);have hbh:=hb.h i hil;have hst:=YT (nm:=nm) (ky:=ky) (d:=rU gen) hil;have hsl:=hI.hs;have hml:=hI.ms;have hev:=hI.ev;have htm:=hI.tm;rw[List.length_take,Nat.min_eq_left om] at hsl hml hev;have hgi:(bs.map Y4)[i]'(by rw[llm];exact hil)=Y4 bs[i]:=List.getElem_map ..;have hll:i<(bs.map Y4).length:=by rw[llm];exact hil
  generalize opC nm ky (rU gen) (bs.take i)=c at *;repeat' first|refine O ?_|intro
  rw[hgi];repeat' first|refine O ?_|intro
  rw[dT (show bs[i].h=(c.hs.length:Int)+1 by omega)];repeat' first|refine O ?_|intro
  rw[dT (show M6 c<=bs[i].t by omega)];repeat' first|refine O ?_|intro
  rename_i g17;refine aI [_] (jH ⟨⟨I,gs⟩,gc,vm,vh,ve,.slice none 0 0⟩ x (uR x) c) [] (Tu (b:=bs[i]) (id:=none) ⟨om,om⟩ om hI.st hbg.l hbx) (λu m1 hu=>?_);obtain⟨rfl,v1,v2,v3,rfl⟩:=hu;rw[<- hst];repeat' first|refine O ?_|intro
  exact y7 (i+1,v1,v2,v3) za (List.sublist_cons_self _ _) hil (by dsimp only;omega)
 obtain rfl:i=bs.length:=by omega
 rw[List.take_length];repeat' first|refine O ?_|intro
 refine j4 _ ⟨⟨⟨I,gs⟩,gc,vm,vh,ve,.slice none 0 0⟩,rfl,rfl,rfl,rfl⟩ slr
end
end Go.Proofs.Z

namespace Go.Proofs.Z
open Go Go.RowKit Tw Av
theorem aZ (c:Int)(s:Bs):(r9 c s).length<=s.length+4:=by
 simp[r9,xJ,List.length_take];omega
theorem mP (c n:Int):(y9 c n).length<=12:=by
 have:=GU 8 n.toNat;have:=aZ c (aM 8 n.toNat);show (xJ _ (aM 8 n.toNat)).length<=12;unfold r9 at this;omega
def AB (l:List Bs):Nat:=(l.map List.length).sum
theorem UB (c:Int):∀ l:List Bs,(l.flatMap (r9 c)).length<=AB l+4*l.length
 | []=>by simp[AB]
 | s::l=>by
  have h1:=UB c l;have h2:=aZ c s;unfold AB at h1 ⊢;rw[List.flatMap_cons,lla,List.map_cons,List.sum_cons,List.length_cons];omega
theorem Zn (b:BlkX):(Y4 b).length<=AB b.x+4*b.x.length+28:=by
 have h1:=mP 104 b.h;have h2:=mP 116 b.t;have h3:=aZ 120 (b.x.flatMap (r9 120));have h4:=UB 120 b.x;show (y9 104 b.h++y9 116 b.t++r9 120 (b.x.flatMap (r9 120))).length<=_;rw[lla,lla];omega
theorem MU {n:Nat}:∀ {l:List Bs},(∀ s∈l,s.length<=n)->AB l<=n*l.length
 | [],_=>by simp[AB]
 | s::l,h=>by
  have h1:=MU (l:=l) (λt ht=>h t (by simp[ht]));have h2:=h s sm;unfold AB at h1 ⊢;rw[List.map_cons,List.sum_cons,List.length_cons,Nat.mul_add];omega
theorem Dv {b:BlkX}(h:BkG b):(Y4 b).length<=200000:=by
 have h1:=Zn b;have h2:=MU h.s;have h3:=h.l;omega
theorem Lm (s:Bs):(I8 s).length<=s.length+16:=by
 unfold I8;rw[lla];have:=aZ 82 s;have:=mP 83 (pU (r9 82 s));omega
def iZ (bs:List BlkX):Bs:=nL (bs.map Y4)
def SY (bs:List BlkX):MkX:=⟨bs.length,(iZ bs).length,bs.length⟩
def J3 (bs:List BlkX):SlX:=⟨SY bs,iZ bs,false⟩
theorem OE (bs:List BlkX)(b:BlkX):iZ (bs++[b])=iZ bs++I8 (Y4 b):=by
 unfold iZ nL;rw[List.map_append,List.flatMap_append];simp
theorem YX (bs:List BlkX)(b:BlkX):FT (J3 bs) (Y4 b)=J3 (bs++[b]):=by
 unfold FT J3 SY K4;rw[OE];simp
structure Ro (x:DvX)(bs:List BlkX):Prop where
 dv:DvOk x
 on:x.on=true
 ws:x.ws=[]
 n:3<=x.n
 fit:DFits (M0 x) (iZ bs) (SY bs)
 rm:((iZ bs).length:Int)<=Y6 x.n
 bg:BsG bs
theorem a4O:V7 oV=IQ:=by kernel_rfl
theorem XG {n:Int}(h:3<=n)(h2:n<=4096):Ro (dN n) []:=by
 have hz:∀ a,M0 (dN n) a=IQ:=λa=>rfl;refine⟨⟨⟨by show 0<=n;omega,h2⟩,?_,?_,?_,by show (0:Int)<=0/\(0:Int)<=1000000;decide⟩,rfl,rfl,h,⟨λa=>by rw[hz];exact Fy,?_,⟨by show (0:Int)<=0/\(0:Int)<200;decide,?_,?_,0,?_,dc,.inr rfl⟩⟩,?_,?_⟩
 ·exact List.Pairwise.nil
 ·simp[dN]
 ·simp[dN]
 ·intro j hj;simp[iZ,nL] at hj
 ·exact⟨dc,dc,dc⟩
 ·rw[hz];exact a4O.symm
 ·rw[hz];kernel_rfl
 ·show (0:Int)<=(n-2)*64;omega
 exact⟨sm,sm,λi h=>by simp at h⟩
theorem a3B {x:DvX}{bs:List BlkX}(h:Ro x bs):AZ x=0/\uR x=J3 bs/\NR x=bs.map Y4:=
 a5j h.dv h.on h.ws h.fit rfl (by show ((bs.length:Nat):Int)=((bs.map Y4).length:Nat);rw[llm]) h.rm (by have:=h.n;omega)
  (λs hs=>by
   obtain⟨b,hb,rfl⟩:=List.mem_map.1 hs;have:=Dv (h.bg.g b hb).1;omega)
theorem a3C {x:DvX}{bs:List BlkX}(h:Ro x bs)(he:bs.length<190):LogOk x (J3 bs):=
 ⟨h.dv,h.on,h.ws,h.fit,rfl,h.rm,h.n,rfl,by show ((bs.length:Nat):Int)<190;omega,by show (0:Int)<=((bs.length:Nat):Int)/\((bs.length:Nat):Int)<=1000;omega⟩
section
variable {nm ky:Bs} {d:List Ent} {bs:List BlkX} {ws:List Bs} {x:DvX}
def F5 (nm ky:Bs)(d:List Ent)(bs:List BlkX)(ws:List Bs)(dd:Bool):ChX:={ opC nm ky d bs with ws:=ws,dd:=dd }
theorem Xr (hd:DOk d)(hb:BsG bs):F5 nm ky d bs [] false=opC nm ky d bs:=by
 have h:=NS (nm:=nm) (ky:=ky) hd hb bs.length (Nat.le_refl _);rw[List.take_length] at h;unfold F5;rw[<- h.ws,<- h.dd]
theorem uS (hd:DOk d)(hb:BsG bs):OpI nm ky bs (opC nm ky d bs):=by
 have h:=NS (nm:=nm) (ky:=ky) hd hb bs.length (Nat.le_refl _)
 rwa [List.take_length] at h
structure WsG (ws:List Bs):Prop where
 l:ws.length<=16
 t:∀ s∈ws,Tx20 s
theorem WG (hb:BsG bs):0<=X4 bs/\X4 bs<=1099511627776:=by
 unfold X4;cases h:bs.getLast? with
 | none=>simp
 | some b=>exact(hb.g b (List.mem_of_getLast? h)).1.t
def J7 (bs:List BlkX)(ws:List Bs)(t:Int):BlkX:=⟨bs.length+1,max (min t 1099511627776) (X4 bs),ws⟩
theorem SL (hb:BsG bs)(hl:bs.length<190)(hw:WsG ws)(t:Int):BsG (bs++[J7 bs ws t]):=by
 have ht:=WG hb;refine⟨by rw[lla,List.length_singleton];omega,?_,?_⟩
 ·intro b hm;rcases List.mem_append.1 hm with hm|hm
  ·exact hb.g b hm
  obtain rfl:=List.mem_singleton.1 hm;refine⟨⟨?_,?_,hw.l,λs hs=>(hw.t s hs).1⟩,hw.t⟩
  ·show (1:Int)<=bs.length+1/\((bs.length:Nat):Int)+1<=1099511627776;omega
  show 0<=max (min t 1099511627776) (X4 bs)/\max (min t 1099511627776) (X4 bs)<=1099511627776;omega
 intro i hi;rw[lla,List.length_singleton] at hi;by_cases h:i<bs.length
 ·rw[List.getElem_append_left h,List.take_append_of_le_length om];exact hb.h i h
 obtain rfl:i=bs.length:=by omega
 rw[List.getElem_append_right (Nat.le_refl _),List.take_left];simp only[Nat.sub_self,List.getElem_singleton];refine⟨rfl,?_⟩;show X4 bs<=max (min t 1099511627776) (X4 bs);omega
theorem Di (hd:DOk d)(h:Ro x bs)(hl:bs.length<190)(hw:WsG ws):ChOk x (J3 bs) (F5 nm ky d bs ws false):=by
 have o:=uS (nm:=nm) (ky:=ky) hd h.bg;have h1:=o.hs;have h2:=o.ms;have h3:=o.ev;have h4:=h.dv.n;have h5:=h.rm;have h6:Y6 x.n=(x.n-2)*64:=rfl;refine⟨h.dv,by rw[h.ws];decide,?_,?_,?_,rfl,?_,?_,o.st,hw.l,hw.t,?_⟩
 ·show (0:Int)<=((bs.length:Nat):Int)/\((bs.length:Nat):Int)<=1000000;omega
 ·show (0:Int)<=(((iZ bs).length:Nat):Int)/\(((iZ bs).length:Nat):Int)<=1000000;omega
 ·show (0:Int)<=((bs.length:Nat):Int)/\((bs.length:Nat):Int)<=1000000;omega
 ·show (opC nm ky d bs).hs.length<(opC nm ky d bs).ms.length/\(opC nm ky d bs).ms.length<=100000;omega
 ·show (opC nm ky d bs).ev.length<=100000;omega
 show 0<=M6 (opC nm ky d bs)/\M6 (opC nm ky d bs)<=1099511627776;rw[o.tm];exact WG h.bg
theorem Ws (hd:DOk d)(hb:BsG bs){t:Int}:dP (F5 nm ky d bs ws false) t=J7 bs ws t:=by
 have o:=uS (nm:=nm) (ky:=ky) hd hb;unfold dP J7;have h1:(F5 nm ky d bs ws false).hs.length=bs.length:=o.hs;have h2:M6 (F5 nm ky d bs ws false)=X4 bs:=o.tm;rw[h1,h2];rfl
theorem a9B (hd:DOk d)(hb:BsG bs){b:BlkX}:iN { F5 nm ky d bs ws false with ws:=[] } b=F5 nm ky d (bs++[b]) [] false:=by
 have o:=uS (nm:=nm) (ky:=ky) hd hb;have e:({ F5 nm ky d bs ws false with ws:=[] }:ChX)=opC nm ky d bs:=Xr hd hb;rw[e,<- FR];unfold F5;have hw:(opC nm ky d (bs++[b])).ws=[]:=by rw[FR];exact o.ws
 have hdd:(opC nm ky d (bs++[b])).dd=false:=by rw[FR];exact o.dd
 rw[<- hw,<- hdd]
inductive CuS (nm ky:Bs)(d:List Ent)(x:DvX)(bs:List BlkX)(ws:List Bs)(t:Int):DvX->SlX->ChX->Int->List Rep->Prop where
 | full (h:Y6 x.n-(iZ bs).length<(I8 (Y4 (J7 bs ws t))).length):CuS nm ky d x bs ws t x (J3 bs) (F5 nm ky d bs ws false) 15 []
 | lost (y:DvX) (hy:y.n=x.n) (ha:x.ar=true) (h:Old y (J3 bs) (J3 (bs++[J7 bs ws t]))) (hr:((iZ (bs++[J7 bs ws t])).length:Int)<=Y6 x.n):CuS nm ky d x bs ws t y { J3 bs with br:=true } (F5 nm ky d bs ws true) 14 []
 | yes (y:DvX) (hy:y.n=x.n) (ha:y.ar=x.ar) (h:Ro y (bs++[J7 bs ws t])):CuS nm ky d x bs ws t y (J3 (bs++[J7 bs ws t])) (F5 nm ky d (bs++[J7 bs ws t]) [] false) 0 (M4 (j3 (opC nm ky d bs)) (J7 bs ws t)).2.1
theorem UK (hd:DOk d)(h:Ro x bs)(hl:bs.length<189)(hw:WsG ws)(t:Int) :
  CuS nm ky d x bs ws t (R5 x (J3 bs) (F5 nm ky d bs ws false) t).1 (R5 x (J3 bs) (F5 nm ky d bs ws false) t).2.1 (wO x (J3 bs) (F5 nm ky d bs ws false) t) (R5 x (J3 bs) (F5 nm ky d bs ws false) t).2.2 (fG x (J3 bs) (F5 nm ky d bs ws false) t):=by
 have hg:=SL h.bg om hw t;have hbl:=Dv (hg.g (J7 bs ws t) sm).1;have hbe:=Ws (nm:=nm) (ky:=ky) (ws:=ws) hd h.bg (t:=t);unfold wO fG;have hq:R5 x (J3 bs) (F5 nm ky d bs ws false) t=sD x (J3 bs) (Y4 (J7 bs ws t)):=by unfold R5;rw[hbe]
 rw[hq,hbe];have hs:=b0A (r:=Y4 (J7 bs ws t)) (a3C h om);have hlen:((iZ (bs++[J7 bs ws t])).length:Int)=(iZ bs).length+(I8 (Y4 (J7 bs ws t))).length:=by
  rw[OE,lla];omega
 have hst:j3 (F5 nm ky d bs ws false)=j3 (opC nm ky d bs):=rfl;have hroom:(sD x (J3 bs) (Y4 (J7 bs ws t))).2.2≠15->¬ Y6 x.n-(iZ bs).length<((I8 (Y4 (J7 bs ws t))).length:Int):=by
  intro h1 h2;apply h1;unfold sD;rw[if_neg (show ¬ (J3 bs).br=true from by show ¬ (false=true);decide),if_neg om,if_pos (show Y6 x.n-(J3 bs).m.b<((I8 (Y4 (J7 bs ws t))).length:Int) from h2)]
 generalize hz:sD x (J3 bs) (Y4 (J7 bs ws t))=z at *;rcases hs with⟨e,he⟩|⟨y,hy,ha,ho⟩|⟨y,hy,ha,hr,hL,hf,hk,hn,hw',hm⟩
 ·rcases he with⟨_,he⟩|⟨rfl,he⟩
  ·omega
  rw[if_neg (show ¬ ((15:Int)=0) by decide),if_neg (show ¬ ((15:Int)=0) by decide)];exact .full he
 ·rw[if_neg (show ¬ ((14:Int)=0) by decide),if_neg (show ¬ ((14:Int)=0) by decide)];rw[YX] at ho;have:=hroom (show (14:Int)≠15 by decide);exact .lost y hy ha ho om
 have hst2:=hroom (show (0:Int)≠15 by decide);rw[if_pos rfl,if_pos rfl,YX,a9B hd h.bg,hst];have e:=congrArg SlX.m (YX bs (J7 bs ws t));refine .yes y hy ha ⟨hk,hn,hw',by rw[hy];exact h.n,?_,by rw[hy];omega,hg⟩;rw[OE,<- show K4 (J3 bs) (Y4 (J7 bs ws t))=SY (bs++[J7 bs ws t]) from e];exact hf
end
end Go.Proofs.Z



namespace Go.Proofs.Z
open Go Go.RowKit Tw Av
attribute [local irreducible] u7
end Go.Proofs.Z



namespace Go.Proofs.Z
open Go Go.RowKit Tw Av Go.Proofs.Tryz
section
variable {nm ky:Bs} {d:List Ent} {bs:List BlkX} {ws:List Bs} {x:DvX}
theorem a8y {I:DvI}{gen:List Ent}{xs:List AV}{id:Option Value}(hxs:xs=gen.map J4)(hn:1<=nm.length/\nm.length<=32/\ky.length<=64)(h:Ro x bs)(hg:gen.length<=1000)(hd:DOk (rU gen))(he:rU gen=d) :
  Av.Spec prog GL 53 [ptr I.gd,str nm,str ky,.sl 2 xs id] (I6 I x) λu m=>∃ J:ChI,J.gd=I.gd/\J.gm=I.gm/\u=.tup [ptr J.gc,int 0]/\m=jH J x (J3 bs) (F5 nm ky d bs [] false):=by
 subst he;obtain⟨h0,h1,h2⟩:=a3B h;have:=a8T (I:=I) (id:=id) hxs hn h.dv (by rw[h.ws];decide) h0 h2 h.bg hg hd;rw[h1,<- Xr hd h.bg] at this;exact this
theorem ZT {t:Int}(h:∀ s∈ws,s.length<=1000):(iZ (bs++[J7 bs ws t])).length<=(iZ bs).length+1004*ws.length+44:=by
 rw[OE,lla];have h1:=Lm (Y4 (J7 bs ws t));have h2:=Zn (J7 bs ws t);have h3:=MU h;have h4:(J7 bs ws t).x=ws:=rfl;rw[h4] at h2;omega
theorem Wq {t:Int}{y:DvX}{s:SlX}{c:ChX}{e:Int}{r:List Rep}(hc:CuS nm ky d x bs ws t y s c e r)(ha:x.ar=false)(hr:((iZ bs).length:Int)+1004*ws.length+44<=Y6 x.n)(hw:∀ s∈ws,s.length<=1000) :
  y.n=x.n/\y.ar=false/\Ro y (bs++[J7 bs ws t])/\s=J3 (bs++[J7 bs ws t])/\c=F5 nm ky d (bs++[J7 bs ws t]) [] false/\e=0/\r=(M4 (j3 (opC nm ky d bs)) (J7 bs ws t)).2.1:=by
 have hn:=ZT (bs:=bs) (t:=t) hw;rw[OE,lla] at hn;cases hc with
 | full h=>omega
 | lost y hy hb=>rw[hb] at ha;cases ha
 | yes y hy hb hR=>exact⟨hy,by rw[hb];exact ha,hR,rfl,rfl,rfl,rfl⟩
theorem Jy {k:List Bool}{torn cut:Int}(h:Ro x bs):Ro (Y3 x k torn cut) bs:=by
 have hn:=h.n;have e:Y3 x k torn cut={ x with ws:=[],on:=true,ar:=false }:=by
  unfold Y3;rw[if_neg om,h.ws];rfl
 rw[e];exact⟨⟨h.dv.n,h.dv.mn,h.dv.el,sm,h.dv.lf⟩,rfl,rfl,h.n,h.fit,h.rm,h.bg⟩
end
end Go.Proofs.Z

namespace Go.Proofs.Z
open Go Go.RowKit Tw Av
section
variable {nm ky:Bs} {d:List Ent} {bs:List BlkX}
theorem a7t (hb:BsG bs):∀ y∈(opC nm ky d bs).hs,y.h<=9223372036854775807/\y.t<=9223372036854775807:=by
 have key:∀ l:List BlkX,(∀ b∈l,BkG b)->∀ c:ChX,(∀ y∈c.hs,y.h<=9223372036854775807/\y.t<=9223372036854775807)->∀ y∈(l.foldl iN c).hs,y.h<=9223372036854775807/\y.t<=9223372036854775807:=by
  intro l
  induction l with
  | nil=>exact λ_ c h=>h
  | cons b l ih=>
   intro hl c h;rw[List.foldl_cons];refine ih (λx hx=>hl x (by simp[hx])) _ ?_;intro y hy;rcases List.mem_append.1 (show y∈c.hs++[OQ c b] from hy) with hy|hy
   ·exact h y hy
   obtain rfl:=List.mem_singleton.1 hy;have g:=hl b sm;have g1:=g.h;have g2:=g.t;show b.h<=9223372036854775807/\b.t<=9223372036854775807;omega
 exact key bs (λb h=>(hb.g b h).1) _ (by simp[TN])
end

abbrev Cq (gd gm gs gc:Nat)(v:Value × Value × Value × Value × Value)(x:DvX)(s:SlX)(c:ChX):List Av.Piece:=jH ⟨⟨⟨gd,gm,v.1⟩,gs⟩,gc,v.2.1,v.2.2.1,v.2.2.2.1,v.2.2.2.2⟩ x s c
end Go.Proofs.Z

namespace Go.Proofs.Z
open Go Go.RowKit Tw Av Go.Proofs.Tryz
instance b9P {a:List Rep}{id id2:Option Value}:Ans prog GL 24 [.sl 3 (a.map K3) id,.sl 3 (a.map K3) id2] True (d9 true):=⟨λ_=>by
 have hma:(a.map K3).length=a.length:=llm _;refine zc func24 ntmps24 λ_ hs=>?_;refine IP 0 (λhb=>?_);have hb:=BF hb;repeat' first|refine O ?_|intro
 refine H7 (α:=Nat) (λi=>[(0,.sl 3 (a.map K3) id),(1,.sl 3 (a.map K3) id2),(5,int i)]) (λ_=>[]) (λi=>i<=a.length) (λi=>a.length-i) 0 za slr (Nat.zero_le _) ?_;intro i hi;repeat' first|refine Vz ?_|intro
 refine G7 (λhlt=>?_) (λhlt=>?_)
 ·have hia:i<a.length:=om
  repeat' first|refine Vz ?_|intro
  exact y7 (i+1) za slr hia om
 exact M7⟩
instance b9O {a:List EvX}{id id2:Option Value}:Ans prog GL 25 [.sl 15 (a.map O0) id,.sl 15 (a.map O0) id2] True (d9 true):=⟨λ_=>by
 have hma:(a.map O0).length=a.length:=llm _;refine zc func25 ntmps25 λ_ hs=>?_;refine IP 0 (λhb=>?_);have hb:=BF hb;repeat' first|refine O ?_|intro
 refine H7 (α:=Nat) (λi=>[(0,.sl 15 (a.map O0) id),(1,.sl 15 (a.map O0) id2),(5,int i)]) (λ_=>[]) (λi=>i<=a.length) (λi=>a.length-i) 0 za slr (Nat.zero_le _) ?_;intro i hi;repeat' first|refine Vz ?_|intro
 refine G7 (λhlt=>?_) (λhlt=>?_)
 ·have hia:i<a.length:=om
  repeat' first|refine Vz ?_|intro
  exact y7 (i+1) za slr hia om
 exact M7⟩
end Go.Proofs.Z

namespace Go.Proofs.Z
open Go Go.RowKit Tw Av
abbrev V5:=Value × Value × Value × Value × Value

section
variable {x:DvX}{k:Nat}
structure InR (k:Nat)(x:DvX):Prop where
 a:∀ w∈x.ws,0<=w.1/\w.1<x.n
 l:x.ws.length<=k
theorem InR.up {j:Nat}(h:InR k x)(hk:k<=j):InR j x:=⟨h.a,Nat.le_trans h.l hk⟩
theorem InR.wr {a:Int}{s:Bs}(h:InR k x):InR (k+1) (bN x a s).1:=by
 unfold bN;split
 ·exact h.up om
 split
 ·exact h.up om
 rename_i hc;have hh:mF x a=true:=by
  cases e:mF x a with
  | true=>rfl
  | false=>exact absurd (.inl e) hc
 have ha:0<=a/\a<x.n:=by unfold mF at hh;exact of_decide_eq_true hh
 have key:∀ y:DvX,y.ws=x.ws->y.n=x.n->InR (k+1) (nN y (a,s)):=by
  intro y h1 h2;refine⟨?_,?_⟩
  ·intro w hw;rcases List.mem_append.1 (show w∈y.ws++[(a,s)] from hw) with hw|hw
   ·show 0<=w.1/\w.1<y.n;rw[h2];exact h.a w (h1 ▸ hw)
   obtain rfl:=List.mem_singleton.1 hw;show 0<=a/\a<y.n;rw[h2];exact ha
  show (y.ws++[(a,s)]).length<=k+1;rw[lla,h1,List.length_singleton];have:=h.l;omega
 split
 ·exact key _ rfl rfl
 exact key _ rfl rfl
theorem InR.flush (h:InR k x):InR k (kV x).1:=by
 unfold kV;split
 ·exact h
 split
 ·exact⟨h.a,h.l⟩
 exact⟨λw hw=>absurd (show w∈([]:List (Int × Bs)) from hw) sm,Nat.zero_le _⟩
theorem InR.pt:∀ {f k:Nat} {x:DvX} {a:Int} {s:Bs},InR k x->InR (k+f) (nI f x a s).1
 | 0,_,_,_,_,h=>h
 | f+1,k,x,a,s,h=>by
  unfold nI;split
  ·exact h.up om
  split
  ·exact((h.wr).pt (f:=f)).up om
  exact(h.wr).up om
theorem InR.cm {s:SlX}{r:Bs}(h:InR k x):InR (k+(L9 s.l++I8 r).length+1) (sD x s r).1:=by
 have h1:InR (k+(L9 s.l++I8 r).length) (eF x s r).1:=h.pt;have h2:InR (k+(L9 s.l++I8 r).length) (fI x s r).1:=h1.flush;have h3:InR (k+(L9 s.l++I8 r).length+1) (fH x s r).1:=h2.wr;have h4:InR (k+(L9 s.l++I8 r).length+1) (jG x s r).1:=h3.flush;unfold sD;split
 ·exact h.up om
 split
 ·exact h.up om
 split
 ·exact h.up om
 split
 ·exact h1.up om
 split
 ·exact h2.up om
 split
 ·exact h3
 split
 ·exact h4
 exact h4
section
variable {nm ky:Bs} {d:List Ent} {bs:List BlkX} {ws:List Bs} {x:DvX}
theorem Jv {y:DvX}{b:BlkX}(h:Ro x bs)(_:bs.length<189)(hg:BsG (bs++[b]))(hy:y.n=x.n)(ho:Old y (J3 bs) (J3 (bs++[b])))(hr:((iZ (bs++[b])).length:Int)<=Y6 x.n)(k:List Bool)(torn cut:Int) :
  Ro (Y3 y k torn cut) bs\/Ro (Y3 y k torn cut) (bs++[b]):=by
 have hn:=h.n;obtain⟨f1,f2,f3,f4⟩:=b0j (x:=y) (k:=k) (torn:=torn) (cut:=cut) om;have hk:=a9z (k:=k) (torn:=torn) (cut:=cut) ho.1;rcases ho.2 k torn cut with hf|hf
 ·exact .inl ⟨hk,f1,f2,by rw[f3,hy];exact hn,hf,by rw[f3,hy];exact h.rm,h.bg⟩
 exact .inr ⟨hk,f1,f2,by rw[f3,hy];exact hn,hf,by rw[f3,hy];exact hr,hg⟩
end
end
end Go.Proofs.Z

namespace Go.Proofs.Z
open Go Go.RowKit Tw Av Go.Proofs.Tryz
section
variable {t:Int}{x:DvX}
theorem a8U {I:ChI}{s:SlX}{c:ChX}(hd:c.dd=true):Av.Spec prog GL 55 [ptr I.gc,int t] (jH I x s c) λu m=>u=.tup [.sl 3 (([]:List Rep).map K3) none,int 13]/\m=jH I x s c:=by
 refine zc func55 ntmps55 λ_ hs=>?_;repeat' first|refine O ?_|intro
 rw[hd];repeat' first|refine O ?_|intro
 refine Y1 (.tup [.sl 3 (([]:List Rep).map K3) none,int 13]) (jH I x s c) ?_ ⟨rfl,rfl⟩ slr;exact Rp
section
variable {nm ky:Bs} {d:List Ent} {bs:List BlkX} {ws:List Bs} {x:DvX}
theorem Re (hd:DOk d)(h:Ro x bs)(hl:bs.length<189)(hw:WsG ws):InR 1000000 (R5 x (J3 bs) (F5 nm ky d bs ws false) t).1:=by
 have h0:InR 0 x:=⟨by rw[h.ws];simp,by rw[h.ws];simp⟩;unfold R5;rw[Ws hd h.bg];refine(h0.cm).up ?_;have h1:=Br (J3 bs).l;have h2:=Lm (Y4 (J7 bs ws t));have h3:=Dv ((SL h.bg om hw t).g (J7 bs ws t) sm).1;rw[lla];omega
theorem a2Y {t:Bs}{dd:Bool}(hw:WsG ws)(ht:Tx20 t\/6000<t.length):∃ ws',pY (F5 nm ky d bs ws dd) t=F5 nm ky d bs ws' dd/\WsG ws':=by
 have e:(F5 nm ky d bs ws dd).ws=ws:=rfl;by_cases h:R6 (F5 nm ky d bs ws dd) t=0
 ·refine⟨ws++[t],?_,?_,?_⟩
  ·unfold pY;rw[if_pos h];rfl
  ·unfold R6 at h;rw[e] at h;rw[lla,List.length_singleton];split at h
   ·cases h
   split at h
   ·cases h
   split at h
   ·cases h
   omega
  intro s hs;rcases List.mem_append.1 hs with hs|hs
  ·exact hw.t s hs
  rw[List.mem_singleton.1 hs];rcases ht with ht|ht
  ·exact ht
  exfalso
  unfold R6 at h;rw[if_pos ht] at h;split at h <;> cases h
 exact⟨ws,by unfold pY;rw[if_neg h],hw⟩
end
theorem Wx {k:List Bool}{torn cut a:Int}{b:Bool}:∀ (l:List (Int × Bs)) (i:Nat) (x:DvX),qJ k torn cut i { x with ar:=b,lf:=a } l={ qJ k torn cut i x l with ar:=b,lf:=a }
 | [],_,_=>rfl
 | w::l,i,x=>by
  have e:kW { x with ar:=b,lf:=a } k torn cut i w={ kW x k torn cut i w with ar:=b,lf:=a }:=by
   unfold kW;split <;> rfl
  show qJ k torn cut (i+1) (kW { x with ar:=b,lf:=a } k torn cut i w) l={ qJ k torn cut (i+1) (kW x k torn cut i w) l with ar:=b,lf:=a };rw[e];exact Wx l (i+1) _
theorem Wt {k:List Bool}{torn cut a:Int}(hn:x.n≠0):Y3 (wM x a) k torn cut={ Y3 x k torn cut with lf:=max a 0 }:=by
 unfold Y3 wM;dsimp only;rw[if_neg hn,if_neg hn,Wx]
theorem Jw {bs:List BlkX}{a:Int}(h:Ro x bs)(ha:0<=a/\a<=1000000):Ro { x with lf:=a } bs:=
 ⟨⟨h.dv.n,h.dv.mn,h.dv.el,h.dv.wl,ha⟩,h.on,h.ws,h.n,h.fit,h.rm,h.bg⟩
theorem a3D {bs:List BlkX}{k:Int}(h:Ro x bs)(hk:k<=1000):Ro (wM x k) bs:=
 ⟨⟨h.dv.n,h.dv.mn,h.dv.el,h.dv.wl,by show 0<=max k 0/\max k 0<=1000000;omega⟩,h.on,h.ws,h.n,h.fit,h.rm,h.bg⟩
def OY (b:Bool):Nat:=if b=true then 1 else 0
def brS (bs:List BlkX)(dd:Bool):SlX:={ J3 bs with br:=dd }
structure LvI (N:Nat)(x:DvX)(bs:List BlkX)(ws:List Bs)(dd:Bool):Prop where
 dv:DvOk x
 r:InR 1000000 x
 g:BsG bs
 al:dd=false->Ro x bs
 cr:∀ k torn cut,∃ l,Ro (Y3 x k torn cut) (bs++l)/\l.length<=OY dd
 bi:bs.length+OY dd<=N
 ws:WsG ws
section
variable {N:Nat} {x y:DvX} {bs:List BlkX} {ws:List Bs} {dd:Bool}
theorem TD (h:Ro x bs)(hb:bs.length<=N)(hw:WsG ws):LvI N x bs ws false:=
 ⟨h.dv,⟨by rw[h.ws];simp,by rw[h.ws];simp⟩,h.bg,λ_=>h,λk torn cut=>⟨[],by rw[List.append_nil];exact Jy h,Nat.zero_le _⟩,hb,hw⟩
theorem Qa (h:Ro x bs)(hl:bs.length<189)(hw:WsG ws)(hy:y.n=x.n)(ho:Old y (J3 bs) (J3 (bs++[J7 bs ws t])))(hr:((iZ (bs++[J7 bs ws t])).length:Int)<=Y6 x.n)(hin:InR 1000000 y)(hb:bs.length+1<=N):LvI N y bs ws true:=
 ⟨ho.1,hin,h.bg,λe=>(by cases e),λk torn cut=>by
  rcases Jv h hl (SL h.bg om hw t) hy ho hr k torn cut with h1|h1
  ·exact⟨[],by rw[List.append_nil];exact h1,Nat.zero_le _⟩
  exact⟨[J7 bs ws t],h1,Nat.le_refl _⟩,hb,hw⟩
theorem LvI.arm {k:Int}(h:LvI N x bs ws dd)(hn:x.n≠0)(hk:k<=1000):LvI (N+1) (wM x k) bs ws dd:=by
 refine⟨a9A h.dv om,⟨h.r.a,h.r.l⟩,h.g,λe=>a3D (h.al e) hk,λkp torn cut=>?_,Nat.le_succ_of_le h.bi,h.ws⟩;obtain⟨l,h1,h2⟩:=h.cr kp torn cut;refine⟨l,?_,h2⟩;rw[Wt hn];exact Jw h1 om
theorem LvI.sub {ws':List Bs}(h:LvI N x bs ws dd)(hw:WsG ws'):LvI (N+1) x bs ws' dd:=
 ⟨h.dv,h.r,h.g,h.al,h.cr,Nat.le_succ_of_le h.bi,hw⟩
end
end
end Go.Proofs.Z
