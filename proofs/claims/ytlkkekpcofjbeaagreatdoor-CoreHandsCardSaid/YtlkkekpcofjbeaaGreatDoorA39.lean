/- chapter 18, the document's way, walked: any transaction -/
import Derived.Test.YtlkkekpcofjbeaaGreatDoorA37
import Derived.Test.YtlkkekpcofjbeaaGreatDoorA38
namespace Go.Proofs.YtlkkekpcofjbeaaGreatDoor
open Go Go.RowKit Tw Av
section
variable {P:Program} {N:Nat} {ops:Array Oper} {Q:Exit->Act->World->Prop} {s:Av.Base} {e:Av.Env} {m:List Av.Piece}
theorem al_up {l:List Oper}(A V r:List Av.Piece)(h:AL P N ops Q s l e (A++(V++r))):AL P N ops Q s l e (V++(A++r)):=al_prm _ h (List.perm_append_comm_assoc A V r)
end
set_option maxHeartbeats 4000000 in
theorem fnWAfter0 {a b:SideX}{I J:IdS}{s:StpX}{z:TxX}{d:List Ent}{r:Rep}{N:Nat}(hi:s.i % 2=0)(hN:N<=1000)(ha:SOk N a)(hd:DOk d)(_:PkB z.x):Av.Spec Tryz.prog GL 6 [wdA a b I J,stpA s,txA z,.sl 2 (d.map entA) none,repA r] (tlS I++tlS J) fun u m=>∃ I',u=wdA (aftX a s.t z d r) b I' J/\m=tlS I'++tlS J:=by
 have hh:0<=a.h/\a.h<=1000000:=by have:=ha.h;have:=ha.hN;omega
 have hpl:a.p.length<=1000000:=by have:=ha.hN;omega
 have htl:a.ts.length<=1000000:=by have:=ha.tl;omega
 have ht:0<=a.t/\a.t<=4000:=by have:=ha.t;omega
 have hm1:(a.s.map pktA).length=a.s.length:=llm _
 have hm2:(a.g.map pktA).length=a.g.length:=llm _
 have hm3:(a.a.map str).length=a.a.length:=llm _
 have hsl:a.s.length<=1000:=by have:=ha.sl;omega
 have hgl:a.g.length<=1000:=by have:=ha.gl;omega
 have hal:a.a.length<=1000:=by have:=ha.al;omega
 refine qE Tryz.func6 rfl Tryz.ntmps6 rfl (fun _ hs=>?_)
 repeat' first|refine Zz ?_|intro _
 rw [hi]
 unfold aftX
 by_cases c0:z.k=0
 ·rw [if_pos c0]
  repeat' first|refine Zz ?_|intro _
  refine al_up (tlS I) [_,_,_,_,_,_] _ ?_
  refine al_callK (args:=[sdA a I,int (a.t + s.t % 4)]) (tlS I) _ (by rw [hs];exact fnWCut hh hpl htl) (fun u m1 hu=>?_) lpr
  obtain⟨vp,vt,rfl,rfl⟩:=hu
  repeat' first|refine Zz ?_|intro _
  refine reK (tlS { I with p:=vp,t:=vt }++tlS J) ⟨_,rfl,rfl⟩ ?_
  exact sbl
 rw [if_neg c0]
 by_cases c1:r.e=0
 ·rw [if_neg (by simpa using c1)]
  have hE:DOk d/\([72]:Bs).length<=1000000000:=⟨hd,by decide⟩
  repeat' first|refine Zz ?_|intro _
  by_cases c2:z.k=13
  ·rw [if_pos c2]
   repeat' first|refine Zz ?_|intro _
   refine al_append (fun vs=>?_)
   repeat' first|refine Zz ?_|intro _
   refine reK (tlS { I with s:=vs }++tlS J) ⟨{ I with s:=vs },?_,rfl⟩ ?_
   ·show AV.agg 18 _=AV.agg 18 _
    dsimp only [sdA]
    rw [List.map_append]
    rfl
   ·exact sbl
  rw [if_neg c2]
  by_cases c3:z.k=14
  ·rw [if_pos c3]
   repeat' first|refine Zz ?_|intro _
   refine al_append (fun vg=>?_)
   repeat' first|refine Zz ?_|intro _
   refine al_append (fun va=>?_)
   repeat' first|refine Zz ?_|intro _
   refine reK (tlS { I with g:=vg,a:=va }++tlS J) ⟨{ I with g:=vg,a:=va },?_,rfl⟩ ?_
   ·show AV.agg 18 _=AV.agg 18 _
    dsimp only [sdA]
    rw [List.map_append,List.map_append]
    rfl
   ·exact sbl
  rw [if_neg c3]
  repeat' first|refine Zz ?_|intro _
  refine reK (tlS I++tlS J) ⟨I,rfl,rfl⟩ ?_
  exact sbl
 ·rw [if_pos c1]
  repeat' first|refine Zz ?_|intro _
  refine reK (tlS I++tlS J) ⟨I,rfl,rfl⟩ ?_
  exact sbl
set_option maxHeartbeats 4000000 in
theorem fnWAfter1 {a b:SideX}{I J:IdS}{s:StpX}{z:TxX}{d:List Ent}{r:Rep}{N:Nat}(hi:s.i % 2=1)(hN:N<=1000)(hb:SOk N b)(hd:DOk d)(_:PkB z.x):Av.Spec Tryz.prog GL 6 [wdA a b I J,stpA s,txA z,.sl 2 (d.map entA) none,repA r] (tlS I++tlS J) fun u m=>∃ J',u=wdA a (aftX b s.t z d r) I J'/\m=tlS I++tlS J':=by
 have hh:0<=b.h/\b.h<=1000000:=by have:=hb.h;have:=hb.hN;omega
 have hpl:b.p.length<=1000000:=by have:=hb.hN;omega
 have htl:b.ts.length<=1000000:=by have:=hb.tl;omega
 have ht:0<=b.t/\b.t<=4000:=by have:=hb.t;omega
 have hm1:(b.s.map pktA).length=b.s.length:=llm _
 have hm2:(b.g.map pktA).length=b.g.length:=llm _
 have hm3:(b.a.map str).length=b.a.length:=llm _
 have hsl:b.s.length<=1000:=by have:=hb.sl;omega
 have hgl:b.g.length<=1000:=by have:=hb.gl;omega
 have hal:b.a.length<=1000:=by have:=hb.al;omega
 refine qE Tryz.func6 rfl Tryz.ntmps6 rfl (fun _ hs=>?_)
 repeat' first|refine Zz ?_|intro _
 rw [hi]
 unfold aftX
 by_cases c0:z.k=0
 ·rw [if_pos c0]
  repeat' first|refine Zz ?_|intro _
  refine al_up (tlS J) ([_,_,_,_,_,_]++tlS I) [] ?_
  refine al_callK (args:=[sdA b J,int (b.t + s.t % 4)]) (tlS J) _ (by rw [hs];exact fnWCut hh hpl htl) (fun u m1 hu=>?_) lpr
  obtain⟨vp,vt,rfl,rfl⟩:=hu
  refine al_rot (tlS { J with p:=vp,t:=vt }) _ ?_
  repeat' first|refine Zz ?_|intro _
  refine reK (tlS I++tlS { J with p:=vp,t:=vt }) ⟨_,rfl,rfl⟩ ?_
  exact sbl
 rw [if_neg c0]
 by_cases c1:r.e=0
 ·rw [if_neg (by simpa using c1)]
  have hE:DOk d/\([72]:Bs).length<=1000000000:=⟨hd,by decide⟩
  repeat' first|refine Zz ?_|intro _
  by_cases c2:z.k=13
  ·rw [if_pos c2]
   repeat' first|refine Zz ?_|intro _
   refine al_append (fun vs=>?_)
   repeat' first|refine Zz ?_|intro _
   refine reK (tlS I++tlS { J with s:=vs }) ⟨{ J with s:=vs },?_,rfl⟩ ?_
   ·show AV.agg 18 _=AV.agg 18 _
    dsimp only [sdA]
    rw [List.map_append]
    rfl
   ·exact sbl
  rw [if_neg c2]
  by_cases c3:z.k=14
  ·rw [if_pos c3]
   repeat' first|refine Zz ?_|intro _
   refine al_append (fun vg=>?_)
   repeat' first|refine Zz ?_|intro _
   refine al_append (fun va=>?_)
   repeat' first|refine Zz ?_|intro _
   refine reK (tlS I++tlS { J with g:=vg,a:=va }) ⟨{ J with g:=vg,a:=va },?_,rfl⟩ ?_
   ·show AV.agg 18 _=AV.agg 18 _
    dsimp only [sdA]
    rw [List.map_append,List.map_append]
    rfl
   ·exact sbl
  rw [if_neg c3]
  repeat' first|refine Zz ?_|intro _
  refine reK (tlS I++tlS J) ⟨J,rfl,rfl⟩ ?_
  exact sbl
 ·rw [if_pos c1]
  repeat' first|refine Zz ?_|intro _
  refine reK (tlS I++tlS J) ⟨J,rfl,rfl⟩ ?_
  exact sbl

theorem wid_nat {n:Nat}(h:n < 18446744073709551616):widA (wOf n)=.agg 4 [.lit (.int .u64 (n:Int)),.lit (.int .u64 0),.lit (.int .u64 0),.lit (.int .u64 0)]:=by
 have e:(wOf n).n=n:=wOf_n (by omega)
 have h0:lm n 0=n:=by
  unfold lm
  rw [Nat.pow_zero,Nat.div_one,Nat.mod_eq_of_lt h]
 have hz:∀ i,1<=i->lm n i=0:=fun i hi=>by
  unfold lm
  rw [Nat.div_eq_of_lt (Nat.lt_of_lt_of_le h (by
   have:=Nat.pow_le_pow_right (n:=18446744073709551616) (by decide) hi
   rw [Nat.pow_one] at this
   exact this))]
 show widN (wOf n).n=_
 rw [e,widN,h0,hz 1 (by decide),hz 2 (by decide),hz 3 (by decide)]
 rfl
def wTx (a b:SideX)(s:StpX):TxX:=if s.i % 2=1 then txX true b a s else txX false a b s
abbrev tx0K (k:Int):AV:=.agg 100 [int 0,str [],str [],str [],str [],str [],int 0,.agg 35 [str [],int 0,int 0,hA zeroH],hA zeroH,.agg 12 [int 0,str [],str [],.agg 7 [str [],.agg 4 [.lit (.int .u64 0),.lit (.int .u64 0),.lit (.int .u64 0),.lit (.int .u64 0)],str [],str []],int 0,int 0],str [],int k,.agg 3 [int 0,int 0,.lit (.slice none 0 0)],.agg 9 [int 0,.lit (.slice none 0 0),.lit (.slice none 0 0),.agg 3 [int 0,int 0,.lit (.slice none 0 0)],.agg 3 [int 0,int 0,.lit (.slice none 0 0)]]]
theorem txK_impC {k:Int}:ImpC (.agg 100 [int 0,str [],str [],str [],str [],str [],int 0,.agg 35 [str [],int 0,int 0,hA zeroH],hA zeroH,.agg 12 [int 0,str [],str [],.agg 7 [str [],.agg 4 [.lit (.int .u64 0),.lit (.int .u64 0),.lit (.int .u64 0),.lit (.int .u64 0)],str [],str []],int 0,int 0],str [],int k,.agg 3 [int 0,int 0,.lit (.slice none 0 0)],.agg 9 [int 0,.lit (.slice none 0 0),.lit (.slice none 0 0),.agg 3 [int 0,int 0,.lit (.slice none 0 0)],.agg 3 [int 0,int 0,.lit (.slice none 0 0)]]]) (txA (txK 0 k)):=by
 have e0:widA wZ=.agg 4 [.lit (.int .u64 0),.lit (.int .u64 0),.lit (.int .u64 0),.lit (.int .u64 0)]:=wid_nat (n:=0) (by decide)
 have e:txA (txK 0 k)=.agg 100 [int 0,str [],str [],str [],str [],str [],int 0,.agg 35 [str [],int 0,int 0,hA zeroH],hA zeroH,.agg 12 [int 0,str [],str [],.agg 7 [str [],widA wZ,str [],str []],int 0,int 0],str [],int k,.agg 3 [int 0,int 0,.sl 32 [] none],.agg 9 [int 0,.sl 2 [] none,.sl 2 [] none,.agg 3 [int 0,int 0,.sl 32 [] none],.agg 3 [int 0,int 0,.sl 32 [] none]]]:=rfl
 rw [e,e0]
 exact ImpT.imp
theorem txN_1 {i:Bool}{x y:SideX}{s:StpX}:txN i x y 1 s={ txK 4 (knX x i) with i:=nmK i,h:=hdrX y y.h,m:=sealOf ([107,101,121]++y.n) (hdrX y y.h) }:=rfl
theorem txN_2 {i:Bool}{x y:SideX}{s:StpX}:txN i x y 2 s={ txK 5 (knX x i) with i:=nmN i,o:=nmK i,q:=nmK (!i) }:=rfl
theorem txN_6 {i:Bool}{x y:SideX}{s:StpX}:txN i x y 6 s={ txK 9 (knX x i) with i:=nmH i,o:=nmN i,q:=nmN (!i) }:=rfl
theorem txN_h {i:Bool}{x y:SideX}{s:StpX}{n:Int}(h:n=3\/n=4\/n=5\/n=7\/n=8\/n=9):txN i x y n s=hanX i n (knX x i) (pastX y (knX x i)):=by
 rcases h with rfl|rfl|rfl|rfl|rfl|rfl <;> rfl
theorem txN_10 {i:Bool}{x y:SideX}{s:StpX}:txN i x y 10 s=sndX i false (knX x i) s.t (s.a % 8) y.t:=rfl
theorem txN_11 {i:Bool}{x y:SideX}{s:StpX}:txN i x y 11 s=sndX i true (knX x i) s.t (s.a % 8) y.t:=rfl
theorem txN_12 {i:Bool}{x y:SideX}{s:StpX}:txN i x y 12 s=recX y s.n (knX x i) (pastX y (knX x i)):=rfl
theorem txN_13 {i:Bool}{x y:SideX}{s:StpX}:txN i x y 13 s=ackX x y s.n (knX x i) (pastX y (knX x i)):=rfl
theorem txN_14 {i:Bool}{x y:SideX}{s:StpX}:txN i x y 14 s=timX x s.n (knX x i) (pastX y (knX x i)):=rfl
theorem txN_15 {i:Bool}{x y:SideX}{s:StpX}:txN i x y 15 s={ txK (1 + s.n % 2) (knX x i) with x:=⟨0,[],[],[120],wOf (s.a % 8).toNat,[97,110,110],[99,97,116],0,0⟩ }:=rfl
theorem txN_0 {i:Bool}{x y:SideX}{s:StpX}:txN i x y 0 s=txK 0 (knX x i):=rfl
theorem memK_a {d:List Ent}(h:DOk d)(k:Bs):0<=(memK d k).a/\(memK d k).a<=2000:=by
 have hf:=fndAt_le d k
 have hl:=h.l
 unfold memK memP
 split
 ·show (0:Int)<=(fndAt d k:Nat)/\((fndAt d k:Nat):Int)<=2000
  omega
 ·decide
theorem txN_ft {N:Nat}{x y:SideX}(hy:SOk N y)(i:Bool)(n:Int)(s:StpX):(txN i x y n s).t=knX x i/\0<=(txN i x y n s).f.a/\(txN i x y n s).f.a<=2000:=by
 have hz:(0:Int)<=0/\(0:Int)<=2000:=by decide
 have hm:=memK_a (pastX_ok hy (knX x i))
 unfold txN
 repeat' split
 all_goals first
  | exact⟨rfl,hz⟩
  | (unfold hanX;split <;> exact⟨rfl,hm _⟩)
  | (unfold recX;split <;> first|exact⟨rfl,hm _⟩|exact⟨rfl,hz⟩)
  | (unfold ackX;split <;> first|exact⟨rfl,hm _⟩|exact⟨rfl,hz⟩)
  | (unfold timX;split <;> exact⟨rfl,hz⟩)
set_option maxHeartbeats 4000000 in
theorem fnWTx0 {a b:SideX}{I J:IdS}{s:StpX}(hi:s.i % 2=0)(hp:∃ N,N<=1000/\SOk N a/\SOk N b):Av.Spec Tryz.prog GL 24 [wdA a b I J,stpA s] [] fun v m=>v=txA (txX false a b s)/\m=[]:=by
 obtain⟨N,hN,ha,hb⟩:=hp
 refine qE Tryz.func24 rfl Tryz.ntmps24 rfl (fun _ hs=>?_)
 repeat' first|refine Zz ?_|intro _
 rw [hi]
 have hd:=ha.d
 have hK:=knX_rng a false
 have hmp:(b.p.map dSl).length=b.p.length:=llm _
 have hpl:b.p.length<=1001:=by have:=hb.hN;omega
 have hpo:=pastX_ok hb (knX a false)
 have hp1:=hpo.l
 have hft:=txN_ft (x:=a) hb false (s.k % 16) s
 have hsp:(txN false a b (s.k % 16) s).t<=1099511627776/\(txN false a b (s.k % 16) s).f.a<=1099511627776/\-1099511627776<=(txN false a b (s.k % 16) s).t/\-1099511627776<=(txN false a b (s.k % 16) s).f.a:=by
  obtain⟨h1,h2,h3⟩:=hft
  rw [h1]
  omega
 have hpp:12<=s.k % 16->s.k % 16<=14->(((pastX b (knX a false)).length<=2000/\Srt (pastX b (knX a false)))/\(a.s.length<=1000000/\a.g.length<=1000000/\a.a.length=a.g.length/\∀ p ∈ a.s,PkB p)/\(b.s.length<=1000000/\b.g.length<=1000000/\b.a.length=b.g.length/\∀ p ∈ b.s,PkB p)/\12<=s.k % 16/\s.k % 16<=14):=by
  have:=ha.sl;have:=ha.gl;have:=hb.sl;have:=hb.gl
  exact fun h1 h2=>⟨⟨hpo.l,hpo.s⟩,⟨by omega,by omega,ha.al,ha.s⟩,⟨by omega,by omega,hb.al,hb.s⟩,h1,h2⟩
 have hhd:(1<=b.h/\b.h<=b.p.length)/\(b.p.length<=1000000/\b.ts.length=b.p.length)/\∀ q ∈ b.p,q.length<=1000000:=by
  have h1:=hb.h;have h2:=hb.h1
  exact⟨⟨by omega,by omega⟩,⟨by omega,hb.tl⟩,fun q hq=>by have:=(hb.p q hq).l;omega⟩
 have hyn:=hb.n
 have hsl:([107,101,121]++b.n).length<=1000000/\(hdrX b b.h).h<=9223372036854775807/\(hdrX b b.h).t<=9223372036854775807:=⟨by rw [lla,hyn];decide,hdrX_b hb hN⟩
 have hnl:=(nm_len false).2.2
 have hw1:widA (wOf (1 + s.a % 8).toNat)=.agg 4 [.lit (.int .u64 (1 + s.a % 8)),.lit (.int .u64 0),.lit (.int .u64 0),.lit (.int .u64 0)]:=by
  rw [wid_nat (by omega),Int.toNat_of_nonneg (by omega)]
 have hw0:widA (wOf (s.a % 8).toNat)=.agg 4 [.lit (.int .u64 (s.a % 8)),.lit (.int .u64 0),.lit (.int .u64 0),.lit (.int .u64 0)]:=by
  rw [wid_nat (by omega),Int.toNat_of_nonneg (by omega)]
 have hyt:0<=b.t/\b.t<=4000:=by have:=hb.t;omega
 repeat' first|refine Zz ?_|intro _
 rw [show (1:Int) - 0=1 from rfl]
 repeat' first|refine Zz ?_|intro _
 rename_i gw gs gr g6 g7 gy gx
 refine al_mid (α:=Unit) (fun _=>[(2,ptr gw),(3,ptr gs),(4,ptr gr),(6,ptr g6),(7,ptr g7),(8,ptr gy),(9,int (knX a false)),(10,ptr gx),(11,.lit (.slice none 0 0)),(38,boo (decide (1<=knX a false/\knX a false<=(b.p.length:Nat))))]) (fun _=>[.var gx 56 (tx0K (knX a false)),.var gy 29 (sdA b J),.var g7 88 (nmA true),.var g6 88 (nmA false),.var gr 56 tx0V,.var gs 38 (stpA s),.var gw 32 (wdA a b I J)]) ?h1 (fun _=>?h2)
 case h1=>
  by_cases c1:1<=knX a false
  ·repeat' first|refine Zz ?_|intro _
   refine ae_as 38 (v':=boo (decide (1<=knX a false/\knX a false<=(b.p.length:Nat)))) (show Imp (.lit (.bool (decide (knX a false<=(((b.p.map dSl).length:Nat):Int))))) (boo (decide (1<=knX a false/\knX a false<=(b.p.length:Nat)))) from Imp.of_eq (congrArg (fun b=>AV.lit (.bool b)) (by rw [hmp];exact decide_eq_decide.2 ⟨fun h=>⟨c1,h⟩,fun h=>h.2⟩))) ?_
   exact ae_cut () ⟨rfl,rfl,rfl,rfl,rfl,rfl,rfl,rfl,rfl,rfl,trivial⟩ slr
  ·repeat' first|refine Zz ?_|intro _
   refine ae_as 38 (v':=boo (decide (1<=knX a false/\knX a false<=(b.p.length:Nat)))) (Imp.of_eq (congrArg (fun b=>AV.lit (.bool b)) (dZ (by omega)).symm)) ?_
   exact ae_cut () ⟨rfl,rfl,rfl,rfl,rfl,rfl,rfl,rfl,rfl,rfl,trivial⟩ slr
 refine ac_asV (g:=gx) (v':=txA (txK 0 (knX a false))) txK_impC ?_
 refine ac_mid (α:=Unit) (fun _=>[(2,ptr gw),(3,ptr gs),(4,ptr gr),(6,ptr g6),(7,ptr g7),(8,ptr gy),(9,int (knX a false)),(10,ptr gx),(11,.sl 2 ((pastX b (knX a false)).map entA) none)]) (fun _=>[.var gx 56 (txA (txK 0 (knX a false))),.var gy 29 (sdA b J),.var g7 88 (nmA true),.var g6 88 (nmA false),.var gr 56 tx0V,.var gs 38 (stpA s),.var gw 32 (wdA a b I J)]) ?h3 (fun _=>?h4)
 case h3=>
  by_cases cc:1<=knX a false/\knX a false<=(b.p.length:Nat)
  ·rw [dT cc]
   obtain⟨c1,c2⟩:=cc
   obtain⟨i,hi2⟩:∃ i:Nat,knX a false - 1=(i:Int):=⟨(knX a false - 1).toNat,by omega⟩
   have hil:i < b.p.length:=by omega
   have e:pastX b (knX a false)=b.p[i]:=by
    unfold pastX
    rw [if_pos ⟨c1,c2⟩,hi2,Int.toNat_natCast,List.getD_eq_getElem?_getD,List.getElem?_eq_getElem hil]
    rfl
   repeat' first|refine Zz ?_|intro _
   rw [hi2]
   repeat' first|refine Zz ?_|intro _
   rw [<- e]
   exact ae_cut () ⟨rfl,rfl,rfl,rfl,rfl,rfl,rfl,rfl,rfl,trivial⟩ slr
  ·rw [dZ cc]
   have e:pastX b (knX a false)=[]:=by
    unfold pastX
    rw [if_neg cc]
   repeat' first|refine Zz ?_|intro _
   refine ae_as 11 (v':=.sl 2 ((pastX b (knX a false)).map entA) none) (by rw [e];exact Imp.nilN) ?_
   exact ae_cut () ⟨rfl,rfl,rfl,rfl,rfl,rfl,rfl,rfl,rfl,trivial⟩ slr
 by_cases c1:s.k % 16=1
 ·have c:=c1
  have eN:txN false a b (s.k % 16) s={ txK 4 (knX a false) with i:=nmK false,h:=hdrX b b.h,m:=sealOf ([107,101,121]++b.n) (hdrX b b.h) }:=by rw [c];exact txN_1
  repeat' first|refine Zz ?_|intro _
  refine al_as 177 (v':=txA (txN false a b (s.k % 16) s)) (by rw [eN];exact fun _ _ _ h=>h) ?_
  repeat' first|refine Zz ?_|intro _
  refine reE ?_
  rfl
 by_cases c2:s.k % 16=2
 ·have c:=c2
  have eN:txN false a b (s.k % 16) s={ txK 5 (knX a false) with i:=nmN false,o:=nmK false,q:=nmK (!false) }:=by rw [c];exact txN_2
  repeat' first|refine Zz ?_|intro _
  refine al_as 177 (v':=txA (txN false a b (s.k % 16) s)) (by rw [eN];exact fun _ _ _ h=>h) ?_
  repeat' first|refine Zz ?_|intro _
  refine reE ?_
  rfl
 by_cases c3:s.k % 16=3
 ·have c:=c3
  have eN:txN false a b (s.k % 16) s=hanX (decide (s.i % 2=1)) (s.k % 16) (knX a false) (pastX b (knX a false)):=(txN_h (by omega)).trans (by rw [hi];rfl)
  repeat' first|refine Zz ?_|intro _
  refine al_as 177 (v':=txA (txN false a b (s.k % 16) s)) (by rw [eN];exact fun _ _ _ h=>h) ?_
  repeat' first|refine Zz ?_|intro _
  refine reE ?_
  rfl
 by_cases c4:s.k % 16=4
 ·have c:=c4
  have eN:txN false a b (s.k % 16) s=hanX (decide (s.i % 2=1)) (s.k % 16) (knX a false) (pastX b (knX a false)):=(txN_h (by omega)).trans (by rw [hi];rfl)
  repeat' first|refine Zz ?_|intro _
  refine al_as 177 (v':=txA (txN false a b (s.k % 16) s)) (by rw [eN];exact fun _ _ _ h=>h) ?_
  repeat' first|refine Zz ?_|intro _
  refine reE ?_
  rfl
 by_cases c5:s.k % 16=5
 ·have c:=c5
  have eN:txN false a b (s.k % 16) s=hanX (decide (s.i % 2=1)) (s.k % 16) (knX a false) (pastX b (knX a false)):=(txN_h (by omega)).trans (by rw [hi];rfl)
  repeat' first|refine Zz ?_|intro _
  refine al_as 177 (v':=txA (txN false a b (s.k % 16) s)) (by rw [eN];exact fun _ _ _ h=>h) ?_
  repeat' first|refine Zz ?_|intro _
  refine reE ?_
  rfl
 by_cases c6:s.k % 16=6
 ·have c:=c6
  have eN:txN false a b (s.k % 16) s={ txK 9 (knX a false) with i:=nmH false,o:=nmN false,q:=nmN (!false) }:=by rw [c];exact txN_6
  repeat' first|refine Zz ?_|intro _
  refine al_as 177 (v':=txA (txN false a b (s.k % 16) s)) (by rw [eN];exact fun _ _ _ h=>h) ?_
  repeat' first|refine Zz ?_|intro _
  refine reE ?_
  rfl
 by_cases c7:s.k % 16=7
 ·have c:=c7
  have eN:txN false a b (s.k % 16) s=hanX (decide (s.i % 2=1)) (s.k % 16) (knX a false) (pastX b (knX a false)):=(txN_h (by omega)).trans (by rw [hi];rfl)
  repeat' first|refine Zz ?_|intro _
  refine al_as 177 (v':=txA (txN false a b (s.k % 16) s)) (by rw [eN];exact fun _ _ _ h=>h) ?_
  repeat' first|refine Zz ?_|intro _
  refine reE ?_
  rfl
 by_cases c8:s.k % 16=8
 ·have c:=c8
  have eN:txN false a b (s.k % 16) s=hanX (decide (s.i % 2=1)) (s.k % 16) (knX a false) (pastX b (knX a false)):=(txN_h (by omega)).trans (by rw [hi];rfl)
  repeat' first|refine Zz ?_|intro _
  refine al_as 177 (v':=txA (txN false a b (s.k % 16) s)) (by rw [eN];exact fun _ _ _ h=>h) ?_
  repeat' first|refine Zz ?_|intro _
  refine reE ?_
  rfl
 by_cases c9:s.k % 16=9
 ·have c:=c9
  have eN:txN false a b (s.k % 16) s=hanX (decide (s.i % 2=1)) (s.k % 16) (knX a false) (pastX b (knX a false)):=(txN_h (by omega)).trans (by rw [hi];rfl)
  repeat' first|refine Zz ?_|intro _
  refine al_as 177 (v':=txA (txN false a b (s.k % 16) s)) (by rw [eN];exact fun _ _ _ h=>h) ?_
  repeat' first|refine Zz ?_|intro _
  refine reE ?_
  rfl
 by_cases c10:s.k % 16=10
 ·have c:=c10
  have eN:txN false a b (s.k % 16) s=sndX false false (knX a false) s.t (s.a % 8) b.t:=by rw [c];exact txN_10
  repeat' first|refine Zz ?_|intro _
  refine al_mask7' ?_
  repeat' first|refine Zz ?_|intro _
  refine al_as 177 (v':=txA (txN false a b (s.k % 16) s)) (by rw [eN];show Imp _ (.agg 100 [_,_,_,_,_,_,_,_,_,.agg 12 [_,_,_,.agg 7 [_,widA (wOf (1 + s.a % 8).toNat),_,_],_,_],_,_,_,_]);rw [hw1];exact fun _ _ _ h=>h) ?_
  repeat' first|refine Zz ?_|intro _
  refine reE ?_
  rfl
 by_cases c11:s.k % 16=11
 ·have c:=c11
  have eN:txN false a b (s.k % 16) s=sndX false true (knX a false) s.t (s.a % 8) b.t:=by rw [c];exact txN_11
  repeat' first|refine Zz ?_|intro _
  refine al_mask7' ?_
  repeat' first|refine Zz ?_|intro _
  refine al_mask7' ?_
  repeat' first|refine Zz ?_|intro _
  refine al_as 177 (v':=txA (txN false a b (s.k % 16) s)) (by rw [eN];show Imp _ (.agg 100 [_,_,_,_,_,_,_,_,_,.agg 12 [_,_,_,.agg 7 [_,widA (wOf (1 + s.a % 8).toNat),_,_],_,_],_,_,_,_]);rw [hw1];exact fun _ _ _ h=>h) ?_
  repeat' first|refine Zz ?_|intro _
  refine reE ?_
  rfl
 by_cases c12:s.k % 16=12
 ·have c:=c12
  have eN:txN false a b (s.k % 16) s=(if s.i % 2=1 then (if s.k % 16=12 then recX a s.n (knX a false) (pastX b (knX a false)) else if s.k % 16=13 then ackX b a s.n (knX a false) (pastX b (knX a false)) else timX b s.n (knX a false) (pastX b (knX a false))) else (if s.k % 16=12 then recX b s.n (knX a false) (pastX b (knX a false)) else if s.k % 16=13 then ackX a b s.n (knX a false) (pastX b (knX a false)) else timX a s.n (knX a false) (pastX b (knX a false)))):=by rw [hi,c];exact txN_12
  have hpq:=hpp (by omega) (by omega)
  repeat' first|refine Zz ?_|intro _
  refine al_as 177 (v':=txA (txN false a b (s.k % 16) s)) (by rw [eN];exact fun _ _ _ h=>h) ?_
  repeat' first|refine Zz ?_|intro _
  refine reE ?_
  rfl
 by_cases c13:s.k % 16=13
 ·have c:=c13
  have eN:txN false a b (s.k % 16) s=(if s.i % 2=1 then (if s.k % 16=12 then recX a s.n (knX a false) (pastX b (knX a false)) else if s.k % 16=13 then ackX b a s.n (knX a false) (pastX b (knX a false)) else timX b s.n (knX a false) (pastX b (knX a false))) else (if s.k % 16=12 then recX b s.n (knX a false) (pastX b (knX a false)) else if s.k % 16=13 then ackX a b s.n (knX a false) (pastX b (knX a false)) else timX a s.n (knX a false) (pastX b (knX a false)))):=by rw [hi,c];exact txN_13
  have hpq:=hpp (by omega) (by omega)
  repeat' first|refine Zz ?_|intro _
  refine al_as 177 (v':=txA (txN false a b (s.k % 16) s)) (by rw [eN];exact fun _ _ _ h=>h) ?_
  repeat' first|refine Zz ?_|intro _
  refine reE ?_
  rfl
 by_cases c14:s.k % 16=14
 ·have c:=c14
  have eN:txN false a b (s.k % 16) s=(if s.i % 2=1 then (if s.k % 16=12 then recX a s.n (knX a false) (pastX b (knX a false)) else if s.k % 16=13 then ackX b a s.n (knX a false) (pastX b (knX a false)) else timX b s.n (knX a false) (pastX b (knX a false))) else (if s.k % 16=12 then recX b s.n (knX a false) (pastX b (knX a false)) else if s.k % 16=13 then ackX a b s.n (knX a false) (pastX b (knX a false)) else timX a s.n (knX a false) (pastX b (knX a false)))):=by rw [hi,c];exact txN_14
  have hpq:=hpp (by omega) (by omega)
  repeat' first|refine Zz ?_|intro _
  refine al_as 177 (v':=txA (txN false a b (s.k % 16) s)) (by rw [eN];exact fun _ _ _ h=>h) ?_
  repeat' first|refine Zz ?_|intro _
  refine reE ?_
  rfl
 by_cases c15:s.k % 16=15
 ·have c:=c15
  have eN:txN false a b (s.k % 16) s={ txK (1 + s.n % 2) (knX a false) with x:=⟨0,[],[],[120],wOf (s.a % 8).toNat,[97,110,110],[99,97,116],0,0⟩ }:=by rw [c];exact txN_15
  repeat' first|refine Zz ?_|intro _
  refine al_mask7' ?_
  repeat' first|refine Zz ?_|intro _
  refine al_as 177 (v':=txA (txN false a b (s.k % 16) s)) (by rw [eN];show Imp _ (.agg 100 [_,_,_,_,_,_,_,_,_,.agg 12 [_,_,_,.agg 7 [_,widA (wOf (s.a % 8).toNat),_,_],_,_],_,_,_,_]);rw [hw0];exact fun _ _ _ h=>h) ?_
  repeat' first|refine Zz ?_|intro _
  refine reE ?_
  rfl
 have eN:txN false a b (s.k % 16) s=txK 0 (knX a false):=by
  rw [show s.k % 16=0 by omega]
  exact txN_0
 repeat' first|refine Zz ?_|intro _
 refine al_as 177 (v':=txA (txN false a b (s.k % 16) s)) (by rw [eN];exact fun _ _ _ h=>h) ?_
 repeat' first|refine Zz ?_|intro _
 refine reE ?_
 rfl

set_option maxHeartbeats 4000000 in
theorem fnWTx1 {a b:SideX}{I J:IdS}{s:StpX}(hi:s.i % 2=1)(hp:∃ N,N<=1000/\SOk N a/\SOk N b):Av.Spec Tryz.prog GL 24 [wdA a b I J,stpA s] [] fun v m=>v=txA (txX true b a s)/\m=[]:=by
 obtain⟨N,hN,ha,hb⟩:=hp
 refine qE Tryz.func24 rfl Tryz.ntmps24 rfl (fun _ hs=>?_)
 repeat' first|refine Zz ?_|intro _
 rw [hi]
 have hd:=hb.d
 have hK:=knX_rng b true
 have hmp:(a.p.map dSl).length=a.p.length:=llm _
 have hpl:a.p.length<=1001:=by have:=ha.hN;omega
 have hpo:=pastX_ok ha (knX b true)
 have hp1:=hpo.l
 have hft:=txN_ft (x:=b) ha true (s.k % 16) s
 have hsp:(txN true b a (s.k % 16) s).t<=1099511627776/\(txN true b a (s.k % 16) s).f.a<=1099511627776/\-1099511627776<=(txN true b a (s.k % 16) s).t/\-1099511627776<=(txN true b a (s.k % 16) s).f.a:=by
  obtain⟨h1,h2,h3⟩:=hft
  rw [h1]
  omega
 have hpp:12<=s.k % 16->s.k % 16<=14->(((pastX a (knX b true)).length<=2000/\Srt (pastX a (knX b true)))/\(a.s.length<=1000000/\a.g.length<=1000000/\a.a.length=a.g.length/\∀ p ∈ a.s,PkB p)/\(b.s.length<=1000000/\b.g.length<=1000000/\b.a.length=b.g.length/\∀ p ∈ b.s,PkB p)/\12<=s.k % 16/\s.k % 16<=14):=by
  have:=ha.sl;have:=ha.gl;have:=hb.sl;have:=hb.gl
  exact fun h1 h2=>⟨⟨hpo.l,hpo.s⟩,⟨by omega,by omega,ha.al,ha.s⟩,⟨by omega,by omega,hb.al,hb.s⟩,h1,h2⟩
 have hhd:(1<=a.h/\a.h<=a.p.length)/\(a.p.length<=1000000/\a.ts.length=a.p.length)/\∀ q ∈ a.p,q.length<=1000000:=by
  have h1:=ha.h;have h2:=ha.h1
  exact⟨⟨by omega,by omega⟩,⟨by omega,ha.tl⟩,fun q hq=>by have:=(ha.p q hq).l;omega⟩
 have hyn:=ha.n
 have hsl:([107,101,121]++a.n).length<=1000000/\(hdrX a a.h).h<=9223372036854775807/\(hdrX a a.h).t<=9223372036854775807:=⟨by rw [lla,hyn];decide,hdrX_b ha hN⟩
 have hnl:=(nm_len true).2.2
 have hw1:widA (wOf (1 + s.a % 8).toNat)=.agg 4 [.lit (.int .u64 (1 + s.a % 8)),.lit (.int .u64 0),.lit (.int .u64 0),.lit (.int .u64 0)]:=by
  rw [wid_nat (by omega),Int.toNat_of_nonneg (by omega)]
 have hw0:widA (wOf (s.a % 8).toNat)=.agg 4 [.lit (.int .u64 (s.a % 8)),.lit (.int .u64 0),.lit (.int .u64 0),.lit (.int .u64 0)]:=by
  rw [wid_nat (by omega),Int.toNat_of_nonneg (by omega)]
 have hyt:0<=a.t/\a.t<=4000:=by have:=ha.t;omega
 repeat' first|refine Zz ?_|intro _
 rw [show (1:Int) - 1=0 from rfl]
 repeat' first|refine Zz ?_|intro _
 rename_i gw gs gr g6 g7 gy gx
 refine al_mid (α:=Unit) (fun _=>[(2,ptr gw),(3,ptr gs),(4,ptr gr),(6,ptr g6),(7,ptr g7),(8,ptr gy),(9,int (knX b true)),(10,ptr gx),(11,.lit (.slice none 0 0)),(38,boo (decide (1<=knX b true/\knX b true<=(a.p.length:Nat))))]) (fun _=>[.var gx 56 (tx0K (knX b true)),.var gy 29 (sdA a I),.var g7 88 (nmA false),.var g6 88 (nmA true),.var gr 56 tx0V,.var gs 38 (stpA s),.var gw 32 (wdA a b I J)]) ?h1 (fun _=>?h2)
 case h1=>
  by_cases c1:1<=knX b true
  ·repeat' first|refine Zz ?_|intro _
   refine ae_as 38 (v':=boo (decide (1<=knX b true/\knX b true<=(a.p.length:Nat)))) (show Imp (.lit (.bool (decide (knX b true<=(((a.p.map dSl).length:Nat):Int))))) (boo (decide (1<=knX b true/\knX b true<=(a.p.length:Nat)))) from Imp.of_eq (congrArg (fun b=>AV.lit (.bool b)) (by rw [hmp];exact decide_eq_decide.2 ⟨fun h=>⟨c1,h⟩,fun h=>h.2⟩))) ?_
   exact ae_cut () ⟨rfl,rfl,rfl,rfl,rfl,rfl,rfl,rfl,rfl,rfl,trivial⟩ slr
  ·repeat' first|refine Zz ?_|intro _
   refine ae_as 38 (v':=boo (decide (1<=knX b true/\knX b true<=(a.p.length:Nat)))) (Imp.of_eq (congrArg (fun b=>AV.lit (.bool b)) (dZ (by omega)).symm)) ?_
   exact ae_cut () ⟨rfl,rfl,rfl,rfl,rfl,rfl,rfl,rfl,rfl,rfl,trivial⟩ slr
 refine ac_asV (g:=gx) (v':=txA (txK 0 (knX b true))) txK_impC ?_
 refine ac_mid (α:=Unit) (fun _=>[(2,ptr gw),(3,ptr gs),(4,ptr gr),(6,ptr g6),(7,ptr g7),(8,ptr gy),(9,int (knX b true)),(10,ptr gx),(11,.sl 2 ((pastX a (knX b true)).map entA) none)]) (fun _=>[.var gx 56 (txA (txK 0 (knX b true))),.var gy 29 (sdA a I),.var g7 88 (nmA false),.var g6 88 (nmA true),.var gr 56 tx0V,.var gs 38 (stpA s),.var gw 32 (wdA a b I J)]) ?h3 (fun _=>?h4)
 case h3=>
  by_cases cc:1<=knX b true/\knX b true<=(a.p.length:Nat)
  ·rw [dT cc]
   obtain⟨c1,c2⟩:=cc
   obtain⟨i,hi2⟩:∃ i:Nat,knX b true - 1=(i:Int):=⟨(knX b true - 1).toNat,by omega⟩
   have hil:i < a.p.length:=by omega
   have e:pastX a (knX b true)=a.p[i]:=by
    unfold pastX
    rw [if_pos ⟨c1,c2⟩,hi2,Int.toNat_natCast,List.getD_eq_getElem?_getD,List.getElem?_eq_getElem hil]
    rfl
   repeat' first|refine Zz ?_|intro _
   rw [hi2]
   repeat' first|refine Zz ?_|intro _
   rw [<- e]
   exact ae_cut () ⟨rfl,rfl,rfl,rfl,rfl,rfl,rfl,rfl,rfl,trivial⟩ slr
  ·rw [dZ cc]
   have e:pastX a (knX b true)=[]:=by
    unfold pastX
    rw [if_neg cc]
   repeat' first|refine Zz ?_|intro _
   refine ae_as 11 (v':=.sl 2 ((pastX a (knX b true)).map entA) none) (by rw [e];exact Imp.nilN) ?_
   exact ae_cut () ⟨rfl,rfl,rfl,rfl,rfl,rfl,rfl,rfl,rfl,trivial⟩ slr
 by_cases c1:s.k % 16=1
 ·have c:=c1
  have eN:txN true b a (s.k % 16) s={ txK 4 (knX b true) with i:=nmK true,h:=hdrX a a.h,m:=sealOf ([107,101,121]++a.n) (hdrX a a.h) }:=by rw [c];exact txN_1
  repeat' first|refine Zz ?_|intro _
  refine al_as 177 (v':=txA (txN true b a (s.k % 16) s)) (by rw [eN];exact fun _ _ _ h=>h) ?_
  repeat' first|refine Zz ?_|intro _
  refine reE ?_
  rfl
 by_cases c2:s.k % 16=2
 ·have c:=c2
  have eN:txN true b a (s.k % 16) s={ txK 5 (knX b true) with i:=nmN true,o:=nmK true,q:=nmK (!true) }:=by rw [c];exact txN_2
  repeat' first|refine Zz ?_|intro _
  refine al_as 177 (v':=txA (txN true b a (s.k % 16) s)) (by rw [eN];exact fun _ _ _ h=>h) ?_
  repeat' first|refine Zz ?_|intro _
  refine reE ?_
  rfl
 by_cases c3:s.k % 16=3
 ·have c:=c3
  have eN:txN true b a (s.k % 16) s=hanX (decide (s.i % 2=1)) (s.k % 16) (knX b true) (pastX a (knX b true)):=(txN_h (by omega)).trans (by rw [hi];rfl)
  repeat' first|refine Zz ?_|intro _
  refine al_as 177 (v':=txA (txN true b a (s.k % 16) s)) (by rw [eN];exact fun _ _ _ h=>h) ?_
  repeat' first|refine Zz ?_|intro _
  refine reE ?_
  rfl
 by_cases c4:s.k % 16=4
 ·have c:=c4
  have eN:txN true b a (s.k % 16) s=hanX (decide (s.i % 2=1)) (s.k % 16) (knX b true) (pastX a (knX b true)):=(txN_h (by omega)).trans (by rw [hi];rfl)
  repeat' first|refine Zz ?_|intro _
  refine al_as 177 (v':=txA (txN true b a (s.k % 16) s)) (by rw [eN];exact fun _ _ _ h=>h) ?_
  repeat' first|refine Zz ?_|intro _
  refine reE ?_
  rfl
 by_cases c5:s.k % 16=5
 ·have c:=c5
  have eN:txN true b a (s.k % 16) s=hanX (decide (s.i % 2=1)) (s.k % 16) (knX b true) (pastX a (knX b true)):=(txN_h (by omega)).trans (by rw [hi];rfl)
  repeat' first|refine Zz ?_|intro _
  refine al_as 177 (v':=txA (txN true b a (s.k % 16) s)) (by rw [eN];exact fun _ _ _ h=>h) ?_
  repeat' first|refine Zz ?_|intro _
  refine reE ?_
  rfl
 by_cases c6:s.k % 16=6
 ·have c:=c6
  have eN:txN true b a (s.k % 16) s={ txK 9 (knX b true) with i:=nmH true,o:=nmN true,q:=nmN (!true) }:=by rw [c];exact txN_6
  repeat' first|refine Zz ?_|intro _
  refine al_as 177 (v':=txA (txN true b a (s.k % 16) s)) (by rw [eN];exact fun _ _ _ h=>h) ?_
  repeat' first|refine Zz ?_|intro _
  refine reE ?_
  rfl
 by_cases c7:s.k % 16=7
 ·have c:=c7
  have eN:txN true b a (s.k % 16) s=hanX (decide (s.i % 2=1)) (s.k % 16) (knX b true) (pastX a (knX b true)):=(txN_h (by omega)).trans (by rw [hi];rfl)
  repeat' first|refine Zz ?_|intro _
  refine al_as 177 (v':=txA (txN true b a (s.k % 16) s)) (by rw [eN];exact fun _ _ _ h=>h) ?_
  repeat' first|refine Zz ?_|intro _
  refine reE ?_
  rfl
 by_cases c8:s.k % 16=8
 ·have c:=c8
  have eN:txN true b a (s.k % 16) s=hanX (decide (s.i % 2=1)) (s.k % 16) (knX b true) (pastX a (knX b true)):=(txN_h (by omega)).trans (by rw [hi];rfl)
  repeat' first|refine Zz ?_|intro _
  refine al_as 177 (v':=txA (txN true b a (s.k % 16) s)) (by rw [eN];exact fun _ _ _ h=>h) ?_
  repeat' first|refine Zz ?_|intro _
  refine reE ?_
  rfl
 by_cases c9:s.k % 16=9
 ·have c:=c9
  have eN:txN true b a (s.k % 16) s=hanX (decide (s.i % 2=1)) (s.k % 16) (knX b true) (pastX a (knX b true)):=(txN_h (by omega)).trans (by rw [hi];rfl)
  repeat' first|refine Zz ?_|intro _
  refine al_as 177 (v':=txA (txN true b a (s.k % 16) s)) (by rw [eN];exact fun _ _ _ h=>h) ?_
  repeat' first|refine Zz ?_|intro _
  refine reE ?_
  rfl
 by_cases c10:s.k % 16=10
 ·have c:=c10
  have eN:txN true b a (s.k % 16) s=sndX true false (knX b true) s.t (s.a % 8) a.t:=by rw [c];exact txN_10
  repeat' first|refine Zz ?_|intro _
  refine al_mask7' ?_
  repeat' first|refine Zz ?_|intro _
  refine al_as 177 (v':=txA (txN true b a (s.k % 16) s)) (by rw [eN];show Imp _ (.agg 100 [_,_,_,_,_,_,_,_,_,.agg 12 [_,_,_,.agg 7 [_,widA (wOf (1 + s.a % 8).toNat),_,_],_,_],_,_,_,_]);rw [hw1];exact fun _ _ _ h=>h) ?_
  repeat' first|refine Zz ?_|intro _
  refine reE ?_
  rfl
 by_cases c11:s.k % 16=11
 ·have c:=c11
  have eN:txN true b a (s.k % 16) s=sndX true true (knX b true) s.t (s.a % 8) a.t:=by rw [c];exact txN_11
  repeat' first|refine Zz ?_|intro _
  refine al_mask7' ?_
  repeat' first|refine Zz ?_|intro _
  refine al_mask7' ?_
  repeat' first|refine Zz ?_|intro _
  refine al_as 177 (v':=txA (txN true b a (s.k % 16) s)) (by rw [eN];show Imp _ (.agg 100 [_,_,_,_,_,_,_,_,_,.agg 12 [_,_,_,.agg 7 [_,widA (wOf (1 + s.a % 8).toNat),_,_],_,_],_,_,_,_]);rw [hw1];exact fun _ _ _ h=>h) ?_
  repeat' first|refine Zz ?_|intro _
  refine reE ?_
  rfl
 by_cases c12:s.k % 16=12
 ·have c:=c12
  have eN:txN true b a (s.k % 16) s=(if s.i % 2=1 then (if s.k % 16=12 then recX a s.n (knX b true) (pastX a (knX b true)) else if s.k % 16=13 then ackX b a s.n (knX b true) (pastX a (knX b true)) else timX b s.n (knX b true) (pastX a (knX b true))) else (if s.k % 16=12 then recX b s.n (knX b true) (pastX a (knX b true)) else if s.k % 16=13 then ackX a b s.n (knX b true) (pastX a (knX b true)) else timX a s.n (knX b true) (pastX a (knX b true)))):=by rw [hi,c];exact txN_12
  have hpq:=hpp (by omega) (by omega)
  repeat' first|refine Zz ?_|intro _
  refine al_as 177 (v':=txA (txN true b a (s.k % 16) s)) (by rw [eN];exact fun _ _ _ h=>h) ?_
  repeat' first|refine Zz ?_|intro _
  refine reE ?_
  rfl
 by_cases c13:s.k % 16=13
 ·have c:=c13
  have eN:txN true b a (s.k % 16) s=(if s.i % 2=1 then (if s.k % 16=12 then recX a s.n (knX b true) (pastX a (knX b true)) else if s.k % 16=13 then ackX b a s.n (knX b true) (pastX a (knX b true)) else timX b s.n (knX b true) (pastX a (knX b true))) else (if s.k % 16=12 then recX b s.n (knX b true) (pastX a (knX b true)) else if s.k % 16=13 then ackX a b s.n (knX b true) (pastX a (knX b true)) else timX a s.n (knX b true) (pastX a (knX b true)))):=by rw [hi,c];exact txN_13
  have hpq:=hpp (by omega) (by omega)
  repeat' first|refine Zz ?_|intro _
  refine al_as 177 (v':=txA (txN true b a (s.k % 16) s)) (by rw [eN];exact fun _ _ _ h=>h) ?_
  repeat' first|refine Zz ?_|intro _
  refine reE ?_
  rfl
 by_cases c14:s.k % 16=14
 ·have c:=c14
  have eN:txN true b a (s.k % 16) s=(if s.i % 2=1 then (if s.k % 16=12 then recX a s.n (knX b true) (pastX a (knX b true)) else if s.k % 16=13 then ackX b a s.n (knX b true) (pastX a (knX b true)) else timX b s.n (knX b true) (pastX a (knX b true))) else (if s.k % 16=12 then recX b s.n (knX b true) (pastX a (knX b true)) else if s.k % 16=13 then ackX a b s.n (knX b true) (pastX a (knX b true)) else timX a s.n (knX b true) (pastX a (knX b true)))):=by rw [hi,c];exact txN_14
  have hpq:=hpp (by omega) (by omega)
  repeat' first|refine Zz ?_|intro _
  refine al_as 177 (v':=txA (txN true b a (s.k % 16) s)) (by rw [eN];exact fun _ _ _ h=>h) ?_
  repeat' first|refine Zz ?_|intro _
  refine reE ?_
  rfl
 by_cases c15:s.k % 16=15
 ·have c:=c15
  have eN:txN true b a (s.k % 16) s={ txK (1 + s.n % 2) (knX b true) with x:=⟨0,[],[],[120],wOf (s.a % 8).toNat,[97,110,110],[99,97,116],0,0⟩ }:=by rw [c];exact txN_15
  repeat' first|refine Zz ?_|intro _
  refine al_mask7' ?_
  repeat' first|refine Zz ?_|intro _
  refine al_as 177 (v':=txA (txN true b a (s.k % 16) s)) (by rw [eN];show Imp _ (.agg 100 [_,_,_,_,_,_,_,_,_,.agg 12 [_,_,_,.agg 7 [_,widA (wOf (s.a % 8).toNat),_,_],_,_],_,_,_,_]);rw [hw0];exact fun _ _ _ h=>h) ?_
  repeat' first|refine Zz ?_|intro _
  refine reE ?_
  rfl
 have eN:txN true b a (s.k % 16) s=txK 0 (knX b true):=by
  rw [show s.k % 16=0 by omega]
  exact txN_0
 repeat' first|refine Zz ?_|intro _
 refine al_as 177 (v':=txA (txN true b a (s.k % 16) s)) (by rw [eN];exact fun _ _ _ h=>h) ?_
 repeat' first|refine Zz ?_|intro _
 refine reE ?_
 rfl
instance fnWTx {a b:SideX}{I J:IdS}{s:StpX}:Ans Tryz.prog GL 24 [wdA a b I J,stpA s] (∃ N,N<=1000/\SOk N a/\SOk N b) (txA (wTx a b s)):=⟨fun hp=>by
 have hi:s.i % 2=0\/s.i % 2=1:=by omega
 rcases hi with hi|hi
 ·rw [show wTx a b s=txX false a b s by unfold wTx;rw [hi,if_neg (by decide)]]
  exact fnWTx0 hi hp
 ·rw [show wTx a b s=txX true b a s by unfold wTx;rw [hi,if_pos rfl]]
  exact fnWTx1 hi hp⟩

def sndS (d:List Ent)(x:Pkt):Out18:=pQ (sendR d (goes d x)).1 (kyW [80] x.s (goes d x).q) (comP (goes d x))
def sndT (d:List Ent)(x:Pkt):Out18:=pQ (sndS d x).1 (kyO [78] x.s) (tlvI 110 ((goes d x).q + 1))
def sndQ (d:List Ent)(x:Pkt):Out18:=
 if enB d [72] x.s=false then fQ 12 else if (enR d [72] x.s).s≠3 then fQ 13 else if chkP (goes d x)=false then fQ 1
 else if chaK d x.s=false\/clB d (chaN d x.s)=false then fQ 12
 else if lateP (goes d x) (latC (clR d (chaN d x.s)).l).h (latC (clR d (chaN d x.s)).l).t=true then fQ 21
 else if (sendR d (goes d x)).2≠0 then fQ (sendR d (goes d x)).2
 else if (sndS d x).2.e≠0 then sndS d x else if (sndT d x).2.e≠0 then sndT d x else ((sndT d x).1,⟨(sndT d x).2.e,(goes d x).q,(sndT d x).2.a⟩)
def rcvP (d:List Ent)(x:TxX):Out18:=pQ (if (recvR d x.x).2=0 then (recvR d x.x).1 else d) (kyW [71] x.x.k x.x.q) (rcpB (ackR d x.x))
def rcvQ (d:List Ent)(x:TxX)(h t:Int):Out18:=
 if chkP x.x=false then fQ 1 else if enB d [72] x.x.k=false then fQ 12 else if (enR d [72] x.x.k).s≠3\/(enR d [72] x.x.k).p≠x.x.s then fQ 13
 else if lateP x.x h t=true then fQ 21 else if (gO d (kyW [71] x.x.k x.x.q)).isSome=true then fQ 20 else if chaK d x.x.k=false then fQ 12
 else if prE d (chaN d x.x.k) x.t t (kyW [80] x.x.s x.x.q) (comP x.x) x.f≠0 then fQ (prE d (chaN d x.x.k) x.t t (kyW [80] x.x.s x.x.q) (comP x.x) x.f)
 else ((rcvP d x).1,⟨(rcvP d x).2.e,(rcvP d x).2.q,ackR d x.x⟩)
def endP (d:List Ent)(x:Pkt)(b:Bool)(e:Int):Out18:=
 if enB d [72] x.s=false then fQ 12 else if (enR d [72] x.s).s≠3\/(enR d [72] x.s).p≠x.k then fQ 13
 else if gO d (kyW [80] x.s x.q)≠some (comP x) then fQ 12 else if chaK d x.s=false then fQ 12
 else if e≠0 then fQ e else if b=true/\(backR d x).2≠0 then fQ (backR d x).2
 else (drpL (if b=true then (backR d x).1 else d) (kyW [80] x.s x.q),rep0)
def edB (x:TxX):Bool:=if x.k=15 then decide (ackV x.a≠0) else true
def edE (d:List Ent)(x:TxX)(t:Int):Int:=if x.k=15 then prE d (chaN d x.x.s) x.t t (kyW [71] x.x.k x.x.q) (rcpB x.a) x.f else timE d x t
def endQ (d:List Ent)(x:TxX)(t:Int):Out18:=if chkP x.x=false\/(x.k=15/\ackIs x.a=false) then fQ 1 else endP d x.x (edB x) (edE d x t)
def doQ (d:List Ent)(x:TxX)(h t:Int):Out18:=
 if x.k=1\/x.k=2 then coinQ d x else if x.k=3\/x.k=4 then cliQ d x t else if x.k=5\/x.k=6 then begK d x (decide (x.k=6)) t else if x.k=9\/x.k=10 then begH d x (decide (x.k=10)) t
 else if x.k=7\/x.k=8 then opnK d x (decide (x.k=7)) t else if x.k=11\/x.k=12 then opnH d x (decide (x.k=11)) t else if x.k=13 then sndQ d x.x else if x.k=14 then rcvQ d x h t else if x.k=15\/x.k=16 then endQ d x t else fQ 1

attribute [local irreducible] clB enB lateP
end Go.Proofs.YtlkkekpcofjbeaaGreatDoor

namespace Go.Proofs.YtlkkekpcofjbeaaGreatDoor
open Go Go.RowKit Tw Av
attribute [local irreducible] clB enB lateP coinQ cliQ begK begH opnK opnH sndQ rcvQ endQ
attribute [local irreducible] doQ
end Go.Proofs.YtlkkekpcofjbeaaGreatDoor
