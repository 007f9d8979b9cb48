/- chapter 18's world, walked: the open world; behind a step -/
import Derived.Test.YtlkkekpcofjbeaaGreatDoorA16
import Derived.Test.YtlkkekpcofjbeaaGreatDoorA23
import Derived.Test.YtlkkekpcofjbeaaGreatDoorA24
import Derived.Test.YtlkkekpcofjbeaaGreatDoorA29
import Derived.Test.YtlkkekpcofjbeaaGreatDoorA37
namespace Go.Proofs.YtlkkekpcofjbeaaGreatDoor
open Go Go.RowKit Tw Av
attribute [local irreducible] clB enB
end Go.Proofs.YtlkkekpcofjbeaaGreatDoor

namespace Go.Proofs.YtlkkekpcofjbeaaGreatDoor
open Go Go.RowKit Tw Av
theorem lat_rng (d:List Ent)(i:Bs):0<=(latC (clR d i).l).h/\(latC (clR d i).l).h<=1099511627776:=by
 unfold clR
 rcases rcd_or (valE d (kyO [67] i)) with h|h
 ·obtain⟨⟨h1,h2,h3,h4,h5⟩,h6⟩:=all_iff.1 h
  have hne:(rcdV (valE d (kyO [67] i))).l≠[]:=fun e=>by rw [e] at h4;simp at h4
  obtain⟨_,_,c3,c4,_,_⟩:=chkH_iff.1 (may_chk h _ (lat_mem hne))
  exact⟨by simp only [hdOf] at c3;omega,c4⟩
 ·rw [h]
  decide
theorem knX_rng (x:SideX)(i:Bool):0<=knX x i/\knX x i<=1099511627776:=lat_rng _ _
theorem pastX_ok {N:Nat}{y:SideX}(h:SOk N y)(k:Int):DOk (pastX y k):=by
 unfold pastX
 split
 ·rename_i hk
  have hl:(k - 1).toNat < y.p.length:=by omega
  rw [List.getD_eq_getElem?_getD,List.getElem?_eq_getElem hl]
  exact h.p _ (List.getElem_mem hl)
 ·exact .nil
theorem memK_m (d:List Ent)(k:Bs):(memK d k).m=0\/(memK d k).m=d.length:=by
 unfold memK memP
 split
 ·exact .inr rfl
 ·exact .inl rfl
theorem memK_b {d:List Ent}{k:Bs}(h:DOk d):(memK d k).m<=2000:=by
 have hl:=h.l
 rcases memK_m d k with e|e <;> rw [e] <;> omega
theorem absK_b {d:List Ent}{k:Bs}(h:DOk d):(absK d k).a.m<=2000/\(absK d k).b.m<=2000:=by
 have hl:=h.l
 unfold absK absG
 split
 ·decide
 ·dsimp only
  constructor
  ·split
   ·simp only [atP];omega
   ·decide
  ·split
   ·simp only [atP];omega
   ·decide
theorem zeroPk_b:PkB zeroPk:=⟨by decide,by decide,by decide,by decide,by decide,by decide,by decide,by decide⟩
theorem atPk_b {l:List Pkt}(h:∀ p ∈ l,PkB p)(n:Int):PkB (atPk l n):=by
 unfold atPk
 generalize (pickI n l.length).toNat=i
 by_cases hi:i < l.length
 ·rw [List.getD_eq_getElem?_getD,List.getElem?_eq_getElem hi]
  exact h _ (List.getElem_mem hi)
 ·rw [List.getD_eq_getElem?_getD,List.getElem?_eq_none (by omega)]
  exact zeroPk_b
theorem ackTo_b {g:List Pkt}{a:List Bs}(h:∀ p ∈ a,p.length<=400000000)(p:Pkt):∀ n,(ackTo g a p n).length<=400000000
 | 0=>by show 1<=400000000;decide
 | n + 1=>by
  unfold ackTo
  split
  ·by_cases hi:n < a.length
   ·rw [List.getD_eq_getElem?_getD,List.getElem?_eq_getElem hi]
    exact h _ (List.getElem_mem hi)
   ·rw [List.getD_eq_getElem?_getD,List.getElem?_eq_none (by omega)]
    exact Nat.zero_le _
  ·exact ackTo_b h p n
theorem nm_len (i:Bool):(nmK i).length=2/\(nmN i).length=2/\(nmH i).length=2:=by
 cases i <;> decide
theorem txK_b (n k:Int):TxB (txK n k):=⟨Nat.zero_le _,Nat.zero_le _,Nat.zero_le _,Nat.zero_le _,Nat.zero_le _,Nat.zero_le _,Nat.zero_le _,Nat.zero_le _,Nat.zero_le _,Nat.zero_le _,Nat.zero_le _,by show (0:Int)<=_;decide,by show (0:Int)<=_;decide,by show (0:Int)<=_;decide,by show (0:Int)<=_/\(0:Int)<=_;decide⟩
theorem hdrX_b {N:Nat}{y:SideX}(h:SOk N y)(hN:N<=1000):(hdrX y y.h).h<=9223372036854775807/\(hdrX y y.h).t<=9223372036854775807:=by
 have h1:=h.h
 have h2:=h.hN
 refine⟨by simp only [hdrX];omega,?_⟩
 simp only [hdrX]
 by_cases hi:(y.h - 1).toNat < y.ts.length
 ·rw [List.getD_eq_getElem?_getD,List.getElem?_eq_getElem hi]
  have:=(h.ts _ (List.getElem_mem hi)).2
  simp only [Option.getD_some]
  omega
 ·rw [List.getD_eq_getElem?_getD,List.getElem?_eq_none (by omega)]
  decide
theorem hanX_b {N:Nat}{y:SideX}(h:SOk N y)(i:Bool)(n k:Int):TxB (hanX i n k (pastX y k)):=by
 have n1:=nm_len i
 have n2:=nm_len (!i)
 unfold hanX
 split
 ·have hm:=memK_b (k:=kyO [72] (nmH (!i))) (pastX_ok h k)
  exact⟨by show (nmH i).length<=_;omega,by show (nmN i).length<=_;omega,by show (nmH (!i)).length<=_;omega,by show (nmN (!i)).length<=_;omega,Nat.zero_le _,Nat.zero_le _,Nat.zero_le _,Nat.zero_le _,Nat.zero_le _,Nat.zero_le _,Nat.zero_le _,by show (0:Int)<=_;decide,by show (0:Int)<=_;decide,Int.le_trans hm (by decide),by show (0:Int)<=_/\(0:Int)<=_;decide⟩
 ·have hm:=memK_b (k:=kyO [75] (nmN (!i))) (pastX_ok h k)
  exact⟨by show (nmN i).length<=_;omega,by show (nmK i).length<=_;omega,by show (nmN (!i)).length<=_;omega,by show (nmK (!i)).length<=_;omega,Nat.zero_le _,Nat.zero_le _,Nat.zero_le _,Nat.zero_le _,Nat.zero_le _,Nat.zero_le _,Nat.zero_le _,by show (0:Int)<=_;decide,by show (0:Int)<=_;decide,Int.le_trans hm (by decide),by show (0:Int)<=_/\(0:Int)<=_;decide⟩
theorem sndX_b (i b:Bool)(k t a lt:Int):TxB (sndX i b k t a lt):=by
 have n1:=nm_len i
 refine⟨Nat.zero_le _,Nat.zero_le _,Nat.zero_le _,Nat.zero_le _,Nat.zero_le _,Nat.zero_le _,by show (nmH i).length<=_;omega,Nat.zero_le _,?_,?_,?_,by show (0:Int)<=_;decide,by show (0:Int)<=_;decide,by show (0:Int)<=_;decide,by show (0:Int)<=_/\(0:Int)<=_;decide⟩
 ·show (if b=true then nmH i++[47,120] else [120]:Bs).length<=_
  split
  ·rw [lla]
   simp
   omega
  ·decide
 ·show (if b=true then [99,97,116] else [97,110,110]:Bs).length<=_
  split <;> decide
 ·show (if b=true then [100,97,110] else [99,97,116]:Bs).length<=_
  split <;> decide
theorem pkt_b {x:TxX}{p:Pkt}{a:Bs}{f:Prf}{g:Gp}(h:TxB x)(hp:PkB p)(ha:a.length<=400000000)(hf:f.m<=2000)(hg:g.a.m<=2000/\g.b.m<=2000):TxB { x with x:=p,a:=a,f:=f,g:=g }:=
 ⟨h.i,h.o,h.p,h.q,h.y,ha,hp.s,hp.k,hp.d,hp.f,hp.g,h.hh,h.ht,Int.le_trans hf (by decide),Int.le_trans hg.1 (by decide),Int.le_trans hg.2 (by decide)⟩
theorem zg_b:zeroG.a.m<=2000/\zeroG.b.m<=2000:=by decide
theorem zp_b:zeroP.m<=2000:=by decide
theorem recX_b {M N:Nat}{x y:SideX}(hx:SOk M x)(h:SOk N y)(n k l:Int):TxB (recX x n k (pastX y l)):=by
 unfold recX
 split
 ·exact txK_b _ _
 ·exact pkt_b (txK_b 14 k) (atPk_b hx.s n) (Nat.zero_le _) (memK_b (pastX_ok h l)) zg_b
theorem ackX_b {M N:Nat}{x y:SideX}(hx:SOk M x)(h:SOk N y)(n k l:Int):TxB (ackX x y n k (pastX y l)):=by
 unfold ackX
 split
 ·exact txK_b _ _
 ·exact pkt_b (txK_b 15 k) (atPk_b hx.s n) (ackTo_b h.a _ _) (memK_b (pastX_ok h l)) zg_b
theorem timX_b {M N:Nat}{x y:SideX}(hx:SOk M x)(h:SOk N y)(n k l:Int):TxB (timX x n k (pastX y l)):=by
 unfold timX
 split
 ·exact txK_b _ _
 ·exact pkt_b (txK_b 16 k) (atPk_b hx.s n) (Nat.zero_le _) zp_b (absK_b (pastX_ok h l))
theorem txN_b {M N:Nat}{x y:SideX}(hx:SOk M x)(hy:SOk N y)(hN:N<=1000)(i:Bool)(n:Int)(s:StpX):TxB (txN i x y n s):=by
 have n1:=nm_len i
 have n2:=nm_len (!i)
 have hh:=hdrX_b hy hN
 unfold txN
 repeat' split
 ·have h:=txK_b 4 (knX x i)
  exact⟨by show (nmK i).length<=_;omega,h.o,h.p,h.q,h.y,h.a,h.s,h.k,h.d,h.f,h.g,hh.1,hh.2,h.fm,h.gm⟩
 ·have h:=txK_b 5 (knX x i)
  exact⟨by show (nmN i).length<=_;omega,by show (nmK i).length<=_;omega,h.p,by show (nmK (!i)).length<=_;omega,h.y,h.a,h.s,h.k,h.d,h.f,h.g,h.hh,h.ht,h.fm,h.gm⟩
 ·have h:=txK_b 9 (knX x i)
  exact⟨by show (nmH i).length<=_;omega,by show (nmN i).length<=_;omega,h.p,by show (nmN (!i)).length<=_;omega,h.y,h.a,h.s,h.k,h.d,h.f,h.g,h.hh,h.ht,h.fm,h.gm⟩
 ·exact hanX_b hy _ _ _
 ·exact sndX_b _ _ _ _ _ _
 ·exact sndX_b _ _ _ _ _ _
 ·exact recX_b hy hy _ _ _
 ·exact ackX_b hx hy _ _ _
 ·exact timX_b hx hy _ _ _
 ·have h:=txK_b (1 + s.n % 2) (knX x i)
  exact⟨h.i,h.o,h.p,h.q,h.y,h.a,Nat.zero_le _,Nat.zero_le _,by show 1<=400000000;decide,by show 3<=400000000;decide,by show 3<=400000000;decide,h.hh,h.ht,h.fm,h.gm⟩
 ·exact txK_b _ _
theorem txX_b {M N:Nat}{x y:SideX}(hx:SOk M x)(hy:SOk N y)(hN:N<=1000)(i:Bool)(s:StpX):TxB (txX i x y s):=by
 have h:=txN_b hx hy hN i (s.k % 16) s
 unfold txX spoX
 repeat' split
 all_goals first|exact h|exact⟨h.i,h.o,h.p,h.q,h.y,h.a,h.s,h.k,h.d,h.f,h.g,h.hh,h.ht,h.fm,h.gm⟩|exact⟨h.i,h.o,h.p,h.q,h.y,by show (failB 16).length<=_;decide,h.s,h.k,h.d,h.f,h.g,h.hh,h.ht,h.fm,h.gm⟩|exact⟨h.i,h.o,by show 2<=400000000;decide,h.q,h.y,h.a,h.s,h.k,h.d,h.f,h.g,h.hh,h.ht,h.fm,h.gm⟩

theorem SOk.mono {M N:Nat}{x:SideX}(h:SOk M x)(hn:M<=N):SOk N x:=
 ⟨h.n,h.d,h.h,h.h1,by have:=h.hN;omega,by have:=h.t;omega,h.p,h.tl,fun t ht=>by have:=h.ts t ht;omega,h.s,by have:=h.sl;omega,h.g,by have:=h.gl;omega,h.a,h.al⟩
theorem cutX_ok {N:Nat}{x:SideX}(h:SOk N x){t:Int}(ht:t<=x.t + 3):SOk (N + 1) (cutX x t):=by
 have h0:=h.t
 have hm:0<=max x.t t/\max x.t t<=1 + 3 * ((N + 1:Nat):Int):=by omega
 refine⟨h.n,h.d,?_,?_,?_,hm,?_,?_,?_,h.s,?_,h.g,?_,h.a,h.al⟩
 ·show x.h + 1=((x.p++[x.d]).length:Int)
  rw [lla,List.length_singleton,h.h]
  rfl
 ·show 1<=(x.p++[x.d]).length
  rw [lla]
  exact Nat.le_add_left _ _
 ·show (x.p++[x.d]).length<=_
  rw [lla,List.length_singleton]
  have:=h.hN
  omega
 ·intro q hq
  rcases List.mem_append.1 hq with hq|hq
  ·exact h.p q hq
  ·rw [List.mem_singleton.1 hq]
   exact h.d
 ·show (x.ts++[_]).length=(x.p++[_]).length
  rw [lla,lla,h.tl]
  rfl
 ·intro u hu
  rcases List.mem_append.1 hu with hu|hu
  ·have:=h.ts u hu
   omega
  ·rw [List.mem_singleton.1 hu]
   exact hm
 ·have:=h.sl
  show x.s.length<=_
  omega
 ·have:=h.gl
  show x.g.length<=_
  omega
theorem hanX_pk (i:Bool)(n k:Int)(past:List Ent):PkB (hanX i n k past).x:=by
 unfold hanX
 split <;> exact zeroPk_b
theorem txN_pk {M N:Nat}{x y:SideX}(hx:SOk M x)(hy:SOk N y)(hN:N<=1000)(i:Bool)(n:Int)(s:StpX):PkB (txN i x y n s).x:=by
 have n1:=nm_len i
 have hk:=knX_rng x i
 have ht:=hy.t
 have hs:∀ (b:Bool) (a:Int),PkB (sndX i b (knX x i) s.t a y.t).x:=fun b a=>by
  have hb:=sndX_b i b (knX x i) s.t a y.t
  refine⟨hb.s,hb.k,hb.d,hb.f,hb.g,by show (0:Int)<=_;decide,?_,?_⟩
  ·show knX x i + 2 + s.t % 4<=_
   omega
  ·show (if b=true then y.t + 1 + s.t % 8 else 0)<=_
   split <;> omega
 unfold txN
 repeat' split
 ·exact zeroPk_b
 ·exact zeroPk_b
 ·exact zeroPk_b
 ·exact hanX_pk _ _ _ _
 ·exact hs _ _
 ·exact hs _ _
 ·unfold recX
  split
  ·exact zeroPk_b
  ·exact atPk_b hy.s _
 ·unfold ackX
  split
  ·exact zeroPk_b
  ·exact atPk_b hx.s _
 ·unfold timX
  split
  ·exact zeroPk_b
  ·exact atPk_b hx.s _
 ·exact⟨Nat.zero_le _,Nat.zero_le _,by show 1<=400000000;decide,by show 3<=400000000;decide,by show 3<=400000000;decide,by show (0:Int)<=_;decide,by show (0:Int)<=_;decide,by show (0:Int)<=_;decide⟩
 ·exact zeroPk_b
theorem txX_pk {M N:Nat}{x y:SideX}(hx:SOk M x)(hy:SOk N y)(hN:N<=1000)(i:Bool)(s:StpX):PkB (txX i x y s).x:=by
 have h:=txN_pk hx hy hN i (s.k % 16) s
 unfold txX spoX
 repeat' split
 all_goals first|exact h|exact⟨h.s,h.k,h.d,h.f,h.g,h.q,h.h,h.t⟩
theorem minD_ok:DOk minD:=mintR_dok (mintR_dok .nil)
theorem cut1_ok (i:Bool):SOk 0 (cutS i):=by
 refine⟨by cases i <;> rfl,minD_ok,rfl,Nat.le_refl _,Nat.le_refl _,(by show (0:Int)<=1/\(1:Int)<=1 + 3 * ((0:Nat):Int);decide),?_,rfl,?_,(fun _ h=>by cases h),Nat.le_refl _,(fun _ h=>by cases h),Nat.le_refl _,(fun _ h=>by cases h),rfl⟩
 ·intro q hq
  rw [List.mem_singleton.1 hq]
  exact minD_ok
 ·intro t ht
  rw [List.mem_singleton.1 ht]
  show (0:Int)<=1/\(1:Int)<=1 + 3 * ((0:Nat):Int)
  decide
theorem putX_ok {N:Nat}{x:SideX}(h:SOk N x)(k v:Bs):SOk N (putX x k v):=by
 unfold putX
 split
 ·exact⟨h.n,putR_dok h.d,h.h,h.h1,h.hN,h.t,h.p,h.tl,h.ts,h.s,h.sl,h.g,h.gl,h.a,h.al⟩
 ·exact h
theorem freS_ok (i:Bool):SOk 0 (freS i):=putX_ok (cut1_ok i) _ _

section
variable {P:Program} {N:Nat} {ops:Array Oper} {Q:Exit->Act->World->Prop} {rest:List Oper} {s:Av.Base} {e:Av.Env} {m:List Av.Piece} {d:Nat} {ty:TypeId} {pos:String} {af:Array Edge}
theorem al_ix0 {T E:TypeId}[t:TyA P T 3 E 1][tE:Ty P E false 1]{x ix:Operand}{a b c:Bs}(h:AL P N ops Q s rest ((d,str a)::e) m)(hx:Av.ev e x=some (.agg 3 [str a,str b,str c]):=by exact rfl)(hi:Av.ev e ix=some (int 0):=by exact rfl)(hd:Nat.blt d N=true:=by exact rfl):AL P N ops Q s (⟨some d,.index T x ix,ty,pos,af,none⟩::rest) e m:=
 al_index (k:=1) (n:=3) 0 h rfl (by decide) rfl (fun p hp=>by
  rcases List.mem_cons.1 hp with rfl|hp
  ·rfl
  rcases List.mem_cons.1 hp with rfl|hp
  ·rfl
  ·rw [List.mem_singleton.1 hp]
   rfl) rfl hx hi hd
end
instance fnWKnown0 {a b:SideX}{I J:IdS}:Ans Tryz.prog GL 50 [wdA a b I J,int 0] (DOk a.d) (int (knX a false)):=⟨fun hd=>by
 refine qE Tryz.func50 rfl Tryz.ntmps50 rfl (fun _ hs=>?_)
 repeat' first|refine Zz ?_|intro _
 apply obl_read [];exact rfl;exact rfl;kernel_rfl;intro _ _
 refine al_ix0 ?_
 exact al_nil (ae_got rfl rfl)
 repeat' first|refine Zz ?_|intro _
 refine reE ?_
 rfl⟩
instance fnWKnown1 {a b:SideX}{I J:IdS}:Ans Tryz.prog GL 50 [wdA a b I J,int 1] (DOk b.d) (int (knX b true)):=⟨fun hd=>by
 refine qE Tryz.func50 rfl Tryz.ntmps50 rfl (fun _ hs=>?_)
 repeat' first|refine Zz ?_|intro _
 apply obl_read [];exact rfl;exact rfl;kernel_rfl;intro _ _
 refine al_ix0 ?_
 exact al_nil (ae_got rfl rfl)
 repeat' first|refine Zz ?_|intro _
 refine reE ?_
 rfl⟩
section
variable {P:Program} {N:Nat} {ops:Array Oper} {Q:Exit->Act->World->Prop} {rest:List Oper} {s:Av.Base} {e:Av.Env} {m:List Av.Piece} {d:Nat} {ty:TypeId} {pos:String} {af:Array Edge}
theorem al_mask7' {T yT:TypeId}{x y:Operand}{n b:Int}(h:AL P N ops Q s rest ((d,int (n % 8))::e) m)(hx:Av.ev e x=some (int n):=by exact rfl)(hy:Av.ev e y=some (int b):=by exact rfl)(hb:b=7:=by exact rfl)(hd:Nat.blt d N=true:=by exact rfl):AL P N ops Q s (⟨some d,.binOp .and T x y yT,ty,pos,af,none⟩::rest) e m:=al_mask 3 h hx hy hb (by decide) hd
theorem al_incU {T yT:TypeId}{x y:Operand}{i:Nat}(h:AL P N ops Q s rest ((d,.lit (.int .u64 (((i + 1) % 18446744073709551616:Nat):Int)))::e) m)(hx:Av.ev e x=some (.lit (.int .u64 (i:Int))):=by exact rfl)(hy:Av.ev e y=some (.lit (.int .u64 1)):=by exact rfl)(hd:Nat.blt d N=true:=by exact rfl) :
  AL P N ops Q s (⟨some d,.binOp .add T x y yT,ty,pos,af,none⟩::rest) e m:=
 al_lit rfl (fun ok w A hA=>run_bin hA hx hy (by
  show Result.ok (Value.int .u64 (IntKind.u64.wrap ((i:Int) + 1))) w=_
  rw [IntKind.wrap_u64]
  congr 2)) hd h
end
theorem wid_inc (a:Wd):widA (inc0 a)=.agg 4 [.lit (.int .u64 (((lm a.n 0 + 1) % 18446744073709551616:Nat):Int)),.lit (.int .u64 (lm a.n 1)),.lit (.int .u64 (lm a.n 2)),.lit (.int .u64 (lm a.n 3))]:=by
 have hl:∀ i,lm a.n i < 18446744073709551616:=fun i=>Nat.mod_lt _ (by decide)
 obtain⟨h1,h2,h3,h4,h5⟩:=wj_lm (a:=(lm a.n 0 + 1) % 18446744073709551616) (b:=lm a.n 1) (c:=lm a.n 2) (d:=lm a.n 3) (Nat.mod_lt _ (by decide)) (hl 1) (hl 2) (hl 3)
 show widN (wOf (wj ((lm a.n 0 + 1) % 18446744073709551616) (lm a.n 1) (lm a.n 2) (lm a.n 3))).n=_
 rw [wOf_n h1,widN,h2,h3,h4,h5]
instance fnWSpoilt {a b:SideX}{I J:IdS}{s:StpX}{x:TxX}:Ans Tryz.prog GL 54 [wdA a b I J,stpA s,txA x] (x.t<=1099511627776/\x.f.a<=1099511627776/\-1099511627776<=x.t/\-1099511627776<=x.f.a) (txA (spoX (s.s % 16) x)):=⟨fun hp=>by
 obtain⟨h1,h2,h3,h4⟩:=hp
 have k0:0<=s.s % 16:=Int.emod_nonneg _ (by decide)
 have k1:s.s % 16 < 16:=Int.emod_lt_of_pos _ (by decide)
 refine qE Tryz.func54 rfl Tryz.ntmps54 rfl (fun _ hs=>?_)
 repeat' first|refine Zz ?_|intro _
 generalize s.s % 16=n at *
 unfold spoX
 by_cases c1:n=1
 ·rw [if_pos c1]
  repeat' first|refine Zz ?_|intro _
  refine reE ?_
  rfl
 rw [if_neg c1]
 by_cases c2:n=2
 ·rw [if_pos c2]
  repeat' first|refine Zz ?_|intro _
  refine al_incU ?_
  repeat' first|refine Zz ?_|intro _
  refine reE ?_
  show AV.agg 100 _=AV.agg 100 _
  dsimp only [txA,pktA]
  rw [wid_inc]
 rw [if_neg c2]
 by_cases c3:n=3
 ·rw [if_pos c3]
  repeat' first|refine Zz ?_|intro _
  refine reE ?_
  rfl
 rw [if_neg c3]
 by_cases c4:n=4
 ·rw [if_pos c4]
  obtain⟨k,i,o,p,q,y,e,h,⟨l,hl⟩,x,a,t,f,g⟩:=x
  obtain⟨b0,r,rfl⟩:∃ b r,l=b::r:=by
   cases l with
   | nil=>cases hl
   | cons b r=>exact⟨b,r,rfl⟩
  repeat' first|refine Zz ?_|intro _
  refine reE ?_
  rfl
 rw [if_neg c4]
 by_cases c5:n=5
 ·rw [if_pos c5]
  repeat' first|refine Zz ?_|intro _
  refine reE ?_
  rfl
 rw [if_neg c5]
 by_cases c6:n=6
 ·rw [if_pos c6]
  repeat' first|refine Zz ?_|intro _
  refine reE ?_
  rfl
 rw [if_neg c6]
 repeat' first|refine Zz ?_|intro _
 refine reE ?_
 rfl⟩
instance fnWHands {a b:SideX}{I J:IdS}{s:StpX}{k:Int}{past:List Ent}{xs:List AV}[hx:Ents xs past]:Ans Tryz.prog GL 52 [wdA a b I J,stpA s,txA (txK 0 k),.sl 2 xs none] (past.length<=2000) (txA (hanX (decide (s.i % 2=1)) (s.k % 16) k past)):=⟨fun hl=>by
 have h':=hx.out
 subst h'
 have k0:0<=s.k % 16:=Int.emod_nonneg _ (by decide)
 have k1:s.k % 16 < 16:=Int.emod_lt_of_pos _ (by decide)
 have hi:s.i % 2=0\/s.i % 2=1:=by omega
 refine qE Tryz.func52 rfl Tryz.ntmps52 rfl (fun _ hs=>?_)
 unfold hanX
 repeat' first|refine Zz ?_|intro _
 rcases hi with hi|hi
 ·rw [hi,show decide ((0:Int)=1)=false from rfl]
  repeat' first|refine Zz ?_|intro _
  rw [show (1:Int) - 0=1 from rfl]
  repeat' first|refine Zz ?_|intro _
  by_cases c:6 < s.k % 16
  ·rw [if_pos c]
   repeat' first|refine Zz ?_|intro _
   rw [show 9 + s.k % 16 - 6=s.k % 16 + 3 by omega]
   refine reE ?_
   rfl
  ·rw [if_neg c]
   repeat' first|refine Zz ?_|intro _
   rw [show 5 + s.k % 16 - 2=s.k % 16 + 3 by omega]
   refine reE ?_
   rfl
 ·rw [hi,show decide ((1:Int)=1)=true from rfl]
  repeat' first|refine Zz ?_|intro _
  rw [show (1:Int) - 1=0 from rfl]
  repeat' first|refine Zz ?_|intro _
  by_cases c:6 < s.k % 16
  ·rw [if_pos c]
   repeat' first|refine Zz ?_|intro _
   rw [show 9 + s.k % 16 - 6=s.k % 16 + 3 by omega]
   refine reE ?_
   rfl
  ·rw [if_neg c]
   repeat' first|refine Zz ?_|intro _
   rw [show 5 + s.k % 16 - 2=s.k % 16 + 3 by omega]
   refine reE ?_
   rfl⟩
theorem pick_at {l:List Pkt}{n:Int}{m:Nat}(hm:m=l.length)(h:1<=l.length):∃ j:Nat,pickI n (m:Int)=(j:Int)/\∃ hj:j < l.length,atPk l n=l[j]:=by
 subst hm
 have hp:=pick_lt n (m:=(l.length:Int)) (by omega)
 refine⟨(pickI n (l.length:Int)).toNat,by omega,by omega,?_⟩
 unfold atPk
 rw [List.getD_eq_getElem?_getD,List.getElem?_eq_getElem (by omega)]
 rfl
theorem pk_eq (p q:Pkt):(decide (p.q=q.q) && (decide (p.s=q.s) && (decide (p.k=q.k) && ((decide (p.d=q.d) && (decide ([((lm p.a.n 0:Nat):Int),((lm p.a.n 1:Nat):Int),((lm p.a.n 2:Nat):Int),((lm p.a.n 3:Nat):Int)]=[((lm q.a.n 0:Nat):Int),((lm q.a.n 1:Nat):Int),((lm q.a.n 2:Nat):Int),((lm q.a.n 3:Nat):Int)]) && (decide (p.f=q.f) && (decide (p.g=q.g) && true)))) && (decide (p.h=q.h) && (decide (p.t=q.t) && true))))))=decide (p=q):=by
 rw [wd_eq]
 obtain⟨a1,a2,a3,a4,a5,a6,a7,a8,a9⟩:=p
 obtain⟨b1,b2,b3,b4,b5,b6,b7,b8,b9⟩:=q
 rw [Bool.eq_iff_iff]
 simp only [Bool.and_eq_true,decide_eq_true_eq,Pkt.mk.injEq,and_true]
 constructor
 ·rintro⟨h1,h2,h3,⟨h4,h5,h6,h7⟩,h8,h9⟩
  exact⟨h1,h2,h3,h4,h5,h6,h7,h8,h9⟩
 ·rintro⟨h1,h2,h3,h4,h5,h6,h7,h8,h9⟩
  exact⟨h1,h2,h3,⟨h4,h5,h6,h7⟩,h8,h9⟩
theorem ackTo_y {g:List Pkt}{a:List Bs}{p:Pkt}{n:Nat}(h:n < g.length)(ha:a.length=g.length)(e:g[n]=p):ackTo g a p (n + 1)=a[n]:=by
 show (if g.getD n zeroPk=p then a.getD n [] else ackTo g a p n)=_
 rw [List.getD_eq_getElem?_getD,List.getElem?_eq_getElem h,List.getD_eq_getElem?_getD,List.getElem?_eq_getElem (by omega),Option.getD_some,Option.getD_some,if_pos e]
theorem ackTo_n {g:List Pkt}{a:List Bs}{p:Pkt}{n:Nat}(h:n < g.length)(e:¬ g[n]=p):ackTo g a p (n + 1)=ackTo g a p n:=by
 show (if g.getD n zeroPk=p then a.getD n [] else ackTo g a p n)=_
 rw [List.getD_eq_getElem?_getD,List.getElem?_eq_getElem h,Option.getD_some,if_neg e]
abbrev tx0V:AV:=.agg 100 [int 0,str [],str [],str [],str [],str [],int 0,.agg 35 [str [],int 0,int 0,hA zeroH],hA zeroH,.agg 12 [int 0,str [],str [],.agg 7 [str [],.agg 4 [.lit (.int .u64 0),.lit (.int .u64 0),.lit (.int .u64 0),.lit (.int .u64 0)],str [],str []],int 0,int 0],str [],int 0,.agg 3 [int 0,int 0,.lit (.slice none 0 0)],.agg 9 [int 0,.lit (.slice none 0 0),.lit (.slice none 0 0),.agg 3 [int 0,int 0,.lit (.slice none 0 0)],.agg 3 [int 0,int 0,.lit (.slice none 0 0)]]]
set_option maxHeartbeats 2000000 in
instance fnWPackets {a b:SideX}{I J:IdS}{s:StpX}{k:Int}{past:List Ent}{xs:List AV}[hx:Ents xs past]:Ans Tryz.prog GL 53 [wdA a b I J,stpA s,txA (txK 0 k),.sl 2 xs none] ((past.length<=2000/\Srt past)/\(a.s.length<=1000000/\a.g.length<=1000000/\a.a.length=a.g.length/\∀ p ∈ a.s,PkB p)/\(b.s.length<=1000000/\b.g.length<=1000000/\b.a.length=b.g.length/\∀ p ∈ b.s,PkB p)/\12<=s.k % 16/\s.k % 16<=14)
  (txA (if s.i % 2=1 then (if s.k % 16=12 then recX a s.n k past else if s.k % 16=13 then ackX b a s.n k past else timX b s.n k past) else (if s.k % 16=12 then recX b s.n k past else if s.k % 16=13 then ackX a b s.n k past else timX a s.n k past))):=⟨fun hp=>by
 have h':=hx.out
 subst h'
 obtain⟨⟨p1,p2⟩,⟨a1,a2,a3,a4⟩,⟨b1,b2,b3,b4⟩,k1,k2⟩:=hp
 have hi:s.i % 2=0\/s.i % 2=1:=by omega
 have hm1:(a.s.map pktA).length=a.s.length:=llm _
 have hm2:(b.s.map pktA).length=b.s.length:=llm _
 have hm3:(a.g.map pktA).length=a.g.length:=llm _
 have hm4:(b.g.map pktA).length=b.g.length:=llm _
 have hpS:past.length<=2000/\Srt past:=⟨p1,p2⟩
 refine qE Tryz.func53 rfl Tryz.ntmps53 rfl (fun _ hs=>?_)
 repeat' first|refine Zz ?_|intro _
 rcases hi with hi|hi
 ·rw [hi,if_neg (by decide)]
  repeat' first|refine Zz ?_|intro _
  rw [show (1:Int) - 0=1 from rfl]
  repeat' first|refine Zz ?_|intro _
  by_cases c:s.k % 16=12
  ·rw [if_pos c]
   unfold recX
   by_cases hs:b.s=[]
   ·rw [if_pos hs]
    have hb:b.s.length=0:=by rw [hs];rfl
    repeat' first|refine Zz ?_|intro _
    refine reE ?_
    rfl
   ·rw [if_neg hs]
    have hb:1<=b.s.length:=by
     cases e:b.s with
     | nil=>exact absurd e hs
     | cons _ _=>simp
    obtain⟨j,hj,hjl,hat⟩:=pick_at (n:=s.n) hm2 hb
    rw [hat]
    have hq:=(b4 _ (List.getElem_mem hjl)).q
    repeat' first|refine Zz ?_|intro _
    rw [hj]
    repeat' first|refine Zz ?_|intro _
    refine reE ?_
    rfl
  ·rw [if_neg c]
   by_cases c3:s.k % 16=13
   ·rw [if_pos c3]
    unfold ackX
    repeat' first|refine Zz ?_|intro _
    by_cases hs:a.s=[]
    ·rw [if_pos hs]
     have hb:a.s.length=0:=by rw [hs];rfl
     repeat' first|refine Zz ?_|intro _
     refine reE ?_
     rfl
    ·rw [if_neg hs]
     have hb:1<=a.s.length:=by
      cases e:a.s with
      | nil=>exact absurd e hs
      | cons _ _=>simp
     obtain⟨j,hj,hjl,hat⟩:=pick_at (n:=s.n) hm1 hb
     rw [hat]
     have hq:=(a4 _ (List.getElem_mem hjl)).q
     repeat' first|refine Zz ?_|intro _
     rw [hj]
     repeat' first|refine Zz ?_|intro _
     rename_i gw gs gx gr ga gb
     refine ac_loop (α:=Nat) (fun i=>[(3,.sl 2 (past.map entA) none),(6,ptr gx),(8,ptr gr),(11,ptr gb),(12,str (kyW [71] a.s[j].k a.s[j].q)),(13,int i)]) (fun i=>[.var gb 29 (sdA b J),.var gr 56 tx0V,.var gx 56 (txA { txK 15 k with x:=a.s[j],a:=ackTo b.g b.a a.s[j] i })]) (fun i=>i<=b.g.length) (fun i=>b.g.length - i) 0 ⟨rfl,rfl,rfl,rfl,rfl,rfl,trivial⟩ ?_ (Nat.zero_le _) ?_
     ·exact sbl
     intro i hi
     repeat' first|refine Zz ?_|intro _
     refine ac_cond (fun h2=>?_) (fun h2=>?_)
     ·have hil:i < b.g.length:=by omega
      have hla:i < b.a.length:=by omega
      repeat' first|refine Zz ?_|intro _
      rw [pk_eq]
      by_cases he:b.g[i]=a.s[j]
      ·rw [dT he]
       repeat' first|refine Zz ?_|intro _
       rw [<- ackTo_y hil b3 he]
       refine ae_round (i + 1) ⟨rfl,rfl,rfl,rfl,rfl,rfl,trivial⟩ ?_ hil (by omega)
       exact sbl
      ·rw [dZ he]
       repeat' first|refine Zz ?_|intro _
       rw [<- ackTo_n hil he]
       refine ae_round (i + 1) ⟨rfl,rfl,rfl,rfl,rfl,rfl,trivial⟩ ?_ hil (by omega)
       exact sbl
     ·obtain rfl:i=b.g.length:=by omega
      repeat' first|refine Zz ?_|intro _
      refine reE ?_
      rfl
   ·rw [if_neg c3]
    unfold timX
    repeat' first|refine Zz ?_|intro _
    by_cases hs:a.s=[]
    ·rw [if_pos hs]
     have hb:a.s.length=0:=by rw [hs];rfl
     repeat' first|refine Zz ?_|intro _
     refine reE ?_
     rfl
    ·rw [if_neg hs]
     have hb:1<=a.s.length:=by
      cases e:a.s with
      | nil=>exact absurd e hs
      | cons _ _=>simp
     obtain⟨j,hj,hjl,hat⟩:=pick_at (n:=s.n) hm1 hb
     rw [hat]
     have hq:=(a4 _ (List.getElem_mem hjl)).q
     repeat' first|refine Zz ?_|intro _
     rw [hj]
     repeat' first|refine Zz ?_|intro _
     refine reE ?_
     rfl
 ·rw [hi,if_pos rfl]
  repeat' first|refine Zz ?_|intro _
  rw [show (1:Int) - 1=0 from rfl]
  repeat' first|refine Zz ?_|intro _
  by_cases c:s.k % 16=12
  ·rw [if_pos c]
   unfold recX
   by_cases hs:a.s=[]
   ·rw [if_pos hs]
    have hb:a.s.length=0:=by rw [hs];rfl
    repeat' first|refine Zz ?_|intro _
    refine reE ?_
    rfl
   ·rw [if_neg hs]
    have hb:1<=a.s.length:=by
     cases e:a.s with
     | nil=>exact absurd e hs
     | cons _ _=>simp
    obtain⟨j,hj,hjl,hat⟩:=pick_at (n:=s.n) hm1 hb
    rw [hat]
    have hq:=(a4 _ (List.getElem_mem hjl)).q
    repeat' first|refine Zz ?_|intro _
    rw [hj]
    repeat' first|refine Zz ?_|intro _
    refine reE ?_
    rfl
  ·rw [if_neg c]
   by_cases c3:s.k % 16=13
   ·rw [if_pos c3]
    unfold ackX
    repeat' first|refine Zz ?_|intro _
    by_cases hs:b.s=[]
    ·rw [if_pos hs]
     have hb:b.s.length=0:=by rw [hs];rfl
     repeat' first|refine Zz ?_|intro _
     refine reE ?_
     rfl
    ·rw [if_neg hs]
     have hb:1<=b.s.length:=by
      cases e:b.s with
      | nil=>exact absurd e hs
      | cons _ _=>simp
     obtain⟨j,hj,hjl,hat⟩:=pick_at (n:=s.n) hm2 hb
     rw [hat]
     have hq:=(b4 _ (List.getElem_mem hjl)).q
     repeat' first|refine Zz ?_|intro _
     rw [hj]
     repeat' first|refine Zz ?_|intro _
     rename_i gw gs gx gr ga gb
     refine ac_loop (α:=Nat) (fun i=>[(3,.sl 2 (past.map entA) none),(6,ptr gx),(8,ptr gr),(11,ptr gb),(12,str (kyW [71] b.s[j].k b.s[j].q)),(13,int i)]) (fun i=>[.var gb 29 (sdA a I),.var gr 56 tx0V,.var gx 56 (txA { txK 15 k with x:=b.s[j],a:=ackTo a.g a.a b.s[j] i })]) (fun i=>i<=a.g.length) (fun i=>a.g.length - i) 0 ⟨rfl,rfl,rfl,rfl,rfl,rfl,trivial⟩ ?_ (Nat.zero_le _) ?_
     ·exact sbl
     intro i hi
     repeat' first|refine Zz ?_|intro _
     refine ac_cond (fun h2=>?_) (fun h2=>?_)
     ·have hil:i < a.g.length:=by omega
      have hla:i < a.a.length:=by omega
      repeat' first|refine Zz ?_|intro _
      rw [pk_eq]
      by_cases he:a.g[i]=b.s[j]
      ·rw [dT he]
       repeat' first|refine Zz ?_|intro _
       rw [<- ackTo_y hil a3 he]
       refine ae_round (i + 1) ⟨rfl,rfl,rfl,rfl,rfl,rfl,trivial⟩ ?_ hil (by omega)
       exact sbl
      ·rw [dZ he]
       repeat' first|refine Zz ?_|intro _
       rw [<- ackTo_n hil he]
       refine ae_round (i + 1) ⟨rfl,rfl,rfl,rfl,rfl,rfl,trivial⟩ ?_ hil (by omega)
       exact sbl
     ·obtain rfl:i=a.g.length:=by omega
      repeat' first|refine Zz ?_|intro _
      refine reE ?_
      rfl
   ·rw [if_neg c3]
    unfold timX
    repeat' first|refine Zz ?_|intro _
    by_cases hs:b.s=[]
    ·rw [if_pos hs]
     have hb:b.s.length=0:=by rw [hs];rfl
     repeat' first|refine Zz ?_|intro _
     refine reE ?_
     rfl
    ·rw [if_neg hs]
     have hb:1<=b.s.length:=by
      cases e:b.s with
      | nil=>exact absurd e hs
      | cons _ _=>simp
     obtain⟨j,hj,hjl,hat⟩:=pick_at (n:=s.n) hm2 hb
     rw [hat]
     have hq:=(b4 _ (List.getElem_mem hjl)).q
     repeat' first|refine Zz ?_|intro _
     rw [hj]
     repeat' first|refine Zz ?_|intro _
     refine reE ?_
     rfl⟩

instance impT_nilW {k:Nat}:ImpT (.lit (.slice none 0 0)) (.sl k [] (some (.slice none 0 0))):=⟨ImpC.nilT⟩
abbrev niV:Value:=.slice none 0 0
def idP (vp vt:Value):IdS:=⟨vp,vt,niV,niV,niV⟩
abbrev nmX (i:Bool):Bs:=if i=true then [98] else [97]
abbrev sd0 (i:Bool):SideX:=⟨nmX i,minD,0,0,[],[],[],[],[]⟩
theorem cut_s (i:Bool):cutX (sd0 i) 1=cutS i:=rfl
theorem cut_hd (i:Bool):((1:Int)<=1/\(1:Int)<=((cutS i).p.length:Nat))/\((cutS i).p.length<=1000000/\(cutS i).ts.length=(cutS i).p.length)/\∀ q ∈ (cutS i).p,q.length<=1000000:=
 ⟨⟨by decide,by show (1:Int)<=((1:Nat):Int);decide⟩,⟨by show 1<=1000000;decide,rfl⟩,fun q hq=>by
  rw [show q=minD from List.mem_singleton.1 hq]
  have:=minD_ok.l
  omega⟩
theorem cl_w (i:Bool):CliW (clS i):=by
 unfold clS newR
 split
 ·exact⟨by show 1<=1000000;decide,by show (1000:Int)<=_;decide,fun s hs=>by
   rw [List.mem_singleton.1 hs]
   show (1:Int)<=_/\(hdrX (cutS (!i)) 1).t<=_
   exact⟨by decide,by show (1:Int)<=_;decide⟩⟩
 ·exact⟨by decide,by decide,fun s hs=>by cases hs⟩
theorem wz_imp (i:Bool):Imp (.agg 9 [str (nmX i),.sl 2 (minD.map entA) none,int 0,int 0,.lit (.slice none 0 0),.lit (.slice none 0 0),.lit (.slice none 0 0),.lit (.slice none 0 0),.lit (.slice none 0 0)]) (sdA (sd0 i) (idP niV niV)):=by
 show Imp _ (.agg 9 [str (nmX i),.sl 2 (minD.map entA) none,int 0,int 0,.sl 1 [] (some (.slice none 0 0)),.sl 1 [] (some (.slice none 0 0)),.sl 12 [] (some (.slice none 0 0)),.sl 12 [] (some (.slice none 0 0)),.sl 1 [] (some (.slice none 0 0))])
 exact ImpR.imp
theorem wid_natW {n:Nat}(h:n < 18446744073709551616):widA (wOf n)=.agg 4 [.lit (.int .u64 (n:Int)),.lit (.int .u64 0),.lit (.int .u64 0),.lit (.int .u64 0)]:=by
 have e:(wOf n).n=n:=wOf_n (by omega)
 have h0:lm n 0=n:=by
  unfold lm
  rw [Nat.pow_zero,Nat.div_one,Nat.mod_eq_of_lt h]
 have hz:∀ i,1<=i->lm n i=0:=fun i hi=>by
  unfold lm
  rw [Nat.div_eq_of_lt (Nat.lt_of_lt_of_le h (by
   have:=Nat.pow_le_pow_right (n:=18446744073709551616) (by decide) hi
   rw [Nat.pow_one] at this
   exact this))]
 show widN (wOf n).n=_
 rw [e,widN,h0,hz 1 (by decide),hz 2 (by decide),hz 3 (by decide)]
 rfl
theorem spec_impH {P:Program}{gl:List (Nat × AV)}{f:FuncId}{a b:AV}{r:List AV}{m:List Av.Piece}{K:AV->List Av.Piece->Prop}(hi:∀ ok w v,RV0 ok w a v->RV0 ok w b v)(h:Av.Spec P gl f (b::r) m K):Av.Spec P gl f (a::r) m K:=Av.Spec.mk fun ok w c hS hv=>by
 refine h.run ok w c hS ?_
 rw [RVs] at hv ⊢
 obtain⟨u,us,h1,h2,h3⟩:=hv
 exact⟨u,us,h1,hi _ _ _ h2,h3⟩
abbrev anD:List Ent:=(mintR [] [97,110,110] [120] (wOf 50)).1
instance fnWMint0:Ans Tryz.prog GL 15 [.lit (.slice none 0 0),str [97,110,110],str [120],.agg 4 [.lit (.int .u64 50),.lit (.int .u64 0),.lit (.int .u64 0),.lit (.int .u64 0)]] True (.tup [dSl anD,int (mintR [] [97,110,110] [120] (wOf 50)).2]):=⟨fun _=>spec_impH (b:=.sl 2 [] none) (fun ok w v h=>Imp.nilN ok w v h) (by
 rw [<- show widA (wOf 50)=.agg 4 [.lit (.int .u64 50),.lit (.int .u64 0),.lit (.int .u64 0),.lit (.int .u64 0)] from wid_natW (n:=50) (by decide)]
 exact (fnRBMint (d:=[]) (xs:=[]) (id:=none)).spec .nil)⟩
instance fnWMint1:Ans Tryz.prog GL 15 [.sl 2 (anD.map entA) none,str [98,111,98],str [121],.agg 4 [.lit (.int .u64 9),.lit (.int .u64 0),.lit (.int .u64 0),.lit (.int .u64 0)]] True (.tup [dSl minD,int (mintR anD [98,111,98] [121] (wOf 9)).2]):=⟨fun _=>by
 rw [<- show widA (wOf 9)=.agg 4 [.lit (.int .u64 9),.lit (.int .u64 0),.lit (.int .u64 0),.lit (.int .u64 0)] from wid_natW (n:=9) (by decide)]
 exact (fnRBMint (d:=anD) (xs:=anD.map entA) (id:=none)).spec (mintR_dok .nil)⟩
section
variable {P:Program} {N:Nat} {ops:Array Oper} {Q:Exit->Act->World->Prop} {s:Av.Base} {e:Av.Env} {m:List Av.Piece}
theorem al_prm {l:List Oper}(m':List Av.Piece)(h:AL P N ops Q s l e m')(hm:m'.Perm m):AL P N ops Q s l e m:=AL.mk fun ok w a hS ha=>h.run ok w a (hS.perm hm) ha
theorem al_rot {l:List Oper}(B r:List Av.Piece)(h:AL P N ops Q s l e (r++B)):AL P N ops Q s l e (B++r):=al_prm _ h List.perm_append_comm
end
theorem put_n (x:SideX)(k v:Bs):(putX x k v).n=x.n/\(putX x k v).p=x.p/\(putX x k v).ts=x.ts:=by
 unfold putX
 split <;> exact⟨rfl,rfl,rfl⟩
theorem fre_n:(freS false).n=(cutS false).n:=(put_n _ _ _).1
theorem fre_hx:hdrX (freS false) 1=hdrX (cutS false) 1:=by
 obtain⟨h1,h2,h3⟩:=put_n (cutS false) (kyO [67] (nmK false)) (cliB (clS false))
 unfold hdrX
 rw [show (freS false).n=_ from h1,show (freS false).p=_ from h2,show (freS false).ts=_ from h3]
theorem fre_hd:((1:Int)<=1/\(1:Int)<=((freS false).p.length:Nat))/\((freS false).p.length<=1000000/\(freS false).ts.length=(freS false).p.length)/\∀ q ∈ (freS false).p,q.length<=1000000:=by
 obtain⟨h1,h2,h3⟩:=put_n (cutS false) (kyO [67] (nmK false)) (cliB (clS false))
 rw [show (freS false).p=_ from h2,show (freS false).ts=_ from h3]
 exact cut_hd false
abbrev zSd (i:Bool):AV:=.agg 9 [str (nmX i),.lit (.slice none 0 0),int 0,int 0,.lit (.slice none 0 0),.lit (.slice none 0 0),.lit (.slice none 0 0),.lit (.slice none 0 0),.lit (.slice none 0 0)]
structure Ids where
 p:Value
 t:Value
 q:Value
 u:Value
def wF0:Nat->Ids->AV
 | 0,_=>.agg 18 [.agg 18 [zSd false,zSd true]]
 | 1,z=>.agg 18 [.agg 18 [sdA (cutS false) (idP z.p z.t),zSd true]]
 | _,z=>wdA (cutS false) (cutS true) (idP z.p z.t) (idP z.q z.u)
def wT0:Nat->Ids->List Av.Piece
 | 0,_=>[]
 | 1,z=>tlS (idP z.p z.t)
 | _,z=>tlS (idP z.p z.t)++tlS (idP z.q z.u)
def wF1:Nat->IdS->IdS->AV
 | 0,I,J=>wdA (cutS false) (cutS true) I J
 | 1,I,J=>wdA (freS false) (cutS true) I J
 | _,I,J=>wdA (freS false) (freS true) I J
set_option maxRecDepth 100000 in
set_option maxHeartbeats 4000000 in
theorem fnWFresh:Av.Spec Tryz.prog GL 5 [] [] fun u m=>∃ p0 t0 p1 t1,u=wdA (freS false) (freS true) (idP p0 t0) (idP p1 t1)/\m=tlS (idP p0 t0)++tlS (idP p1 t1):=by
 refine qE Tryz.func5 rfl Tryz.ntmps5 rfl (fun _ hs=>?_)
 repeat' first|refine Zz ?_|intro _
 rename_i g0 g1
 refine ac_loop (α:=Nat × Ids) (fun q=>[(0,ptr g0),(1,ptr g1),(2,int q.1)]) (fun q=>[.var g1 32 (wF0 q.1 q.2),.var g0 32 (.agg 18 [.agg 18 [.agg 9 [str [],.lit (.slice none 0 0),int 0,int 0,.lit (.slice none 0 0),.lit (.slice none 0 0),.lit (.slice none 0 0),.lit (.slice none 0 0),.lit (.slice none 0 0)],.agg 9 [str [],.lit (.slice none 0 0),int 0,int 0,.lit (.slice none 0 0),.lit (.slice none 0 0),.lit (.slice none 0 0),.lit (.slice none 0 0),.lit (.slice none 0 0)]]])]++wT0 q.1 q.2) (fun q=>q.1<=2) (fun q=>2 - q.1) (0,⟨niV,niV,niV,niV⟩) ⟨rfl,rfl,rfl,trivial⟩ slr (Nat.zero_le _) ?_
 rintro⟨i,z⟩ hi
 dsimp only at hi ⊢
 obtain rfl|rfl|rfl:i=0\/i=1\/i=2:=by omega
 ·dsimp only [wF0,wT0]
  repeat' first|refine Zz ?_|intro _
  refine al_as 36 (wz_imp false) ?_
  refine al_st (fun ok w h=>h.full 9 1 none 0) ?_
  refine al_st (fun ok w h=>h.full 49 12 none 0) ?_
  refine al_st (fun ok w h=>h.full 49 12 none 0) ?_
  refine al_st (fun ok w h=>h.full 3 1 none 0) ?_
  refine al_st (fun ok w h=>h.full 23 1 none 0) ?_
  refine al_callK (args:=[sdA (sd0 false) (idP niV niV),int 1]) (tlS (idP niV niV)) _ (by rw [hs];exact fnWCut (by decide) (by decide) (by decide)) (fun u m1 hh=>?_) lpr
  obtain⟨vp,vt,rfl,rfl⟩:=hh
  rw [cut_s]
  show AL _ _ _ _ _ _ ((37,sdA (cutS false) (idP vp vt))::_) (tlS (idP vp vt)++_)
  refine al_rot (tlS (idP vp vt)) _ ?_
  repeat' first|refine Zz ?_|intro _
  refine ae_round (1,⟨vp,vt,niV,niV⟩) ⟨rfl,rfl,rfl,trivial⟩ ?_ (by show (1:Nat)<=2;decide) (by show (2 - 1:Nat) < 2 - 0;decide)
  ·exact sbl
 ·dsimp only [wF0,wT0]
  repeat' first|refine Zz ?_|intro _
  refine al_as 36 (wz_imp true) ?_
  refine al_st (fun ok w h=>h.full 9 1 none 0) ?_
  refine al_st (fun ok w h=>h.full 49 12 none 0) ?_
  refine al_st (fun ok w h=>h.full 49 12 none 0) ?_
  refine al_st (fun ok w h=>h.full 3 1 none 0) ?_
  refine al_st (fun ok w h=>h.full 23 1 none 0) ?_
  refine al_callK (args:=[sdA (sd0 true) (idP niV niV),int 1]) (tlS (idP niV niV)) _ (by rw [hs];exact fnWCut (by decide) (by decide) (by decide)) (fun u m1 hh=>?_) lpr
  obtain⟨vp,vt,rfl,rfl⟩:=hh
  rw [cut_s]
  show AL _ _ _ _ _ _ ((37,sdA (cutS true) (idP vp vt))::_) (tlS (idP vp vt)++_)
  refine al_rot (tlS (idP vp vt)) _ ?_
  repeat' first|refine Zz ?_|intro _
  refine ae_round (2,⟨z.p,z.t,vp,vt⟩) ⟨rfl,rfl,rfl,trivial⟩ ?_ (by show (2:Nat)<=2;decide) (by show (2 - 2:Nat) < 2 - 1;decide)
  ·exact sbl
 ·dsimp only [wF0,wT0]
  repeat' first|refine Zz ?_|intro _
  refine ac_loop (α:=Nat) (fun q=>[(0,ptr g0),(1,ptr g1),(4,int q)]) (fun q=>[.var g1 32 (wF1 q (idP z.p z.t) (idP z.q z.u)),.var g0 32 (.agg 18 [.agg 18 [.agg 9 [str [],.lit (.slice none 0 0),int 0,int 0,.lit (.slice none 0 0),.lit (.slice none 0 0),.lit (.slice none 0 0),.lit (.slice none 0 0),.lit (.slice none 0 0)],.agg 9 [str [],.lit (.slice none 0 0),int 0,int 0,.lit (.slice none 0 0),.lit (.slice none 0 0),.lit (.slice none 0 0),.lit (.slice none 0 0),.lit (.slice none 0 0)]]])]++(tlS (idP z.p z.t)++tlS (idP z.q z.u))) (fun q=>q<=2) (fun q=>2 - q) 0 ⟨rfl,rfl,rfl,trivial⟩ slr (Nat.zero_le _) ?_
  intro i hi
  obtain rfl|rfl|rfl:i=0\/i=1\/i=2:=by omega
  ·dsimp only [wF1]
   rw [show ((0:Nat):Int)=0 from rfl]
   have hn1:(cutS true).n.length=1:=rfl
   have hhd:=cut_hd true
   have hw:CliW (newR ([107,101,121]++(cutS true).n) 1000 (hdrX (cutS true) 1)):=cl_w false
   have hd0:DOk (cutS false).d:=minD_ok
   repeat' first|refine Zz ?_|intro _
   rw [show (1:Int) - 0=1 from rfl]
   repeat' first|refine Zz ?_|intro _
   apply obl_writeN [12];exact rfl;exact rfl;kernel_rfl
   ·intro _ _
    refine al_store ?_
    exact al_nil (ae_gotN rfl)
   ·exact rfl
   ·exact rfl
   repeat' first|refine Zz ?_|intro _
   apply obl_read [];exact rfl;exact rfl;kernel_rfl
   ·intro _ _
    refine al_ix0 ?_
    exact al_nil (ae_got rfl rfl)
   repeat' first|refine Zz ?_|intro _
   apply obl_read [12];exact rfl;exact rfl;kernel_rfl
   ·intro _ _
    refine al_load ?_
    exact al_nil (ae_got rfl rfl)
   repeat' first|refine Zz ?_|intro _
   refine ae_round 1 ⟨rfl,rfl,rfl,trivial⟩ ?_ (by decide) (by decide)
   exact sbl
  ·dsimp only [wF1]
   rw [show ((1:Nat):Int)=1 from rfl]
   have hn1:(freS false).n.length=1:=by rw [fre_n];rfl
   have hhd:=fre_hd
   have hw:CliW (newR ([107,101,121]++(freS false).n) 1000 (hdrX (freS false) 1)):=by
    rw [fre_n,fre_hx]
    exact cl_w true
   have hd0:DOk (cutS true).d:=minD_ok
   repeat' first|refine Zz ?_|intro _
   rw [show (1:Int) - 1=0 from rfl]
   repeat' first|refine Zz ?_|intro _
   apply obl_writeN [12];exact rfl;exact rfl;kernel_rfl
   ·intro _ _
    refine al_store ?_
    exact al_nil (ae_gotN rfl)
   ·exact rfl
   ·exact rfl
   repeat' first|refine Zz ?_|intro _
   apply obl_read [];exact rfl;exact rfl;kernel_rfl
   ·intro _ _
    refine al_ix0 ?_
    exact al_nil (ae_got rfl rfl)
   repeat' first|refine Zz ?_|intro _
   apply obl_read [12];exact rfl;exact rfl;kernel_rfl
   ·intro _ _
    refine al_load ?_
    exact al_nil (ae_got rfl rfl)
   repeat' first|refine Zz ?_|intro _
   rw [fre_n,fre_hx]
   refine ae_round 2 ⟨rfl,rfl,rfl,trivial⟩ ?_ (by decide) (by decide)
   exact sbl
  ·dsimp only [wF1]
   repeat' first|refine Zz ?_|intro _
   refine reK (tlS (idP z.p z.t)++tlS (idP z.q z.u)) ⟨_,_,_,_,rfl,rfl⟩ ?_
   exact sbl

end Go.Proofs.YtlkkekpcofjbeaaGreatDoor
