/- law CoreBytes -/
import Derived.Test.YtlmcongmglfaeaaGreatDoorA39
import Derived.Test.YtlmcongmglfaeaaGreatDoorA40
import Derived.Test.YtlmcongmglfaeaaGreatDoorA41
import Derived.Test.YtlmcongmglfaeaaGreatDoorA45
namespace Go.Proofs.YtlmcongmglfaeaaGreatDoor
open Go Go.RowKit Tw Av
structure TxI (x:TxX):Prop where
 k:x.k<=9223372036854775807
 e:x.e<=9223372036854775807
 hh:x.h.h<=9223372036854775807
 ht:x.h.t<=9223372036854775807
 xq:x.x.q<=9223372036854775807
 xh:x.x.h<=9223372036854775807
 xt:x.x.t<=9223372036854775807
 t:x.t<=9223372036854775807
 f:x.f.a<=9223372036854775807/\x.f.m<=9223372036854775807
 n:x.g.n<=9223372036854775807
 a:x.g.a.a<=9223372036854775807/\x.g.a.m<=9223372036854775807
 b:x.g.b.a<=9223372036854775807/\x.g.b.m<=9223372036854775807
theorem small_w {x:TxX}(h:TxI x):TxW (smallX x):=by
 have h6:∀ p:List Hsh,(p.take 6).length<=1000000:=fun p=>by rw [List.length_take];omega
 have h1:∀ l:List Ent,(oneE l).length<=1000000:=fun l=>by simp only [oneE,List.length_map,List.length_take];omega
 exact⟨h.k,h.e,h.hh,h.ht,h.xq,h.xh,h.xt,h.t,⟨h6 _,h.f⟩,⟨h1 _,h6 _,h.a⟩,⟨h1 _,h6 _,h.b⟩,h.n⟩
theorem g_w {x:TxX}(g:TxG x):TxW x:=by
 have f:=g.f
 have a:=g.g.a
 have b:=g.g.b
 have n:=g.g.n
 refine⟨Int.le_trans g.k.2 (by decide),Int.le_trans g.e.2 (by decide),Int.le_trans g.hh.2 (by decide),Int.le_trans g.ht.2 (by decide),Int.le_trans g.xq.2 (by decide),Int.le_trans g.xh.2 (by decide),Int.le_trans g.xt.2 (by decide),Int.le_trans g.t.2 (by decide),?_,?_⟩
 ·have:=f.a
  have:=f.m
  have:=f.l
  omega
 ·have h1:=a.n
  have h2:=b.n
  have h3:=a.p.a
  have h4:=a.p.m
  have h5:=a.p.l
  have h6:=b.p.a
  have h7:=b.p.m
  have h8:=b.p.l
  exact⟨⟨by omega,by omega,by omega,by omega⟩,⟨by omega,by omega,by omega,by omega⟩,by omega⟩
theorem g_p {x:TxX}(g:TxG x):TxP x:=by
 have h1:=g.f.l
 have h2:=g.g.a.p.l
 have h3:=g.g.b.p.l
 exact⟨by omega,by omega,by omega⟩
theorem wTx_g (s:StpX):TxG (wTx (opeS false) (opeS true) s):=by
 unfold wTx
 split
 ·exact txX_g true s
 ·exact txX_g false s
attribute [local irreducible] txB rtxV rtxE xs0 smallX wTx opeS
set_option maxRecDepth 100000 in
set_option maxHeartbeats 4000000 in
instance fnCoreBytes {x:TxX}{s:Bs}{S:StpX}:Ans Tryz.prog GL 6 [txA x,str s,stpA S] (TxI x) (boo true):=⟨fun hp=>by
 have hW:=small_w hp
 have hl1:=txB_len (smallX x)
 have hl2:(s.take (Int.toNat 400)).length<=1000000000:=by simp;omega
 have hp1:=rtxV_l (xs0 (s.take (Int.toNat 400)))
 have hp2:=rtxV_l (xs0 (txB (smallX x)))
 have hY:=wTx_g S
 have hYw:=g_w hY
 have hYp:=g_p hY
 have hYl:=txB_len (wTx (opeS false) (opeS true) S)
 obtain⟨e1,e2⟩:=rtx_txB hY hYl
 have hN:∃ N,N<=1000/\SOk N (opeS false)/\SOk N (opeS true):=⟨0,by omega,opeS_ok false,opeS_ok true⟩
 refine qE Tryz.func6 rfl Tryz.ntmps6 rfl (fun _ hs=>?_)
 repeat' (first|refine ct1 ?_|refine op1 ?_|refine opL ?_|refine op2 ?_|intro _)
 refine ac_perm [1,0,2,3,4] (by kernel_rfl) rfl hs (by kernel_rfl) ?_
 repeat' first|refine Vz ?_|intro _
 apply obl_freshF [54] [];exact rfl;exact rfl;kernel_rfl;kernel_rfl;kernel_rfl;exact⟨⟨_,inferInstance⟩,trivial⟩
 intro s' hs'
 refine al_callK (args:=[]) [] _ (by rw [hs'];exact fnWOpened) (fun u m1 hh=>?_) lpr
 obtain⟨p0,t0,p1,t1,rfl,rfl⟩:=hh
 refine al_nil (ae_fresh [] (tlS (idP p0 t0)++tlS (idP p1 t1)) rfl rfl lpr rfl ?_)
 apply obl_read [];exact rfl;exact rfl;kernel_rfl;intro _ _
 refine al_callP hN ?_
 exact al_nil (ae_got rfl rfl)
 apply obl_float [54];kernel_rfl;kernel_rfl;kernel_rfl;exact⟨⟨_,inferInstance⟩,trivial⟩;intro g18
 apply obl_writeN [16];exact rfl;exact rfl;kernel_rfl
 ·intro _ _
  refine al_store ?_
  exact al_nil (ae_gotN rfl)
 ·exact rfl
 ·exact rfl
 generalize wTx (opeS false) (opeS true) S=Y at *
 repeat' first|refine Zz ?_|intro _
 rw [e1,e2]
 repeat' first|refine Zz ?_|intro _
 refine reE ?_
 rfl⟩
theorem coreBytes_in {gl gr:List EntZ}{k e hh ht xq xh xt t fa fm gn ga gm gb gbm s1 s2 s3 s4 s5 s6:Int}{i o p q y hc xs xk cd cf cg a s:Bs}{hr m:Hsh}{ca:List Nat}{fp gp gbp:List Hsh}
  (hk:-9223372036854775808<=k/\k<=9223372036854775807) (he:-9223372036854775808<=e/\e<=9223372036854775807) (h1:-9223372036854775808<=hh/\hh<=9223372036854775807) (h2:-9223372036854775808<=ht/\ht<=9223372036854775807) (hl4:ca.length=4) (hb4:∀ x ∈ ca,x < 18446744073709551616)
  (hq:-9223372036854775808<=xq/\xq<=9223372036854775807) (hxh:-9223372036854775808<=xh/\xh<=9223372036854775807) (hxt:-9223372036854775808<=xt/\xt<=9223372036854775807) (hT:-9223372036854775808<=t/\t<=9223372036854775807) (hfa:-9223372036854775808<=fa/\fa<=9223372036854775807) (h3:-9223372036854775808<=fm/\fm<=9223372036854775807)
  (hgn:-9223372036854775808<=gn/\gn<=9223372036854775807) (hga:-9223372036854775808<=ga/\ga<=9223372036854775807) (h4:-9223372036854775808<=gm/\gm<=9223372036854775807) (hgb:-9223372036854775808<=gb/\gb<=9223372036854775807) (h5:-9223372036854775808<=gbm/\gbm<=9223372036854775807) :
  SpecE Tryz.prog GL 6 [.agg 100 [int k,str i,str o,str p,str q,str y,int e,.agg 35 [str hc,int hh,int ht,hA hr],hA m,.agg 12 [int xq,str xs,str xk,.agg 7 [str cd,.agg 4 (ca.map fun n:Nat=>AV.lit (.int .u64 (n:Int))),str cf,str cg],int xh,int xt],str a,int t,.agg 3 [int fa,int fm,.sl 32 (fp.map hA) none],.agg 9 [int gn,.sl 2 (gl.map fun z=>AV.agg 2 [str z.fst,str z.snd.fst]) none,.sl 2 (gr.map fun z=>AV.agg 2 [str z.fst,str z.snd.fst]) none,.agg 3 [int ga,int gm,.sl 32 (gp.map hA) none],.agg 3 [int gb,int gbm,.sl 32 (gbp.map hA) none]]],str s,.agg 6 [int s1,int s2,int s3,int s4,int s5,int s6]] (boo true):=by
 obtain⟨A,hA'⟩:=amount hl4 hb4
 rw [ents_eq,ents_eq,hA']
 exact (fnCoreBytes (x:=⟨k,i,o,p,q,y,e,⟨hc,hh,ht,hr⟩,m,⟨xq,xs,xk,cd,A,cf,cg,xh,xt⟩,a,t,⟨fa,fm,fp⟩,⟨gn,ents gl,ents gr,⟨ga,gm,gp⟩,⟨gb,gbm,gbp⟩⟩⟩) (s:=s) (S:=⟨s1,s2,s3,s4,s5,s6⟩)).spec ⟨hk.2,he.2,h1.2,h2.2,hq.2,hxh.2,hxt.2,hT.2,⟨hfa.2,h3.2⟩,hgn.2,⟨hga.2,h4.2⟩,⟨hgb.2,h5.2⟩⟩
end Go.Proofs.YtlmcongmglfaeaaGreatDoor
