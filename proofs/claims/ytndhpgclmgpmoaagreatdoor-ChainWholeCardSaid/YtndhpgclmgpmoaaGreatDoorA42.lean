/- chapter 18: a transaction leaves a map that may be -/
import Derived.Test.YtndhpgclmgpmoaaGreatDoorA27
import Derived.Test.YtndhpgclmgpmoaaGreatDoorA35
import Derived.Test.YtndhpgclmgpmoaaGreatDoorA36
import Derived.Test.YtndhpgclmgpmoaaGreatDoorA37
import Derived.Test.YtndhpgclmgpmoaaGreatDoorA38
import Derived.Test.YtndhpgclmgpmoaaGreatDoorA40
import Derived.Test.YtndhpgclmgpmoaaGreatDoorA41
namespace Go.Proofs.YtndhpgclmgpmoaaGreatDoor
open Go Go.RowKit Tw Av
attribute [local irreducible] nameB dnmB wIs
theorem may1 {a c:Bs}{n:Wd}:([a].all nameB && (dnmB c && decide (n.n≠0)))=false↔nameB a=false\/dnmB c=false\/n.n=0:=by
 simp only [List.all_cons,List.all_nil,Bool.and_true]
 by_cases h:n.n=0 <;> cases nameB a <;> cases dnmB c <;> simp [h]
theorem may2 {a b c:Bs}{n:Wd}:([a,b].all nameB && (dnmB c && decide (n.n≠0)))=false↔nameB a=false\/nameB b=false\/dnmB c=false\/n.n=0:=by
 simp only [List.all_cons,List.all_nil,Bool.and_true]
 by_cases h:n.n=0 <;> cases nameB a <;> cases nameB b <;> cases dnmB c <;> simp [h]
theorem one_cells {g1 g2:Nat}:∀ v ∈ [Value.pointer (some ⟨g1,0,none⟩),.pointer (some ⟨g2,0,none⟩)],v.oneCell'=true:=by simp [Value.oneCell']
set_option maxHeartbeats 4000000 in
instance fnBMint {d:List Ent}{a c:Bs}{n:Wd}{xs:List AV}[hx:Ents xs d]:Ans Tryz.prog GL 250 [.agg 1 [.sl 2 xs none],str a,str c,widA n] (DOk d) (.tup [dA (mintR d a c n).1,int (mintR d a c n).2]):=⟨fun hd=>by
 have h:=hx.out
 subst h
 refine qE Tryz.func250 rfl Tryz.ntmps250 rfl (fun _ hs=>?_)
 repeat' first|refine Zz ?_|intro _
 unfold mintR
 cases h1:[a].all nameB && (dnmB c && decide (n.n≠0))
 ·rw [if_pos (may1.1 h1)]
  repeat' first|refine Zz ?_|intro _
  refine reI ?_
  exact dnil_imp _
 rw [if_neg (fun e=>by rw [may1.2 e] at h1;cases h1)]
 repeat' first|refine Zz ?_|intro _
 cases h2:wIs ((getW d (balK a c)).n + n.n)
 ·rw [if_pos rfl]
  repeat' first|refine Zz ?_|intro _
  refine reI ?_
  exact dnil_imp _
 rw [if_neg (by decide)]
 repeat' (first|refine ct1 ?_|refine op1 ?_|refine opL ?_|refine op2 ?_|intro _)
 refine ac_perm [0,1,2,3,5,6,8,4,7,9,10,11,12,13,14,15] (by kernel_rfl) rfl hs (by kernel_rfl) ?_
 repeat' first|refine Vz ?_|intro _
 apply obl_fresh [];exact rfl;exact rfl;kernel_rfl;kernel_rfl
 intro s' hs'
 refine al_callK (args:=[str (totK c),widA n]) [] _ (by rw [hs'];exact more_spec) (fun u m1 hh=>?_) lpr
 obtain⟨k1,n1,rfl,rfl⟩:=hh
 refine al_nil (ae_fresh [] [.var n1 86 (widA n),.var k1 9 (str (totK c))] rfl rfl lpr rfl ?_)
 repeat' first|refine Vz ?_|intro _
 apply obl_fresh [];exact rfl;exact rfl;kernel_rfl;kernel_rfl
 intro s' hs'
 refine al_callK (args:=[str (balK a c),widA n]) [] _ (by rw [hs'];exact more_spec) (fun u m1 hh=>?_) lpr
 obtain⟨k2,n2,rfl,rfl⟩:=hh
 refine al_nil (ae_fresh [] [.var n2 86 (widA n),.var k2 9 (str (balK a c))] rfl rfl lpr rfl ?_)
 repeat' first|refine Vz ?_|intro _
 apply obl_read [4,5,6,7];exact rfl;exact rfl;kernel_rfl;intro s' hs'
 refine al_callK (args:=[dA d,.sl 1 [fnv 376 [.pointer (some ⟨k1,0,none⟩),.pointer (some ⟨n1,0,none⟩)],fnv 376 [.pointer (some ⟨k2,0,none⟩),.pointer (some ⟨n2,0,none⟩)]] none]) [.var n1 86 (widA n),.var k1 9 (str (totK c)),.var n2 86 (widA n),.var k2 9 (str (balK a c))] [] (by rw [hs'];exact does_spec (m1:=[.var n1 86 (widA n),.var k1 9 (str (totK c))]) (m2:=[.var n2 86 (widA n),.var k2 9 (str (balK a c))]) more_does more_does one_cells one_cells hd (moreR_dok hd)) (fun u m1 hh=>?_) lpr
 obtain⟨rfl,rfl⟩:=hh
 exact al_nil (ae_got rfl rfl)
 repeat' first|refine Vz ?_|intro _
 refine reE ?_
 rfl⟩
set_option maxHeartbeats 4000000 in
instance fnBMove {d:List Ent}{a b c:Bs}{n:Wd}{xs:List AV}[hx:Ents xs d]:Ans Tryz.prog GL 252 [.agg 1 [.sl 2 xs none],str a,str b,str c,widA n] (DOk d) (.tup [dA (moveR d a b c n).1,int (moveR d a b c n).2]):=⟨fun hd=>by
 have h:=hx.out
 subst h
 refine qE Tryz.func252 rfl Tryz.ntmps252 rfl (fun _ hs=>?_)
 repeat' first|refine Zz ?_|intro _
 unfold moveR
 cases h1:[a,b].all nameB && (dnmB c && decide (n.n≠0))
 ·rw [if_pos (may2.1 h1)]
  repeat' first|refine Zz ?_|intro _
  refine reI ?_
  exact dnil_imp _
 rw [if_neg (fun e=>by rw [may2.2 e] at h1;cases h1)]
 repeat' (first|refine ct1 ?_|refine op1 ?_|refine opL ?_|refine op2 ?_|intro _)
 refine ac_perm [0,1,2,4,6,7,9,3,5,8,10,11,12,13,14,15,16,17,18] (by kernel_rfl) rfl hs (by kernel_rfl) ?_
 repeat' first|refine Vz ?_|intro _
 apply obl_freshF [33] [];exact rfl;exact rfl;kernel_rfl;kernel_rfl;kernel_rfl;exact⟨⟨_,inferInstance⟩,trivial⟩
 intro s' hs'
 refine al_callK (args:=[str (balK a c),widA n]) [] _ (by rw [hs'];exact less_spec) (fun u m1 hh=>?_) lpr
 obtain⟨k1,n1,rfl,rfl⟩:=hh
 refine al_nil (ae_fresh [] [.var n1 86 (widA n),.var k1 9 (str (balK a c))] rfl rfl lpr rfl ?_)
 repeat' first|refine Vz ?_|intro _
 apply obl_freshF [33] [];exact rfl;exact rfl;kernel_rfl;kernel_rfl;kernel_rfl;exact⟨⟨_,inferInstance⟩,trivial⟩
 intro s' hs'
 refine al_callK (args:=[str (balK b c),widA n]) [] _ (by rw [hs'];exact more_spec) (fun u m1 hh=>?_) lpr
 obtain⟨k2,n2,rfl,rfl⟩:=hh
 refine al_nil (ae_fresh [] [.var n2 86 (widA n),.var k2 9 (str (balK b c))] rfl rfl lpr rfl ?_)
 repeat' first|refine Vz ?_|intro _
 apply obl_read [3,4,5,6];exact rfl;exact rfl;kernel_rfl;intro s' hs'
 refine al_callK (args:=[dA d,.sl 1 [fnv 378 [.pointer (some ⟨k1,0,none⟩),.pointer (some ⟨n1,0,none⟩)],fnv 376 [.pointer (some ⟨k2,0,none⟩),.pointer (some ⟨n2,0,none⟩)]] none]) [.var n1 86 (widA n),.var k1 9 (str (balK a c)),.var n2 86 (widA n),.var k2 9 (str (balK b c))] [] (by rw [hs'];exact does_spec (m1:=[.var n1 86 (widA n),.var k1 9 (str (balK a c))]) (m2:=[.var n2 86 (widA n),.var k2 9 (str (balK b c))]) less_does more_does one_cells one_cells hd (lessR_dok hd)) (fun u m1 hh=>?_) lpr
 obtain⟨rfl,rfl⟩:=hh
 exact al_nil (ae_got rfl rfl)
 iterate 3 refine ob1 ?_
 apply obl_float [33];kernel_rfl;kernel_rfl;kernel_rfl;exact⟨⟨_,inferInstance⟩,trivial⟩;intro g3
 repeat' first|refine Vz ?_|intro _
 generalize hR:thenR (lessR (balK a c) n) (moreR (balK b c) n) d=R
 by_cases hab:a=b
 ·rw [dT hab]
  repeat' first|refine Vz ?_|intro _
  by_cases he:R.2=16
  ·rw [dZ (nni he)]
   repeat' first|refine Vz ?_|intro _
   refine reE ?_
   simp [hab,he]
   rfl
  ·rw [dT he]
   repeat' first|refine Vz ?_|intro _
   refine reE ?_
   simp [hab,he]
   rfl
 ·rw [dZ hab]
  repeat' first|refine Vz ?_|intro _
  refine reE ?_
  simp [hab]
  rfl⟩
end Go.Proofs.YtndhpgclmgpmoaaGreatDoor

namespace Go.Proofs.YtndhpgclmgpmoaaGreatDoor
open Go Go.RowKit Tw Av

section
variable {e:List Ent} {q:Int} {s k d:Bs} {a:Wd} {f g:Bs} {h t:Int} {g1 g2 g3:Nat} {z:Bs}
end

instance fnCoEnd {d:List Ent}{k:Bs}{xs:List AV}{id:Option Value}[hx:Ents xs d]:Ans Tryz.prog GL 203 [.agg 1 [.sl 2 xs id],str k] (DOk d) (.tup [endA (redV (valE d k)),boo (decide (redE (valE d k)=0))]):=⟨fun hd=>by
 have hv:=hd.val k
 refine qE Tryz.func203 rfl Tryz.ntmps203 rfl (fun _ hs=>?_)
 repeat' first|refine Zz ?_|intro _
 refine reE ?_
 rfl⟩
instance fnCoChan {d:List Ent}{i:Bs}{xs:List AV}{id:Option Value}[hx:Ents xs d]:Ans Tryz.prog GL 139 [.agg 1 [.sl 2 xs id],str i] (DOk d) (.tup [endA (enR d [72] i),boo (enB d [72] i)]):=⟨fun hd=>by
 refine qE Tryz.func139 rfl Tryz.ntmps139 rfl (fun _ hs=>?_)
 repeat' first|refine Zz ?_|intro _
 refine reE ?_
 rfl⟩

attribute [local irreducible] clB enB
end Go.Proofs.YtndhpgclmgpmoaaGreatDoor

namespace Go.Proofs.YtndhpgclmgpmoaaGreatDoor
open Go Go.RowKit Tw Av
attribute [local irreducible] clB enB
structure TxB (x:TxX):Prop where
 i:x.i.length<=400000000
 o:x.o.length<=400000000
 p:x.p.length<=400000000
 q:x.q.length<=400000000
 y:x.y.length<=400000000
 a:x.a.length<=400000000
 s:x.x.s.length<=400000000
 k:x.x.k.length<=400000000
 d:x.x.d.length<=400000000
 f:x.x.f.length<=400000000
 g:x.x.g.length<=400000000
 hh:x.h.h<=9223372036854775807
 ht:x.h.t<=9223372036854775807
 fm:x.f.m<=9223372036854775807
 gm:x.g.a.m<=9223372036854775807/\x.g.b.m<=9223372036854775807
instance fnLFails {d:List Ent}{h t e:Int}{xs:List AV}[hx:Ents xs d]:Ans Tryz.prog GL 138 [.agg 3 [.agg 1 [.sl 2 xs none],int h,int t],int e] True (.tup [dA (failR d e).1,repA (failR d e).2]):=⟨fun _=>by
 have h':=hx.out
 subst h'
 refine qE Tryz.func138 rfl Tryz.ntmps138 rfl (fun _ hs=>?_)
 repeat' first|refine Zz ?_|intro _
 refine reE ?_
 rfl⟩
instance fnLTold {d r:List Ent}{h t e a b:Int}{c:Bs}{xs ys:List AV}[hx:Ents xs d][hy:Ents ys r]:Ans Tryz.prog GL 251 [.agg 3 [.agg 1 [.sl 2 xs none],int h,int t],.agg 1 [.sl 2 ys none],int e,.agg 3 [int a,int b,str c]] True (.tup [dA (tellR d (r,e) ⟨a,b,c⟩).1,repA (tellR d (r,e) ⟨a,b,c⟩).2]):=⟨fun _=>by
 have h':=hx.out
 subst h'
 have h':=hy.out
 subst h'
 unfold tellR
 refine qE Tryz.func251 rfl Tryz.ntmps251 rfl (fun _ hs=>?_)
 repeat' first|refine Zz ?_|intro _
 by_cases he:e=0
 ·rw [if_pos he,dZ (nni he)]
  repeat' first|refine Zz ?_|intro _
  refine reE ?_
  rfl
 ·rw [if_neg he,dT he]
  repeat' first|refine Zz ?_|intro _
  refine reE ?_
  rfl⟩
set_option maxHeartbeats 1000000 in
instance fnLFund {d:List Ent}{h t:Int}{x:TxX}{xs:List AV}[hx:Ents xs d]:Ans Tryz.prog GL 191 [.agg 3 [.agg 1 [.sl 2 xs none],int h,int t],txA x] (DOk d/\TxB x) (.tup [dA (fundR d x.x).1,repA (fundR d x.x).2]):=⟨fun hp=>by
 obtain⟨hd,hb⟩:=hp
 have b1:=hb.d
 have h':=hx.out
 subst h'
 refine qE Tryz.func191 rfl Tryz.ntmps191 rfl (fun _ hs=>?_)
 repeat' first|refine Zz ?_|intro _
 unfold fundR
 cases h1:denB x.x.d
 ·rw [if_pos (.inl rfl)]
  repeat' first|refine Zz ?_|intro _
  refine reE ?_
  rfl
 repeat' first|refine Zz ?_|intro _
 by_cases h2:0 < hopN x.x.d
 ·rw [if_pos (.inr (.inl h2)),dT (show (0:Int) < ((hopN x.x.d:Nat):Int) by omega)]
  repeat' first|refine Zz ?_|intro _
  refine reE ?_
  rfl
 rw [dZ (show ¬ (0:Int) < ((hopN x.x.d:Nat):Int) by omega)]
 repeat' first|refine Zz ?_|intro _
 cases h3:plainB x.x.g
 ·rw [if_pos (.inr (.inr rfl))]
  repeat' first|refine Zz ?_|intro _
  refine reE ?_
  rfl
 rw [if_neg (show ¬ (true=false\/0 < hopN x.x.d\/true=false) by simp [h2])]
 repeat' first|refine Zz ?_|intro _
 refine reE ?_
 rfl⟩
set_option maxHeartbeats 1000000 in
instance fnLMove {d:List Ent}{h t:Int}{x:TxX}{xs:List AV}[hx:Ents xs d]:Ans Tryz.prog GL 192 [.agg 3 [.agg 1 [.sl 2 xs none],int h,int t],txA x] (DOk d/\TxB x) (.tup [dA (movR d x.x).1,repA (movR d x.x).2]):=⟨fun hp=>by
 obtain⟨hd,hb⟩:=hp
 have b1:=hb.d
 have h':=hx.out
 subst h'
 refine qE Tryz.func192 rfl Tryz.ntmps192 rfl (fun _ hs=>?_)
 repeat' first|refine Zz ?_|intro _
 unfold movR
 cases h1:denB x.x.d
 ·rw [if_pos (.inl rfl)]
  repeat' first|refine Zz ?_|intro _
  refine reE ?_
  rfl
 repeat' first|refine Zz ?_|intro _
 cases h2:plainB x.x.f
 ·rw [if_pos (.inr (.inl rfl))]
  repeat' first|refine Zz ?_|intro _
  refine reE ?_
  rfl
 repeat' first|refine Zz ?_|intro _
 cases h3:plainB x.x.g
 ·rw [if_pos (.inr (.inr rfl))]
  repeat' first|refine Zz ?_|intro _
  refine reE ?_
  rfl
 rw [if_neg (show ¬ (true=false\/true=false\/true=false) by decide)]
 repeat' first|refine Zz ?_|intro _
 refine reE ?_
 rfl⟩
end Go.Proofs.YtndhpgclmgpmoaaGreatDoor

namespace Go.Proofs.YtndhpgclmgpmoaaGreatDoor
open Go Go.RowKit Tw Av
theorem gT_most {c m:Int}{σ:RS}(h:0<=m):((gT c m σ).length:Int)<=m:=(rtT_len c m σ.1.1 σ.1.2).2 h
theorem riI_most {c m:Int}{s:Bs}{b:Bool}(h:0<=m):riI c m s b<=m:=by
 unfold riI
 split <;> omega
theorem rpd_m (s:Bs):(rpdV s).m<=2000:=by
 unfold rpdV
 split
 ·exact riI_most (by decide)
 ·decide
theorem sdP_m (s:Bs)(b:Bool):(sdP s b).m<=2000:=by
 unfold sdP
 split
 ·exact rpd_m _
 ·decide
theorem rgd_m (s:Bs):(rgdV s).a.m<=2000/\(rgdV s).b.m<=2000:=by
 unfold rgdV
 split
 ·exact⟨sdP_m _ _,sdP_m _ _⟩
 ·decide
theorem txV_b (σ:RS):TxB (txV σ):=by
 have ht:∀ (c:Int) (τ:RS),(gT c 4000 τ).length<=400000000:=fun c τ=>by
  have:=gT_most (c:=c) (m:=4000) (σ:=τ) (by decide)
  omega
 have hi:∀ (c:Int) (τ:RS),gI c 1099511627776 τ<=9223372036854775807:=fun c τ=>Int.le_trans (gI_le (by decide)).2 (by decide)
 exact⟨ht _ _,ht _ _,ht _ _,ht _ _,ht _ _,ht _ _,ht _ _,ht _ _,ht _ _,ht _ _,ht _ _,hi _ _,hi _ _,Int.le_trans (rpd_m _) (by decide),Int.le_trans (rgd_m _).1 (by decide),Int.le_trans (rgd_m _).2 (by decide)⟩
theorem rtxV_b (σ:RS):TxB (rtxV σ):=by
 unfold rtxV
 split
 ·exact txV_b σ
 ·exact⟨by decide,by decide,by decide,by decide,by decide,by decide,by decide,by decide,by decide,by decide,by decide,by decide,by decide,by decide,by decide⟩
theorem sT_le (c m:Int)(σ:RS):(sT c m σ).1.1.length<=σ.1.1.length:=(rsT_len c m σ.1.1 σ.1.2).1
theorem sI_le (c m:Int)(σ:RS):(sI c m σ).1.1.length<=σ.1.1.length:=(rsT_len c 8 σ.1.1 σ.1.2).1
theorem gT_le (c m:Int)(σ:RS):(gT c m σ).length<=σ.1.1.length:=(rsT_len c m σ.1.1 σ.1.2).2
theorem xs0_le (s:Bs):(xs0 s).1.1.length<=s.length:=by
 unfold xs0
 split
 ·exact Nat.le_refl _
 ·exact Nat.zero_le _
theorem rtx_short {s:Bs}(h:s.length < 32):rtxE (xs0 s)=10:=by
 have h0:=xs0_le s
 generalize xs0 s=σ at *
 have h1:(xs10 σ).1.1.length<=σ.1.1.length:=Nat.le_trans (sI_le _ _ _) (Nat.le_trans (sI_le _ _ _) (Nat.le_trans (sT_le _ _ _) (Nat.le_trans (sI_le _ _ _) (Nat.le_trans (sT_le _ _ _) (Nat.le_trans (sT_le _ _ _) (Nat.le_trans (sT_le _ _ _) (Nat.le_trans (sT_le _ _ _) (Nat.le_trans (sT_le _ _ _) (sI_le _ _ _)))))))))
 have h2:(xRoot σ).length<=(xs10 σ).1.1.length:=gT_le _ _ _
 have h3:txOk σ=false:=by
  unfold txOk
  rw [dZ (show ¬ (xRoot σ).length=32 by omega),Bool.false_and]
 unfold rtxE
 rw [h3]
 rfl
theorem sT_at {c m:Int}{t r:Bs}{σ:RS}(hσ:σ.1=(tlvT c t++r,false))(h0:0<=c)(h1:c < 256){n:Nat}(h2:t.length<=n)(h3:(n:Int)<=m/\n<=16777215):gT c m σ=t/\(sT c m σ).1=(r,false):=by
 obtain⟨a,b,e⟩:=rd_tlvT (c:=c) (most:=m) (s:=t) (r:=r) h0 h1 (by omega) (by omega)
 unfold gT sT
 dsimp only
 rw [hσ]
 dsimp only
 rw [a,b,e]
 exact⟨rfl,rfl⟩
theorem sI_at {c m n:Int}{r:Bs}{σ:RS}(hσ:σ.1=(tlvI c n++r,false))(h0:0<=c)(h1:c < 256)(h2:0<=n)(h3:n<=m)(h4:m<=9223372036854775807):gI c m σ=n/\(sI c m σ).1=(r,false):=by
 obtain⟨a,b,e⟩:=rd_tlvI (c:=c) (most:=m) (n:=n) (r:=r) h0 h1 h2 h3 h4
 unfold gI sI
 dsimp only
 rw [hσ]
 dsimp only
 rw [a,b,e]
 exact⟨rfl,rfl⟩
structure TxG (x:TxX):Prop where
 k:0<=x.k/\x.k<=16
 i:x.i.length<=4000
 o:x.o.length<=4000
 p:x.p.length<=4000
 q:x.q.length<=4000
 y:x.y.length<=4000
 e:0<=x.e/\x.e<=1099511627776
 c:x.h.c.length<=4000
 hh:0<=x.h.h/\x.h.h<=1099511627776
 ht:0<=x.h.t/\x.h.t<=1099511627776
 xq:0<=x.x.q/\x.x.q<=1099511627776
 xh:0<=x.x.h/\x.x.h<=1099511627776
 xt:0<=x.x.t/\x.x.t<=1099511627776
 t:0<=x.t/\x.t<=1099511627776
 xs:x.x.s.length<=4000
 xk:x.x.k.length<=4000
 xd:x.x.d.length<=4000
 xf:x.x.f.length<=4000
 xg:x.x.g.length<=4000
 a:x.a.length<=4000
 f:PG x.f
 g:GG x.g
 gl:(gapB x.g).length<=4000
theorem rtx_txB {x:TxX}(h:TxG x)(hl:(txB x).length<=1000000000):rtxV (xs0 (txB x))=x/\rtxE (xs0 (txB x))=0:=by
 have hB:txB x=tlvI 75 x.k++(tlvT 73 x.i++(tlvT 79 x.o++(tlvT 81 x.p++(tlvT 82 x.q++(tlvT 89 x.y++(tlvI 69 x.e++(tlvT 99 x.h.c++(tlvI 104 x.h.h++(tlvI 116 x.h.t++(tlvT 114 x.h.r.l++(tlvT 77 x.m.l++(tlvI 113 x.x.q++(tlvT 115 x.x.s++(tlvT 107 x.x.k++(tlvT 100 x.x.d++(tlvT 97 (beB x.x.a.n)++(tlvT 102 x.x.f++(tlvT 103 x.x.g++(tlvI 117 x.x.h++(tlvI 118 x.x.t++(tlvT 65 x.a++(tlvI 84 x.t++(tlvT 70 (prfB x.f)++(tlvT 71 (gapB x.g)++[])))))))))))))))))))))))):=by
  unfold txB
  simp only [List.append_assoc,List.append_nil]
 have e0:(xs0 (txB x)).1=(txB x,false):=by
  unfold xs0
  rw [dif_pos hl]
 generalize xs0 (txB x)=σ at *
 rw [hB] at e0
 clear hB hl
 obtain⟨g1,s1⟩:=sI_at (c:=75) (m:=16) e0 (by decide) (by decide) h.k.1 h.k.2 (by decide)
 change (xs1 σ).1=_ at s1
 obtain⟨g2,s2⟩:=sT_at (c:=73) (m:=4000) s1 (by decide) (by decide) h.i (by decide)
 change (xs2 σ).1=_ at s2
 obtain⟨g3,s3⟩:=sT_at (c:=79) (m:=4000) s2 (by decide) (by decide) h.o (by decide)
 change (xs3 σ).1=_ at s3
 obtain⟨g4,s4⟩:=sT_at (c:=81) (m:=4000) s3 (by decide) (by decide) h.p (by decide)
 change (xs4 σ).1=_ at s4
 obtain⟨g5,s5⟩:=sT_at (c:=82) (m:=4000) s4 (by decide) (by decide) h.q (by decide)
 change (xs5 σ).1=_ at s5
 obtain⟨g6,s6⟩:=sT_at (c:=89) (m:=4000) s5 (by decide) (by decide) h.y (by decide)
 change (xs6 σ).1=_ at s6
 obtain⟨g7,s7⟩:=sI_at (c:=69) (m:=1099511627776) s6 (by decide) (by decide) h.e.1 h.e.2 (by decide)
 change (xs7 σ).1=_ at s7
 obtain⟨g8,s8⟩:=sT_at (c:=99) (m:=4000) s7 (by decide) (by decide) h.c (by decide)
 change (xs8 σ).1=_ at s8
 obtain⟨g9,s9⟩:=sI_at (c:=104) (m:=1099511627776) s8 (by decide) (by decide) h.hh.1 h.hh.2 (by decide)
 change (xs9 σ).1=_ at s9
 obtain⟨g10,s10⟩:=sI_at (c:=116) (m:=1099511627776) s9 (by decide) (by decide) h.ht.1 h.ht.2 (by decide)
 change (xs10 σ).1=_ at s10
 obtain⟨g11,s11⟩:=sT_at (c:=114) (m:=32) s10 (by decide) (by decide) (Nat.le_of_eq x.h.r.len) (by decide)
 change (xs11 σ).1=_ at s11
 obtain⟨g12,s12⟩:=sT_at (c:=77) (m:=32) s11 (by decide) (by decide) (Nat.le_of_eq x.m.len) (by decide)
 change (xs12 σ).1=_ at s12
 obtain⟨g13,s13⟩:=sI_at (c:=113) (m:=1099511627776) s12 (by decide) (by decide) h.xq.1 h.xq.2 (by decide)
 change (xs13 σ).1=_ at s13
 obtain⟨g14,s14⟩:=sT_at (c:=115) (m:=4000) s13 (by decide) (by decide) h.xs (by decide)
 change (xs14 σ).1=_ at s14
 obtain⟨g15,s15⟩:=sT_at (c:=107) (m:=4000) s14 (by decide) (by decide) h.xk (by decide)
 change (xs15 σ).1=_ at s15
 obtain⟨g16,s16⟩:=sT_at (c:=100) (m:=4000) s15 (by decide) (by decide) h.xd (by decide)
 change (xs16 σ).1=_ at s16
 obtain⟨g17,s17⟩:=sT_at (c:=97) (m:=32) s16 (by decide) (by decide) (Nat.le_of_eq (beB_len _)) (by decide)
 change (xs17 σ).1=_ at s17
 obtain⟨g18,s18⟩:=sT_at (c:=102) (m:=4000) s17 (by decide) (by decide) h.xf (by decide)
 change (xs18 σ).1=_ at s18
 obtain⟨g19,s19⟩:=sT_at (c:=103) (m:=4000) s18 (by decide) (by decide) h.xg (by decide)
 change (xs19 σ).1=_ at s19
 obtain⟨g20,s20⟩:=sI_at (c:=117) (m:=1099511627776) s19 (by decide) (by decide) h.xh.1 h.xh.2 (by decide)
 change (xs20 σ).1=_ at s20
 obtain⟨g21,s21⟩:=sI_at (c:=118) (m:=1099511627776) s20 (by decide) (by decide) h.xt.1 h.xt.2 (by decide)
 change (xs21 σ).1=_ at s21
 obtain⟨g22,s22⟩:=sT_at (c:=65) (m:=4000) s21 (by decide) (by decide) h.a (by decide)
 change (xs22 σ).1=_ at s22
 obtain⟨g23,s23⟩:=sI_at (c:=84) (m:=1099511627776) s22 (by decide) (by decide) h.t.1 h.t.2 (by decide)
 change (xs23 σ).1=_ at s23
 obtain⟨g24,s24⟩:=sT_at (c:=70) (m:=4000) s23 (by decide) (by decide) (prfB_short h.f) (by decide)
 change (xs24 σ).1=_ at s24
 obtain⟨g25,s25⟩:=sT_at (c:=71) (m:=4000) s24 (by decide) (by decide) h.gl (by decide)
 change (xs25 σ).1=_ at s25
 have hE:gZ (xs25 σ)=0:=by
  unfold gZ
  rw [s25]
  rfl
 have hk:txOk σ=true:=by
  unfold txOk xRoot xMac xAmt xPrf xGap
  rw [g11,g12,g17,g24,g25,hE,x.h.r.len,x.m.len,beB_len,(rpd_prfB h.f).2.1,(rgd_gapB h.g).2]
  rfl
 have hV:txV σ=x:=by
  show (⟨gI 75 16 σ,gT 73 4000 (xs1 σ),gT 79 4000 (xs2 σ),gT 81 4000 (xs3 σ),gT 82 4000 (xs4 σ),gT 89 4000 (xs5 σ),gI 69 1099511627776 (xs6 σ),⟨gT 99 4000 (xs7 σ),gI 104 1099511627776 (xs8 σ),gI 116 1099511627776 (xs9 σ),hOf (gT 114 32 (xs10 σ))⟩,hOf (gT 77 32 (xs11 σ)),⟨gI 113 1099511627776 (xs12 σ),gT 115 4000 (xs13 σ),gT 107 4000 (xs14 σ),gT 100 4000 (xs15 σ),wV (gT 97 32 (xs16 σ)),gT 102 4000 (xs17 σ),gT 103 4000 (xs18 σ),gI 117 1099511627776 (xs19 σ),gI 118 1099511627776 (xs20 σ)⟩,gT 65 4000 (xs21 σ),gI 84 1099511627776 (xs22 σ),rpdV (gT 70 4000 (xs23 σ)),rgdV (gT 71 4000 (xs24 σ))⟩:TxX)=x
  rw [g1,g2,g3,g4,g5,g6,g7,g8,g9,g10,g11,g12,g13,g14,g15,g16,g17,g18,g19,g20,g21,g22,g23,g24,g25,hOf_self,hOf_self,(rpd_prfB h.f).1,(rgd_gapB h.g).1,wV,if_pos (beB_len _),beN_beB,wOf_eta]
 unfold rtxV rtxE
 rw [hk,if_pos rfl,if_pos rfl]
 exact⟨hV,rfl⟩

attribute [local irreducible] clB enB
def joiQ (d:List Ent)(x:TxX)(i k pp:Bs)(th:EndX)(r:EndX × Int)(t:Int):Out18:=if prE d i x.t t (kyO k pp) (enxB th) x.f≠0 then failR d (prE d i x.t t (kyO k pp) (enxB th) x.f) else if r.2≠0 then failR d r.2 else putsR d (kyO k x.i) (enxB r.1)
theorem joi_t {d:List Ent}{x:TxX}{own:EndX}{i k:Bs}{t:Int}:joiR d x own i k true t=joiQ d x i k x.p ⟨2,own.q,own.o,x.i⟩ (ackE own x.i x.p ⟨2,own.q,own.o,x.i⟩) t:=rfl
theorem joi_f {d:List Ent}{x:TxX}{own:EndX}{i k:Bs}{t:Int}:joiR d x own i k false t=joiQ d x i k own.p ⟨3,own.q,own.o,x.i⟩ (cnfE own x.i ⟨3,own.q,own.o,x.i⟩) t:=rfl
end Go.Proofs.YtndhpgclmgpmoaaGreatDoor

namespace Go.Proofs.YtndhpgclmgpmoaaGreatDoor
open Go Go.RowKit Tw Av
attribute [local irreducible] clB enB
end Go.Proofs.YtndhpgclmgpmoaaGreatDoor

namespace Go.Proofs.YtndhpgclmgpmoaaGreatDoor
open Go Go.RowKit Tw Av
attribute [local irreducible] clB enB
def Eb (n:Int):Prop:=0<=n/\n < 256
theorem e1:Eb 1:=⟨by decide,by decide⟩
end Go.Proofs.YtndhpgclmgpmoaaGreatDoor

namespace Go.Proofs.YtndhpgclmgpmoaaGreatDoor
open Go Go.RowKit Tw Av
attribute [local irreducible] clB enB
end Go.Proofs.YtndhpgclmgpmoaaGreatDoor

namespace Go.Proofs.YtndhpgclmgpmoaaGreatDoor
open Go Go.RowKit Tw Av
attribute [local irreducible] clB enB lateP
end Go.Proofs.YtndhpgclmgpmoaaGreatDoor

namespace Go.Proofs.YtndhpgclmgpmoaaGreatDoor
open Go Go.RowKit Tw Av
def callV (k:Int):AV:=
 if k=1 then fnv 191 [] else if k=2 then fnv 192 [] else if k=3 then fnv 193 [] else if k=4 then fnv 194 [] else if k=5 then fnv 195 [] else if k=6 then fnv 195 [] else if k=7 then fnv 196 [] else if k=8 then fnv 196 [] else if k=9 then fnv 197 [] else if k=10 then fnv 197 [] else if k=11 then fnv 198 [] else if k=12 then fnv 198 [] else if k=13 then fnv 199 [] else if k=14 then fnv 200 [] else if k=15 then fnv 201 [] else if k=16 then fnv 202 [] else .lit .nilFunc
theorem call1:callV 1=fnv 191 []:=rfl
theorem do1 {d:List Ent}{x:TxX}{h t:Int}(e:x.k=1):doR d x h t=fundR d x.x:=by
 unfold doR
 rw [e]
 rfl
theorem call2:callV 2=fnv 192 []:=rfl
theorem do2 {d:List Ent}{x:TxX}{h t:Int}(e:x.k=2):doR d x h t=movR d x.x:=by
 unfold doR
 rw [e]
 rfl
theorem call3:callV 3=fnv 193 []:=rfl
theorem do3 {d:List Ent}{x:TxX}{h t:Int}(e:x.k=3):doR d x h t=creR d x:=by
 unfold doR
 rw [e]
 rfl
theorem call4:callV 4=fnv 194 []:=rfl
theorem do4 {d:List Ent}{x:TxX}{h t:Int}(e:x.k=4):doR d x h t=updR d x t:=by
 unfold doR
 rw [e]
 rfl
theorem call5:callV 5=fnv 195 []:=rfl
theorem do5 {d:List Ent}{x:TxX}{h t:Int}(e:x.k=5):doR d x h t=conR d x t:=by
 unfold doR
 rw [e]
 rfl
theorem call6:callV 6=fnv 195 []:=rfl
theorem do6 {d:List Ent}{x:TxX}{h t:Int}(e:x.k=6):doR d x h t=conR d x t:=by
 unfold doR
 rw [e]
 rfl
theorem call7:callV 7=fnv 196 []:=rfl
theorem do7 {d:List Ent}{x:TxX}{h t:Int}(e:x.k=7):doR d x h t=codR d x t:=by
 unfold doR
 rw [e]
 rfl
theorem call8:callV 8=fnv 196 []:=rfl
theorem do8 {d:List Ent}{x:TxX}{h t:Int}(e:x.k=8):doR d x h t=codR d x t:=by
 unfold doR
 rw [e]
 rfl
theorem call9:callV 9=fnv 197 []:=rfl
theorem do9 {d:List Ent}{x:TxX}{h t:Int}(e:x.k=9):doR d x h t=opnR d x t:=by
 unfold doR
 rw [e]
 rfl
theorem call10:callV 10=fnv 197 []:=rfl
theorem do10 {d:List Ent}{x:TxX}{h t:Int}(e:x.k=10):doR d x h t=opnR d x t:=by
 unfold doR
 rw [e]
 rfl
theorem call11:callV 11=fnv 198 []:=rfl
theorem do11 {d:List Ent}{x:TxX}{h t:Int}(e:x.k=11):doR d x h t=opdR d x t:=by
 unfold doR
 rw [e]
 rfl
theorem call12:callV 12=fnv 198 []:=rfl
theorem do12 {d:List Ent}{x:TxX}{h t:Int}(e:x.k=12):doR d x h t=opdR d x t:=by
 unfold doR
 rw [e]
 rfl
theorem call13:callV 13=fnv 199 []:=rfl
theorem do13 {d:List Ent}{x:TxX}{h t:Int}(e:x.k=13):doR d x h t=sndR d x.x:=by
 unfold doR
 rw [e]
 rfl
theorem call14:callV 14=fnv 200 []:=rfl
theorem do14 {d:List Ent}{x:TxX}{h t:Int}(e:x.k=14):doR d x h t=rcvR d x h t:=by
 unfold doR
 rw [e]
 rfl
theorem call15:callV 15=fnv 201 []:=rfl
theorem do15 {d:List Ent}{x:TxX}{h t:Int}(e:x.k=15):doR d x h t=acksR d x t:=by
 unfold doR
 rw [e]
 rfl
theorem call16:callV 16=fnv 202 []:=rfl
theorem do16 {d:List Ent}{x:TxX}{h t:Int}(e:x.k=16):doR d x h t=timR d x t:=by
 unfold doR
 rw [e]
 rfl
theorem callN {k:Int}(h:¬ (1<=k/\k<=16)):callV k=.lit .nilFunc:=by
 unfold callV
 repeat rw [if_neg (by omega)]
theorem doN {d:List Ent}{x:TxX}{h t:Int}(e:¬ (1<=x.k/\x.k<=16)):doR d x h t=failR d 1:=by
 unfold doR
 repeat rw [if_neg (by omega)]
attribute [local irreducible] clB enB lateP fundR movR creR updR conR codR opnR opdR sndR rcvR acksR timR callV doR
section
variable {P:Program} {N:Nat} {ops:Array Oper} {Q:Exit->Act->World->Prop} {rest:List Oper} {s:Av.Base} {e:Av.Env} {m:List Av.Piece} {d:Nat} {ty:TypeId} {pos:String} {af:Array Edge}
def isFn:Option TypeDesc->Bool
 | some (.func _ _ _)=>true
 | _=>false
theorem isFn_out {o:Option TypeDesc}(h:isFn o=true):∃ A B C,o=some (.func A B C):=by
 unfold isFn at h
 split at h
 ·exact⟨_,_,_,rfl⟩
 ·cases h
theorem al_fnNF {op:BinOp}{T yT:TypeId}(hT:isFn (P.underlying T)=true){x y:Operand}{f:FuncId}{cs:List Value}{c:Bool}(h:AL P N ops Q s rest ((d,boo c)::e) m)(hx:Av.ev e x=some (fnv f cs):=by exact rfl)(hy:Av.ev e y=some (.lit .nilFunc):=by exact rfl)(hc:eqs op false=some c:=by exact rfl)(hd:Nat.blt d N=true:=by exact rfl):AL P N ops Q s (⟨some d,.binOp op T x y yT,ty,pos,af,none⟩::rest) e m:=
 al_lit rfl (fun ok w A hA=>by
  obtain⟨_,_,_,ht⟩:=isFn_out hT
  exact run_eqs (hA.lit hx) (hA.lit hy) (by simp) (by simp) (by simp) (by simp) (by unfold eqGuard;cases op <;> rfl) (by
  have h:∀ d:Nat,(Op.equalIn (d + 1) T (.func (.func f) #[] cs.toArray) .nilFunc).run P w=.ok false w:=fun d=>by simp [Op.equalIn,run_underlying ht]
  exact h 9999) hc) hd h
end
theorem kinds {k:Int}(h:1<=k/\k<=16):k=1\/k=2\/k=3\/k=4\/k=5\/k=6\/k=7\/k=8\/k=9\/k=10\/k=11\/k=12\/k=13\/k=14\/k=15\/k=16:=by omega
set_option maxHeartbeats 2000000 in
instance fnCoCall {k:Int}:Ans Tryz.prog GL 137 [int k] True (callV k):=⟨fun _=>by
 refine qE Tryz.func137 rfl Tryz.ntmps137 rfl (fun _ hs=>?_)
 by_cases h:1<=k/\k<=16
 ·rcases kinds h with rfl|rfl|rfl|rfl|rfl|rfl|rfl|rfl|rfl|rfl|rfl|rfl|rfl|rfl|rfl|rfl
  all_goals
   repeat' first|refine Zz ?_|intro _
   refine reE ?_
   first|exact call1.symm|exact call2.symm|exact call3.symm|exact call4.symm|exact call5.symm|exact call6.symm|exact call7.symm|exact call8.symm|exact call9.symm|exact call10.symm|exact call11.symm|exact call12.symm|exact call13.symm|exact call14.symm|exact call15.symm|exact call16.symm
 ·repeat' first|refine Zz ?_|intro _
  refine reE ?_
  exact (callN h).symm⟩
end Go.Proofs.YtndhpgclmgpmoaaGreatDoor

namespace Go.Proofs.YtndhpgclmgpmoaaGreatDoor
open Go Go.RowKit Tw Av
theorem tellR_dok {d:List Ent}{r:List Ent × Int}{p:Rep}(h:DOk d)(hr:DOk r.1):DOk (tellR d r p).1:=by
 unfold tellR failR
 split
 ·exact hr
 ·exact h
theorem putsR_dok {d:List Ent}{k v:Bs}(h:DOk d):DOk (putsR d k v).1:=tellR_dok h (putR_dok h)
theorem begR_dok {d:List Ent}{x:TxX}{i k:Bs}{b:Bool}{t:Int}(h:DOk d):DOk (begR d x i k b t).1:=by
 unfold begR
 repeat' (first|exact h|exact putsR_dok h|split)
theorem joiR_dok {d:List Ent}{x:TxX}{own:EndX}{i k:Bs}{b:Bool}{t:Int}(h:DOk d):DOk (joiR d x own i k b t).1:=by
 cases b
 ·rw [joi_f]
  unfold joiQ
  split
  ·exact h
  ·split
   ·exact h
   ·exact putsR_dok h
 ·rw [joi_t]
  unfold joiQ
  split
  ·exact h
  ·split
   ·exact h
   ·exact putsR_dok h
theorem endR_dok {d:List Ent}{x:Pkt}{b:Bool}{e:Int}(h:DOk d):DOk (endR d x b e).1:=by
 unfold endR
 split
 ·exact h
 split
 ·exact h
 split
 ·exact h
 split
 ·exact h
 refine DOk.drp ?_ _
 split
 ·exact backR_dok h
 ·exact h
section
variable {d:List Ent} {x:TxX} {h t:Int} (hd:DOk d)
include hd
theorem fundR_dok:DOk (fundR d x.x).1:=by
 unfold fundR
 split
 ·exact hd
 ·exact tellR_dok hd (mintR_dok hd)
theorem movR_dok:DOk (movR d x.x).1:=by
 unfold movR
 split
 ·exact hd
 ·exact tellR_dok hd (moveR_dok hd)
theorem creR_dok:DOk (creR d x).1:=by
 unfold creR
 split
 ·exact hd
 ·split
  ·exact hd
  ·split
   ·exact hd
   ·exact putsR_dok hd
theorem updR_dok:DOk (updR d x t).1:=by
 unfold updR
 split
 ·exact hd
 ·split
  ·exact hd
  ·exact putsR_dok hd
theorem conR_dok:DOk (conR d x t).1:=by
 unfold conR
 split
 ·exact hd
 ·split
  ·exact hd
  ·split
   ·exact hd
   ·exact begR_dok hd
theorem codR_dok:DOk (codR d x t).1:=by
 unfold codR
 split
 ·exact hd
 ·exact joiR_dok hd
theorem opnR_dok:DOk (opnR d x t).1:=by
 unfold opnR
 split
 ·exact hd
 ·split
  ·exact hd
  ·split
   ·exact hd
   ·split
    ·exact hd
    ·exact begR_dok hd
theorem opdR_dok:DOk (opdR d x t).1:=by
 unfold opdR
 split
 ·exact hd
 ·exact joiR_dok hd
theorem sndR_dok:DOk (sndR d x.x).1:=by
 unfold sndR
 split
 ·exact hd
 ·split
  ·exact hd
  ·split
   ·exact hd
   ·split
    ·exact hd
    ·exact tellR_dok hd (thenR_dok hd (fun d h=>sendR_dok h) (fun d h=>thenR_dok h (fun d h=>putR_dok h) (fun d h=>putR_dok h)))
theorem rcvR_dok:DOk (rcvR d x h t).1:=by
 have h1:DOk (if (recvR d x.x).2=0 then (recvR d x.x).1 else d):=by
  split
  ·exact recvR_dok hd
  ·exact hd
 unfold rcvR
 generalize (if (recvR d x.x).2=0 then (recvR d x.x).1 else d)=D at *
 split
 ·exact hd
 split
 ·exact hd
 split
 ·exact hd
 split
 ·exact hd
 split
 ·exact hd
 split
 ·exact hd
 exact tellR_dok hd (putR_dok h1)
theorem acksR_dok:DOk (acksR d x t).1:=by
 unfold acksR
 split
 ·exact hd
 ·exact endR_dok hd
theorem timR_dok:DOk (timR d x t).1:=by
 unfold timR
 split
 ·exact hd
 ·exact endR_dok hd
theorem doR_dok:DOk (doR d x h t).1:=by
 by_cases hk:1<=x.k/\x.k<=16
 rotate_left
 ·rw [doN hk]
  exact hd
 rcases kinds hk with e|e|e|e|e|e|e|e|e|e|e|e|e|e|e|e
 ·rw [do1 e]
  exact fundR_dok hd
 ·rw [do2 e]
  exact movR_dok hd
 ·rw [do3 e]
  exact creR_dok hd
 ·rw [do4 e]
  exact updR_dok hd
 ·rw [do5 e]
  exact conR_dok hd
 ·rw [do6 e]
  exact conR_dok hd
 ·rw [do7 e]
  exact codR_dok hd
 ·rw [do8 e]
  exact codR_dok hd
 ·rw [do9 e]
  exact opnR_dok hd
 ·rw [do10 e]
  exact opnR_dok hd
 ·rw [do11 e]
  exact opdR_dok hd
 ·rw [do12 e]
  exact opdR_dok hd
 ·rw [do13 e]
  exact sndR_dok hd
 ·rw [do14 e]
  exact rcvR_dok hd
 ·rw [do15 e]
  exact acksR_dok hd
 ·rw [do16 e]
  exact timR_dok hd
end
end Go.Proofs.YtndhpgclmgpmoaaGreatDoor
