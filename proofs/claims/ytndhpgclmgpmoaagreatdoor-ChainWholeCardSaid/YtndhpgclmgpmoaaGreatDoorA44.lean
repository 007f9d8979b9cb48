/- a chain, walked: Cut -/
import Derived.Test.YtndhpgclmgpmoaaGreatDoorA16
import Derived.Test.YtndhpgclmgpmoaaGreatDoorA31
import Derived.Test.YtndhpgclmgpmoaaGreatDoorA35
import Derived.Test.YtndhpgclmgpmoaaGreatDoorA36
import Derived.Test.YtndhpgclmgpmoaaGreatDoorA42
import Derived.Test.YtndhpgclmgpmoaaGreatDoorA43
namespace Go.Proofs.YtndhpgclmgpmoaaGreatDoor
open Go Go.RowKit Tw Av
abbrev qA (o:Out18):AV:=.agg 4 [dSl o.1,repA o.2]
def fQ (e:Int):Out18:=([],repE e)
def pQ (d:List Ent)(k v:Bs):Out18:=if (putR d k v).2=0 then ((putR d k v).1,rep0) else fQ (putR d k v).2
def finQ (d:List Ent)(q:Out18):Out18:=if q.2.e=0 then q else failR d q.2.e
theorem fin_f {d:List Ent}{e:Int}(h:e≠0):finQ d (fQ e)=failR d e:=by
 unfold finQ fQ repE
 rw [if_neg h]
theorem fin_t {d:List Ent}{r:List Ent × Int}:finQ d (r.1,repE r.2)=tellR d r rep0:=by
 unfold finQ tellR repE
 dsimp only
 split
 ·rename_i h
  rw [h]
  rfl
 ·rfl
def coinQ (d:List Ent)(x:TxX):Out18:=if denB x.x.d=false\/plainB x.x.g=false\/(x.k=1/\0 < hopN x.x.d)\/(x.k=2/\plainB x.x.f=false) then fQ 1 else if x.k=1 then ((mintR d x.x.g x.x.d x.x.a).1,repE (mintR d x.x.g x.x.d x.x.a).2) else ((moveR d x.x.f x.x.g x.x.d x.x.a).1,repE (moveR d x.x.f x.x.g x.x.d x.x.a).2)
theorem fin_fund {d:List Ent}{x:TxX}(h:x.k=1):finQ d (coinQ d x)=fundR d x.x:=by
 unfold coinQ fundR
 by_cases h1:denB x.x.d=false\/0 < hopN x.x.d\/plainB x.x.g=false
 ·rw [if_pos h1,if_pos (by rcases h1 with h1|h1|h1;exact .inl h1;exact .inr (.inr (.inl ⟨h,h1⟩));exact .inr (.inl h1)),fin_f (by decide)]
 ·rw [if_neg h1,if_neg (fun e=>h1 (by rcases e with e|e|e|e;exact .inl e;exact .inr (.inr e);exact .inr (.inl e.2);exact absurd (h.symm.trans e.1) (by decide))),if_pos h,fin_t]
theorem fin_move {d:List Ent}{x:TxX}(h:x.k=2):finQ d (coinQ d x)=movR d x.x:=by
 have hn:¬ x.k=1:=by rw [h];decide
 unfold coinQ movR
 by_cases h1:denB x.x.d=false\/plainB x.x.f=false\/plainB x.x.g=false
 ·rw [if_pos h1,if_pos (by rcases h1 with h1|h1|h1;exact .inl h1;exact .inr (.inr (.inr ⟨h,h1⟩));exact .inr (.inl h1)),fin_f (by decide)]
 ·rw [if_neg h1,if_neg (fun e=>h1 (by rcases e with e|e|e|e;exact .inl e;exact .inr (.inr e);exact absurd e.1 hn;exact .inr (.inl e.2))),if_neg hn,fin_t]
def cliQ (d:List Ent)(x:TxX)(t:Int):Out18:=
 if x.k=4 then (if clB d x.i=false then fQ 12 else if updE (clR d x.i) x.h x.m t≠0 then fQ (updE (clR d x.i) x.h x.m t) else pQ d (kyO [67] x.i) (cliB (updC (clR d x.i) x.h x.m t)))
 else if partB x.i=false then fQ 1 else if clB d x.i=true then fQ 13 else if newE x.y x.e x.h≠0 then fQ (newE x.y x.e x.h) else pQ d (kyO [67] x.i) (cliB (newR x.y x.e x.h))

attribute [local irreducible] clB enB
theorem imp_f {e:Int}:Imp (outOf [.agg 4 [.lit (.slice none 0 0),.agg 3 [int e,.lit (.int .i64 0),str []]]]) (qA (fQ e)):=(inferInstance:ImpR (.agg 4 [.lit (.slice none 0 0),.agg 3 [int e,.lit (.int .i64 0),str []]]) (.agg 4 [.sl 2 [] none,.agg 3 [int e,int 0,str []]])).imp
instance fnR18Fails {e:Int}:Ans Tryz.prog GL 108 [int e] True (qA (fQ e)):=⟨fun _=>by
 refine qE Tryz.func108 rfl Tryz.ntmps108 rfl (fun _ hs=>?_)
 repeat' first|refine Zz ?_|intro _
 refine reI ?_
 exact imp_f⟩
set_option maxHeartbeats 2000000 in
instance fnR18Coins {d:List Ent}{x:TxX}{xs:List AV}{id:Option Value}[hx:Ents xs d]:Ans Tryz.prog GL 101 [.sl 2 xs id,txA x] (DOk d/\TxB x) (qA (coinQ d x)):=⟨fun hp=>by
 obtain⟨hd,hb⟩:=hp
 have b1:=hb.d
 have b2:=hb.f
 have b3:=hb.g
 refine qE Tryz.func101 rfl Tryz.ntmps101 rfl (fun _ hs=>?_)
 repeat' first|refine Zz ?_|intro _
 unfold coinQ
 cases h1:denB x.x.d
 ·rw [if_pos (.inl rfl)]
  repeat' first|refine Zz ?_|intro _
  refine reE ?_
  rfl
 cases h2:plainB x.x.g
 ·rw [if_pos (.inr (.inl rfl))]
  repeat' first|refine Zz ?_|intro _
  refine reE ?_
  rfl
 repeat' first|refine Zz ?_|intro _
 by_cases h3:x.k=1
 ·have h3':¬ x.k=2:=by omega
  rw [if_pos h3,dT h3]
  repeat' first|refine Zz ?_|intro _
  by_cases h4:0 < hopN x.x.d
  ·rw [if_pos (.inr (.inr (.inl ⟨h3,h4⟩))),dT (show (0:Int) < ((hopN x.x.d:Nat):Int) by omega)]
   repeat' first|refine Zz ?_|intro _
   refine reE ?_
   rfl
  ·rw [if_neg (show ¬ (true=false\/true=false\/(x.k=1/\0 < hopN x.x.d)\/(x.k=2/\plainB x.x.f=false)) by simp [h4,h3']),dZ (show ¬ (0:Int) < ((hopN x.x.d:Nat):Int) by omega)]
   repeat' first|refine Zz ?_|intro _
   rw [dZ h3']
   repeat' first|refine Zz ?_|intro _
   refine reE ?_
   rfl
 ·rw [if_neg h3,dZ h3]
  repeat' first|refine Zz ?_|intro _
  by_cases h5:x.k=2
  ·rw [dT h5]
   repeat' first|refine Zz ?_|intro _
   cases h6:plainB x.x.f
   ·rw [if_pos (.inr (.inr (.inr ⟨h5,rfl⟩)))]
    repeat' first|refine Zz ?_|intro _
    refine reE ?_
    rfl
   ·rw [if_neg (show ¬ (true=false\/true=false\/(x.k=1/\0 < hopN x.x.d)\/(x.k=2/\true=false)) by simp [h3])]
    repeat' first|refine Zz ?_|intro _
    refine reE ?_
    rfl
  ·rw [if_neg (show ¬ (true=false\/true=false\/(x.k=1/\0 < hopN x.x.d)\/(x.k=2/\plainB x.x.f=false)) by simp [h3,h5]),dZ h5]
   repeat' first|refine Zz ?_|intro _
   refine reE ?_
   rfl⟩
end Go.Proofs.YtndhpgclmgpmoaaGreatDoor

namespace Go.Proofs.YtndhpgclmgpmoaaGreatDoor
open Go Go.RowKit Tw Av
attribute [local irreducible] clB enB lateP coinQ cliQ rtxV rtxE xs0 txB specK
instance fnEqE {a:List Ent}{xs ys:List AV}{id id2:Option Value}[hx:Ents xs a][hy:Ents ys a]:Ans Tryz.prog GL 40 [.sl 2 xs id,.sl 2 ys id2] True (boo true):=⟨fun _=>by
 have h:=hx.out
 subst h
 have h:=hy.out
 subst h
 have hma:(a.map entA).length=a.length:=llm _
 refine qE Tryz.func40 rfl Tryz.ntmps40 rfl (fun _ hs=>?_)
 refine ac_bnd 0 (fun hb=>?_)
 have hb:=maxLen_le hb
 repeat' first|refine Zz ?_|intro _
 refine ac_loop (α:=Nat) (fun i=>[(0,.sl 2 (a.map entA) id),(1,.sl 2 (a.map entA) id2),(12,int (a.map entA).length),(13,int i)]) (fun i=>[])
  (fun i=>i<=a.length) (fun i=>a.length - i) 0 ⟨rfl,rfl,rfl,rfl,trivial⟩ slr (Nat.zero_le _) ?_
 intro i hi
 repeat' first|refine Vz ?_|intro _
 refine ac_cond (fun hlt=>?_) (fun hlt=>?_)
 ·have hia:i < a.length:=by omega
  repeat' first|refine Vz ?_|intro _
  exact ae_round (i + 1) ⟨rfl,rfl,rfl,rfl,trivial⟩ slr hia (by omega)
 ·repeat' first|refine Vz ?_|intro _
  refine reE ?_
  rfl⟩
instance fnDSame {a:List Ent}{xs ys:List AV}[hx:Ents xs a][hy:Ents ys a]:Ans Tryz.prog GL 24 [.agg 1 [.sl 2 xs none],.agg 1 [.sl 2 ys none]] True (boo true):=⟨fun _=>by
 refine qE Tryz.func24 rfl Tryz.ntmps24 rfl (fun _ hs=>?_)
 repeat' first|refine Zz ?_|intro _
 refine reE ?_
 rfl⟩
def blB (h t:Int)(l:List Bs):Bs:=tlvI 104 h++tlvI 116 t++tlvA 120 l
instance fnBlBytes {h t:Int}{l:List Bs}{xs:List AV}{id:Option Value}[hx:Strs xs l]:Ans Tryz.prog GL 37 [.agg 3 [int h,int t,.sl 1 xs id]] ((h<=9223372036854775807/\t<=9223372036854775807)/\l.length<=8000000) (str (blB h t l)):=⟨fun hp=>by
 obtain⟨⟨h1,h2⟩,h3⟩:=hp
 refine qE Tryz.func37 rfl Tryz.ntmps37 rfl (fun _ hs=>?_)
 repeat' first|refine Zz ?_|intro _
 refine reE ?_
 rfl⟩
def zb1:Bs:=tlvI 116 0++tlvA 120 [[120]]
def zb2:Bs:=tlvA 120 [[120]]
attribute [local irreducible] blB zb1 zb2
end Go.Proofs.YtndhpgclmgpmoaaGreatDoor

namespace Go.Proofs.YtndhpgclmgpmoaaGreatDoor
open Go Go.RowKit Tw Av
structure BkG (b:BlkX):Prop where
 h:1<=b.h/\b.h<=1099511627776
 t:0<=b.t/\b.t<=1099511627776
 l:b.x.length<=16
 s:∀ s ∈ b.x,s.length<=6000
def bkB (b:BlkX):Bs:=blB b.h b.t b.x
instance (priority:=high) fnBlCheckV {h t:Int}{l:List Bs}{xs:List AV}{id:Option Value}[hx:Strs xs l]:Ans Tryz.prog GL 58 [.agg 3 [int h,int t,.sl 1 xs id]] (BkG ⟨h,t,l⟩) (int 0):=⟨fun hp=>by
 obtain⟨hh,ht,hl,hs6⟩:=hp
 dsimp only at hh ht hl hs6
 have h:=hx.out
 subst h
 have hm:(l.map str).length=l.length:=llm _
 refine qE Tryz.func58 rfl Tryz.ntmps58 rfl (fun _ hs=>?_)
 repeat' first|refine Zz ?_|intro _
 rename_i g1
 refine ac_loop (α:=Nat) (fun i=>[(2,.lit (.int .i64 0)),(28,.sl 1 (l.map str) id),(29,int (l.map str).length),(30,int i)]) (fun i=>[])
  (fun i=>i<=l.length) (fun i=>l.length - i) 0 ⟨rfl,rfl,rfl,rfl,trivial⟩ (List.nil_sublist _) (Nat.zero_le _) ?_
 intro i hi
 by_cases hil:i < l.length
 ·have h6:=hs6 _ (List.getElem_mem hil)
  repeat' first|refine Zz ?_|intro _
  refine ae_round (i + 1) ⟨rfl,rfl,rfl,rfl,trivial⟩ (List.nil_sublist _) hil (by omega)
 ·repeat' first|refine Zz ?_|intro _
  refine reE ?_
  rfl⟩
theorem bk_rd {b:BlkX}(h:BkG b):riI 104 1099511627776 (bkB b) false=b.h/\riB 104 1099511627776 (bkB b) false=false/\rsT 104 8 (bkB b) false=tlvI 116 b.t++tlvA 120 b.x:=by
 have e:bkB b=tlvI 104 b.h++(tlvI 116 b.t++tlvA 120 b.x):=by unfold bkB blB;rw [laa]
 obtain⟨h1,h2,h3⟩:=rd_tlvI (c:=104) (most:=1099511627776) (n:=b.h) (r:=tlvI 116 b.t++tlvA 120 b.x) (by decide) (by decide) (by have:=h.h;omega) h.h.2 (by decide)
 rw [e]
 exact⟨h1,h3,h2⟩
theorem bk_rd2 {b:BlkX}(h:BkG b):riI 116 1099511627776 (tlvI 116 b.t++tlvA 120 b.x) false=b.t/\riB 116 1099511627776 (tlvI 116 b.t++tlvA 120 b.x) false=false/\rsT 116 8 (tlvI 116 b.t++tlvA 120 b.x) false=tlvA 120 b.x:=by
 obtain⟨h1,h2,h3⟩:=rd_tlvI (c:=116) (most:=1099511627776) (n:=b.t) (r:=tlvA 120 b.x) (by decide) (by decide) h.t.1 h.t.2 (by decide)
 exact⟨h1,h3,h2⟩
theorem bk_rd3 {b:BlkX}(h:BkG b):raL 120 16 6000 (tlvA 120 b.x) false=b.x/\raB 120 16 6000 (tlvA 120 b.x) false=false/\rsT 120 16777215 (tlvA 120 b.x) false=[]:=by
 have hl:=h.l
 have hf:=flat_short (c:=120) (n:=6000) (l:=b.x) h.s (by decide)
 obtain⟨h1,h2,h3⟩:=rd_tlvA (c:=120) (many:=16) (most:=6000) (l:=b.x) (r:=[]) (by decide) (by decide) (by omega) (fun s hs=>by have:=h.s s hs;omega) (by omega)
 rw [List.append_nil] at h1 h2 h3
 exact⟨h1,h3,h2⟩
theorem bkB_len (b:BlkX):(bkB b).length<=50331657:=by
 unfold bkB blB
 exact LenLe.out
set_option maxHeartbeats 1000000 in
instance fnBlReadV {b:BlkX}:Ans Tryz.prog GL 32 [str (bkB b)] (BkG b) (.tup [.agg 3 [int b.h,int b.t,.sl 1 (b.x.map str) none],int 0]):=⟨fun hb=>by
 have hp:BkG ⟨b.h,b.t,b.x⟩:=hb
 have hl:=bkB_len b
 obtain⟨e1,e2,e3⟩:=bk_rd hb
 obtain⟨f1,f2,f3⟩:=bk_rd2 hb
 obtain⟨k1,k2,k3⟩:=bk_rd3 hb
 have l1:(tlvI 116 b.t++tlvA 120 b.x).length<=1000000000:=Nat.le_trans LenLe.out (by decide)
 have l2:(tlvA 120 b.x).length<=1000000000:=Nat.le_trans LenLe.out (by decide)
 generalize hS:bkB b=S at *
 generalize hS1:tlvI 116 b.t++tlvA 120 b.x=S1 at *
 generalize hS2:tlvA 120 b.x=S2 at *
 refine qE Tryz.func32 rfl Tryz.ntmps32 rfl (fun _ hs=>?_)
 repeat' first|refine Zz ?_|intro _
 refine al_callK (args:=[str S]) [] _ (by rw [hs];exact tlvRead) (fun u m1 hh=>?_) lpr
 obtain⟨gr,rfl,rfl⟩:=hh
 repeat' first|refine Zz ?_|intro _
 rw [e1,e2,e3]
 repeat' first|refine Zz ?_|intro _
 rw [f1,f2,f3]
 repeat' first|refine Zz ?_|intro _
 rw [k1,k2,k3,show reE' [] false=0 from rfl]
 repeat' first|refine Zz ?_|intro _
 refine reE ?_
 rfl⟩
def K20 (k:Int):Prop:=k=1\/k=2
set_option maxHeartbeats 4000000 in
theorem fnCoDo20 {d:List Ent}{h t:Int}{x:TxX}:Ans Tryz.prog GL 98 [.agg 1 [.sl 2 (d.map entA) none],txA x,int h,int t] (DOk d/\TxB x/\K20 x.k) (.tup [dA (doR d x h t).1,repA (doR d x h t).2]):=⟨fun hp=>by
 obtain⟨hd,hb,hk⟩:=hp
 have hq:DOk d/\TxB x:=⟨hd,hb⟩
 refine qE Tryz.func98 rfl Tryz.ntmps98 rfl (fun _ hs=>?_)
 repeat' first|refine Zz ?_|intro _
 rcases hk with h|h
 ·rw [h,call1,do1 h]
  repeat' first|refine Zz ?_|intro _
  refine al_fnNF (by kernel_rfl) ?_
  repeat' first|refine Zz ?_|intro _
  refine reE ?_
  rfl
 ·rw [h,call2,do2 h]
  repeat' first|refine Zz ?_|intro _
  refine al_fnNF (by kernel_rfl) ?_
  repeat' first|refine Zz ?_|intro _
  refine reE ?_
  rfl⟩
def Tx20 (s:Bs):Prop:=s.length<=6000/\(rtxE (xs0 s)=0->K20 (rtxV (xs0 s)).k)
theorem tx20_run {d:List Ent}{l:List Bs}(hd:DOk d)(hl:l.length<=16)(h:∀ s ∈ l,Tx20 s):DOk d/\l.length<=1000000/\∀ s ∈ l,s.length<=1000000000/\(rtxE (xs0 s)=0->K20 (rtxV (xs0 s)).k):=
 ⟨hd,by omega,fun s hs=>⟨Nat.le_trans (h s hs).1 (by decide),(h s hs).2⟩⟩
instance (priority:=high) fnBlRun20 {d:List Ent}{l:List Bs}{h t:Int}{xs ys:List AV}{id:Option Value}[hx:Ents xs d][hy:Strs ys l]:Ans Tryz.prog GL 59 [.agg 1 [.sl 2 xs none],.agg 3 [int h,int t,.sl 1 ys id]] (DOk d/\l.length<=1000000/\∀ s ∈ l,s.length<=1000000000/\(rtxE (xs0 s)=0->K20 (rtxV (xs0 s)).k))
   (.tup [dA (runR d ⟨h,t,l⟩).1,.sl 3 ((runR d ⟨h,t,l⟩).2.1.map repA) none,.sl 15 ((runR d ⟨h,t,l⟩).2.2.map evA) none]):=fnBlRunK (K:=K20) fnCoDo20
def rootE (d:List Ent):Hsh:=topH d.length (treeH (d.map leafH))
instance fnBlHeader {c:Bs}{h t:Int}{d:List Ent}{xs ys:List AV}{id:Option Value}[hx:Ents xs d]:Ans Tryz.prog GL 60 [str c,.agg 3 [int h,int t,.sl 1 ys id],.agg 1 [.sl 2 xs none]] (d.length<=1000000) (hdrA ⟨c,h,t,rootE d⟩):=⟨fun hl=>by
 have e:=hx.out
 subst e
 refine qE Tryz.func60 rfl Tryz.ntmps60 rfl (fun _ hs=>?_)
 repeat' first|refine Zz ?_|intro _
 refine reE ?_
 rfl⟩

theorem endS_app (l r:Bs):endS (endS l++r)=endS (l++r):=by
 have h1:l++r=l.take (l.length - l.length % 64)++(endS l++r):=by
  unfold endS
  rw [<- laa,List.take_append_drop]
 have h2:(l.take (l.length - l.length % 64)).length=l.length - l.length % 64:=by
  rw [List.length_take]
  omega
 rw [h1]
 generalize endS l++r=B
 generalize l.take (l.length - l.length % 64)=A at *
 unfold endS
 have h3:(A++B).length - (A++B).length % 64=A.length + (B.length - B.length % 64):=by
  rw [lla]
  omega
 rw [h3,<- List.drop_drop,List.drop_left]
theorem endS_len (l:Bs):(endS l).length < 64:=by
 unfold endS
 rw [List.length_drop]
 omega
theorem permG (D:List Av.Piece)(a b c:Av.Piece):(D++[b,a,c]).Perm (a::b::(D++[c])):=(List.perm_middle.trans (List.perm_middle.cons b)).trans (List.Perm.swap a b _)
set_option maxHeartbeats 4000000 in
theorem fnSlCommit {I:SlI}{x:DvX}{s:SlX}{r:Bs}(hx:DvOk x)(hw:x.ws.length<=1000)(he:0<=s.m.e/\s.m.e<=1000000)(hb:0<=s.m.b/\s.m.b<=1000000)(hc:0<=s.m.c/\s.m.c<=1000000)(hbr:s.br=false) :
  Av.Spec Tryz.prog GL 36 [ptr I.gs,str r] (slM I x s) fun u m=>u=int (cmD x s r).2.2/\∃ v,m=slM { I with vw:=v } (cmD x s r).1 (cmD x s r).2.1:=by
 have hn:=hx.n
 have hrm:roomD x.n=(x.n - 2) * 64:=rfl
 refine qE Tryz.func36 rfl Tryz.ntmps36 rfl (fun _ hs=>?_)
 repeat' first|refine Zz ?_|intro _
 rw [hbr]
 repeat' first|refine Zz ?_|intro _
 unfold cmD
 rw [if_neg (by rw [hbr];decide)]
 by_cases h1:1048576 < r.length
 ·rw [if_pos h1,if_pos h1,if_pos h1]
  repeat' first|refine Zz ?_|intro _
  refine reK (slM I x s) ⟨rfl,I.vw,rfl⟩ ?_
  exact sbl
 rw [if_neg h1,if_neg h1,if_neg h1]
 repeat' first|refine Zz ?_|intro _
 refine al_callF [_] (slM I x s) [] (fnSlsRoom hn ⟨hb.1,by omega⟩) (fun u m1 hu=>?_)
 obtain⟨rfl,rfl⟩:=hu
 by_cases h2:roomD x.n - s.m.b < (recB r).length
 ·rw [if_pos h2]
  repeat' first|refine Zz ?_|intro _
  refine reK (slM I x s) ⟨rfl,I.vw,rfl⟩ ?_
  exact sbl
 rw [if_neg h2]
 have hel:=endS_len s.l
 have hal:(endS s.l++recB r).length=(endS s.l).length + (recB r).length:=lla
 repeat' first|refine Zz ?_|intro _
 rename_i g2 g7 g8
 have hM:MkB (cmM s r):=⟨by unfold cmM;dsimp only;omega,by unfold cmM;dsimp only;omega,by unfold cmM;dsimp only;omega⟩
 refine al_makeFunc (vs:=[.pointer (some ⟨g2,0,none⟩)]) ?_
 repeat' first|refine Zz ?_|intro _
 refine al_makeFunc (vs:=[.pointer (some ⟨g2,0,none⟩),.pointer (some ⟨g7,0,none⟩)]) ?_
 repeat' first|refine Zz ?_|intro _
 refine al_makeFunc (vs:=[.pointer (some ⟨g2,0,none⟩),.pointer (some ⟨g8,0,none⟩)]) ?_
 repeat' first|refine Zz ?_|intro _
 refine al_ord (slM I x s++cmB 55 9 g2 g7 g8 I.gs (endS s.l++recB r) (cmM s r)) _ ?_ (permG (slM I x s) _ _ _) slr
 refine al_callW (fnSlDoes hx hb hM (by omega) hbr) (fun u m1 hu=>?_)
 obtain⟨rfl,v,rfl⟩:=hu
 have hds:(if (cm1 x s r).2≠0 then ((cm1 x s r).1,({ s with br:=true }:SlX),(cm1 x s r).2) else if (cm2 x s r).2≠0 then ((cm2 x s r).1,{ s with br:=true },(cm2 x s r).2) else if (cm3 x s r).2≠0 then ((cm3 x s r).1,{ s with br:=true },(cm3 x s r).2)
   else if (cm4 x s r).2≠0 then ((cm4 x s r).1,{ s with br:=true },(cm4 x s r).2) else ((cm4 x s r).1,⟨cmM s r,s.l++recB r,false⟩,0))=((dsE x s r).1,if (dsE x s r).2≠0 then { s with br:=true } else ⟨cmM s r,s.l++recB r,false⟩,(dsE x s r).2):=by
  unfold dsE
  by_cases e1:(cm1 x s r).2=0
  ·by_cases e2:(cm2 x s r).2=0
   ·by_cases e3:(cm3 x s r).2=0
    ·by_cases e4:(cm4 x s r).2=0
     ·simp [e1,e2,e3,e4]
     ·simp [e1,e2,e3,e4]
    ·simp [e1,e2,e3]
   ·simp [e1,e2]
  ·simp [e1]
 rw [hds]
 generalize dsE x s r=q at *
 obtain⟨y,e⟩:=q
 dsimp only
 by_cases e0:e=0
 rotate_left
 ·rw [if_pos e0,dT e0]
  repeat' first|refine Zz ?_|intro _
  refine ae_ord (slM { I with vw:=v } y { s with br:=true }) _ ?_ lpr (List.sublist_append_left _ _)
  exact reK _ ⟨rfl,v,rfl⟩ slr
 ·subst e0
  rw [if_neg (show ¬ ((0:Int)≠0) by decide),dZ (show ¬ ((0:Int)≠0) by decide)]
  repeat' first|refine Zz ?_|intro _
  apply obl_read [];exact rfl;exact rfl;kernel_rfl
  ·intro _ _
   refine al_sliceS ((endS s.l++recB r).length - (endS s.l++recB r).length % 64) (endS s.l++recB r).length ?_ (h4:=Nat.le_refl _)
   rw [List.take_length,show (endS s.l++recB r).drop ((endS s.l++recB r).length - (endS s.l++recB r).length % 64)=endS (endS s.l++recB r) from rfl,endS_app]
   exact al_nil (ae_got rfl rfl)
  repeat' first|refine Zz ?_|intro _
  refine ae_ord (slM { I with vw:=v } y ⟨cmM s r,s.l++recB r,false⟩) _ ?_ lpr (List.sublist_append_left _ _)
  exact reK _ ⟨rfl,v,rfl⟩ slr

structure ChX where
 nm:Bs
 ky:Bs
 ms:List (List Ent)
 bl:List BlkX
 hs:List Hdr
 ev:List EvX
 ws:List Bs
 dd:Bool
def stC (c:ChX):List Ent:=c.ms.getD c.hs.length []
def tmC (c:ChX):Int:=((c.hs.getLast?).map (·.t)).getD 0
def hdC (c:ChX)(b:BlkX):Hdr:=⟨c.nm,b.h,b.t,rootE (runR (stC c) b).1⟩
def donC (c:ChX)(b:BlkX):ChX:={ c with ms:=c.ms++[(runR (stC c) b).1],bl:=c.bl++[b],hs:=c.hs++[hdC c b],ev:=c.ev++(runR (stC c) b).2.2 }
structure ChI extends SlI where
 gc:Nat
 vm:Value
 vh:Value
 ve:Value
 vt:Value
abbrev chA (gs:Nat)(vm vh ve vt:Value)(c:ChX):AV:=.agg 8 [str c.nm,str c.ky,ptr gs,.sl 1 (c.ms.map dA) (some vm),.sl 35 (c.hs.map hdrA) (some vh),.sl 15 (c.ev.map evA) (some ve),.sl 1 (c.ws.map str) (some vt),boo c.dd]
abbrev chM (I:ChI)(x:DvX)(s:SlX)(c:ChX):List Av.Piece:=.var I.gc 61 (chA I.gs I.vm I.vh I.ve I.vt c)::.tail 33 1 I.vm::.tail 44 35 I.vh::.tail 112 15 I.ve::.tail 9 1 I.vt::slM I.toSlI x s
theorem imp_none {b:Bool}:Imp (.tup [.agg 1 [nils],boo b]) (.tup [dA [],boo b]):=(inferInstance:ImpR (.tup [.agg 1 [.lit (.slice none 0 0)],boo b]) (.tup [.agg 1 [.sl 2 [] none],boo b])).imp
section
variable {g gs:Nat} {vm vh ve vt:Value} {c:ChX}
instance fnChMade:AnsM Tryz.prog GL 34 g [] 61 (chA gs vm vh ve vt c) True (boo true) (chA gs vm vh ve vt c):=⟨fun _=>by
 refine qE Tryz.func34 rfl Tryz.ntmps34 rfl (fun _ hs=>?_)
 repeat' first|refine Zz ?_|intro _
 exact reK _ ⟨rfl,rfl⟩ slr⟩
instance fnChDead:AnsM Tryz.prog GL 16 g [] 61 (chA gs vm vh ve vt c) True (boo c.dd) (chA gs vm vh ve vt c):=⟨fun _=>by
 refine qE Tryz.func16 rfl Tryz.ntmps16 rfl (fun _ hs=>?_)
 repeat' first|refine Zz ?_|intro _
 exact reK _ ⟨rfl,rfl⟩ slr⟩
instance fnChName:AnsM Tryz.prog GL 12 g [] 61 (chA gs vm vh ve vt c) True (str c.nm) (chA gs vm vh ve vt c):=⟨fun _=>by
 refine qE Tryz.func12 rfl Tryz.ntmps12 rfl (fun _ hs=>?_)
 repeat' first|refine Zz ?_|intro _
 exact reK _ ⟨rfl,rfl⟩ slr⟩
instance fnChHeight:AnsM Tryz.prog GL 13 g [] 61 (chA gs vm vh ve vt c) True (int c.hs.length) (chA gs vm vh ve vt c):=⟨fun _=>by
 have hm:(c.hs.map hdrA).length=c.hs.length:=llm _
 refine qE Tryz.func13 rfl Tryz.ntmps13 rfl (fun _ hs=>?_)
 repeat' first|refine Zz ?_|intro _
 rw [hm]
 exact reK _ ⟨rfl,rfl⟩ slr⟩
instance fnChWaiting:AnsM Tryz.prog GL 21 g [] 61 (chA gs vm vh ve vt c) True (int c.ws.length) (chA gs vm vh ve vt c):=⟨fun _=>by
 have hm:(c.ws.map str).length=c.ws.length:=llm _
 refine qE Tryz.func21 rfl Tryz.ntmps21 rfl (fun _ hs=>?_)
 repeat' first|refine Zz ?_|intro _
 rw [hm]
 exact reK _ ⟨rfl,rfl⟩ slr⟩
instance fnChTime:AnsM Tryz.prog GL 18 g [] 61 (chA gs vm vh ve vt c) (c.hs.length<=1000000) (int (tmC c)) (chA gs vm vh ve vt c):=⟨fun hl=>by
 have hm:(c.hs.map hdrA).length=c.hs.length:=llm _
 refine qE Tryz.func18 rfl Tryz.ntmps18 rfl (fun _ hs=>?_)
 repeat' first|refine Zz ?_|intro _
 unfold tmC
 by_cases h:c.hs.length=0
 ·rw [List.length_eq_zero_iff.1 h]
  repeat' first|refine Zz ?_|intro _
  exact reK _ ⟨rfl,rfl⟩ slr
 ·obtain⟨k,hk⟩:∃ k,c.hs.length=k + 1:=⟨c.hs.length - 1,by omega⟩
  have hkl:k < c.hs.length:=by omega
  have hg:c.hs.getLast?=some c.hs[k]:=by
   rw [List.getLast?_eq_getElem?,hk]
   exact List.getElem?_eq_getElem hkl
  rw [hg]
  repeat' first|refine Zz ?_|intro _
  rw [show ((c.hs.map hdrA).length:Int) - 1=(k:Int) by omega]
  repeat' first|refine Zz ?_|intro _
  exact reK _ ⟨rfl,rfl⟩ slr⟩
instance fnChAt {h:Int}:AnsM Tryz.prog GL 26 g [int h] 61 (chA gs vm vh ve vt c) (c.ms.length<=1000000) (.tup [dA (if 0<=h/\h < c.ms.length then c.ms.getD h.toNat [] else []),boo (decide (0<=h/\h < c.ms.length))]) (chA gs vm vh ve vt c):=⟨fun hl=>by
 have hm:(c.ms.map dA).length=c.ms.length:=llm _
 refine qE Tryz.func26 rfl Tryz.ntmps26 rfl (fun _ hs=>?_)
 repeat' first|refine Zz ?_|intro _
 by_cases h0:0<=h
 rotate_left
 ·rw [if_neg (fun e=>h0 e.1),dZ (fun e=>h0 e.1)]
  repeat' first|refine Zz ?_|intro _
  refine reIKm (.tup [dA [],boo false]) [.var g 61 (chA gs vm vh ve vt c)] ?_ ⟨rfl,rfl⟩ ?_
  ·exact imp_none
  exact sbl
 by_cases h1:h < c.ms.length
 rotate_left
 ·rw [if_neg (fun e=>h1 e.2),dZ (fun e=>h1 e.2)]
  repeat' first|refine Zz ?_|intro _
  refine reIKm (.tup [dA [],boo false]) [.var g 61 (chA gs vm vh ve vt c)] ?_ ⟨rfl,rfl⟩ ?_
  ·exact imp_none
  exact sbl
 ·obtain⟨k,rfl⟩:∃ k:Nat,h=k:=⟨h.toNat,by omega⟩
  have hkl:k < c.ms.length:=by omega
  rw [if_pos ⟨h0,h1⟩,dT ⟨h0,h1⟩,Int.toNat_natCast,List.getD_eq_getElem?_getD,List.getElem?_eq_getElem hkl]
  repeat' first|refine Zz ?_|intro _
  refine reK [.var g 61 (chA gs vm vh ve vt c)] ⟨rfl,rfl⟩ ?_
  repeat (first|exact List.nil_sublist _|exact List.Sublist.refl _|apply List.Sublist.cons_cons|apply List.Sublist.cons)⟩
attribute [local irreducible] tmC
instance fnChState:AnsM Tryz.prog GL 14 g [] 61 (chA gs vm vh ve vt c) (c.hs.length < c.ms.length/\c.ms.length<=1000000) (dA (stC c)) (chA gs vm vh ve vt c):=⟨fun hl=>by
 have hl2:=hl.2
 refine qE Tryz.func14 rfl Tryz.ntmps14 rfl (fun _ hs=>?_)
 repeat' first|refine Zz ?_|intro _
 unfold stC
 rw [if_pos (show 0<=(c.hs.length:Int)/\(c.hs.length:Int) < c.ms.length by omega),Int.toNat_natCast]
 refine reK [.var g 61 (chA gs vm vh ve vt c)] ⟨rfl,rfl⟩ ?_
 repeat (first|exact List.nil_sublist _|exact List.Sublist.refl _|apply List.Sublist.cons_cons|apply List.Sublist.cons)⟩
instance fnChHeader {h:Int}:AnsM Tryz.prog GL 20 g [int h] 61 (chA gs vm vh ve vt c) ((c.hs.length<=1000000/\c.ky.length<=1000000)/\∀ y ∈ c.hs,y.h<=9223372036854775807/\y.t<=9223372036854775807)
  (if 1<=h/\h<=c.hs.length then .tup [hdrA (c.hs.getD (h - 1).toNat ⟨[],0,0,zeroH⟩),hA (sealOf c.ky (c.hs.getD (h - 1).toNat ⟨[],0,0,zeroH⟩)),boo true] else .tup [hdrA ⟨[],0,0,zeroH⟩,hA zeroH,boo false]) (chA gs vm vh ve vt c):=⟨fun hp=>by
 obtain⟨⟨hl,hky⟩,hy⟩:=hp
 have hm:(c.hs.map hdrA).length=c.hs.length:=llm _
 refine qE Tryz.func20 rfl Tryz.ntmps20 rfl (fun _ hs=>?_)
 repeat' first|refine Zz ?_|intro _
 by_cases h0:1<=h
 rotate_left
 ·rw [if_neg (fun e=>h0 e.1)]
  repeat' first|refine Zz ?_|intro _
  refine reK [.var g 61 (chA gs vm vh ve vt c)] ⟨rfl,rfl⟩ ?_
  exact sbl
 by_cases h1:h<=c.hs.length
 rotate_left
 ·rw [if_neg (fun e=>h1 e.2)]
  repeat' first|refine Zz ?_|intro _
  refine reK [.var g 61 (chA gs vm vh ve vt c)] ⟨rfl,rfl⟩ ?_
  exact sbl
 ·obtain⟨k,hk⟩:∃ k:Nat,h=k + 1:=⟨(h - 1).toNat,by omega⟩
  have hkl:k < c.hs.length:=by omega
  have hyk:=hy _ (List.getElem_mem hkl)
  have hsp:c.ky.length<=1000000/\c.hs[k].h<=9223372036854775807/\c.hs[k].t<=9223372036854775807:=⟨hky,hyk⟩
  rw [if_pos ⟨h0,h1⟩,show h - 1=(k:Int) by omega,Int.toNat_natCast,List.getD_eq_getElem?_getD,List.getElem?_eq_getElem hkl]
  repeat' first|refine Zz ?_|intro _
  rw [show h - 1=(k:Int) by omega]
  repeat' first|refine Zz ?_|intro _
  refine reK [.var g 61 (chA gs vm vh ve vt c)] ⟨rfl,rfl⟩ ?_
  repeat (first|exact List.nil_sublist _|exact List.Sublist.refl _|apply List.Sublist.cons_cons|apply List.Sublist.cons)⟩
end

def sbE (c:ChX)(s:Bs):Int:=if c.dd=true then 13 else if 6000 < s.length then 11 else if 16<=c.ws.length then 15 else 0
def sbC (c:ChX)(s:Bs):ChX:=if sbE c s=0 then { c with ws:=c.ws++[s] } else c
set_option maxHeartbeats 2000000 in
theorem fnChSubmit {I:ChI}{x:DvX}{s:SlX}{c:ChX}{t:Bs}(hw:c.ws.length<=1000000):Av.Spec Tryz.prog GL 22 [ptr I.gc,str t] (chM I x s c) fun u m=>u=int (sbE c t)/\∃ v,m=chM { I with vt:=v } x s (sbC c t):=by
 have hm:(c.ws.map str).length=c.ws.length:=llm _
 refine qE Tryz.func22 rfl Tryz.ntmps22 rfl (fun _ hs=>?_)
 repeat' first|refine Zz ?_|intro _
 unfold sbC
 by_cases hd:c.dd=true
 ·have he:sbE c t=13:=by unfold sbE;rw [if_pos hd]
  rw [he,if_neg (by decide)]
  rw [hd]
  repeat' first|refine Zz ?_|intro _
  exact reK (chM I x s c) ⟨rfl,I.vt,rfl⟩ slr
 have hd0:c.dd=false:=by simpa using hd
 by_cases h1:6000 < t.length
 ·have he:sbE c t=11:=by unfold sbE;rw [if_neg hd,if_pos h1]
  rw [he,if_neg (by decide)]
  rw [hd0]
  repeat' first|refine Zz ?_|intro _
  exact reK (chM I x s c) ⟨rfl,I.vt,rfl⟩ slr
 by_cases h2:16<=c.ws.length
 ·have he:sbE c t=15:=by unfold sbE;rw [if_neg hd,if_neg h1,if_pos h2]
  rw [he,if_neg (by decide)]
  rw [hd0]
  repeat' first|refine Zz ?_|intro _
  exact reK (chM I x s c) ⟨rfl,I.vt,rfl⟩ slr
 ·have he:sbE c t=0:=by unfold sbE;rw [if_neg hd,if_neg h1,if_neg h2]
  rw [he,if_pos rfl]
  rw [hd0]
  repeat' first|refine Zz ?_|intro _
  refine al_append (fun v'=>?_)
  repeat' first|refine Zz ?_|intro _
  rw [show c.ws.map str++[str t]=(c.ws++[t]).map str by rw [List.map_append];rfl,hd0]
  exact reK _ ⟨rfl,v',rfl⟩ slr
theorem runR_dok20 {d:List Ent}{b:BlkX}(h:DOk d):DOk (runR d b).1:=runL_dok h
set_option maxHeartbeats 4000000 in
theorem fnChDone {I:ChI}{x:DvX}{s:SlX}{c:ChX}{b:BlkX}{id:Option Value}(h1:c.hs.length < c.ms.length/\c.ms.length<=1000000)(h2:c.ev.length<=1000000)(hd:DOk (stC c))(hl:b.x.length<=16)(hx:∀ s ∈ b.x,Tx20 s) :
  Av.Spec Tryz.prog GL 33 [ptr I.gc,.agg 3 [int b.h,int b.t,.sl 1 (b.x.map str) id]] (chM I x s c) fun u m=>u=.sl 3 ((runR (stC c) b).2.1.map repA) none/\∃ v1 v2 v3,m=chM { I with vm:=v1,vh:=v2,ve:=v3 } x s (donC c b):=by
 have hr:=tx20_run hd hl hx
 have hr2:=runR_dok20 (b:=b) hd
 have hm1:(c.ms.map dA).length=c.ms.length:=llm _
 have hm2:(c.hs.map hdrA).length=c.hs.length:=llm _
 have hm3:(c.ev.map evA).length=c.ev.length:=llm _
 have hr3:(runR (stC c) ⟨b.h,b.t,b.x⟩).1.length<=1000000:=Nat.le_trans hr2.l (by decide)
 have hr4:=(runL_len (h:=b.h) (t:=b.t) (l:=b.x) (q:=(stC c,[],[]))).2
 have hr5:(runR (stC c) ⟨b.h,b.t,b.x⟩).2.2.length<=16:=by
  have e:(runR (stC c) ⟨b.h,b.t,b.x⟩).2.2.length<=([]:List EvX).length + b.x.length:=hr4
  simp only [List.length_nil] at e
  omega
 refine qE Tryz.func33 rfl Tryz.ntmps33 rfl (fun _ hs=>?_)
 repeat' first|refine Zz ?_|intro _
 apply obl_writeN [10];exact rfl;exact rfl;kernel_rfl
 ·intro _ _
  refine al_store ?_
  exact al_nil (ae_gotN rfl)
 ·exact rfl
 ·exact rfl
 repeat' first|refine Zz ?_|intro _
 apply obl_read [10];exact rfl;exact rfl;kernel_rfl
 ·intro _ _
  refine al_load ?_
  exact al_nil (ae_got rfl rfl)
 repeat' first|refine Zz ?_|intro _
 apply obl_fresh [2];exact rfl;exact rfl;kernel_rfl;kernel_rfl
 intro _ _
 refine al_append (fun v1=>?_)
 refine al_nil (ae_fresh [.tail 33 1 v1] [] rfl rfl lpr rfl ?_)
 repeat' first|refine Zz ?_|intro _
 apply obl_read [10];exact rfl;exact rfl;kernel_rfl
 ·intro _ _
  refine al_load ?_
  exact al_nil (ae_got rfl rfl)
 repeat' first|refine Zz ?_|intro _
 apply obl_fresh [3];exact rfl;exact rfl;kernel_rfl;kernel_rfl
 intro _ _
 refine al_append (fun v2=>?_)
 refine al_nil (ae_fresh [.tail 44 35 v2] [] rfl rfl lpr rfl ?_)
 repeat' first|refine Zz ?_|intro _
 refine al_append (fun v3=>?_)
 repeat' first|refine Zz ?_|intro _
 rw [show c.ms.map dA++[dA (runR (stC c) ⟨b.h,b.t,b.x⟩).1]=(c.ms++[(runR (stC c) b).1]).map dA by rw [List.map_append];rfl,show c.hs.map hdrA++[hdrA ⟨c.nm,b.h,b.t,rootE (runR (stC c) ⟨b.h,b.t,b.x⟩).1⟩]=(c.hs++[hdC c b]).map hdrA by rw [List.map_append];rfl,show c.ev.map evA++(runR (stC c) ⟨b.h,b.t,b.x⟩).2.2.map evA=(c.ev++(runR (stC c) b).2.2).map evA by rw [List.map_append]]
 refine reK (chM { I with vm:=v1,vh:=v2,ve:=v3 } x s (donC c b)) ⟨rfl,v1,v2,v3,rfl⟩ ?_
 exact sbl

structure ChOk (x:DvX)(s:SlX)(c:ChX):Prop where
 dv:DvOk x
 wl:x.ws.length<=1000
 me:0<=s.m.e/\s.m.e<=1000000
 mb:0<=s.m.b/\s.m.b<=1000000
 mc:0<=s.m.c/\s.m.c<=1000000
 br:s.br=false
 hl:c.hs.length < c.ms.length/\c.ms.length<=100000
 ev:c.ev.length<=100000
 st:DOk (stC c)
 ws:c.ws.length<=16
 tx:∀ s ∈ c.ws,Tx20 s
 tm:0<=tmC c/\tmC c<=1099511627776
def cuB (c:ChX)(t:Int):BlkX:=⟨c.hs.length + 1,max (min t 1099511627776) (tmC c),c.ws⟩
def cuQ (x:DvX)(s:SlX)(c:ChX)(t:Int):DvX × SlX × Int:=cmD x s (bkB (cuB c t))
def cuC (x:DvX)(s:SlX)(c:ChX)(t:Int):ChX:=if (cuQ x s c t).2.2=0 then donC { c with ws:=[] } (cuB c t) else { c with dd:=decide ((cuQ x s c t).2.2=14) }
def cuR (x:DvX)(s:SlX)(c:ChX)(t:Int):List Rep:=if (cuQ x s c t).2.2=0 then (runR (stC c) (cuB c t)).2.1 else []
theorem imp_chw {nm ky:Bs}{gs:Nat}{xs ys zs:List AV}{i j k:Option Value}{d:Bool}:ImpC (.agg 8 [str nm,str ky,ptr gs,.sl 1 xs i,.sl 35 ys j,.sl 15 zs k,.lit (.slice none 0 0),boo d]) (.agg 8 [str nm,str ky,ptr gs,.sl 1 xs i,.sl 35 ys j,.sl 15 zs k,.sl 1 [] (some (.slice none 0 0)),boo d]):=(inferInstance:ImpT _ _).imp
theorem imp_nor {e:Int}:Imp (.tup [nils,int e]) (.tup [.sl 3 [] none,int e]):=(inferInstance:ImpR (.tup [.lit (.slice none 0 0),int e]) (.tup [.sl 3 [] none,int e])).imp
set_option maxHeartbeats 4000000 in
theorem fnChCut {I:ChI}{x:DvX}{s:SlX}{c:ChX}{t:Int}(h:ChOk x s c)(hd:c.dd=false):Av.Spec Tryz.prog GL 19 [ptr I.gc,int t] (chM I x s c)
  fun u m=>u=.tup [.sl 3 ((cuR x s c t).map repA) none,int (cuQ x s c t).2.2]/\∃ v vm vh ve vt,m=chM { I with vw:=v,vm:=vm,vh:=vh,ve:=ve,vt:=vt } (cuQ x s c t).1 (cuQ x s c t).2.1 (cuC x s c t):=by
 have hhl:=h.hl
 have htm:=h.tm
 have hws:=h.ws
 have hm:(c.ws.map str).length=c.ws.length:=llm _
 refine qE Tryz.func19 rfl Tryz.ntmps19 rfl (fun _ hs=>?_)
 repeat' first|refine Zz ?_|intro _
 rw [hd]
 repeat' first|refine Zz ?_|intro _
 apply obl_writeN [9];exact rfl;exact rfl;kernel_rfl
 ·intro _ _
  refine al_store ?_
  exact al_nil (ae_gotN rfl)
 ·exact rfl
 ·exact rfl
 repeat' first|refine Zz ?_|intro _
 apply obl_read [9];exact rfl;exact rfl;kernel_rfl
 ·intro _ _
  refine al_load ?_
  exact al_nil (ae_got rfl rfl)
 repeat' first|refine Zz ?_|intro _
 apply obl_fresh [5,6,7,8];exact rfl;exact rfl;kernel_rfl;kernel_rfl
 intro _ _
 refine al_callW (fnSlCommit (I:=I.toSlI) (x:=x) (s:=s) (r:=bkB (cuB c t)) h.dv h.wl h.me h.mb h.mc h.br) (fun u m1 hu=>?_)
 obtain⟨rfl,v,rfl⟩:=hu
 have hQ:cmD x s (bkB (cuB c t))=cuQ x s c t:=rfl
 rw [hQ]
 refine al_nil (ae_fresh (slM { I.toSlI with vw:=v } (cuQ x s c t).1 (cuQ x s c t).2.1) [] rfl rfl lpr rfl ?_)
 unfold cuC cuR
 by_cases he:(cuQ x s c t).2.2=0
 rotate_left
 ·rw [if_neg he,if_neg he]
  repeat' first|refine Zz ?_|intro _
  refine reIKm (.tup [.sl 3 (([]:List Rep).map repA) none,int (cuQ x s c t).2.2]) (chM { I with vw:=v } (cuQ x s c t).1 (cuQ x s c t).2.1 { c with dd:=decide ((cuQ x s c t).2.2=14) }) ?_ ⟨rfl,v,I.vm,I.vh,I.ve,I.vt,rfl⟩ ?_
  ·exact imp_nor
  ·exact sbl
 ·rw [if_pos he,if_pos he]
  repeat' first|refine Zz ?_|intro _
  refine al_asV (g:=I.gc) imp_chw ?_
  refine al_st (fun ok w h=>h.full 9 1 none 0) ?_
  refine al_ord (chM { I with vw:=v,vt:=.slice none 0 0 } (cuQ x s c t).1 (cuQ x s c t).2.1 { c with ws:=[] }) (_::([_,_,_,_]++slM { I.toSlI with vw:=v } (cuQ x s c t).1 (cuQ x s c t).2.1)) ?_ (List.perm_middle (l₁:=[_,_,_,_])) ?_
  rotate_left
  ·exact sbl
  refine al_callW (fnChDone (c:={ c with ws:=[] }) (b:=cuB c t) (id:=some I.vt) ⟨hhl.1,by dsimp only;omega⟩ (by have:=h.ev;dsimp only;omega) h.st h.ws h.tx) (fun u m1 hu=>?_)
  obtain⟨rfl,v1,v2,v3,rfl⟩:=hu
  repeat' first|refine Zz ?_|intro _
  rw [he]
  exact reK _ ⟨rfl,v,v1,v2,v3,.slice none 0 0,rfl⟩ slr
end Go.Proofs.YtndhpgclmgpmoaaGreatDoor
