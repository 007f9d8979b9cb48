/- law 20: ChainWhole -/
import Derived.Test.YtndhpgclmgpmoaaGreatDoorA46
import Derived.Test.YtndhpgclmgpmoaaGreatDoorA62
namespace Go.Proofs.YtndhpgclmgpmoaaGreatDoor
open Go Go.RowKit Tw Av
structure InR (k:Nat)(x:DvX):Prop where
 a:∀ w ∈ x.ws,0<=w.1/\w.1 < x.n
 l:x.ws.length<=k
theorem InR.up {k j:Nat}{x:DvX}(h:InR k x)(hk:k<=j):InR j x:=⟨h.a,Nat.le_trans h.l hk⟩
theorem InR.wr {k:Nat}{x:DvX}{a:Int}{s:Bs}(h:InR k x):InR (k + 1) (dvWr x a s).1:=by
 unfold dvWr
 split
 ·exact h.up (by omega)
 split
 ·exact h.up (by omega)
 rename_i hc
 have hh:dvHas x a=true:=by
  cases e:dvHas x a with
  | true=>rfl
  | false=>exact absurd (.inl e) hc
 have ha:0<=a/\a < x.n:=by unfold dvHas at hh;exact of_decide_eq_true hh
 have key:∀ y:DvX,y.ws=x.ws->y.n=x.n->InR (k + 1) (dvPut y (a,s)):=by
  intro y h1 h2
  refine⟨?_,?_⟩
  ·intro w hw
   rcases List.mem_append.1 (show w ∈ y.ws++[(a,s)] from hw) with hw|hw
   ·show 0<=w.1/\w.1 < y.n
    rw [h2]
    exact h.a w (h1 ▸ hw)
   ·obtain rfl:=List.mem_singleton.1 hw
    show 0<=a/\a < y.n
    rw [h2]
    exact ha
  ·show (y.ws++[(a,s)]).length<=k + 1
   rw [lla,h1,List.length_singleton]
   have:=h.l
   omega
 split
 ·exact key _ rfl rfl
 ·exact key _ rfl rfl
theorem InR.flush {k:Nat}{x:DvX}(h:InR k x):InR k (dvFlush x).1:=by
 unfold dvFlush
 split
 ·exact h
 split
 ·exact⟨h.a,h.l⟩
 ·exact⟨fun w hw=>absurd (show w ∈ ([]:List (Int × Bs)) from hw) (by simp),Nat.zero_le _⟩
theorem InR.pt:∀ {f k:Nat} {x:DvX} {a:Int} {s:Bs},InR k x->InR (k + f) (ptF f x a s).1
 | 0,_,_,_,_,h=>h
 | f + 1,k,x,a,s,h=>by
  unfold ptF
  split
  ·exact h.up (by omega)
  split
  ·exact ((h.wr).pt (f:=f)).up (by omega)
  ·exact (h.wr).up (by omega)
theorem InR.cm {k:Nat}{x:DvX}{s:SlX}{r:Bs}(h:InR k x):InR (k + (endS s.l++recB r).length + 1) (cmD x s r).1:=by
 have h1:InR (k + (endS s.l++recB r).length) (cm1 x s r).1:=h.pt
 have h2:InR (k + (endS s.l++recB r).length) (cm2 x s r).1:=h1.flush
 have h3:InR (k + (endS s.l++recB r).length + 1) (cm3 x s r).1:=h2.wr
 have h4:InR (k + (endS s.l++recB r).length + 1) (cm4 x s r).1:=h3.flush
 unfold cmD
 split
 ·exact h.up (by omega)
 split
 ·exact h.up (by omega)
 split
 ·exact h.up (by omega)
 split
 ·exact h1.up (by omega)
 split
 ·exact h2.up (by omega)
 split
 ·exact h3
 split
 ·exact h4
 ·exact h4
section
variable {nm ky:Bs} {d:List Ent} {bs:List BlkX} {ws:List Bs} {x:DvX}
theorem fnCutW {I:ChI}{t:Int}(hd:DOk d)(h:Ro x bs)(hl:bs.length < 189)(hw:WsG ws) :
  Av.Spec Tryz.prog GL 19 [ptr I.gc,int t] (chM I x (slL bs) (chL nm ky d bs ws false)) fun u m=>∃ v vm vh ve vt y s c e r,InR 1000000 y/\CuS nm ky d x bs ws t y s c e r/\u=.tup [.sl 3 (r.map repA) none,int e]/\m=chM { I with vw:=v,vm:=vm,vh:=vh,ve:=ve,vt:=vt } y s c:=by
 refine (fnChCut (I:=I) (ch_ok (nm:=nm) (ky:=ky) hd h (by omega) hw) rfl (t:=t)).mono ?_
 rintro u m ⟨rfl,v,vm,vh,ve,vt,rfl⟩
 refine⟨v,vm,vh,ve,vt,_,_,_,_,_,?_,cu_spec hd h hl hw t,rfl,rfl⟩
 have h0:InR 0 x:=⟨by rw [h.ws];simp,by rw [h.ws];simp⟩
 unfold cuQ
 rw [cuB_L hd h.bg]
 refine (h0.cm).up ?_
 have h1:=endS_len2 (slL bs).l
 have h2:=recB_le (bkB (nxB bs ws t))
 have h3:=bkB_le ((nxB_g h.bg (by omega) hw t).g (nxB bs ws t) (by simp)).1
 rw [lla]
 omega
theorem ro_lost {y:DvX}{b:BlkX}(h:Ro x bs)(_:bs.length < 189)(hg:BsG (bs++[b]))(hy:y.n=x.n)(ho:Old y (slL bs) (slL (bs++[b])))(hr:((lgB (bs++[b])).length:Int)<=roomD x.n)(k:List Bool)(torn cut:Int) :
  Ro (dvCrash y k torn cut) bs\/Ro (dvCrash y k torn cut) (bs++[b]):=by
 have hn:=h.n
 obtain⟨f1,f2,f3,f4⟩:=crash_f (x:=y) (k:=k) (torn:=torn) (cut:=cut) (by omega)
 have hk:=dvCrash_ok (k:=k) (torn:=torn) (cut:=cut) ho.1
 rcases ho.2 k torn cut with hf|hf
 ·exact .inl ⟨hk,f1,f2,by rw [f3,hy];exact hn,hf,by rw [f3,hy];exact h.rm,h.bg⟩
 ·exact .inr ⟨hk,f1,f2,by rw [f3,hy];exact hn,hf,by rw [f3,hy];exact hr,hg⟩
theorem foldl_hs:∀ (l:List BlkX) (c:ChX),∃ r,(l.foldl donC c).hs=c.hs++r
 | [],c=>⟨[],(List.append_nil _).symm⟩
 | b::l,c=>by
  obtain⟨r,hr⟩:=foldl_hs l (donC c b)
  refine⟨[hdC c b]++r,?_⟩
  rw [List.foldl_cons,hr,<- laa]
  rfl
theorem foldl_ms:∀ (l:List BlkX) (c:ChX),∃ r,(l.foldl donC c).ms=c.ms++r
 | [],c=>⟨[],(List.append_nil _).symm⟩
 | b::l,c=>by
  obtain⟨r,hr⟩:=foldl_ms l (donC c b)
  refine⟨[(runR (stC c) b).1]++r,?_⟩
  rw [List.foldl_cons,hr,<- laa]
  rfl
theorem opC_hs (l:List BlkX):∃ r,(opC nm ky d (bs++l)).hs=(opC nm ky d bs).hs++r:=by
 unfold opC
 rw [List.foldl_append]
 exact foldl_hs l _
theorem opC_ms (l:List BlkX):∃ r,(opC nm ky d (bs++l)).ms=(opC nm ky d bs).ms++r:=by
 unfold opC
 rw [List.foldl_append]
 exact foldl_ms l _
end

structure WhS where
 v:V5
 x:DvX
 bs:List BlkX
 vh:Value
 vm:Value
 ws:List Bs
 dd:Bool
def ddN (b:Bool):Nat:=if b=true then 1 else 0
def whS (bs:List BlkX)(dd:Bool):SlX:={ slL bs with br:=dd }
def opMs (bs:List BlkX):List (List Ent):=(opC [97] [107] dGn bs).ms.drop 1
def opHs (bs:List BlkX):List Hdr:=(opC [97] [107] dGn bs).hs
structure WhI (z:WhS):Prop where
 dv:DvOk z.x
 r:InR 1000000 z.x
 n:z.x.n=1000
 g:BsG z.bs
 lg:(lgB z.bs).length<=4000 * z.bs.length
 al:z.dd=false->Ro z.x z.bs/\z.ws=[]
 cr:∀ k torn cut,∃ l,Ro (dvCrash z.x k torn cut) (z.bs++l)/\l.length<=ddN z.dd
 b6:z.bs.length + ddN z.dd<=6
theorem ro_arm {x:DvX}{bs:List BlkX}{k:Int}(h:Ro x bs)(hk:k<=1000):Ro (dvArm x k) bs:=
 ⟨⟨h.dv.n,h.dv.mn,h.dv.el,h.dv.wl,by show 0<=max k 0/\max k 0<=1000000;omega⟩,h.on,h.ws,h.n,h.fit,h.rm,h.bg⟩
theorem whI_al {v:V5}{x:DvX}{bs:List BlkX}{vh vm:Value}(h:Ro x bs)(hn:x.n=1000)(hl:(lgB bs).length<=4000 * bs.length)(h6:bs.length<=6):WhI ⟨v,x,bs,vh,vm,[],false⟩:=
 ⟨h.dv,⟨by rw [h.ws];simp,by rw [h.ws];simp⟩,hn,h.bg,hl,fun _=>⟨h,rfl⟩,fun k torn cut=>⟨[],by rw [List.append_nil];exact ro_crash h,Nat.le_refl _⟩,h6⟩
theorem opHs_snoc (bs:List BlkX)(b:BlkX):opHs (bs++[b])=opHs bs++[hdC (opC [97] [107] dGn bs) b]:=hs_snoc
theorem opMs_snoc {bs:List BlkX}(hb:BsG bs)(b:BlkX):opMs (bs++[b])=opMs bs++[(runR (stC (opC [97] [107] dGn bs)) b).1]:=by
 have o:=(opI_L (nm:=[97]) (ky:=[107]) dGn_ok hb).ms
 have e:(opC [97] [107] dGn (bs++[b])).ms=(opC [97] [107] dGn bs).ms++[(runR (stC (opC [97] [107] dGn bs)) b).1]:=by rw [opC_snoc];rfl
 unfold opMs
 rw [e,List.drop_append_of_le_length (by omega)]
theorem stC_snoc {bs:List BlkX}(hb:BsG bs)(b:BlkX):stC (opC [97] [107] dGn (bs++[b]))=(runR (stC (opC [97] [107] dGn bs)) b).1:=by
 have o:=opI_L (nm:=[97]) (ky:=[107]) dGn_ok hb
 have o1:=o.ms
 have o2:=o.hs
 rw [opC_snoc]
 show ((opC [97] [107] dGn bs).ms++[(runR (stC (opC [97] [107] dGn bs)) b).1]).getD ((opC [97] [107] dGn bs).hs++[hdC (opC [97] [107] dGn bs) b]).length []=_
 rw [lla,List.length_singleton,List.getD_eq_getElem?_getD,List.getElem?_append_right (by omega),show (opC [97] [107] dGn bs).hs.length + 1 - (opC [97] [107] dGn bs).ms.length=0 by omega]
 rfl
abbrev opqA (k n torn cut:Int)(keep:List Bool):AV:=.agg 5 [int k,int n,int torn,int cut,.sl 1 (keep.map boo) none]
abbrev whE (g5 gd gc:Nat)(cuts:List (List Int))(id:Option Value)(z:WhS):List (Nat × AV):=[(0,.sl 1 (cuts.map intsA) id),(5,ptr g5),(7,boo true),(8,ptr gd),(9,ptr gc),(11,.sl 35 ((opHs z.bs).map hdrA) (some z.vh)),(12,.sl 1 ((opMs z.bs).map dA) (some z.vm)),(13,int (ddN z.dd)),(14,int ((z.bs.length + ddN z.dd:Nat):Int))]
abbrev whM (g5 gd gm gs gc:Nat)(o:AV)(z:WhS):List Av.Piece:=.var g5 68 o::.tail 44 35 z.vh::.tail 33 1 z.vm::cpM gd gm gs gc z.v z.x (whS z.bs z.dd) (chL [97] [107] dGn z.bs z.ws z.dd)
set_option maxRecDepth 100000 in
set_option maxHeartbeats 16000000 in
theorem fnChainWhole {cuts:List (List Int)}{left k n torn cut:Int}{keep:List Bool}{xs:List AV}{id:Option Value}(hxs:xs=cuts.map intsA):Ans Tryz.prog GL 8 [.sl 1 xs id,int left,opqA k n torn cut keep] True (boo true):=⟨fun _=>by
 subst hxs
 have hm:(cuts.map intsA).length=cuts.length:=llm _
 have hd:=dGn_ok
 refine qE Tryz.func8 rfl Tryz.ntmps8 rfl (fun _ hs=>?_)
 refine ac_bnd 0 (fun hbnd=>?_)
 have hbnd:=maxLen_le hbnd
 repeat' first|refine Zz ?_|intro _
 refine al_callK [] _ (by rw [hs];exact fnDvNew (n:=1000) (by decide) (by decide)) (fun u m1 hu=>?_) lpr
 obtain⟨I,rfl,rfl⟩:=hu
 repeat' first|refine Zz ?_|intro _
 have hR0:Ro (dvNew 1000) []:=ro_new (by decide) (by decide)
 refine al_callK (dvM I (dvNew 1000)) _ (by rw [hs];exact fnOpenG hR0) (fun u m1 hu=>?_) lpr
 obtain⟨gs,gc,v,rfl,rfl⟩:=hu
 obtain⟨gd,gm,vd⟩:=I
 dsimp only
 have hl0:0<=left % 128:=by omega
 have hl1:left % 128<=1000:=by omega
 repeat' first|refine Zz ?_|intro _
 repeat' first|refine Zz ?_|intro _
 rename_i g5
 refine al_callF ((cpM gd gm gs gc v (dvNew 1000) (slL []) (chL [97] [107] dGn [] [] false)).take 6) _ [.var g5 68 (opqA k n torn cut keep)] (fnDvArm (I:=⟨gd,gm,v.1⟩) (x:=dvNew 1000) (k:=left % 128)) (fun u m1 hu=>?_)
 obtain⟨rfl,rfl⟩:=hu
 have hR1:=ro_arm hR0 hl1
 have hn1:(dvArm (dvNew 1000) (left % 128)).n=1000:=rfl
 generalize dvArm (dvNew 1000) (left % 128)=x0 at *
 refine al_ord (.var g5 68 (opqA k n torn cut keep)::cpM gd gm gs gc v x0 (slL []) (chL [97] [107] dGn [] [] false)) _ ?_ (List.perm_append_comm (l₁:=[_])) slr
 repeat' first|refine Zz ?_|intro _
 refine ac_as 11 (v':=.sl 35 [] (some (.slice none 0 0))) Imp.nil ?_
 refine ac_as 12 (v':=.sl 1 [] (some (.slice none 0 0))) Imp.nil ?_
 refine ac_st (fun ok w h=>h.full 33 1 none 0) ?_
 refine ac_st (fun ok w h=>h.full 44 35 none 0) ?_
 have hl6:(lgB []).length<=4000 * ([]:List BlkX).length:=Nat.le_refl _
 have hz0:WhI ⟨v,x0,[],.slice none 0 0,.slice none 0 0,[],false⟩:=whI_al hR1 hn1 hl6 (Nat.zero_le _)
 refine ac_ord (whM g5 gd gm gs gc (opqA k n torn cut keep) ⟨v,x0,[],.slice none 0 0,.slice none 0 0,[],false⟩) ([.tail 44 35 (.slice none 0 0),.tail 33 1 (.slice none 0 0)]++([.var g5 68 (opqA k n torn cut keep)]++cpM gd gm gs gc v x0 (slL []) (chL [97] [107] dGn [] [] false))) ?_ (List.perm_append_comm_assoc [_] [_,_] _) slr
 refine ac_loop (α:=WhS) (whE g5 gd gc cuts id) (whM g5 gd gm gs gc (opqA k n torn cut keep)) (fun z=>WhI z/\z.bs.length + ddN z.dd<=cuts.length) (fun z=>7 - (z.bs.length + ddN z.dd))
   ⟨v,x0,[],.slice none 0 0,.slice none 0 0,[],false⟩ ⟨rfl,rfl,rfl,rfl,rfl,rfl,rfl,rfl,rfl,trivial⟩ slr ⟨hz0,Nat.zero_le _⟩ ?_
 rintro⟨w,x,bs,vh,vm,ws,dd⟩ ⟨hI,hcl⟩
 clear hz0 hR1 hR0 hl6
 obtain⟨hdv,hr,hn,hg,hlg,hal,hcr,h6⟩:=hI
 dsimp only at hdv hr hn hg hlg hal hcr h6 hcl ⊢
 have q0:(chL [97] [107] dGn bs ws dd).dd=dd:=rfl
 have hd1:ddN dd<=1:=by unfold ddN;split <;> omega
 by_cases hgo:(bs.length + ddN dd < cuts.length/\bs.length + ddN dd < 6)/\dd=false
 ·obtain⟨⟨hi,hi2⟩,rfl⟩:=hgo
  obtain⟨hR,rfl⟩:=hal rfl
  have hz:ddN false=0:=rfl
  rw [hz] at hi hi2 hcl h6
  repeat' first|refine Zz ?_|intro _
  obtain⟨w1,wb,wc,wd,we⟩:=w
  have hmi:(cuts[bs.length].map fun (i:Int)=>(int i:AV)).length=cuts[bs.length].length:=llm _
  refine ac_loop (α:=Value × List Bs) (fun z=>[(0,.sl 1 (cuts.map intsA) id),(5,ptr g5),(7,boo true),(8,ptr gd),(9,ptr gc),(11,.sl 35 ((opHs bs).map hdrA) (some vh)),(12,.sl 1 ((opMs bs).map dA) (some vm)),(13,int 0),(14,int bs.length),(15,int z.2.length)])
   (fun z=>.var g5 68 (opqA k n torn cut keep)::.tail 44 35 vh::.tail 33 1 vm::cpM gd gm gs gc (w1,wb,wc,wd,z.1) x (slL bs) (chL [97] [107] dGn bs z.2 false))
   (fun z=>z.2.length<=3/\z.2.length<=cuts[bs.length].length/\WsG z.2/\∀ s ∈ z.2,s.length<=1000) (fun z=>3 - z.2.length)
   (we,[]) ⟨rfl,rfl,rfl,rfl,rfl,rfl,rfl,rfl,rfl,rfl,trivial⟩ slr ⟨Nat.zero_le _,Nat.zero_le _,⟨by simp,by simp⟩,by simp⟩ ?_
  rintro⟨we,ws⟩ ⟨hw3,hwc,hws,hwl⟩
  dsimp only at hw3 hwc hws hwl ⊢
  by_cases hka:ws.length < cuts[bs.length].length/\ws.length < 3
  ·obtain⟨hka,hk3⟩:=hka
   repeat' first|refine Zz ?_|intro _
   refine al_callEnd [_,_,_] _ (fnSubmitL (nm:=[97]) (ky:=[107]) (d:=dGn) (bs:=bs) (ws:=ws) (x:=x) (I:=⟨⟨⟨gd,gm,w1⟩,gs⟩,gc,wb,wc,wd,we⟩) (s:=slL bs) (by omega) (Nat.le_trans (ty_le cuts[bs.length][ws.length]) (by decide))) (fun u m1 hu=>?_)
   rcases hu with⟨hw16,rfl,u5,rfl⟩|⟨hw16,_⟩
   rotate_left
   ·omega
   have hty:=ty_tx cuts[bs.length][ws.length]
   have htl:=ty_le cuts[bs.length][ws.length]
   generalize tyB cuts[bs.length][ws.length]=ty at *
   have hwl':(ws++[ty]).length=ws.length + 1:=by rw [lla];rfl
   have hws':WsG (ws++[ty]):=⟨by omega,fun s hs=>by
    rcases List.mem_append.1 hs with hs|hs
    ·exact hws.t s hs
    ·rw [List.mem_singleton.1 hs];exact hty⟩
   have hwz:∀ s ∈ ws++[ty],s.length<=1000:=fun s hs=>by
    rcases List.mem_append.1 hs with hs|hs
    ·exact hwl s hs
    ·rw [List.mem_singleton.1 hs];exact htl
   generalize ws++[ty]=ws' at *
   repeat' first|refine Zz ?_|intro _
   refine ae_as 15 (v:=int ((ws.length:Int) + 1)) (v':=int ws'.length) (Imp.of_eq (by rw [hwl'];rfl)) ?_
   exact ae_round (u5,ws') ⟨rfl,rfl,rfl,rfl,rfl,rfl,rfl,rfl,rfl,rfl,trivial⟩ slr ⟨by dsimp only;omega,by dsimp only;omega,hws',hwz⟩ (by dsimp only;omega)
  ·have hor:¬ ws.length < cuts[bs.length].length\/(ws.length < cuts[bs.length].length/\¬ ws.length < 3):=by omega
   rcases hor with hk1|⟨hk1,hk2⟩
   all_goals
    repeat' first|refine Zz ?_|intro _
    refine al_callEnd [_,_,_] _ (fnCutW (nm:=[97]) (ky:=[107]) (ws:=ws) (I:=⟨⟨⟨gd,gm,w1⟩,gs⟩,gc,wb,wc,wd,we⟩) (t:=(bs.length:Int)) hd hR (by omega) hws) (fun u m1 hu=>?_)
    obtain⟨a1,a2,a3,a4,a5,y,s,c,e,r,hir,hc,rfl,rfl⟩:=hu
    have hrm:roomD x.n=63872:=by rw [hn];rfl
    have hlx:=lg_next (bs:=bs) (ws:=ws) (t:=(bs.length:Int)) hwl
    have hgx:=nxB_g hg (by omega) hws (bs.length:Int)
    cases hc with
    | full h=>
     rw [lgB_snoc,lla] at hlx
     omega
    | lost y hy hb hO hrr=>
     have hcr':∀ k torn cut,∃ l,Ro (dvCrash y k torn cut) (bs++l)/\l.length<=ddN true:=by
      intro k torn cut
      rcases ro_lost hR (by omega) hgx hy hO hrr k torn cut with h|h
      ·exact⟨[],by rw [List.append_nil];exact h,Nat.zero_le _⟩
      ·exact⟨_,h,Nat.le_refl _⟩
     have hI:WhI ⟨(a1,a2,a3,a4,a5),y,bs,vh,vm,ws,true⟩:=⟨hO.1,hir,hy.trans hn,hg,hlg,fun h=>absurd (show true=false from h) (by decide),hcr',by show bs.length + 1<=6;omega⟩
     repeat' first|refine Zz ?_|intro _
     refine ae_as 14 (v:=int ((bs.length:Int) + 1)) (v':=int ((bs.length + ddN true:Nat):Int)) (Imp.of_eq rfl) ?_
     refine ae_round ⟨(a1,a2,a3,a4,a5),y,bs,vh,vm,ws,true⟩ ⟨rfl,rfl,rfl,rfl,rfl,rfl,rfl,rfl,rfl,trivial⟩ slr ⟨hI,by show bs.length + 1<=cuts.length;omega⟩ (by show 7 - (bs.length + 1) < 7 - (bs.length + 0);omega)
    | yes y hy hb hRy=>
     have e1:=chL_hs (nm:=[97]) (ky:=[107]) (ws:=[]) (dd:=false) hd hRy.bg
     have o:=opI_L (nm:=[97]) (ky:=[107]) hd hRy.bg
     have e2:(chL [97] [107] dGn (bs++[nxB bs ws bs.length]) [] false).ms.length=(bs++[nxB bs ws bs.length]).length + 1:=o.ms
     have e4:((chL [97] [107] dGn (bs++[nxB bs ws bs.length]) [] false).hs.length<=1000000/\(chL [97] [107] dGn (bs++[nxB bs ws bs.length]) [] false).ky.length<=1000000)/\∀ y ∈ (chL [97] [107] dGn (bs++[nxB bs ws bs.length]) [] false).hs,y.h<=9223372036854775807/\y.t<=9223372036854775807:=by
      refine⟨⟨by rw [e1,lla,List.length_singleton];omega,?_⟩,hs_bd hRy.bg⟩
      show (opC [97] [107] dGn (bs++[nxB bs ws bs.length])).ky.length<=1000000
      rw [o.ky]
      decide
     rw [lla,List.length_singleton] at e1 e2
     have o1:=opI_L (nm:=[97]) (ky:=[107]) hd hg
     have e5:(chL [97] [107] dGn (bs++[nxB bs ws bs.length]) [] false).hs.getD (((chL [97] [107] dGn (bs++[nxB bs ws bs.length]) [] false).hs.length:Int) - 1).toNat ⟨[],0,0,zeroH⟩=hdC (opC [97] [107] dGn bs) (nxB bs ws bs.length):=by
      rw [e1,show (((bs.length + 1:Nat):Int) - 1).toNat=bs.length by omega]
      exact hs_last hd hg
     have e6:stC (chL [97] [107] dGn (bs++[nxB bs ws bs.length]) [] false)=(runR (stC (opC [97] [107] dGn bs)) (nxB bs ws bs.length)).1:=stC_snoc hg _
     have e7:(bs++[nxB bs ws bs.length]).length=bs.length + 1:=by rw [lla];rfl
     have e8:((opHs bs).map hdrA).length=bs.length:=by rw [llm];exact o1.hs
     have e9:((opMs bs).map dA).length=bs.length:=by rw [llm];unfold opMs;rw [List.length_drop,o1.ms];omega
     have e8':(opHs bs).length=bs.length:=o1.hs
     have e9':(opMs bs).length=bs.length:=by unfold opMs;rw [List.length_drop,o1.ms];omega
     have e10:=opHs_snoc bs (nxB bs ws bs.length)
     have e11:=opMs_snoc hg (nxB bs ws bs.length)
     clear o o1
     generalize hdC (opC [97] [107] dGn bs) (nxB bs ws bs.length)=hh at *
     generalize (runR (stC (opC [97] [107] dGn bs)) (nxB bs ws bs.length)).1=mm at *
     generalize bs++[nxB bs ws bs.length]=bs' at *
     generalize hcc:chL [97] [107] dGn bs' [] false=c at *
     have hc1:1<=(c.hs.length:Int)/\(c.hs.length:Int)<=c.hs.length:=by omega
     have e3:c.hs.length < c.ms.length/\c.ms.length<=1000000:=by omega
     repeat' first|refine Zz ?_|intro _
     rw [if_pos hc1,e5]
     repeat' first|refine Zz ?_|intro _
     repeat' first|refine Zz ?_|intro _
     refine al_append (fun vh'=>?_)
     repeat' first|refine Zz ?_|intro _
     refine al_append (fun vm'=>?_)
     repeat' first|refine Zz ?_|intro _
     refine ae_as 11 (v:=.sl 35 ((opHs bs).map hdrA++[hdrA hh]) (some vh')) (v':=.sl 35 ((opHs bs').map hdrA) (some vh')) (Imp.of_eq (by rw [e10,List.map_append];rfl)) ?_
     refine ae_as 12 (v:=.sl 1 ((opMs bs).map dA++[dA (stC c)]) (some vm')) (v':=.sl 1 ((opMs bs').map dA) (some vm')) (Imp.of_eq (by rw [e11,List.map_append,e6];rfl)) ?_
     refine ae_as 14 (v:=int ((bs.length:Int) + 1)) (v':=int ((bs'.length + ddN false:Nat):Int)) (Imp.of_eq (by rw [e7];rfl)) ?_
     subst hcc
     refine ae_round ⟨(a1,a2,a3,a4,a5),y,bs',vh',vm',[],false⟩ ⟨rfl,rfl,rfl,rfl,rfl,rfl,rfl,rfl,rfl,trivial⟩ ?_ ⟨whI_al hRy (hy.trans hn) (by omega) (by omega),by show bs'.length + 0<=cuts.length;omega⟩ (by show 7 - (bs'.length + 0) < 7 - (bs.length + 0);omega)
     exact sbl
 ·have hor:¬ bs.length + ddN dd < cuts.length\/(bs.length + ddN dd < cuts.length/\¬ bs.length + ddN dd < 6)\/((bs.length + ddN dd < cuts.length/\bs.length + ddN dd < 6)/\dd=true):=by
   by_cases h1:bs.length + ddN dd < cuts.length
   ·by_cases h2:bs.length + ddN dd < 6
    ·refine .inr (.inr ⟨⟨h1,h2⟩,?_⟩)
     cases dd with
     | true=>rfl
     | false=>exact absurd ⟨⟨h1,h2⟩,rfl⟩ hgo
    ·exact .inr (.inl ⟨h1,h2⟩)
   ·exact .inl h1
  rcases hor with hx1|⟨hx1,hx2⟩|⟨⟨hx1,hx2⟩,rfl⟩
  all_goals
   repeat' first|refine Zz ?_|intro _
   refine al_callEnd ((whM g5 gd gm gs gc (opqA k n torn cut keep) ⟨w,x,bs,vh,vm,ws,_⟩).take 9) _ (fnDvCrash (I:=⟨gd,gm,w.1⟩) (x:=x) (k:=keep) (torn:=torn) (cut:=cut) (id:=none) hdv hr.a (by omega) hr.l rfl) (fun u m1 hu=>?_)
   obtain⟨rfl,v9,rfl⟩:=hu
   obtain⟨l,hRz,hll⟩:=hcr keep torn cut
   generalize dvCrash x keep torn cut=x9 at *
   repeat' first|refine Zz ?_|intro _
   refine al_callEnd _ _ (fnOpenG (I:=⟨gd,gm,v9⟩) hRz) (fun u m1 hu=>?_)
   obtain⟨gs9,gc9,v10,rfl,rfl⟩:=hu
   refine al_ord (cpM gd gm gs9 gc9 v10 x9 (slL (bs++l)) (chL [97] [107] dGn (bs++l) [] false)) _ ?_ lpr (List.sublist_append_right _ _)
   have o:=opI_L (nm:=[97]) (ky:=[107]) hd hRz.bg
   have o1:=opI_L (nm:=[97]) (ky:=[107]) hd hg
   have e1:=chL_hs (nm:=[97]) (ky:=[107]) (ws:=[]) (dd:=false) hd hRz.bg
   have e2:(chL [97] [107] dGn (bs++l) [] false).ms.length=(bs++l).length + 1:=o.ms
   have e3:(chL [97] [107] dGn (bs++l) [] false).ws.length=0:=rfl
   have e5:(chL [97] [107] dGn (bs++l) [] false).dd=false:=rfl
   have e4:((chL [97] [107] dGn (bs++l) [] false).hs.length<=1000000/\(chL [97] [107] dGn (bs++l) [] false).ky.length<=1000000)/\∀ y ∈ (chL [97] [107] dGn (bs++l) [] false).hs,y.h<=9223372036854775807/\y.t<=9223372036854775807:=by
    refine⟨⟨by rw [e1,lla];omega,?_⟩,hs_bd hRz.bg⟩
    show (opC [97] [107] dGn (bs++l)).ky.length<=1000000
    rw [o.ky]
    decide
   rw [lla] at e1 e2
   have e6:(opHs bs).length=bs.length:=o1.hs
   have e7:(opMs bs).length=bs.length:=by unfold opMs;rw [List.length_drop,o1.ms];omega
   have e8:∃ r,(chL [97] [107] dGn (bs++l) [] false).hs=opHs bs++r:=opC_hs l
   have e9:∃ r,(chL [97] [107] dGn (bs++l) [] false).ms=(opC [97] [107] dGn bs).ms++r:=opC_ms l
   have e10:((opHs bs).map hdrA).length=bs.length:=by rw [llm];exact e6
   have e11:((opMs bs).map dA).length=bs.length:=by rw [llm];exact e7
   have e12:=o1.ms
   clear o o1
   generalize hcc:chL [97] [107] dGn (bs++l) [] false=c at *
   repeat' first|refine Zz ?_|intro _
   refine ac_loop (α:=Nat) (fun j=>[(7,boo true),(11,.sl 35 ((opHs bs).map hdrA) (some vh)),(12,.sl 1 ((opMs bs).map dA) (some vm)),(21,ptr gc9),(23,int j)])
    (fun _=>cpM gd gm gs9 gc9 v10 x9 (slL (bs++l)) c) (fun j=>j<=bs.length) (fun j=>bs.length - j) 0 ⟨rfl,rfl,rfl,rfl,rfl,trivial⟩ slr (Nat.zero_le _) ?_
   intro j hj
   by_cases hjl:j < bs.length
   rotate_left
   ·repeat' first|refine Zz ?_|intro _
    refine reE ?_
    rw [e5]
    rfl
   obtain⟨r1,hr1⟩:=e8
   obtain⟨r2,hr2⟩:=e9
   have hj1:j < (opHs bs).length:=by omega
   have hj2:j < (opMs bs).length:=by omega
   have f1:c.hs.getD ((j:Int) + 1 - 1).toNat ⟨[],0,0,zeroH⟩=(opHs bs)[j]:=by
    rw [show ((j:Int) + 1 - 1).toNat=j by omega,hr1,List.getD_eq_getElem?_getD,List.getElem?_append_left hj1,List.getElem?_eq_getElem hj1]
    rfl
   have f2:c.ms.getD ((j:Int) + 1).toNat []=(opMs bs)[j]:=by
    have h3:j + 1 < (opC [97] [107] dGn bs).ms.length:=by omega
    have h4:(opMs bs)[j]?=(opC [97] [107] dGn bs).ms[j + 1]?:=by
     unfold opMs
     rw [List.getElem?_drop,Nat.add_comm]
    rw [show ((j:Int) + 1).toNat=j + 1 by omega,hr2,List.getD_eq_getElem?_getD,List.getElem?_append_left h3,<- h4,List.getElem?_eq_getElem hj2]
    rfl
   have hc1:1<=(j:Int) + 1/\(j:Int) + 1<=c.hs.length:=by omega
   have hc2:0<=(j:Int) + 1/\(j:Int) + 1 < c.ms.length:=by omega
   have hc3:c.ms.length<=1000000:=by omega
   repeat' first|refine Zz ?_|intro _
   rw [if_pos hc1,f1]
   repeat' first|refine Zz ?_|intro _
   rw [if_pos hc2,f2,dT hc2]
   repeat' first|refine Zz ?_|intro _
   rw [dZ (nni hc2)]
   repeat' first|refine Zz ?_|intro _
   refine ae_as 23 (v:=int ((j:Int) + 1)) (v':=int (j + 1:Nat)) (Imp.of_eq rfl) ?_
   refine ae_round (j + 1) ⟨rfl,rfl,rfl,rfl,rfl,trivial⟩ ?_ hjl (by omega)
   repeat (first|exact List.nil_sublist _|exact List.Sublist.refl _|apply List.Sublist.cons_cons|apply List.Sublist.cons)⟩
end Go.Proofs.YtndhpgclmgpmoaaGreatDoor
