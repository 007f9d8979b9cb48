/- chapter 18: CoreNext, walked (draft: its loop stands open) -/
import Derived.Test.YtlmcongmglfaeaaGreatDoorA16
import Derived.Test.YtlmcongmglfaeaaGreatDoorA37
import Derived.Test.YtlmcongmglfaeaaGreatDoorA38
import Derived.Test.YtlmcongmglfaeaaGreatDoorA39
import Derived.Test.YtlmcongmglfaeaaGreatDoorA40
namespace Go.Proofs.YtlmcongmglfaeaaGreatDoor
open Go Go.RowKit Tw Av
def annB:Bs:=[97,110,110]
def bKy:Bs:=balK annB [120]
def eKy:Bs:=balK (escB [99,97]) [120]
def pKy (n:Int):Bs:=kyW [80] [99,97] n
def nKy:Bs:=kyO [78] [99,97]
def hKy:Bs:=kyO [72] [99,97]
def kKy:Bs:=kyO [75] [110,97]
def cKy:Bs:=kyO [67] [107,97]
theorem pKy_hd (n:Int):(pKy n).head?=some 80:=rfl
theorem pKy_ne {n:Int}{q:Bs}(h:q.head?≠some 80):q≠pKy n:=fun e=>h (by rw [e];exact pKy_hd n)
theorem pKy_inj {i j:Int}(hi:0<=i/\i<=1000)(hj:0<=j/\j<=1000)(h:pKy i=pKy j):i=j:=by
 unfold pKy kyW at h
 have h:=List.append_cancel_left h
 have a:=(rd_tlvI (c:=113) (most:=1000) (n:=i) (r:=[]) (by decide) (by decide) hi.1 hi.2 (by decide)).1
 have b:=(rd_tlvI (c:=113) (most:=1000) (n:=j) (r:=[]) (by decide) (by decide) hj.1 hj.2 (by decide)).1
 rw [h,b] at a
 exact a.symm
theorem pKy_len {n:Int}:(pKy n).length<=400:=by
 have h:(digits n.toNat).length<=8:=digitsF_len 8 _
 have e:(tlvI 113 n).length=(digits n.toNat).length + 4:=tlvT_len' (c:=113) (by omega)
 unfold pKy kyW
 rw [lla,e,show (kyO [80] [99,97]).length=7 from rfl]
 omega
theorem gO_putR {d:List Ent}{k v q:Bs}(h:DOk d)(e:(putR d k v).2=0):gO (putR d k v).1 q=if q=k then some v else gO d q:=by
 unfold putR at e ⊢
 split
 ·exact gO_put h.s
 ·rename_i h1
  rw [if_neg h1] at e
  exact absurd e h1
theorem putR_go {d:List Ent}{k v:Bs}(hk:k.length<=400)(hv:v.length<=4000)(hl:d.length < 2000):(putR d k v).2=0:=by
 rw [putR_e]
 exact putE_eq0.2 ⟨hk,hv,.inr hl⟩
theorem putR_len {d:List Ent}{k v:Bs}(h:DOk d):(putR d k v).1.length<=d.length + 1:=by
 unfold putR
 split
 ·dsimp only
  rw [put_len h.s]
  split <;> omega
 ·exact Nat.zero_le _
theorem gO_setR {d:List Ent}{k q:Bs}{n:Nat}(h:DOk d)(e:(setR k n d).2=0):gO (setR k n d).1 q=if q=k then (if n=0 then none else some (beB n)) else gO d q:=by
 unfold setR at e ⊢
 split
 ·exact gO_drp h.s
 ·rename_i h1
  rw [if_neg h1] at e
  exact gO_putR h e
theorem setR_go {d:List Ent}{k:Bs}{n:Nat}(hk:k.length<=400)(hl:d.length < 2000):(setR k n d).2=0:=by
 unfold setR
 split
 ·rfl
 ·exact putR_go hk (by rw [beB_len];decide) hl
theorem setR_len {d:List Ent}{k:Bs}{n:Nat}(h:DOk d):(setR k n d).1.length<=d.length + 1:=by
 unfold setR
 split
 ·exact Nat.le_trans (drp_sub d k).length_le (Nat.le_succ _)
 ·exact putR_len h
theorem getW_go {d e:List Ent}{k:Bs}(h:gO d k=gO e k):getW d k=getW e k:=by
 unfold getW valE
 rw [h]
theorem getW_set {d:List Ent}{k:Bs}{n:Nat}(h:DOk d)(e:(setR k n d).2=0)(hn:n < 115792089237316195423570985008687907853269984665640564039457584007913129639936):(getW (setR k n d).1 k).n=n:=by
 unfold setR at e ⊢
 split
 ·rename_i h0
  subst h0
  rw [getW_gone h.s]
  rfl
 ·rename_i h0
  rw [if_neg h0] at e
  unfold putR at e ⊢
  split
  ·exact getW_self h.s hn
  ·rename_i h1
   rw [if_neg h1] at e
   exact absurd e h1
theorem mv_no {d:List Ent}{a:Wd}(hd:DOk d)(ha:a.n≠0)(h:(getW d bKy).n < a.n):moveR d annB (escB [99,97]) [120] a=([],16):=by
 rw [move_eq hd]
 unfold moveQ
 rw [if_neg (by rintro (h|h|h|h);exact absurd h (by decide);exact absurd h (by decide);exact absurd h (by decide);exact ha h),if_pos (show (getW d (balK annB [120])).n < a.n from h)]
theorem mv_ok {d:List Ent}{a:Wd}(hd:DOk d)(hl:d.length<=1000)(ha:a.n≠0)(hle:a.n<=(getW d bKy).n)(h50:(getW d bKy).n + (getW d eKy).n=50) :
  (moveR d annB (escB [99,97]) [120] a).2=0/\DOk (moveR d annB (escB [99,97]) [120] a).1/\(moveR d annB (escB [99,97]) [120] a).1.length<=d.length + 2/\(∀ q,q≠bKy->q≠eKy->gO (moveR d annB (escB [99,97]) [120] a).1 q=gO d q)
   /\ (getW (moveR d annB (escB [99,97]) [120] a).1 bKy).n=(getW d bKy).n - a.n/\(getW (moveR d annB (escB [99,97]) [120] a).1 eKy).n=(getW d eKy).n + a.n:=by
 have hne:eKy≠bKy:=by decide
 have hw:wIs ((getW d eKy).n + a.n)=true:=dT (by omega)
 have e:moveR d annB (escB [99,97]) [120] a=thenR (setR bKy ((getW d bKy).n - a.n)) (setR eKy ((getW d eKy).n + a.n)) d:=by
  rw [move_eq hd]
  unfold moveQ
  rw [if_neg (by rintro (h|h|h|h);exact absurd h (by decide);exact absurd h (by decide);exact absurd h (by decide);exact ha h),if_neg (show ¬ (getW d (balK annB [120])).n < a.n from by show ¬ (getW d bKy).n < a.n;omega),if_neg (by decide),if_neg (show ¬ wIs ((getW d (balK (escB [99,97]) [120])).n + a.n)=false from by show ¬ wIs ((getW d eKy).n + a.n)=false;rw [hw];decide)]
  rfl
 have g1:(setR bKy ((getW d bKy).n - a.n) d).2=0:=setR_go (by decide) (by omega)
 have d1:DOk (setR bKy ((getW d bKy).n - a.n) d).1:=setR_dok hd
 have l1:=setR_len (k:=bKy) (n:=(getW d bKy).n - a.n) hd
 rw [e]
 unfold thenR
 rw [if_pos g1]
 have g2:(setR eKy ((getW d eKy).n + a.n) (setR bKy ((getW d bKy).n - a.n) d).1).2=0:=setR_go (by decide) (by omega)
 have l2:=setR_len (k:=eKy) (n:=(getW d eKy).n + a.n) d1
 refine⟨g2,setR_dok d1,by omega,fun q h1 h2=>?_,?_,?_⟩
 ·rw [gO_setR d1 g2,if_neg h2,gO_setR hd g1,if_neg h1]
 ·rw [getW_go (show gO (setR eKy ((getW d eKy).n + a.n) (setR bKy ((getW d bKy).n - a.n) d).1).1 bKy=gO (setR bKy ((getW d bKy).n - a.n) d).1 bKy by rw [gO_setR d1 g2,if_neg (by decide)])]
  exact getW_set hd g1 (by omega)
 ·exact getW_set d1 g2 (by omega)
theorem thenR_go {a b:List Ent->List Ent × Int}{d:List Ent}(h:(a d).2=0):thenR a b d=b (a d).1:=if_pos h
theorem thenR_no {a b:List Ent->List Ent × Int}{d:List Ent}(h:(a d).2≠0):thenR a b d=a d:=if_neg h
theorem thenR_cg {a a' b:List Ent->List Ent × Int}{d:List Ent}(h:a d=a' d):thenR a b d=thenR a' b d:=by
 unfold thenR
 rw [h]
structure Snt (n:Nat)(d:List Ent):Prop where
 ok:DOk d
 l:d.length<=10 + 4 * n
 h:gO d hKy=some (enxB (chaX false))
 k:gO d kKy=some (enxB (conE false))
 c:gO d cKy=some (cliB (clS false))
 nx:nxR d [99,97]=n + 1
 p:∀ i:Nat,1<=i->i<=100->(gO d (pKy i)).isSome=decide (i<=n)
 b:(getW d bKy).n + (getW d eKy).n=50
def pkS (a t:Int):Pkt:=⟨0,[99,97],[],[120],wOf (1 + a).toNat,annB,[99,97,116],3 + t,0⟩
def pkG (n a t:Int):Pkt:=⟨n,[99,97],[99,98],[120],wOf (1 + a).toNat,annB,[99,97,116],3 + t,0⟩
theorem red_cha:redV (enxB (chaX false))=chaX false:=by kernel_rfl
theorem red_chaE:redE (enxB (chaX false))=0:=by kernel_rfl
theorem red_con:redV (enxB (conE false))=conE false:=by kernel_rfl
theorem red_conE:redE (enxB (conE false))=0:=by kernel_rfl
theorem rcd_clE:rcdE (cliB (clS false))=0:=by kernel_rfl
theorem rcd_clh:(latC (rcdV (cliB (clS false))).l).h=1:=by kernel_rfl
theorem rcd_clt:(latC (rcdV (cliB (clS false))).l).t=1:=by kernel_rfl
theorem nm_ok:namsP (pkG 0 0 0)=true:=by kernel_rfl
theorem pl_ok:(plainB annB && plainB [99,97,116])=true:=by kernel_rfl
theorem hm_no:retB [99,97] [120]=false:=by kernel_rfl
theorem kn_at (n:Int)(h:0<=n/\n<=1099511627776):knE (tlvI 110 n)=0/\knV (tlvI 110 n)=n:=by
 obtain⟨a,b,c⟩:=rd_tlvI (c:=110) (most:=1099511627776) (n:=n) (r:=[]) (by decide) (by decide) h.1 h.2 (by decide)
 rw [List.append_nil] at a b c
 have e:knE (tlvI 110 n)=0:=by
  unfold knE
  rw [b,c]
  rfl
 refine⟨e,?_⟩
 unfold knV
 rw [if_pos e,a]
theorem nx_of {d:List Ent}{n:Nat}(hn:n<=1000)(h:gO d nKy=some (tlvI 110 ((n:Int) + 1))):nxR d [99,97]=n + 1:=by
 have hv:valE d (kyO [78] [99,97])=tlvI 110 ((n:Int) + 1):=by
  unfold valE
  rw [show gO d (kyO [78] [99,97])=_ from h]
  rfl
 obtain⟨a,b⟩:=kn_at ((n:Int) + 1) (by omega)
 unfold nxR
 rw [hv,if_pos a,b]
theorem goes_s {n:Nat}{d:List Ent}(hI:Snt n d)(a t:Int):goes d (pkS a t)=pkG ((n:Int) + 1) a t:=by
 have hr:enR d [72] [99,97]=chaX false:=by
  unfold enR valE
  rw [show gO d (kyO [72] [99,97])=_ from hI.h]
  exact red_cha
 show (⟨nxR d [99,97],[99,97],(enR d [72] [99,97]).p,[120],wOf (1 + a).toNat,annB,[99,97,116],3 + t,0⟩:Pkt)=_
 rw [hI.nx,hr]
 rfl
theorem chk_s {n:Nat}(hn:n<=1000){a t:Int}(ha:0<=a/\a<=7)(ht:0<=t/\t<=3):chkP (pkG ((n:Int) + 1) a t)=true:=by
 have e:(wOf (1 + a).toNat).n=(1 + a).toNat:=wOf_n (by omega)
 have h1:numsP (pkG ((n:Int) + 1) a t)=true:=dT (by
  show 1<=(n:Int) + 1/\(n:Int) + 1<=1099511627776/\0<=3 + t/\3 + t<=1099511627776/\(0:Int)<=0/\(0:Int)<=1099511627776/\¬ (3 + t=0/\(0:Int)=0)
  omega)
 have h2:namsP (pkG ((n:Int) + 1) a t)=true:=nm_ok
 have h3:coinP (pkG ((n:Int) + 1) a t)=true:=by
  show (decide ((wOf (1 + a).toNat).n≠0) && (plainB annB && plainB [99,97,116]))=true
  rw [pl_ok,dT (by rw [e];omega)]
  rfl
 unfold chkP
 rw [h1,h2,h3]
 rfl
theorem snd_s {n:Nat}{d:List Ent}(hI:Snt n d)(hn:n<=50){a t:Int}(ha:0<=a/\a<=7)(ht:0<=t/\t<=3) :
  sndR d (pkS a t)=tellR d (thenR (fun d=>moveR d annB (escB [99,97]) [120] (wOf (1 + a).toNat)) (thenR (fun y=>putR y (pKy ((n:Int) + 1)) (comP (pkG ((n:Int) + 1) a t))) (fun y=>putR y nKy (tlvI 110 ((n:Int) + 1 + 1)))) d) ⟨0,(n:Int) + 1,[]⟩:=by
 have hv:∀ {k v:Bs},gO d k=some v->valE d k=v:=fun h=>by unfold valE;rw [h];rfl
 have e1:enB d [72] [99,97]=true:=by
  unfold enB
  rw [hv (show gO d (kyO [72] [99,97])=_ from hI.h),red_chaE]
  rfl
 have e2:enR d [72] [99,97]=chaX false:=by
  unfold enR
  rw [hv (show gO d (kyO [72] [99,97])=_ from hI.h),red_cha]
 have e3:enB d [75] [110,97]=true:=by
  unfold enB
  rw [hv (show gO d (kyO [75] [110,97])=_ from hI.k),red_conE]
  rfl
 have e4:enR d [75] [110,97]=conE false:=by
  unfold enR
  rw [hv (show gO d (kyO [75] [110,97])=_ from hI.k),red_con]
 have c1:chaE d [99,97] (fun _=>true)=0:=by
  unfold chaE
  rw [e1,e2]
  rfl
 have c2:chaK d [99,97]=true:=by
  unfold chaK
  rw [e2]
  exact e3
 have c3:chaN d [99,97]=[107,97]:=by
  unfold chaN
  rw [e2]
  show (enR d [75] [110,97]).o=_
  rw [e4]
  rfl
 have c4:clB d [107,97]=true:=by
  unfold clB
  rw [hv (show gO d (kyO [67] [107,97])=_ from hI.c),rcd_clE]
  rfl
 have c5:clR d [107,97]=rcdV (cliB (clS false)):=by
  unfold clR
  rw [hv (show gO d (kyO [67] [107,97])=_ from hI.c)]
 have c6:lateP (pkG ((n:Int) + 1) a t) 1 1=false:=dZ (by
  show ¬ ((3 + t≠0/\3 + t<=1)\/((0:Int)≠0/\(0:Int)<=1))
  omega)
 have hg:=goes_s hI a t
 have hc:=chk_s (n:=n) (by omega) ha ht
 have hS:sendR d (goes d (pkS a t))=moveR d annB (escB [99,97]) [120] (wOf (1 + a).toNat):=by
  rw [hg]
  unfold sendR
  rw [if_neg (by rw [hc];decide)]
  exact if_neg (by show ¬ retB [99,97] [120]=true;rw [hm_no];decide)
 unfold sndR
 show (if chaE d [99,97] (fun _=>true)≠0 then _ else _)=_
 rw [if_neg (by rw [c1];decide),thenR_cg (a':=fun d=>moveR d annB (escB [99,97]) [120] (wOf (1 + a).toNat)) hS,hg,if_neg (by rw [hc];decide)]
 show (if chaK d [99,97]=false\/clB d (chaN d [99,97])=false then _ else _)=_
 rw [c2,c3,c4,if_neg (by decide)]
 show (if lateP (pkG ((n:Int) + 1) a t) (latC (clR d (chaN d [99,97])).l).h (latC (clR d (chaN d [99,97])).l).t=true then _ else _)=_
 rw [c3,c5,rcd_clh,rcd_clt,c6,if_neg (by decide)]
 rfl
theorem snt_no {n:Nat}{d:List Ent}(hI:Snt n d)(hn:n<=50){a t:Int}(ha:0<=a/\a<=7)(ht:0<=t/\t<=3)(h:(getW d bKy).n < (1 + a).toNat):sndR d (pkS a t)=failR d 16:=by
 have e:(wOf (1 + a).toNat).n=(1 + a).toNat:=wOf_n (by omega)
 have hm:=mv_no hI.ok (a:=wOf (1 + a).toNat) (by rw [e];omega) (by rw [e];exact h)
 rw [snd_s hI hn ha ht,thenR_no (by rw [hm];decide),hm]
 rfl
theorem comP_len (x:Pkt):(comP x).length<=4000:=by
 unfold comP
 rw [(shaH _).len]
 decide
theorem snt_yes {n:Nat}{d:List Ent}(hI:Snt n d)(hn:n<=50){a t:Int}(ha:0<=a/\a<=7)(ht:0<=t/\t<=3)(h:¬ (getW d bKy).n < (1 + a).toNat):(sndR d (pkS a t)).2=⟨0,(n:Int) + 1,[]⟩/\Snt (n + 1) (sndR d (pkS a t)).1:=by
 have e:(wOf (1 + a).toNat).n=(1 + a).toNat:=wOf_n (by omega)
 have hl:=hI.l
 obtain⟨m0,m1,m2,m3,m4,m5⟩:=mv_ok (a:=wOf (1 + a).toNat) hI.ok (by omega) (by rw [e];omega) (by rw [e];omega) hI.b
 rw [snd_s hI hn ha ht]
 generalize hM:(moveR d annB (escB [99,97]) [120] (wOf (1 + a).toNat))=M at *
 have p1:(putR M.1 (pKy ((n:Int) + 1)) (comP (pkG ((n:Int) + 1) a t))).2=0:=putR_go pKy_len (comP_len _) (by omega)
 have d1:=putR_dok (k:=pKy ((n:Int) + 1)) (v:=comP (pkG ((n:Int) + 1) a t)) m1
 have l1:=putR_len (k:=pKy ((n:Int) + 1)) (v:=comP (pkG ((n:Int) + 1) a t)) m1
 have g1:∀ q,gO (putR M.1 (pKy ((n:Int) + 1)) (comP (pkG ((n:Int) + 1) a t))).1 q=if q=pKy ((n:Int) + 1) then some (comP (pkG ((n:Int) + 1) a t)) else gO M.1 q:=fun q=>gO_putR m1 p1
 generalize hP:putR M.1 (pKy ((n:Int) + 1)) (comP (pkG ((n:Int) + 1) a t))=P at *
 have p2:(putR P.1 nKy (tlvI 110 ((n:Int) + 1 + 1))).2=0:=putR_go (by decide) (by
  have h:(digits ((n:Int) + 1 + 1).toNat).length<=8:=digitsF_len 8 _
  have e:(tlvI 110 ((n:Int) + 1 + 1)).length=(digits ((n:Int) + 1 + 1).toNat).length + 4:=tlvT_len' (c:=110) (by omega)
  omega) (by omega)
 have d2:=putR_dok (k:=nKy) (v:=tlvI 110 ((n:Int) + 1 + 1)) d1
 have l2:=putR_len (k:=nKy) (v:=tlvI 110 ((n:Int) + 1 + 1)) d1
 have g2:∀ q,gO (putR P.1 nKy (tlvI 110 ((n:Int) + 1 + 1))).1 q=if q=nKy then some (tlvI 110 ((n:Int) + 1 + 1)) else gO P.1 q:=fun q=>gO_putR d1 p2
 have hT:thenR (fun d=>moveR d annB (escB [99,97]) [120] (wOf (1 + a).toNat)) (thenR (fun y=>putR y (pKy ((n:Int) + 1)) (comP (pkG ((n:Int) + 1) a t))) (fun y=>putR y nKy (tlvI 110 ((n:Int) + 1 + 1)))) d=putR P.1 nKy (tlvI 110 ((n:Int) + 1 + 1)):=by
  rw [thenR_go (by rw [hM];exact m0),thenR_go (by rw [hM,hP];exact p1),hM,hP]
 rw [hT]
 generalize putR P.1 nKy (tlvI 110 ((n:Int) + 1 + 1))=R at *
 unfold tellR
 rw [if_pos p2]
 have hf:∀ q,q≠nKy->q≠pKy ((n:Int) + 1)->gO R.1 q=gO M.1 q:=fun q h1 h2=>by rw [g2,if_neg h1,g1,if_neg h2]
 refine⟨rfl,d2,by dsimp only at *;omega,?_,?_,?_,?_,?_,?_⟩
 ·rw [hf _ (by decide) (pKy_ne (by decide)),m3 _ (by decide) (by decide)]
  exact hI.h
 ·rw [hf _ (by decide) (pKy_ne (by decide)),m3 _ (by decide) (by decide)]
  exact hI.k
 ·rw [hf _ (by decide) (pKy_ne (by decide)),m3 _ (by decide) (by decide)]
  exact hI.c
 ·refine nx_of (by omega) ?_
  rw [g2,if_pos rfl]
  rfl
 ·intro i h1 h2
  rw [g2,if_neg (fun e=>absurd (congrArg List.head? e) (by rw [pKy_hd];decide)),g1]
  by_cases hi:i=n + 1
  ·subst hi
   rw [if_pos (show pKy ((n + 1:Nat):Int)=pKy ((n:Int) + 1) from rfl),dT (Nat.le_refl _)]
   rfl
  ·rw [if_neg (fun e=>hi (by have:=pKy_inj (by omega) (by omega) e;omega)),m3 _ (fun e=>absurd (congrArg List.head? e) (by rw [pKy_hd];decide)) (fun e=>absurd (congrArg List.head? e) (by rw [pKy_hd];decide)),hI.p i h1 h2]
   exact decide_eq_decide.2 (by omega)
 ·rw [getW_go (hf _ (by decide) (pKy_ne (by decide))),getW_go (hf _ (by decide) (pKy_ne (by decide))),m4,m5]
  have:=hI.b
  rw [e]
  omega
theorem s0_h:gO (opeS false).d hKy=some (enxB (chaX false)):=by kernel_rfl
theorem s0_k:gO (opeS false).d kKy=some (enxB (conE false)):=by kernel_rfl
theorem s0_c:gO (opeS false).d cKy=some (cliB (clS false)):=by kernel_rfl
theorem s0_n:nxR (opeS false).d [99,97]=1:=by kernel_rfl
theorem s0_p:((List.range 101).all fun i=>!(gO (opeS false).d (pKy i)).isSome)=true:=by kernel_rfl
theorem s0_b:(getW (opeS false).d bKy).n + (getW (opeS false).d eKy).n=50:=by kernel_rfl
theorem s0_l:Nat.ble (opeS false).d.length 10=true:=by kernel_rfl
theorem snt0:Snt 0 (opeS false).d:=by
 refine⟨(opeS_ok false).d,nlb s0_l,s0_h,s0_k,s0_c,s0_n,fun i h1 h2=>?_,s0_b⟩
 have:=List.all_eq_true.1 s0_p i (List.mem_range.2 (by omega))
 rw [dZ (by omega)]
 simpa using this

theorem nx_tx {a b:SideX}{v i:Int}:wTx a b ⟨0,10,0,v,i,0⟩=sndX false false (knX a false) i (v % 8) b.t:=rfl
theorem nx_kn {n:Nat}{a:SideX}(h:Snt n a.d):knX a false=1:=by
 have e:clR a.d (nmK false)=rcdV (cliB (clS false)):=by
  unfold clR valE
  rw [show gO a.d (kyO [67] (nmK false))=_ from h.c]
  rfl
 unfold knX
 rw [e,rcd_clh]
theorem nx_pk {i v lt:Int}:(sndX false false 1 i v lt).x=pkS v (i % 4):=by
 unfold sndX pkS
 show Pkt.mk _ _ _ _ _ _ _ _ _=Pkt.mk _ _ _ _ _ _ _ _ _
 congr 1

def sndS (d:List Ent)(x:Pkt):Out18:=pQ (sendR d (goes d x)).1 (kyW [80] x.s (goes d x).q) (comP (goes d x))
def sndT (d:List Ent)(x:Pkt):Out18:=pQ (sndS d x).1 (kyO [78] x.s) (tlvI 110 ((goes d x).q + 1))
def sndQ (d:List Ent)(x:Pkt):Out18:=
 if enB d [72] x.s=false then fQ 12 else if (enR d [72] x.s).s≠3 then fQ 13 else if chkP (goes d x)=false then fQ 1
 else if chaK d x.s=false\/clB d (chaN d x.s)=false then fQ 12
 else if lateP (goes d x) (latC (clR d (chaN d x.s)).l).h (latC (clR d (chaN d x.s)).l).t=true then fQ 21
 else if (sendR d (goes d x)).2≠0 then fQ (sendR d (goes d x)).2
 else if (sndS d x).2.e≠0 then sndS d x else if (sndT d x).2.e≠0 then sndT d x else ((sndT d x).1,⟨(sndT d x).2.e,(goes d x).q,(sndT d x).2.a⟩)
def rcvP (d:List Ent)(x:TxX):Out18:=pQ (if (recvR d x.x).2=0 then (recvR d x.x).1 else d) (kyW [71] x.x.k x.x.q) (rcpB (ackR d x.x))
def rcvQ (d:List Ent)(x:TxX)(h t:Int):Out18:=
 if chkP x.x=false then fQ 1 else if enB d [72] x.x.k=false then fQ 12 else if (enR d [72] x.x.k).s≠3\/(enR d [72] x.x.k).p≠x.x.s then fQ 13
 else if lateP x.x h t=true then fQ 21 else if (gO d (kyW [71] x.x.k x.x.q)).isSome=true then fQ 20 else if chaK d x.x.k=false then fQ 12
 else if prE d (chaN d x.x.k) x.t t (kyW [80] x.x.s x.x.q) (comP x.x) x.f≠0 then fQ (prE d (chaN d x.x.k) x.t t (kyW [80] x.x.s x.x.q) (comP x.x) x.f)
 else ((rcvP d x).1,⟨(rcvP d x).2.e,(rcvP d x).2.q,ackR d x.x⟩)
def endP (d:List Ent)(x:Pkt)(b:Bool)(e:Int):Out18:=
 if enB d [72] x.s=false then fQ 12 else if (enR d [72] x.s).s≠3\/(enR d [72] x.s).p≠x.k then fQ 13
 else if gO d (kyW [80] x.s x.q)≠some (comP x) then fQ 12 else if chaK d x.s=false then fQ 12
 else if e≠0 then fQ e else if b=true/\(backR d x).2≠0 then fQ (backR d x).2
 else (drpL (if b=true then (backR d x).1 else d) (kyW [80] x.s x.q),rep0)
def edB (x:TxX):Bool:=if x.k=15 then decide (ackV x.a≠0) else true
def edE (d:List Ent)(x:TxX)(t:Int):Int:=if x.k=15 then prE d (chaN d x.x.s) x.t t (kyW [71] x.x.k x.x.q) (rcpB x.a) x.f else timE d x t
def endQ (d:List Ent)(x:TxX)(t:Int):Out18:=if chkP x.x=false\/(x.k=15/\ackIs x.a=false) then fQ 1 else endP d x.x (edB x) (edE d x t)
def doQ (d:List Ent)(x:TxX)(h t:Int):Out18:=
 if x.k=1\/x.k=2 then coinQ d x else if x.k=3\/x.k=4 then cliQ d x t else if x.k=5\/x.k=6 then begK d x (decide (x.k=6)) t else if x.k=9\/x.k=10 then begH d x (decide (x.k=10)) t
 else if x.k=7\/x.k=8 then opnK d x (decide (x.k=7)) t else if x.k=11\/x.k=12 then opnH d x (decide (x.k=11)) t else if x.k=13 then sndQ d x.x else if x.k=14 then rcvQ d x h t else if x.k=15\/x.k=16 then endQ d x t else fQ 1

attribute [local irreducible] clB enB lateP
end Go.Proofs.YtlmcongmglfaeaaGreatDoor

namespace Go.Proofs.YtlmcongmglfaeaaGreatDoor
open Go Go.RowKit Tw Av
attribute [local irreducible] clB enB lateP coinQ cliQ begK begH opnK opnH sndQ rcvQ endQ
attribute [local irreducible] doQ
end Go.Proofs.YtlmcongmglfaeaaGreatDoor

namespace Go.Proofs.YtlmcongmglfaeaaGreatDoor
open Go Go.RowKit Tw Av
def xF:TxX:=⟨1,[],[],[],[],[],0,⟨[],0,0,zeroH⟩,zeroH,⟨0,[],[],[120],⟨5,by decide⟩,[],[97],0,0⟩,[],0,⟨0,0,[]⟩,⟨0,[],[],⟨0,0,[]⟩,⟨0,0,[]⟩⟩⟩
def xS:TxX:=⟨13,[],[],[],[],[],0,⟨[],0,0,zeroH⟩,zeroH,⟨0,[],[],[120],⟨5,by decide⟩,[],[97],0,0⟩,[],0,⟨0,0,[]⟩,⟨0,[],[],⟨0,0,[]⟩,⟨0,0,[]⟩⟩⟩
def dF:List Ent:=[⟨balK [97] [120],beB 5⟩,⟨totK [120],beB 5⟩]
theorem do_F:doR [] xF 1 1=(dF,rep0):=by kernel_rfl
theorem dF_ok:DOk dF:=⟨by simp [Srt,dF];decide,by intro x hx;simp [dF] at hx;rcases hx with rfl|rfl <;> decide,by decide⟩
theorem do_S:(doR dF xS 1 1).2=repE 12:=by kernel_rfl
theorem bal_F:(getW dF (balK [97] [120]))=⟨5,by decide⟩:=by kernel_rfl
theorem xF_b:TxB xF:=⟨by decide,by decide,by decide,by decide,by decide,by decide,by decide,by decide,by decide,by decide,by decide,by decide,by decide,by decide,by decide⟩
theorem xS_b:TxB xS:=⟨by decide,by decide,by decide,by decide,by decide,by decide,by decide,by decide,by decide,by decide,by decide,by decide,by decide,by decide,by decide⟩
attribute [local irreducible] doR
end Go.Proofs.YtlmcongmglfaeaaGreatDoor

namespace Go.Proofs.YtlmcongmglfaeaaGreatDoor
open Go Go.RowKit Tw Av
def K18 (k:Int):Prop:=k=1\/k=13
attribute [local irreducible] doR callV fundR sndR
set_option maxHeartbeats 4000000 in
theorem fnCoDo18 {d:List Ent}{h t:Int}{x:TxX}:Ans Tryz.prog GL 10 [.agg 1 [.sl 2 (d.map entA) none],txA x,int h,int t] (DOk d/\TxB x/\K18 x.k) (.tup [dA (doR d x h t).1,repA (doR d x h t).2]):=⟨fun hp=>by
 obtain⟨hd,hb,hk⟩:=hp
 have hq:DOk d/\TxB x:=⟨hd,hb⟩
 refine qE Tryz.func10 rfl Tryz.ntmps10 rfl (fun _ hs=>?_)
 repeat' first|refine Zz ?_|intro _
 rcases hk with h|h
 ·rw [h,call1,do1 h]
  repeat' first|refine Zz ?_|intro _
  refine al_fnNF (by kernel_rfl) ?_
  repeat' first|refine Zz ?_|intro _
  refine reE ?_
  rfl
 ·rw [h,call13,do13 h]
  repeat' first|refine Zz ?_|intro _
  refine al_fnNF (by kernel_rfl) ?_
  repeat' first|refine Zz ?_|intro _
  refine reE ?_
  rfl⟩
set_option maxRecDepth 100000 in
set_option maxHeartbeats 2000000 in
instance fnAwake18z:Ans Tryz.prog GL 7 [] True (boo true):=⟨fun _=>by
 haveI hDoI:∀ {d:List Ent} {h t:Int} {x:TxX},Ans Tryz.prog GL 10 [.agg 1 [.sl 2 (d.map entA) none],txA x,int h,int t] (DOk d/\TxB x/\K18 x.k) (.tup [dA (doR d x h t).1,repA (doR d x h t).2]):=fnCoDo18
 refine qE Tryz.func7 rfl Tryz.ntmps7 rfl (fun _ hs=>?_)
 repeat' first|refine Zz ?_|intro _
 refine al_as 13 (v':=dA []) (show Imp (.agg 1 [.lit (.slice none 0 0)]) (.agg 1 [.sl 2 [] none]) from ImpR.imp) ?_
 refine al_as 14 (v':=txA xF) ?_ ?_
 ·show Imp _ (.agg 100 [int 1,str [],str [],str [],str [],str [],int 0,.agg 35 [str [],int 0,int 0,hA zeroH],hA zeroH,.agg 12 [int 0,str [],str [],.agg 7 [str [120],.agg 4 [.lit (.int .u64 5),.lit (.int .u64 0),.lit (.int .u64 0),.lit (.int .u64 0)],str [],str [97]],int 0,int 0],str [],int 0,.agg 3 [int 0,int 0,.sl 32 [] none],.agg 9 [int 0,.sl 2 [] none,.sl 2 [] none,.agg 3 [int 0,int 0,.sl 32 [] none],.agg 3 [int 0,int 0,.sl 32 [] none]]])
  exact ImpR.imp
 have hp:DOk []/\TxB xF/\K18 xF.k:=⟨.nil,xF_b,.inl rfl⟩
 refine al_callI [.agg 1 [.sl 2 (([]:List Ent).map entA) none],txA xF,int 1,int 1] (hc:=hDoI) (hp:=hp) ?_
 rw [do_F]
 repeat' first|refine Zz ?_|intro _
 refine al_as 21 (v':=txA xS) ?_ ?_
 ·show Imp _ (.agg 100 [int 13,str [],str [],str [],str [],str [],int 0,.agg 35 [str [],int 0,int 0,hA zeroH],hA zeroH,.agg 12 [int 0,str [],str [],.agg 7 [str [120],.agg 4 [.lit (.int .u64 5),.lit (.int .u64 0),.lit (.int .u64 0),.lit (.int .u64 0)],str [],str [97]],int 0,int 0],str [],int 0,.agg 3 [int 0,int 0,.sl 32 [] none],.agg 9 [int 0,.sl 2 [] none,.sl 2 [] none,.agg 3 [int 0,int 0,.sl 32 [] none],.agg 3 [int 0,int 0,.sl 32 [] none]]])
  exact ImpR.imp
 have hp2:DOk dF/\TxB xS/\K18 xS.k:=⟨dF_ok,xS_b,.inr rfl⟩
 have hp3:=dF_ok
 have hp4:dF.length=2:=rfl
 refine al_callI [.agg 1 [.sl 2 (dF.map entA) none],txA xS,int 1,int 1] (hc:=hDoI) (hp:=hp2) ?_
 rw [do_S]
 repeat' first|refine Zz ?_|intro _
 rw [bal_F]
 repeat' first|refine Zz ?_|intro _
 refine reE ?_
 rfl⟩
end Go.Proofs.YtlmcongmglfaeaaGreatDoor

namespace Go.Proofs.YtlmcongmglfaeaaGreatDoor
open Go Go.RowKit Tw Av
theorem wTx_b {N:Nat}{a b:SideX}{s:StpX}(hN:N<=1000)(ha:SOk N a)(hb:SOk N b):TxB (wTx a b s):=by
 unfold wTx
 split
 ·exact txX_b hb ha hN _ _
 ·exact txX_b ha hb hN _ _
theorem wTx_pk {N:Nat}{a b:SideX}{s:StpX}(hN:N<=1000)(ha:SOk N a)(hb:SOk N b):PkB (wTx a b s).x:=by
 unfold wTx
 split
 ·exact txX_pk hb ha hN _ _
 ·exact txX_pk ha hb hN _ _
section
variable {P:Program} {N:Nat} {Q:Exit->Act->World->Prop} {s:Av.Base} {e:Av.Env}
theorem ac_rot {c:Code}(B r:List Av.Piece)(h:AC P N c Q s e (r++B)):AC P N c Q s e (B++r):=AC.mk fun ok w a hS ha=>h.run ok w a (hS.perm List.perm_append_comm) ha
end
attribute [local instance] fnCoDo18
set_option pp.maxSteps 200000 in
set_option maxHeartbeats 4000000 in
instance fnCoreNext {l:List Int}{id:Option Value}:Ans Tryz.prog GL 5 [.sl 1 (l.map int) id] True (boo true):=⟨fun _=>by
 have hlm:(l.map int).length=l.length:=llm _
 refine qE Tryz.func5 rfl Tryz.ntmps5 rfl (fun _ hs=>?_)
 repeat' first|refine Zz ?_|intro _
 refine al_callK (args:=[]) [] _ (by rw [hs];exact fnWOpened) (fun u m1 hh=>?_) lpr
 obtain⟨p0,t0,p1,t1,rfl,rfl⟩:=hh
 refine al_rot _ _ ?_
 repeat' first|refine Zz ?_|intro _
 rename_i g4
 refine ac_loop (α:=Nat × Nat × SideX × IdS) (fun q=>[(0,.sl 1 (l.map int) id),(2,.lit (.bool false)),(3,boo true),(4,ptr g4),(5,int q.2.1),(6,int q.1)]) (fun q=>[.var g4 33 (wdA q.2.2.1 (opeS true) q.2.2.2 (idP p1 t1))]++(tlS q.2.2.2++tlS (idP p1 t1))) (fun q=>q.1<=12/\q.1<=l.length/\q.2.1<=q.1/\Snt q.2.1 q.2.2.1.d/\SOk q.1 q.2.2.1) (fun q=>12 - q.1) (0,0,opeS false,idP p0 t0) ⟨rfl,rfl,rfl,rfl,rfl,rfl,trivial⟩ slr ⟨Nat.zero_le _,Nat.zero_le _,Nat.zero_le _,snt0,opeS_ok false⟩ ?_
 rintro⟨i,n,a,I⟩ ⟨h1,h2,h3,h4,h5⟩
 dsimp only at h1 h2 h3 h4 h5 ⊢
 have hdl:a.d.length<=2000:=h4.ok.l
 have hdo:dictOf a.d=a.d:=h4.ok.id
 by_cases hlt:(i:Int) < l.length
 ·by_cases h12:(i:Int) < 12
  ·have hil:i < l.length:=by omega
   have hb:SOk i (opeS true):=(opeS_ok true).mono (Nat.zero_le _)
   have hN:∃ N,N<=1000/\SOk N a/\SOk N (opeS true):=⟨i,by omega,h5,hb⟩
   have hd:=h4.ok
   have hX:=nx_tx (a:=a) (b:=opeS true) (v:=l[i]) (i:=(i:Int))
   rw [nx_kn h4] at hX
   have hpk:=nx_pk (i:=(i:Int)) (v:=l[i] % 8) (lt:=(opeS true).t)
   have hXb:=wTx_b (s:=⟨0,10,0,l[i],(i:Int),0⟩) (by omega:i<=1000) h5 hb
   have hXk:(wTx a (opeS true) ⟨0,10,0,l[i],(i:Int),0⟩).k=13:=by rw [hX];rfl
   have hXx:(wTx a (opeS true) ⟨0,10,0,l[i],(i:Int),0⟩).x=pkS (l[i] % 8) ((i:Int) % 4):=by rw [hX];exact hpk
   have hK:K18 (wTx a (opeS true) ⟨0,10,0,l[i],(i:Int),0⟩).k:=.inr hXk
   have hDo:doR a.d (wTx a (opeS true) ⟨0,10,0,l[i],(i:Int),0⟩) 2 1=sndR a.d (pkS (l[i] % 8) ((i:Int) % 4)):=by
    unfold doR
    rw [hXk,hXx]
    rfl
   obtain⟨S,hS,hXb,hXk,hXx,hK,hDo⟩:∃ S:StpX,S=⟨0,10,0,l[i],(i:Int),0⟩/\TxB (wTx a (opeS true) S)/\(wTx a (opeS true) S).k=13/\(wTx a (opeS true) S).x=pkS (l[i] % 8) ((i:Int) % 4)/\K18 (wTx a (opeS true) S).k/\doR a.d (wTx a (opeS true) S) 2 1=sndR a.d (pkS (l[i] % 8) ((i:Int) % 4)):=⟨_,rfl,hXb,hXk,hXx,hK,hDo⟩
   have hS6:AV.agg 6 [int 0,int 10,int 0,int l[i],int i,int 0]=stpA S:=by rw [hS]
   repeat' first|refine Zz ?_|intro _
   rename_i g7
   refine al_asV (g:=g7) (v':=stpA S) (by rw [<- hS6];exact fun _ _ _ h=>h) ?_
   refine al_as 36 (v':=stpA S) (by rw [<- hS6];exact fun _ _ _ h=>h) ?_
   refine al_callP hN ?_
   have hCo:DOk a.d/\TxB (wTx a (opeS true) S)/\K18 (wTx a (opeS true) S).k:=⟨hd,hXb,hK⟩
   repeat' first|refine Zz ?_|intro _
   rw [hdo]
   iterate 4 refine ob1 ?_
   apply obl_float [61,59];kernel_rfl;kernel_rfl;kernel_rfl;exact⟨⟨_,inferInstance⟩,⟨_,inferInstance⟩,trivial⟩;intro g9
   apply obl_float [61,59];kernel_rfl;kernel_rfl;kernel_rfl;exact⟨⟨_,inferInstance⟩,⟨_,inferInstance⟩,trivial⟩;intro g10
   apply obl_writeN [13];exact rfl;exact rfl;kernel_rfl
   ·intro _ _
    refine al_store ?_
    exact al_nil (ae_gotN rfl)
   ·exact rfl
   ·exact rfl
   apply obl_writeN [14];exact rfl;exact rfl;kernel_rfl
   ·intro _ _
    refine al_store ?_
    exact al_nil (ae_gotN rfl)
   ·exact rfl
   ·exact rfl
   rw [hDo]
   repeat' first|refine Zz ?_|intro _
   refine ac_rot [_,_,_,_,_,_,_,_,_,_,_,_,_,_] [_,_] ?_
   have hdS:DOk (sndR a.d (pkS (l[i] % 8) ((i:Int) % 4))).1:=by rw [<- hDo];exact doR_dok hd
   have hdL:=hdS.l
   have hv:0<=l[i] % 8/\l[i] % 8<=7:=by omega
   have hti:0<=(i:Int) % 4/\(i:Int) % 4<=3:=by omega
   have hcw:(0<=cmpW (getW a.d (balK [97,110,110] [120])) (wTx a (opeS true) S).x.a)↔¬ (getW a.d bKy).n < (1 + l[i] % 8).toNat:=by
    rw [hXx]
    show (0<=cmpW (getW a.d bKy) (wOf (1 + l[i] % 8).toNat))↔_
    unfold cmpW
    rw [wOf_n (by omega)]
    repeat' split
    all_goals (constructor <;> intro h <;> omega)
   by_cases hw:(getW a.d bKy).n < (1 + l[i] % 8).toNat
   ·have hr:=snt_no h4 (by omega) hv hti hw
    rw [dZ (show ¬ (0<=cmpW (getW a.d (balK [97,110,110] [120])) (wTx a (opeS true) S).x.a) from fun h=>hcw.1 h hw),hr]
    show AC _ _ _ _ _ ((64,boo (!decide (decide ((16:Int)=0)=false)))::_) _
    rw [show (!decide (decide ((16:Int)=0)=false))=false from rfl,show failR a.d 16=(a.d,repE 16) from rfl]
    repeat' first|refine Zz ?_|intro _
    apply obl_fresh [6,7,8,9,10,11,12,13,14,15];exact rfl;exact rfl;exact rfl;kernel_rfl;intro _ hg
    refine al_callK (args:=[wdA a (opeS true) I (idP p1 t1),stpA S,txA (wTx a (opeS true) S),.sl 2 (a.d.map entA) none,repA (repE 16)]) (tlS I++tlS (idP p1 t1)) _ (by rw [hg];exact fnWAfter0 (N:=i) (by rw [hS];rfl) (by omega) h5 hd (wTx_pk (by omega) h5 hb)) (fun u m1 hu=>?_) lpr
    obtain⟨I',rfl,rfl⟩:=hu
    refine al_nil (ae_fresh (tlS I'++tlS (idP p1 t1)) [] rfl rfl lpr rfl ?_)
    have hA:aftX a S.t (wTx a (opeS true) S) a.d (repE 16)=a:=by
     unfold aftX
     rw [if_neg (by rw [hXk];decide),if_pos (by decide)]
    rw [hA]
    repeat' first|refine Zz ?_|intro _
    refine ae_round (i + 1,n,a,I') ⟨rfl,rfl,rfl,rfl,rfl,rfl,trivial⟩ ?_ ⟨by show i + 1<=12;omega,by show i + 1<=l.length;omega,by show n<=i + 1;omega,h4,h5.mono (Nat.le_succ i)⟩ (by show 12 - (i + 1) < 12 - i;omega)
    exact sbl
   ·obtain⟨hr,hs2⟩:=snt_yes h4 (by omega) hv hti hw
    rw [dT (hcw.2 hw),hr]
    show AC _ _ _ _ _ ((64,boo (!decide (decide ((0:Int)=0)=true)))::_) _
    rw [show (!decide (decide ((0:Int)=0)=true))=false from rfl]
    repeat' first|refine Zz ?_|intro _
    generalize hE:sndR a.d (pkS (l[i] % 8) ((i:Int) % 4))=R at *
    have hq1:(gO R.1 (kyW [80] [99,97] ((n:Int) + 1))).isSome=true:=by
     have h:=hs2.p (n + 1) (by omega) (by omega)
     rw [dT (Nat.le_refl _)] at h
     exact h
    have hq2:(gO R.1 (kyW [80] [99,97] ((n:Int) + 1 + 1))).isSome=false:=by
     have h:=hs2.p (n + 2) (by omega) (by omega)
     rw [dZ (by omega)] at h
     exact h
    have hq3:nxR R.1 [99,97]=(n:Int) + 1 + 1:=hs2.nx
    have hdR:=hs2.ok
    rw [hq1,hq2]
    repeat' first|refine Zz ?_|intro _
    apply obl_fresh [6,7,8,9,10,11,12,13,14,15];exact rfl;exact rfl;exact rfl;kernel_rfl;intro _ hg
    refine al_callK (args:=[wdA a (opeS true) I (idP p1 t1),stpA S,txA (wTx a (opeS true) S),.sl 2 (R.1.map entA) none,repA ⟨0,(n:Int) + 1,[]⟩]) (tlS I++tlS (idP p1 t1)) _ (by rw [hg];exact fnWAfter0 (N:=i) (by rw [hS];rfl) (by omega) h5 hdR (wTx_pk (by omega) h5 hb)) (fun u m1 hu=>?_) lpr
    obtain⟨I',rfl,rfl⟩:=hu
    refine al_nil (ae_fresh (tlS I'++tlS (idP p1 t1)) [] rfl rfl lpr rfl ?_)
    have hA:(aftX a S.t (wTx a (opeS true) S) R.1 ⟨0,(n:Int) + 1,[]⟩).d=R.1:=by
     unfold aftX
     rw [if_neg (by rw [hXk];decide),if_neg (fun h=>h rfl),if_pos hXk]
    have hO:SOk (i + 1) (aftX a S.t (wTx a (opeS true) S) R.1 ⟨0,(n:Int) + 1,[]⟩):=aftX_ok h5 (wTx_pk (by omega) h5 hb) hdR (by constructor <;> simp <;> omega)
    generalize aftX a S.t (wTx a (opeS true) S) R.1 ⟨0,(n:Int) + 1,[]⟩=A at *
    repeat' first|refine Zz ?_|intro _
    refine ae_round (i + 1,n + 1,A,I') ⟨rfl,rfl,rfl,rfl,rfl,rfl,trivial⟩ ?_ ⟨by show i + 1<=12;omega,by show i + 1<=l.length;omega,by show n + 1<=i + 1;omega,by show Snt (n + 1) A.d;rw [hA];exact hs2,hO⟩ (by show 12 - (i + 1) < 12 - i;omega)
    exact sbl
  ·repeat' first|refine Zz ?_|intro _
   rw [hdo]
   have hd:=h4.ok
   repeat' first|refine Zz ?_|intro _
   refine reE ?_
   exact congrArg boo (dT h4.nx)
 ·repeat' first|refine Zz ?_|intro _
  rw [hdo]
  have hd:=h4.ok
  repeat' first|refine Zz ?_|intro _
  refine reE ?_
  exact congrArg boo (dT h4.nx)⟩
end Go.Proofs.YtlmcongmglfaeaaGreatDoor
