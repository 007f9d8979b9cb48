/- . -/
import Derived.Test.YtocpacdnjbjjmaaGreatDoorS25
set_option maxHeartbeats 64000000
namespace Go.Proofs.YtocpacdnjbjjmaaGreatDoor
open Go Go.RowKit Tw Av Go.Proofs.Tryz
abbrev cZ (m:MkX):AV:=.agg 3 [int m.e,int m.b,int m.c]
def LW (m:MkX)(i:Nat):Nat:=if i=0 then m.e.toNat else if i=1 then m.b.toNat else m.c.toNat
def Dv (m:MkX)(j:Nat):UInt8:=UInt8.ofNat (dg (LW m (j / 8)) (7-j%8))
def gL (F:Nat->UInt8):Bs:=(List.range 64).map F
def fP (m:MkX)(i k:Nat):Nat->UInt8:=fun j=>if j<8*i\/(8*i+8-k<=j/\j<8*i+8) then Dv m j else 0
theorem WR (F:Nat->UInt8):(gL F).length=64:=by simp[gL]
theorem a7k {F G:Nat->UInt8}{j:Nat}{v:UInt8}(h1:G j=v)(h2:∀ i,i≠j->G i=F i):(gL F).set j v=gL G:=by
 apply List.ext_getElem
 ·simp[gL]
 ·intro i a b;rw[List.getElem_set];simp only[gL,List.getElem_map,List.getElem_range];by_cases h:j=i
  ·subst h;rw[if_pos rfl,h1]
  ·rw[if_neg h,h2 i (fun e=>h e.symm)]
theorem a7l {F G:Nat->UInt8}(h:∀ i,i<64->F i=G i):gL F=gL G:=List.map_congr_left fun i hi=>h i (List.mem_range.1 hi)
theorem a4Y {m:MkX}{i k:Nat}(hk:k<8):(gL (fP m i k)).set (8*i+7-k) (UInt8.ofNat (LW m i / 256 ^ k))=gL (fP m i (k+1)):=by
 refine a7k ?_ ?_
 ·unfold fP;rw[if_pos (.inr ⟨om,om⟩)];unfold Dv;rw[show (8*i+7-k) / 8=i by omega,show 7-(8*i+7-k)%8=k by omega];unfold dg;apply UInt8.toNat_inj.1;rw[UInt8.toNat_ofNat',UInt8.toNat_ofNat'];omega
 ·intro j hj;unfold fP;by_cases h:j<8*i\/(8*i+8-k<=j/\j<8*i+8)
  ·rw[if_pos h,if_pos om]
  ·rw[if_neg h,if_neg om]
theorem a5a {m:MkX}{i:Nat}:gL (fP m i 8)=gL (fP m (i+1) 0):=a7l fun j _=>by
 unfold fP;by_cases h:j<8*i\/(8*i+8-8<=j/\j<8*i+8)
 ·rw[if_pos h,if_pos om]
 ·rw[if_neg h,if_neg om]
theorem a4Z {m:MkX}:uH (gL (fP m 3 0)) 56 0 8=J9 m:=rfl
instance b4P {m:MkX}:Ans prog GL 105 [cZ m] (MkB m) (str (J9 m)):=⟨fun hm=>by
 have he:=hm.e;have hb:=hm.b;have hc:=hm.c;refine qE func105 rfl ntmps105 rfl (fun _ hs=>?_);repeat' first|refine Zz ?_|intro _
 rename_i g1 g3;refine gM (g:=g3) (v':=.agg 64 ((gL (fP m 0 0)).map p9)) (fun ok w cs h=>h) ?_;refine z8 (α:=Nat) (fun i=>[(3,ptr g3),(13,.agg 3 [int m.e,int m.b,int m.c]),(14,int i)]) (fun i=>[.var g3 226 (.agg 64 ((gL (fP m i 0)).map p9))]) (fun i=>i<=3) (fun i=>3-i) 0 ⟨rfl,rfl,rfl,trivial⟩ (by repeat (first|exact List.nil_sublist _|exact List.Sublist.refl _|apply List.Sublist.cons_cons|apply List.Sublist.cons)) (Nat.zero_le _) ?_;intro i hi;by_cases hi':i<3
 rotate_left
 ·obtain rfl:i=3:=by omega
  repeat' first|refine Zz ?_|intro _
  apply u7 [];exact rfl;exact rfl;kernel_rfl
  ·intro _ _;refine Pz 56 64 ?_;exact j4 (o7 rfl rfl)
  apply u7 [];exact rfl;exact rfl;kernel_rfl
  ·intro _ _;refine Pz 0 8 ?_;exact j4 (o7 rfl rfl)
  apply jE [0];exact rfl;exact rfl;kernel_rfl
  ·intro _ _;refine a8m (l:=gL (fP m 3 0)) 8 rfl ?_ (h1:=by rw[WR];decide) (h2:=by rw[WR];decide);exact j4 (o7 rfl rfl)
  ·exact rfl
  ·exact rfl
  rw[a4Z];repeat' first|refine Zz ?_|intro _
  refine d9 ?_;rfl
 have hnm:∃ n:Int,[int m.e,int m.b,int m.c][i]?=some (int n)/\(LW m i:Int)=n/\0<=n:=by
  rcases i with _|_|_|i
  ·exact⟨m.e,rfl,Int.toNat_of_nonneg he.1,he.1⟩
  ·exact⟨m.b,rfl,Int.toNat_of_nonneg hb.1,hb.1⟩
  ·exact⟨m.c,rfl,Int.toNat_of_nonneg hc.1,hc.1⟩
  ·omega
 obtain⟨n,hn1,hn2,hn3⟩:=hnm;repeat' first|refine Zz ?_|intro _
 refine Qi (nn:=3) (ps:=[int m.e,int m.b,int m.c]) i ?_ rfl hi' hn1 (by simp[AV.size]) rfl;repeat' first|refine Zz ?_|intro _
 refine z8 (α:=Nat) (fun k=>[(3,ptr g3),(13,.agg 3 [int m.e,int m.b,int m.c]),(14,int i),(4,int i),(5,int n),(18,int k)]) (fun k=>[.var g3 226 (.agg 64 ((gL (fP m i k)).map p9))]) (fun k=>k<=8) (fun k=>8-k) 0 ⟨rfl,rfl,rfl,rfl,rfl,rfl,trivial⟩ slr (Nat.zero_le _) ?_;intro k hk;by_cases hk':k<8
 rotate_left
 ·obtain rfl:k=8:=by omega
  rw[a5a];repeat' first|refine Zz ?_|intro _
  exact o6 (i+1) ⟨rfl,rfl,rfl,trivial⟩ slr hi' om
 have hst:=a4Y (m:=m) (i:=i) hk';have hml:((gL (fP m i k)).map p9).length=64:=by rw[llm,WR]
 repeat' first|refine Zz ?_|intro _
 refine nL 28 (v:=int (max n 0)) (v':=int (LW m i:Nat)) (Imp.of_eq (by rw[hn2,Int.max_eq_left hn3])) ?_;refine IP (k:=.i64) (n:=8*k) ?_ (hb:=by show (8:Int)*k=((8*k:Nat):Int);omega) (hn:=Nat.ble_eq_true_of_le (show 8*k<=64 by omega));rw[KZ,<- Int.natCast_ediv];refine CR ?_;rw[JN];refine O8 (8*i+7-k) ?_;refine lU (j:=8*i+7-k) (by rw[hml];omega) ?_;rw[<- List.map_set,hst];repeat' first|refine Zz ?_|intro _
 exact o6 (k+1) ⟨rfl,rfl,rfl,rfl,rfl,rfl,trivial⟩ slr hk' om⟩
attribute [local irreducible] J9
def cB (s:Bs)(j:Nat):Nat:=pO ((s.drop (8*j)).take 8)
theorem KT (s:Bs):qR s=⟨cB s 0,cB s 1,cB s 2⟩:=rfl
abbrev BG (s:Bs)(i:Nat):List AV:=[int (if 0<i then cB s 0 else 0:Nat),int (if 1<i then cB s 1 else 0:Nat),int (if 2<i then cB s 2 else 0:Nat)]
theorem a1T {s:Bs}{i:Nat}(h:i<3):(BG s i).set i (int (cB s i))=BG s (i+1):=by
 rcases i with _|_|_|i
 ·rfl
 ·rfl
 ·rfl
 ·omega
theorem JK {s:Bs}{i:Nat}(h:i<3)(hn:¬ (cB s i:Int)<=1099511627776):Q4 s=none:=by
 unfold Q4;rw[if_neg];rintro⟨_,h2,_⟩;rw[KT] at h2;have:=of_decide_eq_true h2;rcases i with _|_|_|i
 ·exact hn this.1
 ·exact hn this.2.1
 ·exact hn this.2.2
 ·omega
instance b4N {s:Bs}:Ans prog GL 121 [str s] True (.tup [cZ ((Q4 s).getD iH),j3 (Q4 s).isSome]):=⟨fun _=>by
 refine qE func121 rfl ntmps121 rfl (fun _ hs=>?_);repeat' first|refine Zz ?_|intro _
 by_cases h64:s.length=64
 rotate_left
 ·have hu:Q4 s=none:=by
   unfold Q4;rw[if_neg (fun h=>h64 h.1)]
  rw[hu];repeat' first|refine Zz ?_|intro _
  refine d9 ?_;rfl
 repeat' first|refine Zz ?_|intro _
 rename_i g2 g4;refine z8 (α:=Nat) (fun i=>[(0,str s),(2,ptr g2),(4,ptr g4),(5,j3 true),(15,int i)]) (fun i=>[.var g4 227 (.agg 3 (BG s i)),.var g2 134 (cZ iH)]) (fun i=>i<=3/\∀ j,j<i->cB s j<=1099511627776) (fun i=>3-i) 0 ⟨rfl,rfl,rfl,rfl,rfl,trivial⟩ slr ⟨Nat.zero_le _,fun j h=>absurd h om⟩ ?_;rintro i ⟨hi,hN⟩;by_cases hi':i<3
 rotate_left
 ·obtain rfl:i=3:=by omega
  have h0:=hN 0 om;have h1:=hN 1 om;have h2:=hN 2 om;obtain⟨M,hM⟩:∃ M,qR s=M:=⟨_,rfl⟩;have hB:MkB M:=by
   rw[<- hM];exact⟨by rw[KT];dsimp only;omega,by rw[KT];dsimp only;omega,by rw[KT];dsimp only;omega⟩
  have hok:LJ (qR s)=true:=by
   rw[hM];exact dT ⟨hB.e.2,hB.b.2,hB.c.2⟩
  have hu:Q4 s=if J9 M=s then some M else none:=by
   unfold Q4;rw[hM] at hok ⊢;by_cases h:J9 M=s
   ·rw[if_pos ⟨h64,hok,h⟩,if_pos h]
   ·rw[if_neg (fun e=>h e.2.2),if_neg h]
  have hA:AV.agg 3 (BG s 3)=cZ M:=by
   rw[<- hM];rfl
  rw[hA];repeat' first|refine Zz ?_|intro _
  rw[hu];refine o9 (fun h=>?_) (fun h=>?_)
  ·rw[if_neg h];repeat' first|refine Zz ?_|intro _
   refine d9 ?_;rfl
  ·rw[if_pos (Classical.not_not.1 h)];repeat' first|refine Zz ?_|intro _
   refine d9 ?_;rfl
 repeat' first|refine Zz ?_|intro _
 refine Q7 (8*i) (8*i+8) ?_;have hc:((s.take (8*i+8)).drop (8*i)).length=8:=by rw[List.length_drop,List.length_take];omega
 have hnm:cB s i=bB ((s.take (8*i+8)).drop (8*i)) 8:=by
  unfold cB pO bB;rw[List.drop_take,show 8*i+8-8*i=8 by omega,List.take_take,Nat.min_self]
 generalize (s.take (8*i+8)).drop (8*i)=c at *;have hmc:(c.map fun c=>AV.lit (j6 c)).length=8:=by rw[llm,hc]
 repeat' first|refine Zz ?_|intro _
 refine z8 (α:=Nat) (fun k=>[(0,str s),(2,ptr g2),(4,ptr g4),(5,j3 true),(15,int i),(6,int i),(7,.lit (.int .u64 (bB c k))),(25,.sl 1 (c.map fun c=>.lit (j6 c)) none),(26,int ((c.map fun c=>AV.lit (j6 c)).length)),(27,int k)])
  (fun k=>[.var g4 227 (.agg 3 (BG s i)),.var g2 134 (cZ iH)]) (fun k=>k<=8) (fun k=>8-k) 0 ⟨rfl,rfl,rfl,rfl,rfl,rfl,rfl,rfl,rfl,rfl,trivial⟩ slr (Nat.zero_le _) ?_
 intro k hk;by_cases hk':k<8
 ·have hkc:k<c.length:=om
  have hst:=MH hkc;have hlt8:=MI c k;have hlt9:=MI c (k+1);have hpw:256 ^ (k+1)<=18446744073709551616:=Nat.pow_le_pow_right (n:=256) (j:=8) dc om;have hby:=c[k].toNat_lt;repeat' first|refine Yz ?_|intro _
  refine M6 7 (v:=.lit (.int .u64 ((bB c k:Int)*256+c[k].toNat))) (v':=.lit (.int .u64 (bB c (k+1)))) (Imp.of_eq (by rw[hst,Int.natCast_add,Int.natCast_mul];rfl)) ?_;exact o6 (k+1) ⟨rfl,rfl,rfl,rfl,rfl,rfl,rfl,rfl,rfl,rfl,trivial⟩ slr hk' om
 ·obtain rfl:k=8:=by omega
  rw[<- hnm];by_cases hn:cB s i<=1099511627776
  ·repeat' first|refine Zz ?_|intro _
   refine O8 i ?_;refine lU (ps:=BG s i) (j:=i) (show i<3 from hi') ?_;rw[a1T hi'];repeat' first|refine Zz ?_|intro _
   refine M6 5 (v:=j3 (decide ((cB s i:Int)<=1099511627776))) (v':=j3 true) (Imp.of_eq (by rw[dT om])) ?_;refine o6 (i+1) ⟨rfl,rfl,rfl,rfl,rfl,trivial⟩ slr ⟨hi',fun j hj=>?_⟩ om;by_cases e:j=i
   ·rw[e];exact hn
   ·exact hN j om
  ·rw[JK hi' om];repeat' first|refine Zz ?_|intro _
   refine d9 ?_;rfl⟩
attribute [local irreducible] Q4 iH
instance b4Q {a b:Bs}:Ans prog GL 63 [str a,str b] True (cZ (rC a b)):=⟨fun _=>by
 refine qE func63 rfl ntmps63 rfl (fun _ hs=>?_);repeat' first|refine Zz ?_|intro _
 unfold rC;refine o9 (fun h=>?_) (fun h=>?_)
 ·rw[if_pos h];repeat' first|refine Zz ?_|intro _
  refine d9 ?_;rfl
 ·rw[if_neg h];repeat' first|refine Zz ?_|intro _
  refine d9 ?_;rfl⟩
instance b4O {g gm:Nat}{x:DvX}{vw:Value}:AnsM prog GL 64 g [] 91 (uR gm x vw) (0<=x.n/\x.n<=4096) (int (M0 x.n)) (uR gm x vw):=⟨fun hn=>by
 refine qE func64 rfl ntmps64 rfl (fun _ hs=>?_);repeat' first|refine Zz ?_|intro _
 exact o5 _ ⟨rfl,rfl⟩ slr⟩
abbrev EJ (gd:Nat)(s:SlX):AV:=.agg 6 [ptr gd,cZ s.m,str (I5 s.l),j3 s.br]
instance b4R {g gd:Nat}{s:SlX}:AnsM prog GL 95 g [] 148 (EJ gd s) True (j3 s.br) (EJ gd s):=⟨fun _=>by
 refine qE func95 rfl ntmps95 rfl (fun _ hs=>?_);repeat' first|refine Zz ?_|intro _
 cases s.br
 ·repeat' first|refine Zz ?_|intro _
  exact o5 _ ⟨rfl,rfl⟩ slr
 ·repeat' first|refine Zz ?_|intro _
  exact o5 _ ⟨rfl,rfl⟩ slr⟩
structure SlI extends DvI where
 gs:Nat
abbrev N7 (I:SlI)(x:DvX)(s:SlX):List Av.Piece:=.var I.gs 148 (EJ I.gd s)::F4 I.toDvI x
theorem a3X {I:SlI}{x:DvX}{s:SlX}(hn:0<=x.n/\x.n<=4096)(hb:0<=s.m.b/\s.m.b<=1099511627776):Av.Spec prog GL 97 [ptr I.gs] (N7 I x s) fun u m=>u=int (M0 x.n-s.m.b)/\m=N7 I x s:=by
 have hr:-128<=M0 x.n/\M0 x.n<=1000000:=by unfold M0;omega
 refine qE func97 rfl ntmps97 rfl (fun _ hs=>?_);repeat' first|refine Zz ?_|intro _
 exact o5 _ ⟨rfl,rfl⟩ slr
end Go.Proofs.YtocpacdnjbjjmaaGreatDoor

namespace Go.Proofs.YtocpacdnjbjjmaaGreatDoor
open Go Go.RowKit Tw Av Go.Proofs.Tryz
theorem ZE {f1 f2:FuncId}[FnB prog f1][FnB prog f2]{cs1 cs2:List Value}{I:DvI}{x:DvX}{A:List Av.Piece}{D L:DvX->DvX}(hlf:0<=x.lf/\x.lf<=1000000)(hc1:∀ v∈cs1,v.oneCell'=true)(hc2:∀ v∈cs2,v.oneCell'=true)
  (h1:Av.Spec prog GL f1 (cs1.map .lit) (F4 I (I9 x)++A) fun u m=>u=.tup []/\∃ v,m=F4 { I with vw:=v } (D (I9 x))++A) (h2:Av.Spec prog GL f2 (cs2.map .lit) (F4 I (dF x)++A) fun u m=>u=.tup []/\∃ v,m=F4 { I with vw:=v } (L (dF x))++A) :
  Av.Spec prog GL 158 [ptr I.gd,D6 f1 cs1,D6 f2 cs2] (F4 I x++A) fun u m=>u=int (if bL x=false then 14 else 0)/\∃ v,m=F4 { I with vw:=v } (if bL x=false then L (dF x) else D (I9 x))++A:=by
 obtain⟨n,es,ck,ws,on,ar,lf,st⟩:=x;dsimp only at hlf;refine qE func158 rfl ntmps158 rfl (fun _ hs=>?_);unfold bL;dsimp only;cases ar
 ·repeat' first|refine Zz ?_|intro _
  refine yY ?_;repeat' first|refine Zz ?_|intro _
  refine wP (args:=[]) h1 (fun u m1 hh=>?_) (hcs:=hc1);obtain⟨rfl,v,rfl⟩:=hh;repeat' first|refine Zz ?_|intro _
  exact o5 _ ⟨rfl,v,rfl⟩ slr
 ·by_cases hl:lf=0
  ·subst hl;repeat' first|refine Zz ?_|intro _
   refine wP (args:=[]) h2 (fun u m1 hh=>?_) (hcs:=hc2);obtain⟨rfl,v,rfl⟩:=hh;repeat' first|refine Zz ?_|intro _
   exact o5 _ ⟨rfl,v,rfl⟩ slr
  ·rw[dZ hl];repeat' first|refine Zz ?_|intro _
   refine yY ?_;repeat' first|refine Zz ?_|intro _
   refine wP (args:=[]) h1 (fun u m1 hh=>?_) (hcs:=hc1);obtain⟨rfl,v,rfl⟩:=hh;repeat' first|refine Zz ?_|intro _
   exact o5 _ ⟨rfl,v,rfl⟩ slr
abbrev WG (T3 T4 T5:TypeId)(g3 g4 g5:Nat)(gd:Nat)(a:Int)(s:Bs):List Av.Piece:=[.var g5 T5 (str s),.var g4 T4 (int a),.var g3 T3 (ptr gd)]
theorem Jt {I:DvI}{x:DvX}{T3 T4 T5:TypeId}{g3 g4 g5:Nat}{a:Int}{s:Bs}(hl:x.ws.length<=1000000):Av.Spec prog GL 161 [ptr g3,ptr g4,ptr g5] (F4 I x++WG T3 T4 T5 g3 g4 g5 I.gd a s) fun u m=>u=.tup []/\∃ v,m=F4 { I with vw:=v } (bK x (a,s))++WG T3 T4 T5 g3 g4 g5 I.gd a s:=by
 have hm:(x.ws.map jP).length=x.ws.length:=llm _;refine qE func161 rfl ntmps161 rfl (fun _ hs=>?_);repeat' first|refine Zz ?_|intro _
 apply V8 [2];exact rfl;exact rfl;kernel_rfl;kernel_rfl;intro _ _;refine I4 (fun v'=>?_);refine j4 (U4 [.tail 125 2 v'] [] rfl rfl lpr rfl ?_);repeat' first|refine Zz ?_|intro _
 refine fU _ ⟨rfl,v',?_⟩ slr;unfold bK;dsimp only[F4,uR];rw[List.map_append];rfl
attribute [local irreducible] aQ
theorem Jr {I:DvI}{x:DvX}{a:Int}{s:Bs}(hlf:0<=x.lf/\x.lf<=1000000)(hl:x.ws.length<=1000000):Av.Spec prog GL 104 [ptr I.gd,int a,str s] (F4 I x) fun u m=>u=int (K4 x a s).2/\∃ v,m=F4 { I with vw:=v } (K4 x a s).1:=by
 refine qE func104 rfl ntmps104 rfl (fun _ hs=>?_);repeat' first|refine Zz ?_|intro _
 rename_i g3 g4 g5;unfold K4;cases hon:x.on
 ·rw[if_pos rfl];repeat' first|refine Zz ?_|intro _
  refine o5 (F4 I x) ⟨rfl,I.vw,rfl⟩ ?_;exact r9
 rw[if_neg dc];repeat' first|refine Zz ?_|intro _
 cases hh:aQ x a
 ·rw[if_pos (.inl rfl)];repeat' first|refine Zz ?_|intro _
  refine o5 (F4 I x) ⟨rfl,I.vw,rfl⟩ ?_;exact r9
 repeat' first|refine Zz ?_|intro _
 by_cases h64:s.length=64
 ·rw[if_neg (by rintro (h|h);cases h;exact h h64),h64];have hcs:∀ v∈[Value.pointer (some ⟨g3,0,none⟩),.pointer (some ⟨g4,0,none⟩),.pointer (some ⟨g5,0,none⟩)],v.oneCell'=true:=by simp[Value.oneCell']
  repeat' first|refine Zz ?_|intro _
  refine eY (vs:=[.pointer (some ⟨g3,0,none⟩),.pointer (some ⟨g4,0,none⟩),.pointer (some ⟨g5,0,none⟩)]) ?_;repeat' first|refine Zz ?_|intro _
  refine Pw (WG _ _ _ g3 g4 g5 I.gd a s) (F4 I x) ?_;refine R6 (ZE (D:=fun x=>bK x (a,s)) (L:=fun x=>bK x (a,s)) hlf hcs hcs (Jt hl) (Jt hl)) (fun u m1 hh=>?_);obtain⟨rfl,v,rfl⟩:=hh;cases hm:bL x
  ·rw[if_pos rfl,if_pos rfl,if_pos rfl];repeat' first|refine Zz ?_|intro _
   refine o5 (F4 { I with vw:=v } (bK (dF x) (a,s))) ⟨rfl,v,rfl⟩ ?_;exact r9
  ·rw[if_neg dc,if_neg dc,if_neg dc];repeat' first|refine Zz ?_|intro _
   refine o5 (F4 { I with vw:=v } (bK (I9 x) (a,s))) ⟨rfl,v,rfl⟩ ?_;exact r9
 ·rw[if_pos (.inr h64)];repeat' first|refine Zz ?_|intro _
  refine o5 (F4 I x) ⟨rfl,I.vw,rfl⟩ ?_;exact r9
theorem Hq {n:Int}{gm:Nat}{on ar:Bool}{lf st:Int}:ImpC (.agg 7 [int n,uF gm,.lit (.slice none 0 0),j3 on,j3 ar,int lf,int st]) (.agg 7 [int n,uF gm,.sl 2 [] (some (.slice none 0 0)),j3 on,j3 ar,int lf,int st]):=(inferInstance:ImpT _ _).imp
def aO (x:DvX)(k:Nat):DvX:=(x.ws.take k).foldl Y6 x
theorem Jc:∀ (ws:List (Int × Bs)) (x:DvX),(ws.foldl Y6 x).ws=x.ws
 | [],_=>rfl
 | w::ws,x=>Jc ws (Y6 x w)
theorem Gl {x:DvX}{k:Nat}(h:k<x.ws.length):aO x (k+1)=Y6 (aO x k) x.ws[k]:=by
 unfold aO;rw[<- List.take_append_getElem h,List.foldl_append];rfl
theorem a4B {I:DvI}{x:DvX}{T1:TypeId}{g1:Nat}(hl:x.ws.length<=1000000):Av.Spec prog GL 159 [ptr g1] (F4 I x++[.var g1 T1 (ptr I.gd)]) fun u m=>u=.tup []/\∃ v,m=F4 { I with vw:=v } (U9 x)++[.var g1 T1 (ptr I.gd)]:=by
 have hm:(x.ws.map jP).length=x.ws.length:=llm _;refine qE func159 rfl ntmps159 rfl (fun _ hs=>?_);repeat' first|refine Zz ?_|intro _
 rw[hm];refine z8 (α:=Nat) (fun k=>[(0,ptr g1),(6,.sl 2 (x.ws.map jP) (some I.vw)),(7,int x.ws.length),(8,int k)]) (fun k=>F4 I (aO x k)++[.var g1 T1 (ptr I.gd)]) (fun k=>k<=x.ws.length) (fun k=>x.ws.length-k) 0 ⟨rfl,rfl,rfl,rfl,trivial⟩ slr (Nat.zero_le _) ?_;intro k hk;by_cases hk':k<x.ws.length
 ·repeat' first|refine Zz ?_|intro _
  rename_i g2;refine X0 [_] (F4 I (aO x k)) [_] (UZ (w:=x.ws[k])) (fun u m1 hh=>?_);obtain⟨rfl,rfl⟩:=hh;rw[<- Gl hk'];repeat' first|refine Zz ?_|intro _
  exact o6 (k+1) ⟨rfl,rfl,rfl,rfl,trivial⟩ (List.sublist_cons_self _ _) hk' om
 ·obtain rfl:k=x.ws.length:=by omega
  repeat' first|refine Zz ?_|intro _
  refine zA (g:=I.gd) Hq ?_;refine nM (fun ok w h=>h.full 125 2 none 0) ?_;rw[show aO x x.ws.length=x.ws.foldl Y6 x by unfold aO;rw[List.take_length]];refine jO (F4 { I with vw:=.slice none 0 0 } (U9 x)++[.var g1 T1 (ptr I.gd)]) [_,_,_,_] ?_ (List.perm_middle (l₁:=[_,_])) ?_
  ·exact fU _ ⟨rfl,_,rfl⟩ slr
  ·exact r9
instance : FnB prog 160 := ⟨kr⟩
theorem a4A {m:List Av.Piece}:Av.Spec prog GL 160 [] m fun u m'=>u=.tup []/\m'=m:=by
 refine qE func160 rfl ntmps160 rfl (fun _ hs=>?_);repeat' first|refine Zz ?_|intro _
 exact fU _ ⟨rfl,rfl⟩ slr
theorem a4C {I:DvI}{x:DvX}(hlf:0<=x.lf/\x.lf<=1000000)(hl:x.ws.length<=1000000):Av.Spec prog GL 99 [ptr I.gd] (F4 I x) fun u m=>u=int (R5 x).2/\∃ v,m=F4 { I with vw:=v } (R5 x).1:=by
 refine qE func99 rfl ntmps99 rfl (fun _ hs=>?_);repeat' first|refine Zz ?_|intro _
 rename_i g1;unfold R5;cases hon:x.on
 ·rw[if_pos rfl];repeat' first|refine Zz ?_|intro _
  refine o5 (F4 I x) ⟨rfl,I.vw,rfl⟩ ?_;exact r9
 rw[if_neg dc];have hcs:∀ v∈[Value.pointer (some ⟨g1,0,none⟩)],v.oneCell'=true:=by simp[Value.oneCell']
 repeat' first|refine Zz ?_|intro _
 refine eY (vs:=[.pointer (some ⟨g1,0,none⟩)]) ?_;repeat' first|refine Zz ?_|intro _
 refine Pw [_] (F4 I x) ?_;refine R6 (ZE (cs2:=[]) (D:=U9) (L:=fun x=>x) hlf hcs sm (a4B hl) (a4A.mono fun _ _ h=>⟨h.1,I.vw,h.2⟩)) (fun u m1 hh=>?_);obtain⟨rfl,v,rfl⟩:=hh;cases hm:bL x
 ·rw[if_pos rfl,if_pos rfl,if_pos rfl];repeat' first|refine Zz ?_|intro _
  refine o5 (F4 { I with vw:=v } (dF x)) ⟨rfl,v,rfl⟩ ?_;exact r9
 ·rw[if_neg dc,if_neg dc,if_neg dc];repeat' first|refine Zz ?_|intro _
  refine o5 (F4 { I with vw:=v } (U9 (I9 x))) ⟨rfl,v,rfl⟩ ?_;exact r9
theorem Im {k:List Bool}{i:Nat}(h:¬ i<k.length):k.getD i false=false:=by
 rw[List.getD_eq_getElem?_getD,List.getElem?_eq_none om];rfl
theorem NB {k:List Bool}{i:Nat}(h:i<k.length):k.getD i false=k[i]:=by
 rw[List.getD_eq_getElem?_getD,List.getElem?_eq_getElem h];rfl
theorem Ml {k:List Bool}{torn cut:Int}:∀ (l:List (Int × Bs)) (i:Nat) (x:DvX) (w:Int × Bs),iO k torn cut i x (l++[w])=bD (iO k torn cut i x l) k torn cut (i+l.length) w
 | [],_,_,_=>rfl
 | v::l,i,x,w=>by
  show iO k torn cut (i+1) _ (l++[w])=bD (iO k torn cut (i+1) _ l) k torn cut (i+(l.length+1)) w;rw[Ml l,show i+1+l.length=i+(l.length+1) by omega]
def dH (x:DvX)(k:List Bool)(torn cut:Int)(i:Nat):DvX:=iO k torn cut 0 x (x.ws.take i)
theorem Mi {x:DvX}{k:List Bool}{torn cut:Int}{i:Nat}(h:i<x.ws.length):dH x k torn cut (i+1)=bD (dH x k torn cut i) k torn cut i x.ws[i]:=by
 unfold dH;rw[<- List.take_append_getElem h,Ml,List.length_take,Nat.min_eq_left om,Nat.zero_add]
theorem IG {k:List Bool}{torn cut:Int}:∀ (l:List (Int × Bs)) (i:Nat) (x:DvX),(iO k torn cut i x l).n=x.n/\(iO k torn cut i x l).ws=x.ws
 | [],_,_=>⟨rfl,rfl⟩
 | v::l,i,x=>by
  have h:=IG (k:=k) (torn:=torn) (cut:=cut) l (i+1) (bD x k torn cut i v);have e:(bD x k torn cut i v).n=x.n/\(bD x k torn cut i v).ws=x.ws:=by
   unfold bD;split <;> exact⟨rfl,rfl⟩
  exact⟨h.1.trans e.1,h.2.trans e.2⟩
theorem Ju {I:DvI}{x:DvX}{k:List Bool}{torn cut:Int}{xs:List AV}{id:Option Value}(hx:DvOk x)(hw:∀ w∈x.ws,0<=w.1/\w.1<x.n)(hn:x.n≠0)(hl:x.ws.length<=1000000)(hk:xs=k.map j3):Av.Spec prog GL 26 [ptr I.gd,.sl 1 xs id,int torn,int cut] (F4 I x) fun u m=>u=.tup []/\∃ v,m=F4 { I with vw:=v } (S9 x k torn cut):=by
 subst hk;have hm:(x.ws.map jP).length=x.ws.length:=llm _;have hmk:(k.map j3).length=k.length:=llm _;refine qE func26 rfl ntmps26 rfl (fun _ hs=>?_);repeat' first|refine Zz ?_|intro _
 rw[dZ hn];repeat' first|refine Zz ?_|intro _
 rw[hm];refine z8 (α:=Nat) (fun i=>[(0,ptr I.gd),(1,.sl 1 (k.map j3) id),(2,int torn),(3,int (min (max cut 0) 64)),(25,.sl 2 (x.ws.map jP) (some I.vw)),(26,int x.ws.length),(27,int i)]) (fun i=>F4 I (dH x k torn cut i)) (fun i=>i<=x.ws.length) (fun i=>x.ws.length-i) 0 ⟨rfl,rfl,rfl,rfl,rfl,rfl,rfl,trivial⟩ slr (Nat.zero_le _) ?_;intro i hi;by_cases hi':i<x.ws.length
 ·have hs2:=Mi (k:=k) (torn:=torn) (cut:=cut) hi';have h64:x.ws[i].2.length=64:=hx.wl _ (List.getElem_mem hi');have hn2:(dH x k torn cut i).n=x.n:=(IG _ _ _).1;have hy:DvOk (dH x k torn cut i):=NN hx fun w hw=>hx.wl w (List.mem_of_mem_take hw);have hh:aQ (dH x k torn cut i) x.ws[i].1=true:=by
   unfold aQ;rw[hn2];exact dT (hw _ (List.getElem_mem hi'))
  have hsl:=vZ hy x.ws[i].1;unfold bD at hs2;generalize dH x k torn cut i=y at *;have hc:((min (max cut 0) 64).toNat:Int)=min (max cut 0) 64:=by omega
  have hc2:(min (max cut 0) 64).toNat<=64:=om
  generalize hC:(min (max cut 0) 64).toNat=C at hc hc2 hs2;by_cases hik:i<k.length
  rotate_left
  ·rw[if_neg (by rw[Im hik];decide)] at hs2;repeat' first|refine Zz ?_|intro _
   refine o6 (i+1) ⟨rfl,rfl,rfl,rfl,rfl,rfl,rfl,trivial⟩ ?_ hi' om;rw[hs2];exact r9
  cases hb:k[i]
  ·rw[if_neg (by rw[NB hik,hb];decide)] at hs2;repeat' first|refine Zz ?_|intro _
   rw[hb];repeat' first|refine Zz ?_|intro _
   refine o6 (i+1) ⟨rfl,rfl,rfl,rfl,rfl,rfl,rfl,trivial⟩ ?_ hi' om;rw[hs2];exact r9
  rw[if_pos (by rw[NB hik,hb])] at hs2;repeat' first|refine Zz ?_|intro _
  rw[hb];repeat' first|refine Zz ?_|intro _
  by_cases ht:(i:Int)=torn
  ·rw[if_pos ht] at hs2;repeat' first|refine Zz ?_|intro _
   apply u7 [];exact rfl;exact rfl;kernel_rfl
   ·intro _ _;refine Q7 0 C ?_ (h2:=hc.symm) (h4:=by omega);exact j4 (o7 rfl rfl)
   repeat' first|refine Zz ?_|intro _
   apply u7 [1,2,3];exact rfl;exact rfl;kernel_rfl
   ·intro _ _;refine R6 (Js (I:=I) (x:=y) (a:=x.ws[i].1)) (fun u m1 hu=>?_);obtain⟨rfl,rfl⟩:=hu;rw[if_pos hh];exact j4 (o7 rfl rfl)
   repeat' first|refine Zz ?_|intro _
   apply u7 [];exact rfl;exact rfl;kernel_rfl
   ·intro _ _;refine Q7 C 64 ?_ (h1:=hc.symm) (h2:=by rw[hsl]) (h4:=by omega);exact j4 (o7 rfl rfl)
   repeat' first|refine Zz ?_|intro _
   refine X0 [_] (F4 I y) [] (UZ (w:=(x.ws[i].1,(x.ws[i].2.take C).drop 0++((D9 y x.ws[i].1).take 64).drop C))) (fun u m1 hu=>?_);obtain⟨rfl,rfl⟩:=hu;rw[List.drop_zero,List.take_of_length_le (show (D9 y x.ws[i].1).length<=64 by omega),<- hs2];repeat' first|refine Zz ?_|intro _
   refine o6 (i+1) ⟨rfl,rfl,rfl,rfl,rfl,rfl,rfl,trivial⟩ ?_ hi' om;exact r9
  ·rw[if_neg ht] at hs2;repeat' first|refine Zz ?_|intro _
   rename_i g9;refine X0 [_] (F4 I y) [] (UZ (w:=x.ws[i])) (fun u m1 hh=>?_);obtain⟨rfl,rfl⟩:=hh;rw[show ((x.ws[i].1,x.ws[i].2):Int × Bs)=x.ws[i] from rfl] at hs2;rw[<- hs2];repeat' first|refine Zz ?_|intro _
   refine o6 (i+1) ⟨rfl,rfl,rfl,rfl,rfl,rfl,rfl,trivial⟩ ?_ hi' om;exact r9
 ·obtain rfl:i=x.ws.length:=by omega
  repeat' first|refine Zz ?_|intro _
  have e:S9 x k torn cut={ dH x k torn cut x.ws.length with ws:=[],on:=true,ar:=false }:=by
   unfold S9 dH;rw[if_neg hn,List.take_length]
  rw[e];generalize dH x k torn cut x.ws.length=y at *;refine zA (g:=I.gd) Hq ?_;refine nM (fun ok w h=>h.full 125 2 none 0) ?_;refine jO (F4 { I with vw:=.slice none 0 0 } { y with ws:=[],on:=true,ar:=false }) [_,_,_] ?_ (List.perm_append_comm (l₁:=[_,_]) (l₂:=[_])) ?_
  ·exact fU _ ⟨rfl,_,rfl⟩ slr
  ·exact r9
end Go.Proofs.YtocpacdnjbjjmaaGreatDoor

namespace Av
open Go Go.RowKit Tw
theorem wT {c:Int}(h0:0<=c)(h1:c<=4294967295):IntKind.u32.wrap c=c:=by
 simp[IntKind.wrap,IntKind.bits,IntKind.signed];omega
section
variable {P:Program} {N:Nat} {ops:Array Oper} {Q:Exit->Act->World->Prop} {rest:List Oper} {s:Base} {e:Env} {m:List Piece} {d:Nat} {ty:TypeId} {pos:String} {af:Array Edge}
abbrev dM (n:Int):AV:=.lit (.int .u32 n)
theorem CU {op:BinOp}{T yT:TypeId}{x y:Operand}{i j c:Int}(h:AL P N ops Q s rest ((d,dM c)::e) m)(hx:ev e x=some (dM i):=by exact rfl)(hy:ev e y=some (dM j):=by exact rfl)(hc:arith op i j=some c:=by exact rfl)
  (h0:0<=c:=by omega) (h1:c<=4294967295:=by omega) (hd:Nat.blt d N=true:=by exact rfl):AL P N ops Q s (⟨some d,.binOp op T x y yT,ty,pos,af,none⟩::rest) e m:=
 yY (c:=c) (by rw[wT h0 h1];exact h) hx hy hc hd
theorem OO {op:BinOp}{T yT:TypeId}{x y:Operand}{i j c:Int}(h:AL P N ops Q s rest ((d,dM c)::e) m)(hx:ev e x=some (dM i):=by exact rfl)(hy:ev e y=some (dM j):=by exact rfl)(hc:HZ op i j=some c:=by exact rfl)
  (h0:0<=i:=by omega) (h1:0<j:=by omega) (h2:i<=4294967295:=by omega) (hd:Nat.blt d N=true:=by exact rfl):AL P N ops Q s (⟨some d,.binOp op T x y yT,ty,pos,af,none⟩::rest) e m:=
 WU h hx hy hc h0 h1 (fun c a b=>wT a om) hd
theorem a7A {T yT:TypeId}{yk:IntKind}{x y:Operand}{a:Int}(h:AL P N ops Q s rest ((d,dM (a*65536))::e) m)(hx:ev e x=some (dM a):=by exact rfl)(hy:ev e y=some (.lit (.int yk 16)):=by exact rfl)(h0:0<=a:=by omega)(h1:a<=65535:=by omega)(hd:Nat.blt d N=true:=by exact rfl) :
  AL P N ops Q s (⟨some d,.binOp .shl T x y yT,ty,pos,af,none⟩::rest) e m:=
 CP rfl hx hy (fun w=>by
  have h2:min (16:Int).toNat IntKind.u32.bits=16:=rfl;have h3:¬ ((16:Int)<0):=by omega
  simp only[Op.shift,h3,if_false,h2];show Result.ok (Value.int .u32 (IntKind.u32.wrap (a*2 ^ 16))) w=_;rw[show (2:Int) ^ 16=65536 from rfl,wT om om]) (.inl rfl) hd h
theorem a7J {T yT:TypeId}{x y:Operand}{a c:Int}(h:AL P N ops Q s rest ((d,dM (a*65536+c))::e) m)(hx:ev e x=some (dM (a*65536)):=by exact rfl)(hy:ev e y=some (dM c):=by exact rfl)(h0:0<=a:=by omega)(h1:0<=c:=by omega)(h2:c<65536:=by omega)(h3:a<=65535:=by omega)(hd:Nat.blt d N=true:=by exact rfl) :
  AL P N ops Q s (⟨some d,.binOp .or T x y yT,ty,pos,af,none⟩::rest) e m:=by
 obtain⟨a,rfl⟩:=Int.eq_ofNat_of_zero_le h0;obtain⟨c,rfl⟩:=Int.eq_ofNat_of_zero_le h1;refine CS rfl hx hy (fun w=>?_) (.inr (.inl rfl)) hd h;have e1:((a:Int)*65536)=((a*65536:Nat):Int):=by simp
 have e2:(BitVec.ofInt IntKind.u32.bits ((a:Int)*65536) ||| BitVec.ofInt IntKind.u32.bits (c:Int)).toNat=a*65536+c:=by
  rw[BitVec.toNat_or,e1,BitVec.ofInt_natCast,BitVec.ofInt_natCast,BitVec.toNat_ofNat,BitVec.toNat_ofNat,show IntKind.u32.bits=32 from rfl,Nat.mod_eq_of_lt om,Nat.mod_eq_of_lt om];have:=Nat.two_pow_add_eq_or_of_lt (i:=16) (b:=c) om a;rw[show a*65536=2 ^ 16*a by omega];exact this.symm
 show Result.ok (Value.int .u32 (IntKind.u32.wrap ((BitVec.ofInt IntKind.u32.bits ((a:Int)*65536) ||| BitVec.ofInt IntKind.u32.bits (c:Int)).toNat:Int))) w=_;rw[e2,wT om om];simp
end
end Av
namespace Go.Proofs.YtocpacdnjbjjmaaGreatDoor
open Go Go.RowKit Tw Av
theorem a6g {T3 T4:TypeId}{g3 g4:Nat}{q:Nat × Nat}{c:UInt8}(hq:q.1<65521/\q.2<65521):Av.Spec Tryz.prog GL 231 [p9 c,ptr g3,ptr g4] [.var g4 T4 (dM q.2),.var g3 T3 (dM q.1)] fun u m=>u=.tup []/\m=[.var g4 T4 (dM (tV q c).2),.var g3 T3 (dM (tV q c).1)]:=by
 obtain⟨a,b⟩:=q;have hc:=c.toNat_lt;dsimp only at hq;refine qE Tryz.func231 rfl Tryz.ntmps231 rfl (fun _ hs=>?_);repeat' first|refine Zz ?_|intro _
 rw[wT om om];refine CU ?_;refine OO ?_;repeat' first|refine Zz ?_|intro _
 refine CU ?_;refine OO ?_;repeat' first|refine Zz ?_|intro _
 refine fU _ ⟨rfl,?_⟩ slr;unfold tV;dsimp only;rw[show ((((a+c.toNat)%65521:Nat):Int))=((a:Int)+c.toNat)%65521 by omega,show ((((b+(a+c.toNat)%65521)%65521:Nat):Int))=((b:Int)+((a:Int)+c.toNat)%65521)%65521 by omega]
theorem ZN {s:Bs}{i:Nat}(h:i<s.length):mI (s.take (i+1))=tV (mI (s.take i)) s[i]:=by
 unfold mI;rw[<- List.take_append_getElem h,List.foldl_append];rfl
instance b8k {s:Bs}:Ans Tryz.prog GL 157 [str s] (s.length<=4611686018427387904) (dM (dN s)):=⟨fun hl=>by
 refine qE Tryz.func157 rfl Tryz.ntmps157 rfl (fun _ hs=>?_);repeat' first|refine Zz ?_|intro _
 rename_i g3 g4;have hcs:∀ v∈[Value.pointer (some ⟨g3,0,none⟩),.pointer (some ⟨g4,0,none⟩)],v.oneCell'=true:=by simp[Value.oneCell']
 refine eY (vs:=[.pointer (some ⟨g3,0,none⟩),.pointer (some ⟨g4,0,none⟩)]) ?_;repeat' first|refine Zz ?_|intro _
 refine z8 (α:=Nat) (fun i=>[(0,str s),(3,ptr g3),(4,ptr g4),(5,D6 231 [.pointer (some ⟨g3,0,none⟩),.pointer (some ⟨g4,0,none⟩)]),(9,int s.length),(10,int i)])
  (fun i=>[.var g4 222 (dM (mI (s.take i)).2),.var g3 222 (dM (mI (s.take i)).1)]) (fun i=>i<=s.length) (fun i=>s.length-i) 0 ⟨rfl,rfl,rfl,rfl,rfl,rfl,trivial⟩ slr (Nat.zero_le _) ?_
 intro i hi;have hq:=QK (s.take i);by_cases hi':i<s.length
 ·repeat' first|refine Zz ?_|intro _
  refine OM (c:=s[i]) ?_ (hc:=by rw[Int.toNat_natCast];exact List.getElem?_eq_getElem hi');repeat' first|refine Zz ?_|intro _
  refine wP (args:=[p9 s[i]]) (a6g hq) (fun u m1 hh=>?_) (hcs:=hcs);obtain⟨rfl,rfl⟩:=hh;rw[<- ZN hi'];repeat' first|refine Zz ?_|intro _
  exact o6 (i+1) ⟨rfl,rfl,rfl,rfl,rfl,rfl,trivial⟩ slr hi' om
 ·obtain rfl:i=s.length:=by omega
  rw[List.take_length] at hq ⊢;repeat' first|refine Zz ?_|intro _
  refine a7A ?_;repeat' first|refine Zz ?_|intro _
  refine a7J ?_;repeat' first|refine Zz ?_|intro _
  refine d9 ?_;unfold dN;rw[Int.natCast_add,Int.natCast_mul];rfl⟩
attribute [local irreducible] dN
instance b8l {s:Bs}:Ans Tryz.prog GL 96 [str s] True (.tup [str (if 1048576<s.length then [] else y7 s),int (if 1048576<s.length then 11 else 0)]):=⟨fun _=>by
 refine qE Tryz.func96 rfl Tryz.ntmps96 rfl (fun _ hs=>?_);repeat' first|refine Zz ?_|intro _
 refine o9 (fun h=>?_) (fun h=>?_)
 ·rw[if_pos (show 1048576<s.length by omega),if_pos (show 1048576<s.length by omega)];repeat' first|refine Zz ?_|intro _
  refine d9 ?_;rfl
 ·rw[if_neg (show ¬ 1048576<s.length by omega),if_neg (show ¬ 1048576<s.length by omega)];have hr:=QJ (o8 82 s);have hl:(o8 82 s).length<=4611686018427387904:=Nat.le_trans LenLe.out dc;repeat' first|refine Zz ?_|intro _
  refine d9 ?_;rfl⟩
theorem Bb (c most:Int)(s:Bs)(b:Bool):j5 c most s b=s.drop (s.length-(j5 c most s b).length):=by
 have key:∃ k,j5 c most s b=s.drop k:=by
  unfold j5 Y7;split
  ·split
   ·rename_i s0 s1 s2 s3 r _;exact⟨bC s1 s2 s3+4,rfl⟩
   ·exact⟨0,rfl⟩
  ·exact⟨0,rfl⟩
 obtain⟨k,hk⟩:=key;rw[hk,List.length_drop];by_cases h:k<=s.length
 ·rw[show s.length-(s.length-k)=k by omega]
 ·rw[List.drop_of_length_le om,List.drop_of_length_le om]
theorem Xm (s:Bs):(gW s).length<=s.length:=Nat.le_trans (Q9 _ _ _ _).1 (Q9 _ _ _ _).1
theorem Xn (s:Bs):gW s=s.drop (s.length-(gW s).length):=by
 have h1:=Bb 82 1048576 s false;have h2:=Bb 83 8 (U1 s) (aG s);have l1:=(Q9 82 1048576 s false).1;have l2:=(Q9 83 8 (U1 s) (aG s)).1;show j5 83 8 (U1 s) (aG s)=s.drop (s.length-(j5 83 8 (U1 s) (aG s)).length);rw[h2];have l1':(U1 s).length<=s.length:=l1;have h1':U1 s=s.drop (s.length-(U1 s).length):=h1;generalize j5 83 8 (U1 s) (aG s)=z at *;rw[List.length_drop,show (U1 s).length-((U1 s).length-z.length)=z.length by omega]
 conv=>lhs;rw[h1',List.drop_drop]
 congr 1
 rw[List.length_drop];omega
instance b8j {s:Bs}:Ans Tryz.prog GL 123 [str s] (s.length<=1000000000) (.tup [str (if fC s=true then aF s else []),int (if fC s=true then (s.length:Int)-(gW s).length else 0),int (if fC s=true then 0 else 10)]):=⟨fun hl=>by
 have hA:(U1 s).length<=s.length:=(Q9 82 1048576 s false).1;have hZ:=Xm s;have e1:j5 82 1048576 s false=U1 s:=rfl;have e2:A7 82 1048576 s false=aG s:=rfl;have e3:D5 82 1048576 s false=aF s:=rfl;have e4:J8 83 4294967295 (U1 s) (aG s)=wX s:=rfl;have e5:j5 83 8 (U1 s) (aG s)=gW s:=rfl;have e6:K3 83 4294967295 (U1 s) (aG s)=wW s:=rfl;refine qE Tryz.func123 rfl Tryz.ntmps123 rfl (fun _ hs=>?_);repeat' first|refine Zz ?_|intro _
 refine R6 rY (fun u m1 hh=>?_);obtain⟨g,rfl,rfl⟩:=hh;repeat' first|refine Zz ?_|intro _
 rw[e1,e2,e3];cases hb:aG s
 ·rw[show (if false=true then 0 else (U1 s).length)=(U1 s).length from rfl];repeat' first|refine Zz ?_|intro _
  rw[hb] at e4 e5 e6;rw[e4,e5,e6];repeat' first|refine Zz ?_|intro _
  have hr:0<=wX s/\wX s<=4294967295:=by
   unfold wX J8;split <;> omega
  have ht:(s.take (s.length-(U1 s).length)).length<=4611686018427387904:=by
   rw[List.length_take];omega
  cases hy:wW s
  ·repeat' first|refine Zz ?_|intro _
   rw[wT hr.1 hr.2];refine Q7 0 (s.length-(U1 s).length) ?_;rw[List.drop_zero];repeat' first|refine Zz ?_|intro _
   have hk:fC s=decide (wX s=dN (s.take (s.length-(U1 s).length))):=by
    unfold fC;rw[hy];rfl
   refine o9 (fun h=>?_) (fun h=>?_)
   ·rw[dZ h] at hk;rw[hk];repeat' first|refine Zz ?_|intro _
    refine d9 ?_;rfl
   ·rw[dT (Classical.not_not.1 h)] at hk;rw[hk];repeat' first|refine Zz ?_|intro _
    rw[show (if false=true then 0 else (gW s).length)=(gW s).length from rfl];repeat' first|refine Zz ?_|intro _
    refine d9 ?_;rfl
  ·have hk:fC s=false:=by
    unfold fC;rw[hy];rfl
   rw[hk];repeat' first|refine Zz ?_|intro _
   refine d9 ?_;rfl
 ·have hy:wW s=true:=by
   unfold wW K3;rw[hb];simp[mR,A7,vN]
  have hk:fC s=false:=by
   unfold fC;rw[hy];rfl
  rw[if_pos rfl];repeat' first|refine Zz ?_|intro _
  rw[hb] at e4 e5 e6;rw[e4,e5,e6,hy,hk];repeat' first|refine Zz ?_|intro _
  refine d9 ?_;rfl⟩
theorem a8N {f:Nat}{s:Bs}(h:fC s=true):lW (f+1) s=(aF s::(lW f (gW s)).1,(lW f (gW s)).2):=by
 rw[lW,if_pos h]
theorem a8O {f:Nat}{s:Bs}(h:fC s=false):lW (f+1) s=([],s):=by
 rw[lW,if_neg (by rw[h];decide)]
instance b8m {s:Bs}:Ans Tryz.prog GL 69 [str s] (s.length<=1000000000) (.tup [.sl 1 ((lV s).map str) none,int ((s.length:Int)-(wQ s).length)]):=⟨fun hl=>by
 refine qE Tryz.func69 rfl Tryz.ntmps69 rfl (fun _ hs=>?_);repeat' first|refine Zz ?_|intro _
 refine aM 2 (Imp.nil (k:=1)) ?_;refine O5 (fun ok w h=>h.full 9 1 none 0) ?_;refine z8 (α:=List Bs × Nat × Nat × Value) (fun z=>[(0,str s),(2,.sl 1 (z.1.map str) (some z.2.2.2)),(3,int z.2.1)]) (fun z=>[.tail 9 1 z.2.2.2])
  (fun z=>z.2.1<=s.length/\z.1.length<=z.2.1/\(s.drop z.2.1).length<z.2.2.1/\lV s=z.1++(lW z.2.2.1 (s.drop z.2.1)).1/\wQ s=(lW z.2.2.1 (s.drop z.2.1)).2) (fun z=>s.length-z.2.1) ([],0,s.length+1,.slice none 0 0) ⟨rfl,rfl,rfl,trivial⟩ slr
  ⟨Nat.zero_le _,Nat.le_refl _,Nat.lt_succ_self _,rfl,rfl⟩ ?_
 rintro⟨acc,n,f,v⟩ ⟨hn,ha,hf,h1,h2⟩;dsimp only at hn ha hf h1 h2 ⊢;repeat' first|refine Zz ?_|intro _
 refine Q7 n s.length ?_;rw[List.take_length];have hdl:(s.drop n).length=s.length-n:=List.length_drop;rcases f with _|f
 ·omega
 have hal:(acc.map str).length=acc.length:=llm _;cases hk:fC (s.drop n)
 ·rw[a8O hk] at h1 h2;dsimp only at h1 h2;rw[List.append_nil] at h1;repeat' first|refine Zz ?_|intro _
  rw[hk];repeat' first|refine Zz ?_|intro _
  rw[h1,h2,hdl];refine E9 ?_;show Imp (.tup [.sl 1 (acc.map str) (some v),int n]) (.tup [.sl 1 (acc.map str) none,int ((s.length:Int)-((s.length-n:Nat):Int))]);rw[show (s.length:Int)-((s.length-n:Nat):Int)=n by omega];exact ImpR.imp
 ·rw[a8N hk] at h1 h2;dsimp only at h1 h2;have hd:=Xl hk;have hz:=Xn (s.drop n);rw[hdl] at hd hz;rw[List.drop_drop] at hz;repeat' first|refine Zz ?_|intro _
  rw[hk];repeat' first|refine Zz ?_|intro _
  refine I4 (fun v'=>?_);repeat' first|refine Zz ?_|intro _
  generalize hN:n+(s.length-n-(gW (s.drop n)).length)=N at hz;simp only[if_true];refine M6 3 (v:=int ((n:Int)+(((s.drop n).length:Int)-((gW (s.drop n)).length:Int)))) (v':=int N) (Imp.of_eq (by rw[hdl,show (n:Int)+(((s.length-n:Nat):Int)-((gW (s.drop n)).length:Int))=(N:Int) by omega])) ?_;refine M6 2 (v:=.sl 1 (acc.map str++[str (aF (s.drop n))]) (some v')) (v':=.sl 1 ((acc++[aF (s.drop n)]).map str) (some v')) (Imp.of_eq (by rw[List.map_append];rfl)) ?_;refine o6 (acc++[aF (s.drop n)],N,f,v') ⟨rfl,rfl,rfl,trivial⟩ slr ⟨?_,?_,?_,?_,?_⟩ ?_
  ·dsimp only;omega
  ·dsimp only;rw[lla,List.length_singleton];omega
  ·dsimp only;rw[<- hz];omega
  ·dsimp only;rw[<- hz,h1,laa];rfl
  ·dsimp only;rw[<- hz,h2]
  ·dsimp only;omega⟩
end Go.Proofs.YtocpacdnjbjjmaaGreatDoor
