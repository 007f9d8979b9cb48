/- . -/
import Derived.Shelf.Strings.Repeat
import Derived.Test.YtgcmdlboancepaaGreatDoorRows
import Derived.Lib.LaidTab
import Derived.LaidLaws
import Derived.Test.YtgcmdlboancepaaGreatDoorQ15
set_option maxHeartbeats 64000000
namespace Go.Proofs.Z
open Go Go.RowKit Tw Av Go.Proofs.Tryz
attribute [local irreducible] Av.Obl
instance c1z {g:Nat}{x:H8}{buf:Bs}{n:Nat}:AnsM prog GL 416 g [] 447 (bM x buf n) (buf.length=64) (.tup []) (bM (yH x buf) buf n):=⟨λhbl=>by
 refine ze func416 ntmps416 λ_ hs=>?_;repeat' first|refine Yz ?_|intro
 rename_i gw;refine dY (g:=gw) (v':=.agg 64 (wA buf 0)) (λok w cs h=>h) ?_;refine y9 (α:=Nat) (λi=>[(0,ptr g),(2,ptr gw),(22,int i)]) (λi=>[.var gw 459 (.agg 64 (wA buf i)),.var g 447 (bM x buf n)]) (λi=>i<=16) (λi=>16-i) 0 zc slr (Nat.zero_le _) ?_;intro i hi;repeat' (first|refine I7 ?_|refine I8 ?_|refine W ?_|refine D6 (λ_=>?_)|intro _)
 refine w9 (λhlt=>?_) (λhlt=>?_)
 ·repeat' (first|refine I7 ?_|refine I8 ?_|refine W ?_|refine D6 (λ_=>?_)|intro _)
  refine RL (4*i) (4*i+4) ?_;repeat' (first|refine I7 ?_|refine I8 ?_|refine W ?_|refine D6 (λ_=>?_)|intro _)
  rw[show ((4*i+4-4*i:Nat):Int)=4 by omega];refine y9 (α:=Nat) (λj=>[(0,ptr g),(2,ptr gw),(22,int i),(3,int i),(33,.lit (.slice (some ⟨g,0+8+4*i*1,none⟩) (4*i+4-4*i) (64-4*i))),(34,int 4),(35,int j)])
   (λj=>[.var gw 459 (.agg 64 ((wA buf i).set i (X5 (zN buf i j)))),.var g 447 (bM x buf n)]) (λj=>j<=4) (λj=>4-j) 0 zc (by rw[show zN buf i 0=0 from rfl,Yo buf i om];exact List.Sublist.refl _) (Nat.zero_le _) ?_
  intro j hj;repeat' (first|refine I7 ?_|refine I8 ?_|refine W ?_|refine D6 (λ_=>?_)|intro _)
  refine w9 (λhjl=>?_) (λhjl=>?_)
  ·have hb:(buf.map A7)[4*i+j]?=some (A7 (buf.getD (4*i+j) 0)):=by
    have hl:4*i+j<buf.length:=om
    simp[List.getD,hl]
   have hw:((wA buf i).set i (X5 (zN buf i j)))[i]?=some (X5 (zN buf i j)):=List.getElem?_set_self (by rw[MS _ _ om];omega);repeat' (first|refine I7 ?_|refine I8 ?_|refine W ?_|refine D6 (λ_=>?_)|intro _)
   refine BB j ?_;refine dE (hv:=XP (pre:=[iW x]) (j:=4*i+j) inferInstance hb rfl (by simpa using hbl) (by show _=8+_;omega)) ?_;repeat' (first|refine I7 ?_|refine I8 ?_|refine W ?_|refine D6 (λ_=>?_)|intro _)
   refine O1 i ?_;refine bV (j:=i) hw ?_;refine HZ 8 ?_;repeat' (first|refine I7 ?_|refine I8 ?_|refine W ?_|refine D6 (λ_=>?_)|intro _)
   refine O1 i ?_;refine kD (j:=i) (ps:=(wA buf i).set i (X5 (zN buf i j))) (by rw[List.length_set,MS _ _ om];omega) ?_;rw[List.set_set];repeat' (first|refine I7 ?_|refine I8 ?_|refine W ?_|refine D6 (λ_=>?_)|intro _)
   exact o9 (j+1) zc slr om om
  obtain rfl:j=4:=by omega
  repeat' (first|refine I7 ?_|refine I8 ?_|refine W ?_|refine D6 (λ_=>?_)|intro _)
  rw[a2w,show ED buf i=wM buf i by rw[wM,if_pos om],TF buf i om];exact o9 (i+1) zc slr om om
 obtain rfl:i=16:=by omega
 repeat' (first|refine I7 ?_|refine I8 ?_|refine W ?_|refine D6 (λ_=>?_)|intro _)
 refine y9 (α:=Nat) (λi=>[(0,ptr g),(2,ptr gw),(6,int i)]) (λi=>[.var gw 459 (.agg 64 (wA buf i)),.var g 447 (bM x buf n)]) (λi=>16<=i/\i<=64) (λi=>64-i) 16 zc slr dc ?_;clear hi hlt;rintro i ⟨hi1,hi2⟩;repeat' (first|refine I7 ?_|refine I8 ?_|refine W ?_|refine D6 (λ_=>?_)|intro _)
 refine w9 (λhlt=>?_) (λhlt=>?_)
 ·have hn:=TF buf i om;have hl64:=MS buf i om;repeat' (first|refine I7 ?_|refine I8 ?_|refine W ?_|refine D6 (λ_=>?_)|intro _)
  apply zf [];exact zi;intro _ _;refine O1 (i-15) ?_;exact j3 (p9 rfl rfl);repeat' (first|refine I7 ?_|refine I8 ?_|refine W ?_|refine D6 (λ_=>?_)|intro _)
  apply zf [0];exact zi;intro _ _;refine bV (j:=i-15) (ps:=wA buf i) (oC buf i (i-15) om) ?_;exact j3 (p9 rfl rfl);repeat' (first|refine I7 ?_|refine I8 ?_|refine W ?_|refine D6 (λ_=>?_)|intro _)
  apply zf [];exact zi;intro _ _;refine O1 (i-2) ?_;exact j3 (p9 rfl rfl);repeat' (first|refine I7 ?_|refine I8 ?_|refine W ?_|refine D6 (λ_=>?_)|intro _)
  apply zf [0];exact zi;intro _ _;refine bV (j:=i-2) (ps:=wA buf i) (oC buf i (i-2) om) ?_;exact j3 (p9 rfl rfl);repeat' (first|refine I7 ?_|refine I8 ?_|refine W ?_|refine D6 (λ_=>?_)|intro _)
  apply zf [];exact zi;intro _ _;refine O1 (i-16) ?_;exact j3 (p9 rfl rfl);repeat' (first|refine I7 ?_|refine I8 ?_|refine W ?_|refine D6 (λ_=>?_)|intro _)
  apply zf [0];exact zi;intro _ _;refine bV (j:=i-16) (ps:=wA buf i) (oC buf i (i-16) om) ?_;exact j3 (p9 rfl rfl);repeat' (first|refine I7 ?_|refine I8 ?_|refine W ?_|refine D6 (λ_=>?_)|intro _)
  apply zf [];exact zi;intro _ _;refine O1 (i-7) ?_;exact j3 (p9 rfl rfl);repeat' (first|refine I7 ?_|refine I8 ?_|refine W ?_|refine D6 (λ_=>?_)|intro _)
  apply zf [0];exact zi;intro _ _;refine bV (j:=i-7) (ps:=wA buf i) (oC buf i (i-7) om) ?_;exact j3 (p9 rfl rfl);repeat' (first|refine I7 ?_|refine I8 ?_|refine W ?_|refine D6 (λ_=>?_)|intro _)
  apply zf [];exact zi;intro _ _;refine O1 i ?_;exact j3 (p9 rfl rfl);apply dH [0];exact rfl;exact rfl;kernel_rfl
  ·intro _ _;refine kD (j:=i) (ps:=wA buf i) om ?_;exact j3 (dX rfl)
  ·exact rfl
  ·exact rfl
  have e:(ws buf i).getD (i-16) 0+(aN ((ws buf i).getD (i-15) 0) (- -7:Int).toNat ^^^ aN ((ws buf i).getD (i-15) 0) (- -18:Int).toNat ^^^ (ws buf i).getD (i-15) 0 >>> 3)+(ws buf i).getD (i-7) 0+(aN ((ws buf i).getD (i-2) 0) (- -17:Int).toNat ^^^ aN ((ws buf i).getD (i-2) 0) (- -19:Int).toNat ^^^ (ws buf i).getD (i-2) 0 >>> 10)=wM buf i:=by
   rw[wM,if_neg om];rfl
  repeat' (first|refine I7 ?_|refine I8 ?_|refine W ?_|refine D6 (λ_=>?_)|intro _)
  rw[e,hn];exact o9 (i+1) zc slr om om
 obtain rfl:i=64:=by omega
 repeat' (first|refine I7 ?_|refine I8 ?_|refine W ?_|refine D6 (λ_=>?_)|intro _)
 rename_i gy;refine y9 (α:=Nat) (λk=>[(0,ptr g),(2,ptr gw),(11,ptr gy),(97,int k)])
  (λk=>[.var gy 438 (iW (nH buf x k)),.var gw 459 (.agg 64 (wA buf 64)),.var g 447 (bM x buf n)]) (λk=>k<=64) (λk=>64-k) 0 zc slr (Nat.zero_le _) ?_
 clear hi1 hi2 hlt;intro k hk;repeat' (first|refine I7 ?_|refine I8 ?_|refine W ?_|refine D6 (λ_=>?_)|intro _)
 refine w9 (λhlt=>?_) (λhlt=>?_)
 ·have hr:nH buf x (k+1)=round (mR.getD k 0) ((ws buf 64).getD k 0) (nH buf x k):=rfl;have hkt:(mR.map λx=>AV.lit (Q6 x))[k]?=some (X5 (mR.getD k 0)):=by
   have hlen:mR.length=64:=rfl;have h64:k<mR.length:=by omega
   simp[List.getD,h64]
  generalize nH buf x k=y at *;repeat' (first|refine I7 ?_|refine I8 ?_|refine W ?_|refine D6 (λ_=>?_)|intro _)
  apply zf [];exact zi;intro _ _;refine O1 k ?_;exact j3 (p9 rfl rfl);apply zf [];exact zi;intro sQ hQ;refine Wn (g:=2) (o:=0+k*1) (v:=.agg 64 (mR.map λx=>.lit (Q6 x))) (u:=X5 (mR.getD k 0)) ?_ rfl (by rw[hQ];exact List.mem_cons_of_mem _ List.mem_cons_self) (a5g inferInstance hkt rfl om);exact j3 (p9 rfl rfl);repeat' (first|refine I7 ?_|refine I8 ?_|refine W ?_|refine D6 (λ_=>?_)|intro _)
  apply zf [];exact zi;intro _ _;refine O1 k ?_;exact j3 (p9 rfl rfl);apply zf [1];exact zi
  ·intro _ _;refine bV (j:=k) (ps:=wA buf 64) (oC buf 64 k om) ?_;exact j3 (p9 rfl rfl)
  repeat' (first|refine I7 ?_|refine I8 ?_|refine W ?_|refine D6 (λ_=>?_)|intro _)
  refine o9 (k+1) zc ?_ om om;dsimp only;rw[hr];exact List.Sublist.refl _
 obtain rfl:k=64:=by omega
 have hcm:yH x buf=x.add (nH buf x 64):=rfl;rw[hcm];generalize nH buf x 64=y at *;repeat' (first|refine I7 ?_|refine I8 ?_|refine W ?_|refine D6 (λ_=>?_)|intro _)
 refine y9 (α:=Nat) (λi=>[(0,ptr g),(177,iW y),(178,int i)])
  (λi=>[.var g 447 (.agg 74 [.agg 8 ((pW x y i).map λx=>.lit (Q6 x)),.agg 64 (buf.map A7),int n,d9 true])]) (λi=>i<=8) (λi=>8-i) 0 zc zd (Nat.zero_le _) ?_
 clear hk hlt hcm;intro i hi;repeat' (first|refine I7 ?_|refine I8 ?_|refine W ?_|refine D6 (λ_=>?_)|intro _)
 refine w9 (λhlt=>?_) (λhlt=>?_)
 ·have hi8:i<8:=om
  have ha:((pW x y i).map λx=>AV.lit (Q6 x))[i]?=some (X5 (x.words.getD i 0)):=by rw[List.getElem?_map,Xj x y i hi8];rfl
  have hl:((pW x y i).map λx=>AV.lit (Q6 x)).length=8:=by rw[llm,Xi x y i hi]
  have hn:((pW x y i).map λx=>AV.lit (Q6 x)).set i (X5 (x.words.getD i 0+y.words.getD i 0))=(pW x y (i+1)).map λx=>AV.lit (Q6 x):=by rw[<- Xh x y i hi8,List.map_set]
  repeat' (first|refine I7 ?_|refine I8 ?_|refine W ?_|refine D6 (λ_=>?_)|intro _)
  refine MC (u:=X5 (y.words.getD i 0)) i ?_ rfl om (by rw[List.getElem?_map,MP y i hi8];rfl) (Siz.out (ps:=y.words.map λx=>.lit (Q6 x)) ) rfl;repeat' (first|refine I7 ?_|refine I8 ?_|refine W ?_|refine D6 (λ_=>?_)|intro _)
  apply zf [];exact zi;intro _ _;refine O1 i ?_;exact j3 (p9 rfl rfl);apply zf [0];exact zi;intro _ _;refine dE (hv:=XP (pre:=[]) (j:=i) inferInstance ha rfl hl (by show _=0+i;omega)) ?_;exact j3 (p9 rfl rfl);repeat' (first|refine I7 ?_|refine I8 ?_|refine W ?_|refine D6 (λ_=>?_)|intro _)
  apply zf [];exact zi;intro _ _;refine O1 i ?_;exact j3 (p9 rfl rfl);apply dH [0];exact rfl;exact rfl;kernel_rfl
  ·intro _ _;refine fE (hp:=Iq (pre:=[]) (j:=i) inferInstance om rfl rfl (by rw[List.getElem_map];rfl) hl (by show _=0+i;omega)) ?_;exact j3 (dX rfl)
  ·exact rfl
  ·exact rfl
  rw[hn];repeat' (first|refine I7 ?_|refine I8 ?_|refine W ?_|refine D6 (λ_=>?_)|intro _)
  exact o9 (i+1) zc slr om om
 obtain rfl:i=8:=by omega
 repeat' (first|refine I7 ?_|refine I8 ?_|refine W ?_|refine D6 (λ_=>?_)|intro _)
 exact jS _ ⟨rfl,rfl⟩ slr⟩
end Go.Proofs.Z

namespace Go.Proofs
open Go.Shelf
def Tryz.laysRepeat_ren:Go.Shelf.Ren:=⟨fun|105=>417|212=>456|99=>457|165=>458|166=>134|170=>135|169=>136|263=>477|264=>478|206=>479|240=>243|241=>480|276=>335|277=>484|n=>n,fun|9=>9|3=>3|4=>4|20=>20|0=>0|46=>179|109=>462|5=>5|72=>212|76=>215|51=>290|146=>472|53=>43|148=>404|70=>210|37=>157|75=>214|127=>306|164=>382|80=>218|n=>n,fun|n=>n⟩
theorem Tryz.laysRepeat:Go.Proofs.Lays.n105 Tryz.prog Tryz.laysRepeat_ren:={
 mixed:=by kernel_rfl
 f99:=Tryz.func457.trans (congrArg some (by kernel_rfl))
 f105:=Tryz.func417.trans (congrArg some (by kernel_rfl))
 f165:=Tryz.func458.trans (congrArg some (by kernel_rfl))
 f166:=Tryz.func134.trans (congrArg some (by kernel_rfl))
 f169:=Tryz.func136.trans (congrArg some (by kernel_rfl))
 f170:=Tryz.func135.trans (congrArg some (by kernel_rfl))
 f206:=Tryz.func479.trans (congrArg some (by kernel_rfl))
 f212:=Tryz.func456.trans (congrArg some (by kernel_rfl))
 f240:=Tryz.func243.trans (congrArg some (by kernel_rfl))
 f241:=Tryz.func480.trans (congrArg some (by kernel_rfl))
 f263:=Tryz.func477.trans (congrArg some (by kernel_rfl))
 f264:=Tryz.func478.trans (congrArg some (by kernel_rfl))
 f276:=Tryz.func335.trans (congrArg some (by kernel_rfl))
 f277:=Tryz.func484.trans (congrArg some (by kernel_rfl))
 t0:=Tryz.underlying0
 a0:=Tryz.isAgg0
 z0:=Tryz.sizeOf0
 v0:=Tryz.zeroValue0
 t3:=Tryz.underlying3
 a3:=Tryz.isAgg3
 z3:=Tryz.sizeOf3
 v3:=Tryz.zeroValue3
 t4:=Tryz.underlying4
 a4:=Tryz.isAgg4
 z4:=Tryz.sizeOf4
 v4:=Tryz.zeroValue4
 t5:=Tryz.underlying5
 a5:=Tryz.isAgg5
 z5:=Tryz.sizeOf5
 v5:=Tryz.zeroValue5
 t9:=Tryz.underlying9
 a9:=Tryz.isAgg9
 z9:=Tryz.sizeOf9
 v9:=Tryz.zeroValue9
 t20:=Tryz.underlying20
 a20:=Tryz.isAgg20
 z20:=Tryz.sizeOf20
 v20:=Tryz.zeroValue20
 t37:=Tryz.underlying157
 a37:=Tryz.isAgg157
 z37:=Tryz.sizeOf157
 v37:=Tryz.zeroValue157
 t46:=Tryz.underlying179
 a46:=Tryz.isAgg179
 z46:=Tryz.sizeOf179
 v46:=Tryz.zeroValue179
 t51:=Tryz.underlying290
 a51:=Tryz.isAgg290
 z51:=Tryz.sizeOf290
 v51:=Tryz.zeroValue290
 t53:=Tryz.underlying43
 a53:=Tryz.isAgg43
 z53:=Tryz.sizeOf43
 v53:=Tryz.zeroValue43
 t70:=Tryz.underlying210
 a70:=Tryz.isAgg210
 z70:=Tryz.sizeOf210
 v70:=Tryz.zeroValue210
 t72:=Tryz.underlying212
 a72:=Tryz.isAgg212
 z72:=Tryz.sizeOf212
 v72:=Tryz.zeroValue212
 t75:=Tryz.underlying214
 a75:=Tryz.isAgg214
 z75:=Tryz.sizeOf214
 v75:=Tryz.zeroValue214
 t76:=Tryz.underlying215
 a76:=Tryz.isAgg215
 z76:=Tryz.sizeOf215
 v76:=Tryz.zeroValue215
 t109:=Tryz.underlying462
 a109:=Tryz.isAgg462
 z109:=Tryz.sizeOf462
 v109:=Tryz.zeroValue462
 t127:=Tryz.underlying306
 a127:=Tryz.isAgg306
 z127:=Tryz.sizeOf306
 v127:=Tryz.zeroValue306
 t146:=Tryz.underlying472
 a146:=Tryz.isAgg472
 z146:=Tryz.sizeOf472
 v146:=Tryz.zeroValue472
 t148:=Tryz.underlying404
 a148:=Tryz.isAgg404
 z148:=Tryz.sizeOf404
 v148:=Tryz.zeroValue404
 t164:=Tryz.underlying382
 a164:=Tryz.isAgg382
 z164:=Tryz.sizeOf382
 v164:=Tryz.zeroValue382 }
end Go.Proofs

namespace Go.Proofs
open Go.Shelf Go.RowKit
theorem Tryz.extraRepeat:Builder.Extra Tryz.prog Tryz.laysRepeat_ren where
 sizeBuilder:=by kernel_rfl
 liesBuilder:=by kernel_rfl
 t5:=Tryz.laysRepeat.t5
 a5:=Tryz.laysRepeat.a5
 z5:=Tryz.laysRepeat.z5
 v5:=Tryz.laysRepeat.v5
 infoByte:=by kernel_rfl
 cellsByte:=by kernel_rfl
 sizeByte:=by kernel_rfl
 neB5:=by decide
theorem Tryz.fRepeat:Tryz.laysRepeat_ren.f 105=417:=by kernel_rfl
end Go.Proofs
namespace Go.Proofs.Z
open Go Go.RowKit Tw
theorem Hg (l:Bs):∀ c,Lib.repeatL l c=(List.replicate c l).flatten
 | 0=>rfl
 | c+1=>by rw[Lib.repeatL,Hg l c,List.replicate_succ,List.flatten_cons]
theorem a1A (s:Bs)(c:Nat)(hc:s.length*c<=140737488355328)(hc2:c<=9223372036854775807)(w:World):Ret Tryz.prog 417 [sv s,.int .i64 c] w λv w'=>v=sv (List.replicate c s).flatten/\Ext w w':=by
 have h:=Any.strings_Repeat Tryz.laysRepeat Tryz.extraRepeat ⟨s.toArray⟩ c w hc2 hc;rw[Tryz.fRepeat] at h;unfold Ret;refine Calls.mono h λe w' ⟨h1,h2⟩=>⟨_,h1,?_,h2.os,h2.tape,h2.output,h2.size,h2.block⟩;rw[<- Hg]
end Go.Proofs.Z

namespace Av
open Go Go.RowKit Tw
section
variable {P:Program} {N:Nat} {ops:Array Oper} {Q:Exit->Act->World->Prop} {rest:List Oper} {s:Base} {e:Env} {m:List Piece} {d:Nat} {ty:TypeId} {pos:String} {af:Array Edge}
theorem a9M {T E T2:TypeId}{b:Nat}[t:TyL P T E 1 b]{x y:Operand}{g o n1 c1 nn q:Nat}{T0:TypeId}{pre post:List AV}{l a:Bs}{m':List Piece}(i k:Nat)(h:AL P N ops Q s rest ((d,int (k:Nat))::e) m')(hx:ev e x=some (.lit (.slice (some ⟨g,o,none⟩) n1 c1)):=by exact rfl)(hy:ev e y=some (str a):=by exact rfl)
  (hk:k=min a.length n1:=by omega) (hi:i+k<=l.length:=by omega) (hq:l.length=q:=by omega) (ho:o=(pre.map AV.size).sum+i:=by exact rfl)
  (hu:Upd m (.var g T0 (.agg nn (pre++.agg q (l.map A7)::post))) (.var g T0 (.agg nn (pre++.agg q ((iI l i (a.take k)).map A7)::post))) m':=by (repeat (first|apply Av.Upd.here|apply Av.Upd.there))) (hd:Nat.blt d N=true:=by exact rfl) :
  AL P N ops Q s (⟨some d,.call ⟨.builtin .copy,#[x,y],#[T,T2]⟩,ty,pos,af,none⟩::rest) e m:=by
 subst hq;refine wY (v:=int (k:Nat)) (λok w B hS hB=>?_) hd;obtain⟨mp,mq,rfl,rfl⟩:=hu.parts;obtain⟨cs,hb,hg⟩:=hS.at_ (.var g T0 (.agg nn (pre++.agg l.length (l.map A7)::post))) sm;have hg0:=hg;rw[RC] at hg;obtain⟨c1',c2',rfl,r1,r2⟩:=hg.2.split;rw[RCs] at r2;obtain⟨c3,c4,rfl,r3,r4⟩:=r2;rw[RC] at r3;have hcs:=RCs_u8_eq r3.2;subst hcs;have hpl:c1'.length=(pre.map AV.size).sum:=by
  clear hu h hg hg0 hb hS ho
  induction pre generalizing c1' with
  | nil=>rw[RCs] at r1;rw[r1];rfl
  | cons p ps ih=>
   rw[RCs] at r1;obtain⟨u,v,rfl,h1,h2⟩:=r1;rw[lla,h1.len,ih v h2];simp
 have htl:(a.take k).length=k:=by rw[List.length_take];omega
 have hcl:((a.take k).map y5).length=k:=by rw[llm,htl]
 have e7:(c1'++(l.map y5++c4)).take o++(a.take k).map y5++(c1'++(l.map y5++c4)).drop (o+k)=c1'++((iI l i (a.take k)).map y5++c4):=by
  subst ho;rw[<- hpl,List.take_length_add_append,Nat.add_assoc,List.drop_length_add_append,List.take_append_of_le_length (by rw[llm];omega),List.drop_append_of_le_length (by rw[llm];omega)];simp only[iI,List.map_append,List.map_take,List.map_drop,htl,List.append_assoc]
 have hrun:=run_storeCells_at (P:=P) g o T0 ((a.take k).map y5) 0 (c1'++(l.map y5++c4)).toArray w hb (by rw[hcl,ho,<- hpl];simp;omega) (λv hv=>by
  obtain⟨c,_,rfl⟩:=List.mem_map.1 hv;rfl)
 simp only[Nat.add_zero,hcl] at hrun;rw[e7] at hrun;have hil:(iI l i (a.take k)).length=l.length:=PZ om;obtain⟨h1,h2⟩:=hS.writeVar (v':=.agg nn (pre++.agg l.length ((iI l i (a.take k)).map A7)::post)) (cs':=c1'++((iI l i (a.take k)).map y5++c4)) (by
  rw[RC];refine⟨?_,r1.append (by rw[RCs];exact⟨_,_,rfl,by rw[RC];exact⟨by simp[hil],RCs_u8 _⟩,r4⟩)⟩;rw[<- hg.1];simp[hil]) (λcs2 hb2=>by
  rw[hb] at hb2;injection hb2 with hb2
  injection hb2 with hb2
  have:c1'++(l.map y5++c4)=cs2:=by simpa using congrArg Array.toList hb2
  rw[<- this];simp[hil])
 refine⟨.int .i64 (k:Nat),_,ok,_,?_,RVl rfl,h1,h2,h⟩;have hk':Nat.min a.length n1=k:=hk.symm;have e5:List.take k (List.map (λb:UInt8=>Value.int .u8 (b.toNat:Int)) a)=(a.take k).map y5:=by
  rw[<- List.map_take];rfl
 simp only[execOp,resolve,invoke,builtin,hB.lit hx,hB.lit hy,Builtin.copy_,List.map_toArray,List.map_cons,List.map_nil];simp[run_underlying t.out,Builtin.lenOf,run_sizeOf t.size,Builtin.firstCells,tK,hk'];rw[e5,hrun];rfl
end
end Av
namespace Go.Proofs.Z
open Go Go.RowKit Tw Av
def Hashed (g:Nat)(M:Bs)(m:List Av.Piece):Prop:=∃ x buf,HS M x buf/\m=[.var g 447 (bM x buf M.length)]
theorem QA {g:Nat}{M s:Bs}{x:H8}{buf:Bs}(hH:HS M x buf)(hl:M.length+s.length<=4611686018427387904):Av.Spec Tryz.prog GL 374 [ptr g,str s] [.var g 447 (bM x buf M.length)] λu m'=>u=.tup []/\Hashed g (M++s) m':=by
 refine qE Tryz.func374 rfl Tryz.ntmps374 rfl (λ_ hs=>?_);repeat' first|refine Z ?_|intro
 refine y9 (α:=Bs × Bs × H8 × Bs) (λq=>[(0,ptr g),(1,str q.2.1)]) (λq=>[.var g 447 (bM q.2.2.1 q.2.2.2 q.1.length)])
  (λq=>q.1++q.2.1=M++s/\HS q.1 q.2.2.1 q.2.2.2) (λq=>q.2.1.length) (M,s,x,buf) zc slr ⟨rfl,hH⟩ ?_
 clear hH;rintro⟨M1,s1,x1,b1⟩ ⟨hMs,hH⟩;dsimp only at hMs hH ⊢;have hb1:=hH.len;have hle:M1.length+s1.length<=4611686018427387904:=by
  have:=congrArg List.length hMs;simp only[List.length_append] at this;omega
 repeat' first|refine Z ?_|intro
 refine w9 (λhne=>?_) (λhne=>?_)
 ·have hs0:0<s1.length:=List.length_pos_iff.2 hne;repeat' first|refine Z ?_|intro
  refine RL (M1.length%64) 64 ?_;repeat' first|refine Z ?_|intro
  obtain⟨k,hk⟩:∃ k,k=min s1.length (64-M1.length%64):=⟨_,rfl⟩;refine a9M (pre:=[iW x1]) (l:=b1) (M1.length%64) k ?_ (ho:=by show 0+8+M1.length%64*1=8+M1.length%64;omega);generalize hp:s1.take k=p;have hpl:p.length=k:=by rw[<- hp,List.length_take];omega
  have hps:p++s1.drop k=s1:=by rw[<- hp,List.take_append_drop]
  have hbl:(iI b1 (M1.length%64) p).length=64:=by rw[PZ om];exact hb1
  have hkl:k<=s1.length:=om
  have hMp:M1++p++s1.drop k=M++s:=by rw[laa,hps,hMs]
  have hdr:(s1.drop k).length<s1.length:=by rw[List.length_drop];omega
  have hle2:(M1.length:Int)+(k:Int)=((M1++p).length:Nat):=by rw[lla];omega
  repeat' first|refine Z ?_|intro
  refine Z4 k s1.length ?_;rw[List.take_length];repeat' first|refine Z ?_|intro
  rw[hle2];refine dY (g:=g) (v':=bM x1 (iI b1 (M1.length%64) p) (M1++p).length) (λok w cs h=>h) ?_;refine w9 (λhf=>?_) (λhf=>?_)
  ·repeat' first|refine Z ?_|intro
   exact o9 (M1++p,s1.drop k,_,iI b1 (M1.length%64) p) zc slr ⟨hMp,hH.full om⟩ hdr
  repeat' first|refine Z ?_|intro
  exact o9 (M1++p,s1.drop k,x1,iI b1 (M1.length%64) p) zc slr ⟨hMp,hH.part om⟩ hdr
 obtain rfl:s1=[]:=by simpa using hne
 rw[List.append_nil] at hMs;subst hMs;repeat' first|refine Z ?_|intro
 exact jS _ ⟨rfl,x1,b1,hH,rfl⟩ slr
def xX (N i:Nat):Bs:=zeros (8-i)++(iM N).drop (8-i)
theorem a3P (N i:Nat)(_h:i<=8):(xX N i).length=8:=by
 have:(iM N).length=8:=rfl;simp[xX,zeros,this]
theorem a3O (N i:Nat)(h:i<8):(xX N i).set (7-i) (UInt8.ofNat (N / 2 ^ (8*i)))=xX N (i+1):=by
 have h8:(iM N).length=8:=rfl;have hg:=Vh N i h;have e1:(iM N).drop (8-(i+1))=UInt8.ofNat (N / 2 ^ (8*i))::(iM N).drop (8-i):=by
  rw[show 8-(i+1)=7-i by omega,List.drop_eq_getElem_cons om,show 7-i+1=8-i by omega];congr 1
  rw[List.getElem?_eq_getElem om] at hg;exact Option.some.inj hg
 unfold xX;rw[e1,zeros,zeros,show 8-i=(8-(i+1))+1 by omega,List.replicate_succ',List.append_assoc,List.set_append,if_neg sm];simp only[List.length_replicate];rw[show 7-i-(8-(i+1))=0 by omega];rfl
theorem a6F (B:Bs)(n i:Nat)(b:UInt8)(hB:B.length=n)(hi:i<n)(h:B[i]?=some b):(B.take i++zeros (n-i)).set i b=B.take (i+1)++zeros (n-(i+1)):=by
 rw[List.set_append,if_neg (by simp;omega),List.take_add_one,h,show n-i=(n-(i+1))+1 by omega,zeros,List.replicate_succ];rw[show i-(B.take i).length=0 by simp;omega];simp[zeros]
instance b6P {k:Nat}:Ans Tryz.prog GL 417 [str [0],int (k%64:Nat)] True (str (zeros (k%64))):=⟨λ_=>a0v λok w cargs hg hv=>by
 obtain⟨u1,us,rfl,h1,u2,us2,rfl,h2,rfl⟩:=hv;rw[RV0.lit h1,RV0.lit h2];exact(a1A [0] (k%64) (by simp;omega) om w).mono λv w' hh=>⟨λok w=>by rw[hh.1,show (List.replicate (k%64) [(0:UInt8)]).flatten=zeros (k%64) by simp[zeros]];exact RVl rfl,hh.2⟩⟩
instance {k:Nat}:LenLe (zeros (k%64)) 64:=⟨by rw[zeros,List.length_replicate];omega⟩
instance {k:Nat}:LenLe (iM k) 8:=⟨Nat.le_refl 8⟩
theorem Nt {g:Nat}{M:Bs}{x:H8}{buf:Bs}(hH:HS M x buf)(hl:M.length<=1152921504606846976):Av.Spec Tryz.prog GL 375 [ptr g] [.var g 447 (bM x buf M.length)] λu m'=>u=hA (bH M)/\m'=[.var g 447 (bM x buf M.length)]:=by
 refine qE Tryz.func375 rfl Tryz.ntmps375 rfl (λ_ hs=>?_);repeat' first|refine Z ?_|intro
 refine H6 [] _ (by rw[hs];exact oZ) (λu m1 hh=>?_) lpr;obtain⟨gN,rfl,rfl⟩:=hh;repeat' first|refine Yz ?_|intro
 rename_i go gl;refine dY (g:=gl) (v':=.agg 8 ((xX (8*M.length) 0).map A7)) (λok w cs h=>h) ?_;refine y9 (α:=Nat) (λi=>[(0,ptr g),(2,ptr go),(3,ptr gN),(4,ptr gl),(23,int i)])
  (λi=>[.var gl 448 (.agg 8 ((xX (8*M.length) i).map A7)),.var gN 447 (bM x buf M.length),.var go 40 (hA E9),.var g 447 (bM x buf M.length)]) (λi=>i<=8) (λi=>8-i) 0 zc slr (Nat.zero_le _) ?_
 intro i hi;repeat' first|refine Yz ?_|intro
 refine w9 (λhlt=>?_) (λhlt=>?_)
 ·repeat' first|refine Yz ?_|intro
  refine DX (n:=8*i) ?_ rfl rfl rfl (Nat.ble_eq_true_of_le (show 8*i<=64 by omega));rw[show ((M.length:Int)*8)=((8*M.length:Nat):Int) by omega,<- Int.natCast_ediv];refine yN ?_;rw[TH,TI];refine O1 (7-i) ?_;refine kD (ps:=(xX (8*M.length) i).map A7) (j:=7-i) (by rw[llm,a3P _ _ hi];omega) ?_;rw[<- List.map_set,a3O _ _ om];repeat' first|refine Yz ?_|intro
  exact o9 (i+1) zc slr om om
 obtain rfl:i=8:=by omega
 rw[show xX (8*M.length) 8=iM (8*M.length) from rfl];have hz:(55-(M.length:Int)%64+64)%64=(((119-M.length%64)%64:Nat):Int):=by omega
 have hpad:M++([UInt8.ofNat (128:Int).toNat]++zeros ((119-M.length%64)%64)++iM (8*M.length))=pad M:=by
  rw[laa];rfl
 repeat' first|refine Yz ?_|intro
 rw[hz];repeat' first|refine Yz ?_|intro
 apply zf [0];exact zi;intro _ _;refine Au ?_;exact j3 (p9 rfl rfl);repeat' first|refine Yz ?_|intro
 apply U2 [1];exact rfl;exact rfl;exact rfl;kernel_rfl;intro sQ hQ;have hw:=QA (g:=gN) (s:=[UInt8.ofNat (128:Int).toNat]++zeros ((119-M.length%64)%64)++iM (8*M.length)) hH (by simp[zeros,iM];omega);rw[hpad] at hw;refine H6 [.var gN 447 (bM x buf M.length)] [] (by rw[hQ];exact hw) (λu m1 hh=>?_) lpr;obtain⟨rfl,x',buf',hH',rfl⟩:=hh;refine j3 (N7 [.var gN 447 (bM x' buf' (pad M).length)] [] rfl rfl lpr rfl ?_);repeat' first|refine Yz ?_|intro
 rename_i gq;refine dY (g:=gq) (v':=.agg 32 ((x'.bytes.take 0++zeros (32-0)).map A7)) (λok w cs h=>h) ?_;refine y9 (α:=Nat) (λi=>[(2,ptr go),(3,ptr gN),(7,ptr gq),(58,int i)])
  (λi=>[.var gq 40 (.agg 32 ((x'.bytes.take i++zeros (32-i)).map A7)),.var gN 447 (bM x' buf' (pad M).length),.var go 40 (hA E9),.var g 447 (bM x buf M.length)]) (λi=>i<=32) (λi=>32-i) 0 zc zd (Nat.zero_le _) ?_
 clear hi hlt;intro i hi;repeat' first|refine Yz ?_|intro
 refine w9 (λhlt=>?_) (λhlt=>?_)
 ·have hl:(x'.bytes.take i++zeros (32-i)).length=32:=by
   rw[lla,List.length_take,zeros,List.length_replicate,x'.bytes_len];omega
  repeat' first|refine Yz ?_|intro
  refine O1 (i / 4) ?_;refine dE (hv:=XP (ps:=x'.words.map λx=>.lit (Q6 x)) (u:=X5 (x'.words.getD (i / 4) 0)) (pre:=[]) (j:=i / 4) inferInstance (by rw[List.getElem?_map,MP x' (i / 4) om];rfl) rfl rfl (by show _=0+i / 4;omega)) ?_;repeat' first|refine Yz ?_|intro
  refine HY (24-8*(i%4)) ?_;refine yN ?_;rw[TH,TI,BitVec.toNat_ushiftRight,Nat.shiftRight_eq_div_pow];refine O1 i ?_;refine kD (ps:=(x'.bytes.take i++zeros (32-i)).map A7) (j:=i) (by rw[llm,hl];omega) ?_;rw[<- List.map_set,a6F x'.bytes 32 i _ rfl om (Uh x' i om)];repeat' first|refine Yz ?_|intro
  exact o9 (i+1) zc slr om om
 obtain rfl:i=32:=by omega
 have e:(x'.bytes.take 32++zeros (32-32)).map A7=(bH M).l.map A7:=by
  rw[List.take_of_length_le (Nat.le_refl 32),a0G hH'];show (NG M++[]).map A7=_;rw[List.append_nil];rfl
 rw[e];repeat' first|refine Yz ?_|intro
 refine l9 [.var g 447 (bM x buf M.length)] ⟨rfl,rfl⟩ ?_;exact u7
class LensLe (l:List Bs)(n:outParam Nat):Prop where
 out:l.flatten.length<=n
instance : LensLe [] 0 := ⟨Nat.le_refl _⟩
instance {a:Bs}{l:List Bs}{n k:Nat}[h:LenLe a n][g:LensLe l k]:LensLe (a::l) (n+k):=⟨by have:=h.out;have:=g.out;simp at *;omega⟩
def uA (l:List Bs):Hsh:=bH l.flatten
instance c0w {h:Hsh}:Ans Tryz.prog GL 51 [hA h] True (str h.l):=⟨λ_=>by
 refine qE Tryz.func51 rfl Tryz.ntmps51 rfl (λ_ hs=>?_);exact Z5⟩
instance b9w {xs:List AV}{id:Option Value}{l:List Bs}{n:Nat}[hx:Strs xs l][hl:LensLe l n]:Ans Tryz.prog GL 311 [.sl 1 xs id] (n<=1152921504606846976) (hA (uA l)):=⟨λhn=>by
 have h:=hx.out;subst h;have hl2:=hl.out;refine qE Tryz.func311 rfl Tryz.ntmps311 rfl (λ_ hs=>?_);refine wF 0 (λhbnd=>?_);have hbnd:l.length<=9223372036854775807:=by simpa[maxLen] using hbnd
 repeat' first|refine Z ?_|intro
 refine H6 [] _ (by rw[hs];exact oZ) (λu m1 hh=>?_) lpr;obtain⟨gN,rfl,rfl⟩:=hh;repeat' first|refine Yz ?_|intro
 rename_i go;rw[llm];refine y9 (α:=Nat × H8 × Bs) (λq=>[(2,ptr go),(3,ptr gN),(7,.sl 1 (l.map str) id),(8,int l.length),(9,int q.1)])
  (λq=>[.var gN 447 (bM q.2.1 q.2.2 (l.take q.1).flatten.length),.var go 40 (hA E9)]) (λq=>q.1<=l.length/\HS (l.take q.1).flatten q.2.1 q.2.2) (λq=>l.length-q.1) (0,h0,zeros 64) zc slr ⟨Nat.zero_le _,HS.nil⟩ ?_
 rintro⟨i,x,b⟩ ⟨hi,hH⟩;dsimp only at hi hH ⊢;repeat' first|refine Z ?_|intro
 refine w9 (λhlt=>?_) (λhlt=>?_)
 ·have hil:i<l.length:=om
  have htk:(l.take (i+1)).flatten=(l.take i).flatten++l[i]:=by
   rw[List.take_add_one,List.getElem?_eq_getElem hil,Option.toList_some,List.flatten_append];simp only[List.flatten_cons,List.flatten_nil,List.append_nil]
  have hle:(l.take (i+1)).flatten.length<=l.flatten.length:=by
   have h:=congrArg (λq=>(List.flatten q).length) (List.take_append_drop (i+1) l);simp only[List.flatten_append,List.length_append] at h;omega
  repeat' first|refine Z ?_|intro
  have hw:=QA (g:=gN) (s:=l[i]) hH (by rw[htk,lla] at hle;omega);rw[<- htk] at hw;refine H6 [.var gN 447 (bM x b (l.take i).flatten.length)] _ (by rw[hs];exact hw) (λu m1 hh=>?_) lpr;obtain⟨rfl,x',b',hH',rfl⟩:=hh;repeat' first|refine Z ?_|intro
  exact o9 (i+1,x',b') zc slr ⟨hil,hH'⟩ (by dsimp only;omega)
 obtain rfl:i=l.length:=by omega
 rw[List.take_length] at hH ⊢;repeat' first|refine Z ?_|intro
 refine H6 [.var gN 447 (bM x b l.flatten.length)] _ (by rw[hs];exact Nt hH om) (λu m1 hh=>?_) lpr;obtain⟨rfl,rfl⟩:=hh;exact j4⟩
end Go.Proofs.Z



namespace Go.Proofs.YtgcmdlboancepaaGreatDoor
open Go Go.ChangeShapes Go.WideShapes Go.ChangeAt Go.RowKit Tw Av Go.Proofs.Tryz Go.Proofs.Z
theorem own:ownKnob prog.godebug=none:=by kernel_rfl
theorem laidOut:laidOutB prog=true:=by kernel_rfl
def Xn:List Int:=mR.map λx=>(x.toNat:Int)
def Xo:List Int:=h0.words.map λx=>(x.toNat:Int)
theorem XF {P:Program}{x:String × DataW Unit}{r:List (String × DataW Unit)}{w:World}(h:laidMet P (x::r) w):laidMet P r w:=by
 obtain⟨ps,h1,h2,h3⟩:=h;obtain⟨g,t,cs,fuel,p,q,e1,e2,e3,e4,e5,rfl⟩:=h1;exact⟨q,e5,(List.nodup_append.1 h2).2.1,λb off hb=>h3 b off (by simp[hb])⟩
theorem Lp {α:Type}{f:α->Value}{ok:Ok}{w:World}(hf:∀ x,(f x).oneCell'=true):∀ l:List α,RCs ok w (l.map λx=>.lit (f x)) (l.map f)
 | []=>by rw[List.map_nil,RCs];rfl
 | x::l=>by
  rw[List.map_cons,RCs];exact⟨[f x],l.map f,rfl,by rw[RC];exact⟨rfl,hf x⟩,Lp hf l⟩
theorem Dj {W:World}{g:Nat}{name:String}{l:List W32}{n:Nat}(hg:prog.globalNamed name=some g)(hl:l.length=n)(h:Lib.TabIs prog W name .u32 (l.map λx=>(x.toNat:Int))):∃ cs,At tZ W g 0 cs/\RC tZ W (.agg n (l.map λx=>.lit (Q6 x))) cs:=by
 refine⟨l.map Q6,λj v hj=>⟨?_,trivial⟩,?_⟩
 ·have hlt:j<l.length:=by have:=(List.getElem?_eq_some_iff.1 hj).1;simpa using this
  have h1:=Lib.TabIs.cell h hg j (by simpa using hlt);rw[Nat.zero_add,h1];rw[List.getElem?_map,List.getElem?_eq_getElem hlt] at hj;simp only[Option.map_some,Option.some.injEq] at hj;rw[<- hj];simp[List.getD,hlt,Q6]
 rw[RC];exact⟨by simp[hl],Lp (λ_=>rfl) l⟩
def rowOf (c:Array Value):Obj->Obj
 | .cells _ t frozen=>.cells c t frozen
 | o=>o
noncomputable def Mc (os:Os):World:=
 { World.holding prog os ⟨#[],#[],[]⟩ with heap:=((World.holding prog os ⟨#[],#[],[]⟩).heap.modify 1 (rowOf (h0.words.map Q6).toArray)).modify 2 (rowOf (mR.map Q6).toArray) }
end Go.Proofs.YtgcmdlboancepaaGreatDoor

namespace Go.Proofs.YtgcmdlboancepaaGreatDoor
open Go Go.ChangeShapes Go.WideShapes Go.ChangeAt Go.RowKit Tw Av Go.Proofs.Tryz Go.Proofs.Z
theorem Oe {W : World} (h : laidMet Tryz.prog [("unicode/utf8.acceptRanges", Rows.laid_unicode_utf8_acceptRanges), ("twinspan/hash.factors", Rows.laid_twinspan_hash_factors), ("twinspan/hash.begin", Rows.laid_twinspan_hash_begin), ("unicode/utf8.first", Rows.laid_unicode_utf8_first)] W) : Glob GL tZ W := by
 have gF : Tryz.prog.globalNamed "twinspan/hash.factors" = some 2 := by kernel_rfl
 have gB : Tryz.prog.globalNamed "twinspan/hash.begin" = some 1 := by kernel_rfl
 have h1 : Lib.TabIs Tryz.prog W "twinspan/hash.factors" .u32 Xn := Lib.tabIs_of_head (g := 2) (t := 459) (e := 290) (n := 64) gF (by kernel_rfl) (by kernel_rfl) (by kernel_rfl) (by kernel_rfl) (by kernel_rfl) (rest := [("twinspan/hash.begin", Rows.laid_twinspan_hash_begin), ("unicode/utf8.first", Rows.laid_unicode_utf8_first)]) (XF h)
 have h2 : Lib.TabIs Tryz.prog W "twinspan/hash.begin" .u32 Xo := Lib.tabIs_of_head (g := 1) (t := 438) (e := 290) (n := 8) gB (by kernel_rfl) (by kernel_rfl) (by kernel_rfl) (by kernel_rfl) (by kernel_rfl) (rest := [("unicode/utf8.first", Rows.laid_unicode_utf8_first)]) (XF (XF h))
 intro p hp;unfold GL at hp;rcases List.mem_cons.1 hp with rfl|hp
 ·exact Dj gB rfl h2
 obtain rfl:=List.mem_singleton.1 hp;exact Dj gF rfl h1
def Gb (l:List Nat):Array Value:=(l.map λn:Nat=>Value.int .u8 (n:Int)).toArray
noncomputable def FV (os:Os):World:=
 { Mc os with heap:=((Mc os).heap.modify 3 (rowOf (Gb Go.Pinned.utf8FirstZ))).modify 4 (rowOf (Gb ([128,191,160,191,128,159,144,191,128,143]++List.replicate 22 0))) }
end Go.Proofs.YtgcmdlboancepaaGreatDoor
