/- . -/
import Derived.Shelf.Strings.Repeat
import Derived.Test.YtcdbijbhifhkeaaGreatDoorRows
import Derived.Lib.LaidTab
import Derived.LaidLaws
import Derived.Test.YtcdbijbhifhkeaaGreatDoorV15
set_option maxHeartbeats 64000000
namespace Go.Proofs.Z
open Go Go.RowKit Tw Av Go.Proofs.Tryz
attribute [local irreducible] Av.Obl
instance c3g {g:Nat}{x:H8}{buf:Bs}{n:Nat}:AnsM prog GL 269 g [] 341 (dC x buf n) (buf.length=64) (.tup []) (dC (OZ x buf) buf n):=⟨λhbl=>by
 refine zc func269 ntmps269 λ_ hs=>?_;repeat' first|refine Yz ?_|intro
 rename_i gw;refine jK (g:=gw) (v':=.agg 64 (wA buf 0)) (λok w cs h=>h) ?_;refine H7 (α:=Nat) (λi=>[(0,ptr g),(2,ptr gw),(22,int i)]) (λi=>[.var gw 370 (.agg 64 (wA buf i)),.var g 341 (dC x buf n)]) (λi=>i<=16) (λi=>16-i) 0 za slr (Nat.zero_le _) ?_;intro i hi;repeat' (first|refine Y8 ?_|refine aB ?_|refine W ?_|refine p9 (λ_=>?_)|intro _)
 refine G7 (λhlt=>?_) (λhlt=>?_)
 ·repeat' (first|refine Y8 ?_|refine aB ?_|refine W ?_|refine p9 (λ_=>?_)|intro _)
  refine VE (4*i) (4*i+4) ?_;repeat' (first|refine Y8 ?_|refine aB ?_|refine W ?_|refine p9 (λ_=>?_)|intro _)
  rw[show ((4*i+4-4*i:Nat):Int)=4 by omega];refine H7 (α:=Nat) (λj=>[(0,ptr g),(2,ptr gw),(22,int i),(3,int i),(33,.lit (.slice (some ⟨g,0+8+4*i*1,none⟩) (4*i+4-4*i) (64-4*i))),(34,int 4),(35,int j)])
   (λj=>[.var gw 370 (.agg 64 ((wA buf i).set i (bW (DF buf i j)))),.var g 341 (dC x buf n)]) (λj=>j<=4) (λj=>4-j) 0 za (by rw[show DF buf i 0=0 from rfl,a1s buf i om];exact List.Sublist.refl _) (Nat.zero_le _) ?_
  intro j hj;repeat' (first|refine Y8 ?_|refine aB ?_|refine W ?_|refine p9 (λ_=>?_)|intro _)
  refine G7 (λhjl=>?_) (λhjl=>?_)
  ·have hb:(buf.map I5)[4*i+j]?=some (I5 (buf.getD (4*i+j) 0)):=by
    have hl:4*i+j<buf.length:=om
    simp[List.getD,hl]
   have hw:((wA buf i).set i (bW (DF buf i j)))[i]?=some (bW (DF buf i j)):=List.getElem?_set_self (by rw[VZ _ _ om];omega);repeat' (first|refine Y8 ?_|refine aB ?_|refine W ?_|refine p9 (λ_=>?_)|intro _)
   refine LP j ?_;refine bV (hv:=Bb (pre:=[zI x]) (j:=4*i+j) inferInstance hb rfl (by simpa using hbl) (by show _=8+_;omega)) ?_;repeat' (first|refine Y8 ?_|refine aB ?_|refine W ?_|refine p9 (λ_=>?_)|intro _)
   refine aX i ?_;refine vL (j:=i) hw ?_;refine PQ 8 ?_;repeat' (first|refine Y8 ?_|refine aB ?_|refine W ?_|refine p9 (λ_=>?_)|intro _)
   refine aX i ?_;refine vJ (j:=i) (ps:=(wA buf i).set i (bW (DF buf i j))) (by rw[List.length_set,VZ _ _ om];omega) ?_;rw[List.set_set];repeat' (first|refine Y8 ?_|refine aB ?_|refine W ?_|refine p9 (λ_=>?_)|intro _)
   exact y7 (j+1) za slr om om
  obtain rfl:j=4:=by omega
  repeat' (first|refine Y8 ?_|refine aB ?_|refine W ?_|refine p9 (λ_=>?_)|intro _)
  rw[a4W,show MI buf i=JS buf i by rw[JS,if_pos om],Gg buf i om];exact y7 (i+1) za slr om om
 obtain rfl:i=16:=by omega
 repeat' (first|refine Y8 ?_|refine aB ?_|refine W ?_|refine p9 (λ_=>?_)|intro _)
 refine H7 (α:=Nat) (λi=>[(0,ptr g),(2,ptr gw),(6,int i)]) (λi=>[.var gw 370 (.agg 64 (wA buf i)),.var g 341 (dC x buf n)]) (λi=>16<=i/\i<=64) (λi=>64-i) 16 za slr dc ?_;clear hi hlt;rintro i ⟨hi1,hi2⟩;repeat' (first|refine Y8 ?_|refine aB ?_|refine W ?_|refine p9 (λ_=>?_)|intro _)
 refine G7 (λhlt=>?_) (λhlt=>?_)
 ·have hn:=Gg buf i om;have hl64:=VZ buf i om;repeat' (first|refine Y8 ?_|refine aB ?_|refine W ?_|refine p9 (λ_=>?_)|intro _)
  apply zd [];exact zg;intro _ _;refine aX (i-15) ?_;exact j5 (A7 rfl rfl);repeat' (first|refine Y8 ?_|refine aB ?_|refine W ?_|refine p9 (λ_=>?_)|intro _)
  apply zd [0];exact zg;intro _ _;refine vL (j:=i-15) (ps:=wA buf i) (MJ buf i (i-15) om) ?_;exact j5 (A7 rfl rfl);repeat' (first|refine Y8 ?_|refine aB ?_|refine W ?_|refine p9 (λ_=>?_)|intro _)
  apply zd [];exact zg;intro _ _;refine aX (i-2) ?_;exact j5 (A7 rfl rfl);repeat' (first|refine Y8 ?_|refine aB ?_|refine W ?_|refine p9 (λ_=>?_)|intro _)
  apply zd [0];exact zg;intro _ _;refine vL (j:=i-2) (ps:=wA buf i) (MJ buf i (i-2) om) ?_;exact j5 (A7 rfl rfl);repeat' (first|refine Y8 ?_|refine aB ?_|refine W ?_|refine p9 (λ_=>?_)|intro _)
  apply zd [];exact zg;intro _ _;refine aX (i-16) ?_;exact j5 (A7 rfl rfl);repeat' (first|refine Y8 ?_|refine aB ?_|refine W ?_|refine p9 (λ_=>?_)|intro _)
  apply zd [0];exact zg;intro _ _;refine vL (j:=i-16) (ps:=wA buf i) (MJ buf i (i-16) om) ?_;exact j5 (A7 rfl rfl);repeat' (first|refine Y8 ?_|refine aB ?_|refine W ?_|refine p9 (λ_=>?_)|intro _)
  apply zd [];exact zg;intro _ _;refine aX (i-7) ?_;exact j5 (A7 rfl rfl);repeat' (first|refine Y8 ?_|refine aB ?_|refine W ?_|refine p9 (λ_=>?_)|intro _)
  apply zd [0];exact zg;intro _ _;refine vL (j:=i-7) (ps:=wA buf i) (MJ buf i (i-7) om) ?_;exact j5 (A7 rfl rfl);repeat' (first|refine Y8 ?_|refine aB ?_|refine W ?_|refine p9 (λ_=>?_)|intro _)
  apply zd [];exact zg;intro _ _;refine aX i ?_;exact j5 (A7 rfl rfl);apply iX [0];exact rfl;exact rfl;kernel_rfl
  ·intro _ _;refine vJ (j:=i) (ps:=wA buf i) om ?_;exact j5 (jJ rfl)
  ·exact rfl
  ·exact rfl
  have e:(ws buf i).getD (i-16) 0+(oC ((ws buf i).getD (i-15) 0) (- -7:Int).toNat ^^^ oC ((ws buf i).getD (i-15) 0) (- -18:Int).toNat ^^^ (ws buf i).getD (i-15) 0 >>> 3)+(ws buf i).getD (i-7) 0+(oC ((ws buf i).getD (i-2) 0) (- -17:Int).toNat ^^^ oC ((ws buf i).getD (i-2) 0) (- -19:Int).toNat ^^^ (ws buf i).getD (i-2) 0 >>> 10)=JS buf i:=by
   rw[JS,if_neg om];rfl
  repeat' (first|refine Y8 ?_|refine aB ?_|refine W ?_|refine p9 (λ_=>?_)|intro _)
  rw[e,hn];exact y7 (i+1) za slr om om
 obtain rfl:i=64:=by omega
 repeat' (first|refine Y8 ?_|refine aB ?_|refine W ?_|refine p9 (λ_=>?_)|intro _)
 rename_i gy;refine H7 (α:=Nat) (λk=>[(0,ptr g),(2,ptr gw),(11,ptr gy),(97,int k)])
  (λk=>[.var gy 339 (zI (CR buf x k)),.var gw 370 (.agg 64 (wA buf 64)),.var g 341 (dC x buf n)]) (λk=>k<=64) (λk=>64-k) 0 za slr (Nat.zero_le _) ?_
 clear hi1 hi2 hlt;intro k hk;repeat' (first|refine Y8 ?_|refine aB ?_|refine W ?_|refine p9 (λ_=>?_)|intro _)
 refine G7 (λhlt=>?_) (λhlt=>?_)
 ·have hr:CR buf x (k+1)=round (xX.getD k 0) ((ws buf 64).getD k 0) (CR buf x k):=rfl;have hkt:(xX.map λx=>AV.lit (dU x))[k]?=some (bW (xX.getD k 0)):=by
   have hlen:xX.length=64:=rfl;have h64:k<xX.length:=by omega
   simp[List.getD,h64]
  generalize CR buf x k=y at *;repeat' (first|refine Y8 ?_|refine aB ?_|refine W ?_|refine p9 (λ_=>?_)|intro _)
  apply zd [];exact zg;intro _ _;refine aX k ?_;exact j5 (A7 rfl rfl);apply zd [];exact zg;intro sQ hQ;refine a0v (g:=2) (o:=0+k*1) (v:=.agg 64 (xX.map λx=>.lit (dU x))) (u:=bW (xX.getD k 0)) ?_ rfl (by rw[hQ];exact List.mem_cons_of_mem _ List.mem_cons_self) (a7L inferInstance hkt rfl om);exact j5 (A7 rfl rfl);repeat' (first|refine Y8 ?_|refine aB ?_|refine W ?_|refine p9 (λ_=>?_)|intro _)
  apply zd [];exact zg;intro _ _;refine aX k ?_;exact j5 (A7 rfl rfl);apply zd [1];exact zg
  ·intro _ _;refine vL (j:=k) (ps:=wA buf 64) (MJ buf 64 k om) ?_;exact j5 (A7 rfl rfl)
  repeat' (first|refine Y8 ?_|refine aB ?_|refine W ?_|refine p9 (λ_=>?_)|intro _)
  refine y7 (k+1) za ?_ om om;dsimp only;rw[hr];exact List.Sublist.refl _
 obtain rfl:k=64:=by omega
 have hcm:OZ x buf=x.add (CR buf x 64):=rfl;rw[hcm];generalize CR buf x 64=y at *;repeat' (first|refine Y8 ?_|refine aB ?_|refine W ?_|refine p9 (λ_=>?_)|intro _)
 refine H7 (α:=Nat) (λi=>[(0,ptr g),(177,zI y),(178,int i)])
  (λi=>[.var g 341 (.agg 74 [.agg 8 ((BV x y i).map λx=>.lit (dU x)),.agg 64 (buf.map I5),int n,d9 true])]) (λi=>i<=8) (λi=>8-i) 0 za zb (Nat.zero_le _) ?_
 clear hk hlt hcm;intro i hi;repeat' (first|refine Y8 ?_|refine aB ?_|refine W ?_|refine p9 (λ_=>?_)|intro _)
 refine G7 (λhlt=>?_) (λhlt=>?_)
 ·have hi8:i<8:=om
  have ha:((BV x y i).map λx=>AV.lit (dU x))[i]?=some (bW (x.words.getD i 0)):=by rw[List.getElem?_map,b3G x y i hi8];rfl
  have hl:((BV x y i).map λx=>AV.lit (dU x)).length=8:=by rw[llm,b3F x y i hi]
  have hn:((BV x y i).map λx=>AV.lit (dU x)).set i (bW (x.words.getD i 0+y.words.getD i 0))=(BV x y (i+1)).map λx=>AV.lit (dU x):=by rw[<- b3E x y i hi8,List.map_set]
  repeat' (first|refine Y8 ?_|refine aB ?_|refine W ?_|refine p9 (λ_=>?_)|intro _)
  refine IE (u:=bW (y.words.getD i 0)) i ?_ rfl om (by rw[List.getElem?_map,Gb y i hi8];rfl) (Siz.out (ps:=y.words.map λx=>.lit (dU x)) ) rfl;repeat' (first|refine Y8 ?_|refine aB ?_|refine W ?_|refine p9 (λ_=>?_)|intro _)
  apply zd [];exact zg;intro _ _;refine aX i ?_;exact j5 (A7 rfl rfl);apply zd [0];exact zg;intro _ _;refine bV (hv:=Bb (pre:=[]) (j:=i) inferInstance ha rfl hl (by show _=0+i;omega)) ?_;exact j5 (A7 rfl rfl);repeat' (first|refine Y8 ?_|refine aB ?_|refine W ?_|refine p9 (λ_=>?_)|intro _)
  apply zd [];exact zg;intro _ _;refine aX i ?_;exact j5 (A7 rfl rfl);apply iX [0];exact rfl;exact rfl;kernel_rfl
  ·intro _ _;refine gW (hp:=Mi (pre:=[]) (j:=i) inferInstance om rfl rfl (by rw[List.getElem_map];rfl) hl (by show _=0+i;omega)) ?_;exact j5 (jJ rfl)
  ·exact rfl
  ·exact rfl
  rw[hn];repeat' (first|refine Y8 ?_|refine aB ?_|refine W ?_|refine p9 (λ_=>?_)|intro _)
  exact y7 (i+1) za slr om om
 obtain rfl:i=8:=by omega
 repeat' (first|refine Y8 ?_|refine aB ?_|refine W ?_|refine p9 (λ_=>?_)|intro _)
 exact iV _ ⟨rfl,rfl⟩ slr⟩
end Go.Proofs.Z

namespace Go.Proofs
open Go.Shelf
def Tryz.laysRepeat_ren:Go.Shelf.Ren:=⟨fun|105=>271|212=>310|99=>88|165=>311|166=>131|170=>132|169=>133|263=>344|264=>345|206=>121|240=>182|241=>346|276=>221|277=>370|n=>n,fun|9=>9|3=>3|4=>4|20=>20|0=>0|46=>257|109=>372|5=>5|72=>211|76=>214|51=>279|146=>397|53=>37|148=>274|70=>209|37=>190|75=>213|127=>262|164=>297|80=>70|n=>n,fun|n=>n⟩
theorem Tryz.laysRepeat:Go.Proofs.Lays.n105 Tryz.prog Tryz.laysRepeat_ren:={
 mixed:=by kernel_rfl
 f99:=Tryz.func88.trans (congrArg some (by kernel_rfl))
 f105:=Tryz.func271.trans (congrArg some (by kernel_rfl))
 f165:=Tryz.func311.trans (congrArg some (by kernel_rfl))
 f166:=Tryz.func131.trans (congrArg some (by kernel_rfl))
 f169:=Tryz.func133.trans (congrArg some (by kernel_rfl))
 f170:=Tryz.func132.trans (congrArg some (by kernel_rfl))
 f206:=Tryz.func121.trans (congrArg some (by kernel_rfl))
 f212:=Tryz.func310.trans (congrArg some (by kernel_rfl))
 f240:=Tryz.func182.trans (congrArg some (by kernel_rfl))
 f241:=Tryz.func346.trans (congrArg some (by kernel_rfl))
 f263:=Tryz.func344.trans (congrArg some (by kernel_rfl))
 f264:=Tryz.func345.trans (congrArg some (by kernel_rfl))
 f276:=Tryz.func221.trans (congrArg some (by kernel_rfl))
 f277:=Tryz.func370.trans (congrArg some (by kernel_rfl))
 t0:=Tryz.underlying0
 a0:=Tryz.isAgg0
 z0:=Tryz.sizeOf0
 v0:=Tryz.zeroValue0
 t3:=Tryz.underlying3
 a3:=Tryz.isAgg3
 z3:=Tryz.sizeOf3
 v3:=Tryz.zeroValue3
 t4:=Tryz.underlying4
 a4:=Tryz.isAgg4
 z4:=Tryz.sizeOf4
 v4:=Tryz.zeroValue4
 t5:=Tryz.underlying5
 a5:=Tryz.isAgg5
 z5:=Tryz.sizeOf5
 v5:=Tryz.zeroValue5
 t9:=Tryz.underlying9
 a9:=Tryz.isAgg9
 z9:=Tryz.sizeOf9
 v9:=Tryz.zeroValue9
 t20:=Tryz.underlying20
 a20:=Tryz.isAgg20
 z20:=Tryz.sizeOf20
 v20:=Tryz.zeroValue20
 t37:=Tryz.underlying190
 a37:=Tryz.isAgg190
 z37:=Tryz.sizeOf190
 v37:=Tryz.zeroValue190
 t46:=Tryz.underlying257
 a46:=Tryz.isAgg257
 z46:=Tryz.sizeOf257
 v46:=Tryz.zeroValue257
 t51:=Tryz.underlying279
 a51:=Tryz.isAgg279
 z51:=Tryz.sizeOf279
 v51:=Tryz.zeroValue279
 t53:=Tryz.underlying37
 a53:=Tryz.isAgg37
 z53:=Tryz.sizeOf37
 v53:=Tryz.zeroValue37
 t70:=Tryz.underlying209
 a70:=Tryz.isAgg209
 z70:=Tryz.sizeOf209
 v70:=Tryz.zeroValue209
 t72:=Tryz.underlying211
 a72:=Tryz.isAgg211
 z72:=Tryz.sizeOf211
 v72:=Tryz.zeroValue211
 t75:=Tryz.underlying213
 a75:=Tryz.isAgg213
 z75:=Tryz.sizeOf213
 v75:=Tryz.zeroValue213
 t76:=Tryz.underlying214
 a76:=Tryz.isAgg214
 z76:=Tryz.sizeOf214
 v76:=Tryz.zeroValue214
 t109:=Tryz.underlying372
 a109:=Tryz.isAgg372
 z109:=Tryz.sizeOf372
 v109:=Tryz.zeroValue372
 t127:=Tryz.underlying262
 a127:=Tryz.isAgg262
 z127:=Tryz.sizeOf262
 v127:=Tryz.zeroValue262
 t146:=Tryz.underlying397
 a146:=Tryz.isAgg397
 z146:=Tryz.sizeOf397
 v146:=Tryz.zeroValue397
 t148:=Tryz.underlying274
 a148:=Tryz.isAgg274
 z148:=Tryz.sizeOf274
 v148:=Tryz.zeroValue274
 t164:=Tryz.underlying297
 a164:=Tryz.isAgg297
 z164:=Tryz.sizeOf297
 v164:=Tryz.zeroValue297 }
end Go.Proofs

namespace Go.Proofs
open Go.Shelf Go.RowKit
theorem Tryz.extraRepeat:Builder.Extra Tryz.prog Tryz.laysRepeat_ren where
 sizeBuilder:=by kernel_rfl
 liesBuilder:=by kernel_rfl
 t5:=Tryz.laysRepeat.t5
 a5:=Tryz.laysRepeat.a5
 z5:=Tryz.laysRepeat.z5
 v5:=Tryz.laysRepeat.v5
 infoByte:=by kernel_rfl
 cellsByte:=by kernel_rfl
 sizeByte:=by kernel_rfl
 neB5:=by decide
theorem Tryz.fRepeat:Tryz.laysRepeat_ren.f 105=271:=by kernel_rfl
end Go.Proofs
namespace Go.Proofs.Z
open Go Go.RowKit Tw
theorem Lf (l:Bs):∀ c,Lib.repeatL l c=(List.replicate c l).flatten
 | 0=>rfl
 | c+1=>by rw[Lib.repeatL,Lf l c,List.replicate_succ,List.flatten_cons]
theorem a3J (s:Bs)(c:Nat)(hc:s.length*c<=140737488355328)(hc2:c<=9223372036854775807)(w:World):Ret Tryz.prog 271 [sv s,.int .i64 c] w λv w'=>v=sv (List.replicate c s).flatten/\Ext w w':=by
 have h:=Any.strings_Repeat Tryz.laysRepeat Tryz.extraRepeat ⟨s.toArray⟩ c w hc2 hc;rw[Tryz.fRepeat] at h;unfold Ret;refine Calls.mono h λe w' ⟨h1,h2⟩=>⟨_,h1,?_,h2.os,h2.tape,h2.output,h2.size,h2.block⟩;rw[<- Lf]
end Go.Proofs.Z

namespace Av
open Go Go.RowKit Tw
section
variable {P:Program} {N:Nat} {ops:Array Oper} {Q:Exit->Act->World->Prop} {rest:List Oper} {s:Base} {e:Env} {m:List Piece} {d:Nat} {ty:TypeId} {pos:String} {af:Array Edge}
theorem b2U {T E T2:TypeId}{b:Nat}[t:TyL P T E 1 b]{x y:Operand}{g o n1 c1 nn q:Nat}{T0:TypeId}{pre post:List AV}{l a:Bs}{m':List Piece}(i k:Nat)(h:AL P N ops Q s rest ((d,int (k:Nat))::e) m')(hx:ev e x=some (.lit (.slice (some ⟨g,o,none⟩) n1 c1)):=by exact rfl)(hy:ev e y=some (str a):=by exact rfl)
  (hk:k=min a.length n1:=by omega) (hi:i+k<=l.length:=by omega) (hq:l.length=q:=by omega) (ho:o=(pre.map AV.size).sum+i:=by exact rfl)
  (hu:Upd m (.var g T0 (.agg nn (pre++.agg q (l.map I5)::post))) (.var g T0 (.agg nn (pre++.agg q ((jB l i (a.take k)).map I5)::post))) m':=by (repeat (first|apply Av.Upd.here|apply Av.Upd.there))) (hd:Nat.blt d N=true:=by exact rfl) :
  AL P N ops Q s (⟨some d,.call ⟨.builtin .copy,#[x,y],#[T,T2]⟩,ty,pos,af,none⟩::rest) e m:=by
 subst hq;refine zQ (v:=int (k:Nat)) (λok w B hS hB=>?_) hd;obtain⟨mp,mq,rfl,rfl⟩:=hu.parts;obtain⟨cs,hb,hg⟩:=hS.at_ (.var g T0 (.agg nn (pre++.agg l.length (l.map I5)::post))) sm;have hg0:=hg;rw[RC] at hg;obtain⟨c1',c2',rfl,r1,r2⟩:=hg.2.split;rw[RCs] at r2;obtain⟨c3,c4,rfl,r3,r4⟩:=r2;rw[RC] at r3;have hcs:=RCs_u8_eq r3.2;subst hcs;have hpl:c1'.length=(pre.map AV.size).sum:=by
  clear hu h hg hg0 hb hS ho
  induction pre generalizing c1' with
  | nil=>rw[RCs] at r1;rw[r1];rfl
  | cons p ps ih=>
   rw[RCs] at r1;obtain⟨u,v,rfl,h1,h2⟩:=r1;rw[lla,h1.len,ih v h2];simp
 have htl:(a.take k).length=k:=by rw[List.length_take];omega
 have hcl:((a.take k).map y8).length=k:=by rw[llm,htl]
 have e7:(c1'++(l.map y8++c4)).take o++(a.take k).map y8++(c1'++(l.map y8++c4)).drop (o+k)=c1'++((jB l i (a.take k)).map y8++c4):=by
  subst ho;rw[<- hpl,List.take_length_add_append,Nat.add_assoc,List.drop_length_add_append,List.take_append_of_le_length (by rw[llm];omega),List.drop_append_of_le_length (by rw[llm];omega)];simp only[jB,List.map_append,List.map_take,List.map_drop,htl,List.append_assoc]
 have hrun:=run_storeCells_at (P:=P) g o T0 ((a.take k).map y8) 0 (c1'++(l.map y8++c4)).toArray w hb (by rw[hcl,ho,<- hpl];simp;omega) (λv hv=>by
  obtain⟨c,_,rfl⟩:=List.mem_map.1 hv;rfl)
 simp only[Nat.add_zero,hcl] at hrun;rw[e7] at hrun;have hil:(jB l i (a.take k)).length=l.length:=TM om;obtain⟨h1,h2⟩:=hS.writeVar (v':=.agg nn (pre++.agg l.length ((jB l i (a.take k)).map I5)::post)) (cs':=c1'++((jB l i (a.take k)).map y8++c4)) (by
  rw[RC];refine⟨?_,r1.append (by rw[RCs];exact⟨_,_,rfl,by rw[RC];exact⟨by simp[hil],RCs_u8 _⟩,r4⟩)⟩;rw[<- hg.1];simp[hil]) (λcs2 hb2=>by
  rw[hb] at hb2;injection hb2 with hb2
  injection hb2 with hb2
  have:c1'++(l.map y8++c4)=cs2:=by simpa using congrArg Array.toList hb2
  rw[<- this];simp[hil])
 refine⟨.int .i64 (k:Nat),_,ok,_,?_,RVl rfl,h1,h2,h⟩;have hk':Nat.min a.length n1=k:=hk.symm;have e5:List.take k (List.map (λb:UInt8=>Value.int .u8 (b.toNat:Int)) a)=(a.take k).map y8:=by
  rw[<- List.map_take];rfl
 simp only[execOp,resolve,invoke,builtin,hB.lit hx,hB.lit hy,Builtin.copy_,List.map_toArray,List.map_cons,List.map_nil];simp[run_underlying t.out,Builtin.lenOf,run_sizeOf t.size,Builtin.firstCells,yQ,hk'];rw[e5,hrun];rfl
end
end Av
namespace Go.Proofs.Z
open Go Go.RowKit Tw Av
def Hashed (g:Nat)(M:Bs)(m:List Av.Piece):Prop:=∃ x buf,HS M x buf/\m=[.var g 341 (dC x buf M.length)]
theorem TQ {g:Nat}{M s:Bs}{x:H8}{buf:Bs}(hH:HS M x buf)(hl:M.length+s.length<=4611686018427387904):Av.Spec Tryz.prog GL 241 [ptr g,str s] [.var g 341 (dC x buf M.length)] λu m'=>u=.tup []/\Hashed g (M++s) m':=by
 refine qE Tryz.func241 rfl Tryz.ntmps241 rfl (λ_ hs=>?_);repeat' first|refine O ?_|intro
 refine H7 (α:=Bs × Bs × H8 × Bs) (λq=>[(0,ptr g),(1,str q.2.1)]) (λq=>[.var g 341 (dC q.2.2.1 q.2.2.2 q.1.length)])
  (λq=>q.1++q.2.1=M++s/\HS q.1 q.2.2.1 q.2.2.2) (λq=>q.2.1.length) (M,s,x,buf) za slr ⟨rfl,hH⟩ ?_
 clear hH;rintro⟨M1,s1,x1,b1⟩ ⟨hMs,hH⟩;dsimp only at hMs hH ⊢;have hb1:=hH.len;have hle:M1.length+s1.length<=4611686018427387904:=by
  have:=congrArg List.length hMs;simp only[List.length_append] at this;omega
 repeat' first|refine O ?_|intro
 refine G7 (λhne=>?_) (λhne=>?_)
 ·have hs0:0<s1.length:=List.length_pos_iff.2 hne;repeat' first|refine O ?_|intro
  refine VE (M1.length%64) 64 ?_;repeat' first|refine O ?_|intro
  obtain⟨k,hk⟩:∃ k,k=min s1.length (64-M1.length%64):=⟨_,rfl⟩;refine b2U (pre:=[zI x1]) (l:=b1) (M1.length%64) k ?_ (ho:=by show 0+8+M1.length%64*1=8+M1.length%64;omega);generalize hp:s1.take k=p;have hpl:p.length=k:=by rw[<- hp,List.length_take];omega
  have hps:p++s1.drop k=s1:=by rw[<- hp,List.take_append_drop]
  have hbl:(jB b1 (M1.length%64) p).length=64:=by rw[TM om];exact hb1
  have hkl:k<=s1.length:=om
  have hMp:M1++p++s1.drop k=M++s:=by rw[laa,hps,hMs]
  have hdr:(s1.drop k).length<s1.length:=by rw[List.length_drop];omega
  have hle2:(M1.length:Int)+(k:Int)=((M1++p).length:Nat):=by rw[lla];omega
  repeat' first|refine O ?_|intro
  refine dG k s1.length ?_;rw[List.take_length];repeat' first|refine O ?_|intro
  rw[hle2];refine jK (g:=g) (v':=dC x1 (jB b1 (M1.length%64) p) (M1++p).length) (λok w cs h=>h) ?_;refine G7 (λhf=>?_) (λhf=>?_)
  ·repeat' first|refine O ?_|intro
   exact y7 (M1++p,s1.drop k,_,jB b1 (M1.length%64) p) za slr ⟨hMp,hH.full om⟩ hdr
  repeat' first|refine O ?_|intro
  exact y7 (M1++p,s1.drop k,x1,jB b1 (M1.length%64) p) za slr ⟨hMp,hH.part om⟩ hdr
 obtain rfl:s1=[]:=by simpa using hne
 rw[List.append_nil] at hMs;subst hMs;repeat' first|refine O ?_|intro
 exact iV _ ⟨rfl,x1,b1,hH,rfl⟩ slr
def BG (N i:Nat):Bs:=zeros (8-i)++(vI N).drop (8-i)
theorem a6r (N i:Nat)(_h:i<=8):(BG N i).length=8:=by
 have:(vI N).length=8:=rfl;simp[BG,zeros,this]
theorem a6q (N i:Nat)(h:i<8):(BG N i).set (7-i) (UInt8.ofNat (N / 2 ^ (8*i)))=BG N (i+1):=by
 have h8:(vI N).length=8:=rfl;have hg:=b1t N i h;have e1:(vI N).drop (8-(i+1))=UInt8.ofNat (N / 2 ^ (8*i))::(vI N).drop (8-i):=by
  rw[show 8-(i+1)=7-i by omega,List.drop_eq_getElem_cons om,show 7-i+1=8-i by omega];congr 1
  rw[List.getElem?_eq_getElem om] at hg;exact Option.some.inj hg
 unfold BG;rw[e1,zeros,zeros,show 8-i=(8-(i+1))+1 by omega,List.replicate_succ',List.append_assoc,List.set_append,if_neg sm];simp only[List.length_replicate];rw[show 7-i-(8-(i+1))=0 by omega];rfl
theorem a9e (B:Bs)(n i:Nat)(b:UInt8)(hB:B.length=n)(hi:i<n)(h:B[i]?=some b):(B.take i++zeros (n-i)).set i b=B.take (i+1)++zeros (n-(i+1)):=by
 rw[List.set_append,if_neg (by simp;omega),List.take_add_one,h,show n-i=(n-(i+1))+1 by omega,zeros,List.replicate_succ];rw[show i-(B.take i).length=0 by simp;omega];simp[zeros]
instance b9X {k:Nat}:Ans Tryz.prog GL 271 [str [0],int (k%64:Nat)] True (str (zeros (k%64))):=⟨λ_=>a2v λok w cargs hg hv=>by
 obtain⟨u1,us,rfl,h1,u2,us2,rfl,h2,rfl⟩:=hv;rw[RV0.lit h1,RV0.lit h2];exact(a3J [0] (k%64) (by simp;omega) om w).mono λv w' hh=>⟨λok w=>by rw[hh.1,show (List.replicate (k%64) [(0:UInt8)]).flatten=zeros (k%64) by simp[zeros]];exact RVl rfl,hh.2⟩⟩
instance {k:Nat}:LenLe (zeros (k%64)) 64:=⟨by rw[zeros,List.length_replicate];omega⟩
instance {k:Nat}:LenLe (vI k) 8:=⟨Nat.le_refl 8⟩
theorem Ru {g:Nat}{M:Bs}{x:H8}{buf:Bs}(hH:HS M x buf)(hl:M.length<=1152921504606846976):Av.Spec Tryz.prog GL 244 [ptr g] [.var g 341 (dC x buf M.length)] λu m'=>u=hA (nX M)/\m'=[.var g 341 (dC x buf M.length)]:=by
 refine qE Tryz.func244 rfl Tryz.ntmps244 rfl (λ_ hs=>?_);repeat' first|refine O ?_|intro
 refine J6 [] _ (by rw[hs];exact rO) (λu m1 hh=>?_) lpr;obtain⟨gN,rfl,rfl⟩:=hh;repeat' first|refine Yz ?_|intro
 rename_i go gl;refine jK (g:=gl) (v':=.agg 8 ((BG (8*M.length) 0).map I5)) (λok w cs h=>h) ?_;refine H7 (α:=Nat) (λi=>[(0,ptr g),(2,ptr go),(3,ptr gN),(4,ptr gl),(23,int i)])
  (λi=>[.var gl 343 (.agg 8 ((BG (8*M.length) i).map I5)),.var gN 341 (dC x buf M.length),.var go 91 (hA G8),.var g 341 (dC x buf M.length)]) (λi=>i<=8) (λi=>8-i) 0 za slr (Nat.zero_le _) ?_
 intro i hi;repeat' first|refine Yz ?_|intro
 refine G7 (λhlt=>?_) (λhlt=>?_)
 ·repeat' first|refine Yz ?_|intro
  refine PP (n:=8*i) ?_ rfl rfl rfl (Nat.ble_eq_true_of_le (show 8*i<=64 by omega));rw[show ((M.length:Int)*8)=((8*M.length:Nat):Int) by omega,<- Int.natCast_ediv];refine EQ ?_;rw[WE,WF];refine aX (7-i) ?_;refine vJ (ps:=(BG (8*M.length) i).map I5) (j:=7-i) (by rw[llm,a6r _ _ hi];omega) ?_;rw[<- List.map_set,a6q _ _ om];repeat' first|refine Yz ?_|intro
  exact y7 (i+1) za slr om om
 obtain rfl:i=8:=by omega
 rw[show BG (8*M.length) 8=vI (8*M.length) from rfl];have hz:(55-(M.length:Int)%64+64)%64=(((119-M.length%64)%64:Nat):Int):=by omega
 have hpad:M++([UInt8.ofNat (128:Int).toNat]++zeros ((119-M.length%64)%64)++vI (8*M.length))=pad M:=by
  rw[laa];rfl
 repeat' first|refine Yz ?_|intro
 rw[hz];repeat' first|refine Yz ?_|intro
 apply zd [0];exact zg;intro _ _;refine Em ?_;exact j5 (A7 rfl rfl);repeat' first|refine Yz ?_|intro
 apply aH [1];exact rfl;exact rfl;exact rfl;kernel_rfl;intro sQ hQ;have hw:=TQ (g:=gN) (s:=[UInt8.ofNat (128:Int).toNat]++zeros ((119-M.length%64)%64)++vI (8*M.length)) hH (by simp[zeros,vI];omega);rw[hpad] at hw;refine J6 [.var gN 341 (dC x buf M.length)] [] (by rw[hQ];exact hw) (λu m1 hh=>?_) lpr;obtain⟨rfl,x',buf',hH',rfl⟩:=hh;refine j5 (W9 [.var gN 341 (dC x' buf' (pad M).length)] [] rfl rfl lpr rfl ?_);repeat' first|refine Yz ?_|intro
 rename_i gq;refine jK (g:=gq) (v':=.agg 32 ((x'.bytes.take 0++zeros (32-0)).map I5)) (λok w cs h=>h) ?_;refine H7 (α:=Nat) (λi=>[(2,ptr go),(3,ptr gN),(7,ptr gq),(58,int i)])
  (λi=>[.var gq 91 (.agg 32 ((x'.bytes.take i++zeros (32-i)).map I5)),.var gN 341 (dC x' buf' (pad M).length),.var go 91 (hA G8),.var g 341 (dC x buf M.length)]) (λi=>i<=32) (λi=>32-i) 0 za zb (Nat.zero_le _) ?_
 clear hi hlt;intro i hi;repeat' first|refine Yz ?_|intro
 refine G7 (λhlt=>?_) (λhlt=>?_)
 ·have hl:(x'.bytes.take i++zeros (32-i)).length=32:=by
   rw[lla,List.length_take,zeros,List.length_replicate,x'.bytes_len];omega
  repeat' first|refine Yz ?_|intro
  refine aX (i / 4) ?_;refine bV (hv:=Bb (ps:=x'.words.map λx=>.lit (dU x)) (u:=bW (x'.words.getD (i / 4) 0)) (pre:=[]) (j:=i / 4) inferInstance (by rw[List.getElem?_map,Gb x' (i / 4) om];rfl) rfl rfl (by show _=0+i / 4;omega)) ?_;repeat' first|refine Yz ?_|intro
  refine VF (24-8*(i%4)) ?_;refine EQ ?_;rw[WE,WF,BitVec.toNat_ushiftRight,Nat.shiftRight_eq_div_pow];refine aX i ?_;refine vJ (ps:=(x'.bytes.take i++zeros (32-i)).map I5) (j:=i) (by rw[llm,hl];omega) ?_;rw[<- List.map_set,a9e x'.bytes 32 i _ rfl om (b0Y x' i om)];repeat' first|refine Yz ?_|intro
  exact y7 (i+1) za slr om om
 obtain rfl:i=32:=by omega
 have e:(x'.bytes.take 32++zeros (32-32)).map I5=(nX M).l.map I5:=by
  rw[List.take_of_length_le (Nat.le_refl 32),a2L hH'];show (QO M++[]).map I5=_;rw[List.append_nil];rfl
 rw[e];repeat' first|refine Yz ?_|intro
 refine j4 [.var g 341 (dC x buf M.length)] ⟨rfl,rfl⟩ ?_;exact A8
class LensLe (l:List Bs)(n:outParam Nat):Prop where
 out:l.flatten.length<=n
instance : LensLe [] 0 := ⟨Nat.le_refl _⟩
instance {a:Bs}{l:List Bs}{n k:Nat}[h:LenLe a n][g:LensLe l k]:LensLe (a::l) (n+k):=⟨by have:=h.out;have:=g.out;simp at *;omega⟩
def yY (l:List Bs):Hsh:=nX l.flatten
instance c2e {h:Hsh}:Ans Tryz.prog GL 174 [hA h] True (str h.l):=⟨λ_=>by
 refine qE Tryz.func174 rfl Tryz.ntmps174 rfl (λ_ hs=>?_);exact bH⟩
instance c0P {xs:List AV}{id:Option Value}{l:List Bs}{n:Nat}[hx:Strs xs l][hl:LensLe l n]:Ans Tryz.prog GL 243 [.sl 1 xs id] (n<=1152921504606846976) (hA (yY l)):=⟨λhn=>by
 have h:=hx.out;subst h;have hl2:=hl.out;refine qE Tryz.func243 rfl Tryz.ntmps243 rfl (λ_ hs=>?_);refine IP 0 (λhbnd=>?_);have hbnd:l.length<=9223372036854775807:=by simpa[maxLen] using hbnd
 repeat' first|refine O ?_|intro
 refine J6 [] _ (by rw[hs];exact rO) (λu m1 hh=>?_) lpr;obtain⟨gN,rfl,rfl⟩:=hh;repeat' first|refine Yz ?_|intro
 rename_i go;rw[llm];refine H7 (α:=Nat × H8 × Bs) (λq=>[(2,ptr go),(3,ptr gN),(7,.sl 1 (l.map str) id),(8,int l.length),(9,int q.1)])
  (λq=>[.var gN 341 (dC q.2.1 q.2.2 (l.take q.1).flatten.length),.var go 91 (hA G8)]) (λq=>q.1<=l.length/\HS (l.take q.1).flatten q.2.1 q.2.2) (λq=>l.length-q.1) (0,h0,zeros 64) za slr ⟨Nat.zero_le _,HS.nil⟩ ?_
 rintro⟨i,x,b⟩ ⟨hi,hH⟩;dsimp only at hi hH ⊢;repeat' first|refine O ?_|intro
 refine G7 (λhlt=>?_) (λhlt=>?_)
 ·have hil:i<l.length:=om
  have htk:(l.take (i+1)).flatten=(l.take i).flatten++l[i]:=by
   rw[List.take_add_one,List.getElem?_eq_getElem hil,Option.toList_some,List.flatten_append];simp only[List.flatten_cons,List.flatten_nil,List.append_nil]
  have hle:(l.take (i+1)).flatten.length<=l.flatten.length:=by
   have h:=congrArg (λq=>(List.flatten q).length) (List.take_append_drop (i+1) l);simp only[List.flatten_append,List.length_append] at h;omega
  repeat' first|refine O ?_|intro
  have hw:=TQ (g:=gN) (s:=l[i]) hH (by rw[htk,lla] at hle;omega);rw[<- htk] at hw;refine J6 [.var gN 341 (dC x b (l.take i).flatten.length)] _ (by rw[hs];exact hw) (λu m1 hh=>?_) lpr;obtain⟨rfl,x',b',hH',rfl⟩:=hh;repeat' first|refine O ?_|intro
  exact y7 (i+1,x',b') za slr ⟨hil,hH'⟩ (by dsimp only;omega)
 obtain rfl:i=l.length:=by omega
 rw[List.take_length] at hH ⊢;repeat' first|refine O ?_|intro
 refine J6 [.var gN 341 (dC x b l.flatten.length)] _ (by rw[hs];exact Ru hH om) (λu m1 hh=>?_) lpr;obtain⟨rfl,rfl⟩:=hh;exact o8⟩
end Go.Proofs.Z



namespace Go.Proofs.YtcdbijbhifhkeaaGreatDoor
open Go Go.ChangeShapes Go.WideShapes Go.ChangeAt Go.RowKit Tw Av Go.Proofs.Tryz Go.Proofs.Z
theorem own:ownKnob prog.godebug=none:=by kernel_rfl
theorem laidOut:laidOutB prog=true:=by kernel_rfl
def zsF:List Int:=xX.map λx=>(x.toNat:Int)
def zsB:List Int:=h0.words.map λx=>(x.toNat:Int)
theorem Ag {P:Program}{x:String × DataW Unit}{r:List (String × DataW Unit)}{w:World}(h:laidMet P (x::r) w):laidMet P r w:=by
 obtain⟨ps,h1,h2,h3⟩:=h;obtain⟨g,t,cs,fuel,p,q,e1,e2,e3,e4,e5,rfl⟩:=h1;exact⟨q,e5,(List.nodup_append.1 h2).2.1,λb off hb=>h3 b off (by simp[hb])⟩
theorem Qc {α:Type}{f:α->Value}{ok:Ok}{w:World}(hf:∀ x,(f x).oneCell'=true):∀ l:List α,RCs ok w (l.map λx=>.lit (f x)) (l.map f)
 | []=>by rw[List.map_nil,RCs];rfl
 | x::l=>by
  rw[List.map_cons,RCs];exact⟨[f x],l.map f,rfl,by rw[RC];exact⟨rfl,hf x⟩,Qc hf l⟩
theorem Hg {W:World}{g:Nat}{name:String}{l:List W32}{n:Nat}(hg:prog.globalNamed name=some g)(hl:l.length=n)(h:Lib.TabIs prog W name .u32 (l.map λx=>(x.toNat:Int))):∃ cs,At lW W g 0 cs/\RC lW W (.agg n (l.map λx=>.lit (dU x))) cs:=by
 refine⟨l.map dU,λj v hj=>⟨?_,trivial⟩,?_⟩
 ·have hlt:j<l.length:=by have:=(List.getElem?_eq_some_iff.1 hj).1;simpa using this
  have h1:=Lib.TabIs.cell h hg j (by simpa using hlt);rw[Nat.zero_add,h1];rw[List.getElem?_map,List.getElem?_eq_getElem hlt] at hj;simp only[Option.map_some,Option.some.injEq] at hj;rw[<- hj];simp[List.getD,hlt,dU]
 rw[RC];exact⟨by simp[hl],Qc (λ_=>rfl) l⟩
def rowOf (c:Array Value):Obj->Obj
 | .cells _ t frozen=>.cells c t frozen
 | o=>o
noncomputable def Qi (os:Os):World:=
 { World.holding prog os ⟨#[],#[],[]⟩ with heap:=((World.holding prog os ⟨#[],#[],[]⟩).heap.modify 1 (rowOf (h0.words.map dU).toArray)).modify 2 (rowOf (xX.map dU).toArray) }
end Go.Proofs.YtcdbijbhifhkeaaGreatDoor

namespace Go.Proofs.YtcdbijbhifhkeaaGreatDoor
open Go Go.ChangeShapes Go.WideShapes Go.ChangeAt Go.RowKit Tw Av Go.Proofs.Tryz Go.Proofs.Z
theorem KG {W : World} (h : laidMet Tryz.prog [("unicode/utf8.acceptRanges", Rows.laid_unicode_utf8_acceptRanges), ("twinspan/hash.factors", Rows.laid_twinspan_hash_factors), ("twinspan/hash.begin", Rows.laid_twinspan_hash_begin), ("unicode/utf8.first", Rows.laid_unicode_utf8_first)] W) : Glob GL lW W := by
 have gF : Tryz.prog.globalNamed "twinspan/hash.factors" = some 2 := by kernel_rfl
 have gB : Tryz.prog.globalNamed "twinspan/hash.begin" = some 1 := by kernel_rfl
 have h1 : Lib.TabIs Tryz.prog W "twinspan/hash.factors" .u32 zsF := Lib.tabIs_of_head (g := 2) (t := 370) (e := 279) (n := 64) gF (by kernel_rfl) (by kernel_rfl) (by kernel_rfl) (by kernel_rfl) (by kernel_rfl) (rest := [("twinspan/hash.begin", Rows.laid_twinspan_hash_begin), ("unicode/utf8.first", Rows.laid_unicode_utf8_first)]) (Ag h)
 have h2 : Lib.TabIs Tryz.prog W "twinspan/hash.begin" .u32 zsB := Lib.tabIs_of_head (g := 1) (t := 339) (e := 279) (n := 8) gB (by kernel_rfl) (by kernel_rfl) (by kernel_rfl) (by kernel_rfl) (by kernel_rfl) (rest := [("unicode/utf8.first", Rows.laid_unicode_utf8_first)]) (Ag (Ag h))
 intro p hp;unfold GL at hp;rcases List.mem_cons.1 hp with rfl|hp
 ·exact Hg gB rfl h2
 obtain rfl:=List.mem_singleton.1 hp;exact Hg gF rfl h1
def Ju (l:List Nat):Array Value:=(l.map λn:Nat=>Value.int .u8 (n:Int)).toArray
noncomputable def lY (os:Os):World:=
 { Qi os with heap:=((Qi os).heap.modify 3 (rowOf (Ju Go.Pinned.utf8FirstZ))).modify 4 (rowOf (Ju ([128,191,160,191,128,159,144,191,128,143]++List.replicate 22 0))) }
end Go.Proofs.YtcdbijbhifhkeaaGreatDoor
