/- . -/
import Derived.Shelf.Strings.Repeat
import Derived.Test.YtjhnaegpchadiaaGreatDoorRows
import Derived.Lib.LaidTab
import Derived.LaidLaws
import Derived.Test.YtjhnaegpchadiaaGreatDoorN14
set_option maxHeartbeats 64000000
namespace Go.Proofs.YtjhnaegpchadiaaGreatDoor
open Go Go.RowKit Tw Av Go.Proofs.Tryz
attribute [local irreducible] Av.Obl
instance b5H {g:Nat}{x:H8}{buf:Bs}{n:Nat}:AnsM prog GL 377 g [] 422 (aD x buf n) (buf.length=64) (.tup []) (aD (vC x buf) buf n):=⟨fun hbl=>by
 refine qF func377 ntmps377 fun _ hs=>?_;repeat' first|refine Yz ?_|intro _
 rename_i gw;refine gK (g:=gw) (v':=.agg 64 (wA buf 0)) (fun ok w cs h=>h) ?_;refine y5 (α:=Nat) (fun i=>[(0,ptr g),(2,ptr gw),(22,int i)]) (fun i=>[.var gw 410 (.agg 64 (wA buf i)),.var g 422 (aD x buf n)]) (fun i=>i<=16) (fun i=>16-i) 0 ⟨rfl,rfl,rfl,trivial⟩ slr (Nat.zero_le _) ?_;intro i hi;repeat' (first|refine F8 ?_|refine G6 ?_|refine W ?_|refine y7 (fun _=>?_)|intro _)
 refine o8 (fun hlt=>?_) (fun hlt=>?_)
 ·repeat' (first|refine F8 ?_|refine G6 ?_|refine W ?_|refine y7 (fun _=>?_)|intro _)
  refine MO (4*i) (4*i+4) ?_;repeat' (first|refine F8 ?_|refine G6 ?_|refine W ?_|refine y7 (fun _=>?_)|intro _)
  rw[show ((4*i+4-4*i:Nat):Int)=4 by omega];refine y5 (α:=Nat) (fun j=>[(0,ptr g),(2,ptr gw),(22,int i),(3,int i),(33,.lit (.slice (some ⟨g,0+8+4*i*1,none⟩) (4*i+4-4*i) (64-4*i))),(34,int 4),(35,int j)])
   (fun j=>[.var gw 410 (.agg 64 ((wA buf i).set i (S9 (wE buf i j)))),.var g 422 (aD x buf n)]) (fun j=>j<=4) (fun j=>4-j) 0 ⟨rfl,rfl,rfl,rfl,rfl,rfl,rfl,trivial⟩ (by rw[show wE buf i 0=0 from rfl,Pg buf i om];exact List.Sublist.refl _) (Nat.zero_le _) ?_
  intro j hj;repeat' (first|refine F8 ?_|refine G6 ?_|refine W ?_|refine y7 (fun _=>?_)|intro _)
  refine o8 (fun hjl=>?_) (fun hjl=>?_)
  ·have hb:(buf.map w9)[4*i+j]?=some (w9 (buf.getD (4*i+j) 0)):=by
    have hl:4*i+j<buf.length:=om
    simp[List.getD,hl]
   have hw:((wA buf i).set i (S9 (wE buf i j)))[i]?=some (S9 (wE buf i j)):=List.getElem?_set_self (by rw[IA _ _ om];omega);repeat' (first|refine F8 ?_|refine G6 ?_|refine W ?_|refine y7 (fun _=>?_)|intro _)
   refine MR j ?_;refine aQ (hv:=SN (pre:=[fB x]) (j:=4*i+j) inferInstance hb rfl (by simpa using hbl) (by show _=8+_;omega)) ?_;repeat' (first|refine F8 ?_|refine G6 ?_|refine W ?_|refine y7 (fun _=>?_)|intro _)
   refine O4 i ?_;refine dP (j:=i) hw ?_;refine BQ 8 ?_;repeat' (first|refine F8 ?_|refine G6 ?_|refine W ?_|refine y7 (fun _=>?_)|intro _)
   refine O4 i ?_;refine kM (j:=i) (ps:=(wA buf i).set i (S9 (wE buf i j))) (by rw[List.length_set,IA _ _ om];omega) ?_;rw[List.set_set];repeat' (first|refine F8 ?_|refine G6 ?_|refine W ?_|refine y7 (fun _=>?_)|intro _)
   exact o6 (j+1) ⟨rfl,rfl,rfl,rfl,rfl,rfl,rfl,trivial⟩ slr om om
  ·obtain rfl:j=4:=by omega
   repeat' (first|refine F8 ?_|refine G6 ?_|refine W ?_|refine y7 (fun _=>?_)|intro _)
   rw[Vq,show yZ buf i=tH buf i by rw[tH,if_pos om],NI buf i om];exact o6 (i+1) ⟨rfl,rfl,rfl,trivial⟩ slr om om
 ·obtain rfl:i=16:=by omega
  repeat' (first|refine F8 ?_|refine G6 ?_|refine W ?_|refine y7 (fun _=>?_)|intro _)
  refine y5 (α:=Nat) (fun i=>[(0,ptr g),(2,ptr gw),(6,int i)]) (fun i=>[.var gw 410 (.agg 64 (wA buf i)),.var g 422 (aD x buf n)]) (fun i=>16<=i/\i<=64) (fun i=>64-i) 16 ⟨rfl,rfl,rfl,trivial⟩ slr dc ?_;clear hi hlt;rintro i ⟨hi1,hi2⟩;repeat' (first|refine F8 ?_|refine G6 ?_|refine W ?_|refine y7 (fun _=>?_)|intro _)
  refine o8 (fun hlt=>?_) (fun hlt=>?_)
  ·have hn:=NI buf i om;have hl64:=IA buf i om;repeat' (first|refine F8 ?_|refine G6 ?_|refine W ?_|refine y7 (fun _=>?_)|intro _)
   apply x8 [];exact rfl;exact rfl;kernel_rfl;intro _ _;refine O4 (i-15) ?_;exact j4 (o9 rfl rfl);repeat' (first|refine F8 ?_|refine G6 ?_|refine W ?_|refine y7 (fun _=>?_)|intro _)
   apply x8 [0];exact rfl;exact rfl;kernel_rfl;intro _ _;refine dP (j:=i-15) (ps:=wA buf i) (lG buf i (i-15) om) ?_;exact j4 (o9 rfl rfl);repeat' (first|refine F8 ?_|refine G6 ?_|refine W ?_|refine y7 (fun _=>?_)|intro _)
   apply x8 [];exact rfl;exact rfl;kernel_rfl;intro _ _;refine O4 (i-2) ?_;exact j4 (o9 rfl rfl);repeat' (first|refine F8 ?_|refine G6 ?_|refine W ?_|refine y7 (fun _=>?_)|intro _)
   apply x8 [0];exact rfl;exact rfl;kernel_rfl;intro _ _;refine dP (j:=i-2) (ps:=wA buf i) (lG buf i (i-2) om) ?_;exact j4 (o9 rfl rfl);repeat' (first|refine F8 ?_|refine G6 ?_|refine W ?_|refine y7 (fun _=>?_)|intro _)
   apply x8 [];exact rfl;exact rfl;kernel_rfl;intro _ _;refine O4 (i-16) ?_;exact j4 (o9 rfl rfl);repeat' (first|refine F8 ?_|refine G6 ?_|refine W ?_|refine y7 (fun _=>?_)|intro _)
   apply x8 [0];exact rfl;exact rfl;kernel_rfl;intro _ _;refine dP (j:=i-16) (ps:=wA buf i) (lG buf i (i-16) om) ?_;exact j4 (o9 rfl rfl);repeat' (first|refine F8 ?_|refine G6 ?_|refine W ?_|refine y7 (fun _=>?_)|intro _)
   apply x8 [];exact rfl;exact rfl;kernel_rfl;intro _ _;refine O4 (i-7) ?_;exact j4 (o9 rfl rfl);repeat' (first|refine F8 ?_|refine G6 ?_|refine W ?_|refine y7 (fun _=>?_)|intro _)
   apply x8 [0];exact rfl;exact rfl;kernel_rfl;intro _ _;refine dP (j:=i-7) (ps:=wA buf i) (lG buf i (i-7) om) ?_;exact j4 (o9 rfl rfl);repeat' (first|refine F8 ?_|refine G6 ?_|refine W ?_|refine y7 (fun _=>?_)|intro _)
   apply x8 [];exact rfl;exact rfl;kernel_rfl;intro _ _;refine O4 i ?_;exact j4 (o9 rfl rfl);apply bP [0];exact rfl;exact rfl;kernel_rfl
   ·intro _ _;refine kM (j:=i) (ps:=wA buf i) om ?_;exact j4 (bW rfl)
   ·exact rfl
   ·exact rfl
   have e:(ws buf i).getD (i-16) 0+(X8 ((ws buf i).getD (i-15) 0) (- -7:Int).toNat ^^^ X8 ((ws buf i).getD (i-15) 0) (- -18:Int).toNat ^^^ (ws buf i).getD (i-15) 0 >>> 3)+(ws buf i).getD (i-7) 0+(X8 ((ws buf i).getD (i-2) 0) (- -17:Int).toNat ^^^ X8 ((ws buf i).getD (i-2) 0) (- -19:Int).toNat ^^^ (ws buf i).getD (i-2) 0 >>> 10)=tH buf i:=by
    rw[tH,if_neg om];rfl
   repeat' (first|refine F8 ?_|refine G6 ?_|refine W ?_|refine y7 (fun _=>?_)|intro _)
   rw[e,hn];exact o6 (i+1) ⟨rfl,rfl,rfl,trivial⟩ slr om om
  ·obtain rfl:i=64:=by omega
   repeat' (first|refine F8 ?_|refine G6 ?_|refine W ?_|refine y7 (fun _=>?_)|intro _)
   rename_i gy;refine y5 (α:=Nat) (fun k=>[(0,ptr g),(2,ptr gw),(11,ptr gy),(97,int k)])
    (fun k=>[.var gy 349 (fB (kR buf x k)),.var gw 410 (.agg 64 (wA buf 64)),.var g 422 (aD x buf n)]) (fun k=>k<=64) (fun k=>64-k) 0 ⟨rfl,rfl,rfl,rfl,trivial⟩ slr (Nat.zero_le _) ?_
   clear hi1 hi2 hlt;intro k hk;repeat' (first|refine F8 ?_|refine G6 ?_|refine W ?_|refine y7 (fun _=>?_)|intro _)
   refine o8 (fun hlt=>?_) (fun hlt=>?_)
   ·have hr:kR buf x (k+1)=round (kJ.getD k 0) ((ws buf 64).getD k 0) (kR buf x k):=rfl;have hkt:(kJ.map fun x=>AV.lit (O1 x))[k]?=some (S9 (kJ.getD k 0)):=by
     have hlen:kJ.length=64:=rfl;have h64:k<kJ.length:=by omega
     simp[List.getD,h64]
    generalize kR buf x k=y at *;repeat' (first|refine F8 ?_|refine G6 ?_|refine W ?_|refine y7 (fun _=>?_)|intro _)
    apply x8 [];exact rfl;exact rfl;kernel_rfl;intro _ _;refine O4 k ?_;exact j4 (o9 rfl rfl);apply x8 [];exact rfl;exact rfl;kernel_rfl;intro sQ hQ;refine Mv (g:=2) (o:=0+k*1) (v:=.agg 64 (kJ.map fun x=>.lit (O1 x))) (u:=S9 (kJ.getD k 0)) ?_ rfl (by rw[hQ];exact List.mem_cons_of_mem _ List.mem_cons_self) (a0I inferInstance hkt rfl om);exact j4 (o9 rfl rfl);repeat' (first|refine F8 ?_|refine G6 ?_|refine W ?_|refine y7 (fun _=>?_)|intro _)
    apply x8 [];exact rfl;exact rfl;kernel_rfl;intro _ _;refine O4 k ?_;exact j4 (o9 rfl rfl);apply x8 [1];exact rfl;exact rfl;kernel_rfl
    ·intro _ _;refine dP (j:=k) (ps:=wA buf 64) (lG buf 64 k om) ?_;exact j4 (o9 rfl rfl)
    repeat' (first|refine F8 ?_|refine G6 ?_|refine W ?_|refine y7 (fun _=>?_)|intro _)
    refine o6 (k+1) ⟨rfl,rfl,rfl,rfl,trivial⟩ ?_ om om;dsimp only;rw[hr];exact List.Sublist.refl _
   ·obtain rfl:k=64:=by omega
    have hcm:vC x buf=x.add (kR buf x 64):=rfl;rw[hcm];generalize kR buf x 64=y at *;repeat' (first|refine F8 ?_|refine G6 ?_|refine W ?_|refine y7 (fun _=>?_)|intro _)
    refine y5 (α:=Nat) (fun i=>[(0,ptr g),(177,fB y),(178,int i)])
     (fun i=>[.var g 422 (.agg 74 [.agg 8 ((mJ x y i).map fun x=>.lit (O1 x)),.agg 64 (buf.map w9),int n,j3 true])]) (fun i=>i<=8) (fun i=>8-i) 0 ⟨rfl,rfl,rfl,trivial⟩ (by repeat (first|exact List.nil_sublist _|exact List.Sublist.refl _|apply List.Sublist.cons_cons|apply List.Sublist.cons)) (Nat.zero_le _) ?_
    clear hk hlt hcm;intro i hi;repeat' (first|refine F8 ?_|refine G6 ?_|refine W ?_|refine y7 (fun _=>?_)|intro _)
    refine o8 (fun hlt=>?_) (fun hlt=>?_)
    ·have hi8:i<8:=om
     have ha:((mJ x y i).map fun x=>AV.lit (O1 x))[i]?=some (S9 (x.words.getD i 0)):=by rw[List.getElem?_map,Ny x y i hi8];rfl
     have hl:((mJ x y i).map fun x=>AV.lit (O1 x)).length=8:=by rw[llm,Nw x y i hi]
     have hn:((mJ x y i).map fun x=>AV.lit (O1 x)).set i (S9 (x.words.getD i 0+y.words.getD i 0))=(mJ x y (i+1)).map fun x=>AV.lit (O1 x):=by rw[<- Nv x y i hi8,List.map_set]
     repeat' (first|refine F8 ?_|refine G6 ?_|refine W ?_|refine y7 (fun _=>?_)|intro _)
     refine VF (u:=S9 (y.words.getD i 0)) i ?_ rfl om (by rw[List.getElem?_map,HZ y i hi8];rfl) (Siz.out (ps:=y.words.map fun x=>.lit (O1 x)) ) rfl;repeat' (first|refine F8 ?_|refine G6 ?_|refine W ?_|refine y7 (fun _=>?_)|intro _)
     apply x8 [];exact rfl;exact rfl;kernel_rfl;intro _ _;refine O4 i ?_;exact j4 (o9 rfl rfl);apply x8 [0];exact rfl;exact rfl;kernel_rfl;intro _ _;refine aQ (hv:=SN (pre:=[]) (j:=i) inferInstance ha rfl hl (by show _=0+i;omega)) ?_;exact j4 (o9 rfl rfl);repeat' (first|refine F8 ?_|refine G6 ?_|refine W ?_|refine y7 (fun _=>?_)|intro _)
     apply x8 [];exact rfl;exact rfl;kernel_rfl;intro _ _;refine O4 i ?_;exact j4 (o9 rfl rfl);apply bP [0];exact rfl;exact rfl;kernel_rfl
     ·intro _ _;refine bG (hp:=Az (pre:=[]) (j:=i) inferInstance om rfl rfl (by rw[List.getElem_map];rfl) hl (by show _=0+i;omega)) ?_;exact j4 (bW rfl)
     ·exact rfl
     ·exact rfl
     rw[hn];repeat' (first|refine F8 ?_|refine G6 ?_|refine W ?_|refine y7 (fun _=>?_)|intro _)
     exact o6 (i+1) ⟨rfl,rfl,rfl,trivial⟩ slr om om
    ·obtain rfl:i=8:=by omega
     repeat' (first|refine F8 ?_|refine G6 ?_|refine W ?_|refine y7 (fun _=>?_)|intro _)
     exact iW _ ⟨rfl,rfl⟩ slr⟩
end Go.Proofs.YtjhnaegpchadiaaGreatDoor

namespace Go.Proofs
open Go.Shelf
def Tryz.laysRepeat_ren:Go.Shelf.Ren:=⟨fun|105=>379|212=>424|99=>425|165=>426|166=>103|170=>104|169=>105|263=>452|264=>453|206=>454|240=>209|241=>455|276=>301|277=>463|n=>n,fun|9=>9|3=>3|4=>4|20=>20|0=>0|46=>311|109=>442|5=>5|72=>188|76=>191|51=>268|146=>449|53=>37|148=>393|70=>186|37=>153|75=>190|127=>281|164=>359|80=>194|n=>n,fun|n=>n⟩
theorem Tryz.laysRepeat:Go.Proofs.Lays.n105 Tryz.prog Tryz.laysRepeat_ren:={
 mixed:=by kernel_rfl
 f99:=Tryz.func425.trans (congrArg some (by kernel_rfl))
 f105:=Tryz.func379.trans (congrArg some (by kernel_rfl))
 f165:=Tryz.func426.trans (congrArg some (by kernel_rfl))
 f166:=Tryz.func103.trans (congrArg some (by kernel_rfl))
 f169:=Tryz.func105.trans (congrArg some (by kernel_rfl))
 f170:=Tryz.func104.trans (congrArg some (by kernel_rfl))
 f206:=Tryz.func454.trans (congrArg some (by kernel_rfl))
 f212:=Tryz.func424.trans (congrArg some (by kernel_rfl))
 f240:=Tryz.func209.trans (congrArg some (by kernel_rfl))
 f241:=Tryz.func455.trans (congrArg some (by kernel_rfl))
 f263:=Tryz.func452.trans (congrArg some (by kernel_rfl))
 f264:=Tryz.func453.trans (congrArg some (by kernel_rfl))
 f276:=Tryz.func301.trans (congrArg some (by kernel_rfl))
 f277:=Tryz.func463.trans (congrArg some (by kernel_rfl))
 t0:=Tryz.underlying0
 a0:=Tryz.isAgg0
 z0:=Tryz.sizeOf0
 v0:=Tryz.zeroValue0
 t3:=Tryz.underlying3
 a3:=Tryz.isAgg3
 z3:=Tryz.sizeOf3
 v3:=Tryz.zeroValue3
 t4:=Tryz.underlying4
 a4:=Tryz.isAgg4
 z4:=Tryz.sizeOf4
 v4:=Tryz.zeroValue4
 t5:=Tryz.underlying5
 a5:=Tryz.isAgg5
 z5:=Tryz.sizeOf5
 v5:=Tryz.zeroValue5
 t9:=Tryz.underlying9
 a9:=Tryz.isAgg9
 z9:=Tryz.sizeOf9
 v9:=Tryz.zeroValue9
 t20:=Tryz.underlying20
 a20:=Tryz.isAgg20
 z20:=Tryz.sizeOf20
 v20:=Tryz.zeroValue20
 t37:=Tryz.underlying153
 a37:=Tryz.isAgg153
 z37:=Tryz.sizeOf153
 v37:=Tryz.zeroValue153
 t46:=Tryz.underlying311
 a46:=Tryz.isAgg311
 z46:=Tryz.sizeOf311
 v46:=Tryz.zeroValue311
 t51:=Tryz.underlying268
 a51:=Tryz.isAgg268
 z51:=Tryz.sizeOf268
 v51:=Tryz.zeroValue268
 t53:=Tryz.underlying37
 a53:=Tryz.isAgg37
 z53:=Tryz.sizeOf37
 v53:=Tryz.zeroValue37
 t70:=Tryz.underlying186
 a70:=Tryz.isAgg186
 z70:=Tryz.sizeOf186
 v70:=Tryz.zeroValue186
 t72:=Tryz.underlying188
 a72:=Tryz.isAgg188
 z72:=Tryz.sizeOf188
 v72:=Tryz.zeroValue188
 t75:=Tryz.underlying190
 a75:=Tryz.isAgg190
 z75:=Tryz.sizeOf190
 v75:=Tryz.zeroValue190
 t76:=Tryz.underlying191
 a76:=Tryz.isAgg191
 z76:=Tryz.sizeOf191
 v76:=Tryz.zeroValue191
 t109:=Tryz.underlying442
 a109:=Tryz.isAgg442
 z109:=Tryz.sizeOf442
 v109:=Tryz.zeroValue442
 t127:=Tryz.underlying281
 a127:=Tryz.isAgg281
 z127:=Tryz.sizeOf281
 v127:=Tryz.zeroValue281
 t146:=Tryz.underlying449
 a146:=Tryz.isAgg449
 z146:=Tryz.sizeOf449
 v146:=Tryz.zeroValue449
 t148:=Tryz.underlying393
 a148:=Tryz.isAgg393
 z148:=Tryz.sizeOf393
 v148:=Tryz.zeroValue393
 t164:=Tryz.underlying359
 a164:=Tryz.isAgg359
 z164:=Tryz.sizeOf359
 v164:=Tryz.zeroValue359 }
end Go.Proofs

namespace Go.Proofs
open Go.Shelf Go.RowKit
theorem Tryz.extraRepeat:Builder.Extra Tryz.prog Tryz.laysRepeat_ren where
 sizeBuilder:=by kernel_rfl
 liesBuilder:=by kernel_rfl
 t5:=Tryz.laysRepeat.t5
 a5:=Tryz.laysRepeat.a5
 z5:=Tryz.laysRepeat.z5
 v5:=Tryz.laysRepeat.v5
 infoByte:=by kernel_rfl
 cellsByte:=by kernel_rfl
 sizeByte:=by kernel_rfl
 neB5:=by decide
theorem Tryz.fRepeat:Tryz.laysRepeat_ren.f 105=379:=by kernel_rfl
end Go.Proofs
namespace Go.Proofs.YtjhnaegpchadiaaGreatDoor
open Go Go.RowKit Tw
theorem Aa (l:Bs):∀ c,Lib.repeatL l c=(List.replicate c l).flatten
 | 0=>rfl
 | c+1=>by rw[Lib.repeatL,Aa l c,List.replicate_succ,List.flatten_cons]
theorem Tj (s:Bs)(c:Nat)(hc:s.length*c<=140737488355328)(hc2:c<=9223372036854775807)(w:World):Ret Tryz.prog 379 [sv s,.int .i64 c] w fun v w'=>v=sv (List.replicate c s).flatten/\Ext w w':=by
 have h:=Any.strings_Repeat Tryz.laysRepeat Tryz.extraRepeat ⟨s.toArray⟩ c w hc2 hc;rw[Tryz.fRepeat] at h;unfold Ret;refine Calls.mono h fun e w' ⟨h1,h2⟩=>⟨_,h1,?_,h2.os,h2.tape,h2.output,h2.size,h2.block⟩;rw[<- Aa]
end Go.Proofs.YtjhnaegpchadiaaGreatDoor

namespace Av
open Go Go.RowKit Tw
section
variable {P:Program} {N:Nat} {ops:Array Oper} {Q:Exit->Act->World->Prop} {rest:List Oper} {s:Base} {e:Env} {m:List Piece} {d:Nat} {ty:TypeId} {pos:String} {af:Array Edge}
theorem a5t {T E T2:TypeId}{b:Nat}[t:TyL P T E 1 b]{x y:Operand}{g o n1 c1 nn q:Nat}{T0:TypeId}{pre post:List AV}{l a:Bs}{m':List Piece}(i k:Nat)(h:AL P N ops Q s rest ((d,int (k:Nat))::e) m')(hx:ev e x=some (.lit (.slice (some ⟨g,o,none⟩) n1 c1)):=by exact rfl)(hy:ev e y=some (str a):=by exact rfl)
  (hk:k=min a.length n1:=by omega) (hi:i+k<=l.length:=by omega) (hq:l.length=q:=by omega) (ho:o=(pre.map AV.size).sum+i:=by exact rfl)
  (hu:Upd m (.var g T0 (.agg nn (pre++.agg q (l.map w9)::post))) (.var g T0 (.agg nn (pre++.agg q ((eH l i (a.take k)).map w9)::post))) m':=by (repeat (first|apply Av.Upd.here|apply Av.Upd.there))) (hd:Nat.blt d N=true:=by exact rfl) :
  AL P N ops Q s (⟨some d,.call ⟨.builtin .copy,#[x,y],#[T,T2]⟩,ty,pos,af,none⟩::rest) e m:=by
 subst hq;refine vJ (v:=int (k:Nat)) (fun ok w B hS hB=>?_) hd;obtain⟨mp,mq,rfl,rfl⟩:=hu.parts;obtain⟨cs,hb,hg⟩:=hS.at_ (.var g T0 (.agg nn (pre++.agg l.length (l.map w9)::post))) sm;have hg0:=hg;rw[RC] at hg;obtain⟨c1',c2',rfl,r1,r2⟩:=hg.2.split;rw[RCs] at r2;obtain⟨c3,c4,rfl,r3,r4⟩:=r2;rw[RC] at r3;have hcs:=RCs_u8_eq r3.2;subst hcs;have hpl:c1'.length=(pre.map AV.size).sum:=by
  clear hu h hg hg0 hb hS ho
  induction pre generalizing c1' with
  | nil=>rw[RCs] at r1;rw[r1];rfl
  | cons p ps ih=>
   rw[RCs] at r1;obtain⟨u,v,rfl,h1,h2⟩:=r1;rw[lla,h1.len,ih v h2];simp
 have htl:(a.take k).length=k:=by rw[List.length_take];omega
 have hcl:((a.take k).map o5).length=k:=by rw[llm,htl]
 have e7:(c1'++(l.map o5++c4)).take o++(a.take k).map o5++(c1'++(l.map o5++c4)).drop (o+k)=c1'++((eH l i (a.take k)).map o5++c4):=by
  subst ho;rw[<- hpl,List.take_length_add_append,Nat.add_assoc,List.drop_length_add_append,List.take_append_of_le_length (by rw[llm];omega),List.drop_append_of_le_length (by rw[llm];omega)];simp only[eH,List.map_append,List.map_take,List.map_drop,htl,List.append_assoc]
 have hrun:=run_storeCells_at (P:=P) g o T0 ((a.take k).map o5) 0 (c1'++(l.map o5++c4)).toArray w hb (by rw[hcl,ho,<- hpl];simp;omega) (fun v hv=>by
  obtain⟨c,_,rfl⟩:=List.mem_map.1 hv;rfl)
 simp only[Nat.add_zero,hcl] at hrun;rw[e7] at hrun;have hil:(eH l i (a.take k)).length=l.length:=KZ om;obtain⟨h1,h2⟩:=hS.writeVar (v':=.agg nn (pre++.agg l.length ((eH l i (a.take k)).map w9)::post)) (cs':=c1'++((eH l i (a.take k)).map o5++c4)) (by
  rw[RC];refine⟨?_,r1.append (by rw[RCs];exact⟨_,_,rfl,by rw[RC];exact⟨by simp[hil],RCs_u8 _⟩,r4⟩)⟩;rw[<- hg.1];simp[hil]) (fun cs2 hb2=>by
  rw[hb] at hb2;injection hb2 with hb2
  injection hb2 with hb2
  have:c1'++(l.map o5++c4)=cs2:=by simpa using congrArg Array.toList hb2
  rw[<- this];simp[hil])
 refine⟨.int .i64 (k:Nat),_,ok,_,?_,RVl rfl,h1,h2,h⟩;have hk':Nat.min a.length n1=k:=hk.symm;have e5:List.take k (List.map (fun b:UInt8=>Value.int .u8 (b.toNat:Int)) a)=(a.take k).map o5:=by
  rw[<- List.map_take];rfl
 simp only[execOp,resolve,invoke,builtin,hB.lit hx,hB.lit hy,Builtin.copy_,List.map_toArray,List.map_cons,List.map_nil];simp[run_underlying t.out,Builtin.lenOf,run_sizeOf t.size,Builtin.firstCells,oZ,hk'];rw[e5,hrun];rfl
end
end Av
namespace Go.Proofs.YtjhnaegpchadiaaGreatDoor
open Go Go.RowKit Tw Av
def Hashed (g:Nat)(M:Bs)(m:List Av.Piece):Prop:=∃ x buf,HS M x buf/\m=[.var g 422 (aD x buf M.length)]
theorem LA {g:Nat}{M s:Bs}{x:H8}{buf:Bs}(hH:HS M x buf)(hl:M.length+s.length<=4611686018427387904):Av.Spec Tryz.prog GL 326 [ptr g,str s] [.var g 422 (aD x buf M.length)] fun u m'=>u=.tup []/\Hashed g (M++s) m':=by
 refine qF Tryz.func326 Tryz.ntmps326 fun _ hs=>?_;repeat' first|refine Zz ?_|intro _
 refine y5 (α:=Bs × Bs × H8 × Bs) (fun q=>[(0,ptr g),(1,str q.2.1)]) (fun q=>[.var g 422 (aD q.2.2.1 q.2.2.2 q.1.length)])
  (fun q=>q.1++q.2.1=M++s/\HS q.1 q.2.2.1 q.2.2.2) (fun q=>q.2.1.length) (M,s,x,buf) ⟨rfl,rfl,trivial⟩ slr ⟨rfl,hH⟩ ?_
 clear hH;rintro⟨M1,s1,x1,b1⟩ ⟨hMs,hH⟩;dsimp only at hMs hH ⊢;have hb1:=hH.len;have hle:M1.length+s1.length<=4611686018427387904:=by
  have:=congrArg List.length hMs;simp only[List.length_append] at this;omega
 repeat' first|refine Zz ?_|intro _
 refine o8 (fun hne=>?_) (fun hne=>?_)
 ·have hs0:0<s1.length:=List.length_pos_iff.2 hne;repeat' first|refine Zz ?_|intro _
  refine MO (M1.length%64) 64 ?_;repeat' first|refine Zz ?_|intro _
  obtain⟨k,hk⟩:∃ k,k=min s1.length (64-M1.length%64):=⟨_,rfl⟩;refine a5t (pre:=[fB x1]) (l:=b1) (M1.length%64) k ?_ (ho:=by show 0+8+M1.length%64*1=8+M1.length%64;omega);generalize hp:s1.take k=p;have hpl:p.length=k:=by rw[<- hp,List.length_take];omega
  have hps:p++s1.drop k=s1:=by rw[<- hp,List.take_append_drop]
  have hbl:(eH b1 (M1.length%64) p).length=64:=by rw[KZ om];exact hb1
  have hkl:k<=s1.length:=om
  have hMp:M1++p++s1.drop k=M++s:=by rw[laa,hps,hMs]
  have hdr:(s1.drop k).length<s1.length:=by rw[List.length_drop];omega
  have hle2:(M1.length:Int)+(k:Int)=((M1++p).length:Nat):=by rw[lla];omega
  repeat' first|refine Zz ?_|intro _
  refine U7 k s1.length ?_;rw[List.take_length];repeat' first|refine Zz ?_|intro _
  rw[hle2];refine gK (g:=g) (v':=aD x1 (eH b1 (M1.length%64) p) (M1++p).length) (fun ok w cs h=>h) ?_;refine o8 (fun hf=>?_) (fun hf=>?_)
  ·repeat' first|refine Zz ?_|intro _
   exact o6 (M1++p,s1.drop k,_,eH b1 (M1.length%64) p) ⟨rfl,rfl,trivial⟩ slr ⟨hMp,hH.full om⟩ hdr
  ·repeat' first|refine Zz ?_|intro _
   exact o6 (M1++p,s1.drop k,x1,eH b1 (M1.length%64) p) ⟨rfl,rfl,trivial⟩ slr ⟨hMp,hH.part om⟩ hdr
 ·obtain rfl:s1=[]:=by simpa using hne
  rw[List.append_nil] at hMs;subst hMs;repeat' first|refine Zz ?_|intro _
  exact iW _ ⟨rfl,x1,b1,hH,rfl⟩ slr
def uQ (N i:Nat):Bs:=zeros (8-i)++(eU N).drop (8-i)
theorem Yr (N i:Nat)(_h:i<=8):(uQ N i).length=8:=by
 have:(eU N).length=8:=rfl;simp[uQ,zeros,this]
theorem Yq (N i:Nat)(h:i<8):(uQ N i).set (7-i) (UInt8.ofNat (N / 2 ^ (8*i)))=uQ N (i+1):=by
 have h8:(eU N).length=8:=rfl;have hg:=Lr N i h;have e1:(eU N).drop (8-(i+1))=UInt8.ofNat (N / 2 ^ (8*i))::(eU N).drop (8-i):=by
  rw[show 8-(i+1)=7-i by omega,List.drop_eq_getElem_cons om,show 7-i+1=8-i by omega];congr 1
  rw[List.getElem?_eq_getElem om] at hg;exact Option.some.inj hg
 unfold uQ;rw[e1,zeros,zeros,show 8-i=(8-(i+1))+1 by omega,List.replicate_succ',List.append_assoc,List.set_append,if_neg sm];simp only[List.length_replicate];rw[show 7-i-(8-(i+1))=0 by omega];rfl
theorem a2a (B:Bs)(n i:Nat)(b:UInt8)(hB:B.length=n)(hi:i<n)(h:B[i]?=some b):(B.take i++zeros (n-i)).set i b=B.take (i+1)++zeros (n-(i+1)):=by
 rw[List.set_append,if_neg (by simp;omega),List.take_add_one,h,show n-i=(n-(i+1))+1 by omega,zeros,List.replicate_succ];rw[show i-(B.take i).length=0 by simp;omega];simp[zeros]
instance b1U {k:Nat}:Ans Tryz.prog GL 379 [str [0],int (k%64:Nat)] True (str (zeros (k%64))):=⟨fun _=>Rh fun ok w cargs hg hv=>by
 obtain⟨u1,us,rfl,h1,u2,us2,rfl,h2,rfl⟩:=hv;rw[RV0.lit h1,RV0.lit h2];exact(Tj [0] (k%64) (by simp;omega) om w).mono fun v w' hh=>⟨fun ok w=>by rw[hh.1,show (List.replicate (k%64) [(0:UInt8)]).flatten=zeros (k%64) by simp[zeros]];exact RVl rfl,hh.2⟩⟩
instance {k:Nat}:LenLe (zeros (k%64)) 64:=⟨by rw[zeros,List.length_replicate];omega⟩
instance {k:Nat}:LenLe (eU k) 8:=⟨Nat.le_refl 8⟩
theorem Eu {g:Nat}{M:Bs}{x:H8}{buf:Bs}(hH:HS M x buf)(hl:M.length<=1152921504606846976):Av.Spec Tryz.prog GL 328 [ptr g] [.var g 422 (aD x buf M.length)] fun u m'=>u=hA (aM M)/\m'=[.var g 422 (aD x buf M.length)]:=by
 refine qF Tryz.func328 Tryz.ntmps328 fun _ hs=>?_;repeat' first|refine Zz ?_|intro _
 refine I8 [] _ (by rw[hs];exact lX) (fun u m1 hh=>?_) lpr;obtain⟨gN,rfl,rfl⟩:=hh;repeat' first|refine Yz ?_|intro _
 rename_i go gl;refine gK (g:=gl) (v':=.agg 8 ((uQ (8*M.length) 0).map w9)) (fun ok w cs h=>h) ?_;refine y5 (α:=Nat) (fun i=>[(0,ptr g),(2,ptr go),(3,ptr gN),(4,ptr gl),(23,int i)])
  (fun i=>[.var gl 424 (.agg 8 ((uQ (8*M.length) i).map w9)),.var gN 422 (aD x buf M.length),.var go 34 (hA F3),.var g 422 (aD x buf M.length)]) (fun i=>i<=8) (fun i=>8-i) 0 ⟨rfl,rfl,rfl,rfl,rfl,trivial⟩ slr (Nat.zero_le _) ?_
 intro i hi;repeat' first|refine Yz ?_|intro _
 refine o8 (fun hlt=>?_) (fun hlt=>?_)
 ·repeat' first|refine Yz ?_|intro _
  refine yS (n:=8*i) ?_ rfl rfl rfl (Nat.ble_eq_true_of_le (show 8*i<=64 by omega));rw[show ((M.length:Int)*8)=((8*M.length:Nat):Int) by omega,<- Int.natCast_ediv];refine wW ?_;rw[NK,NM];refine O4 (7-i) ?_;refine kM (ps:=(uQ (8*M.length) i).map w9) (j:=7-i) (by rw[llm,Yr _ _ hi];omega) ?_;rw[<- List.map_set,Yq _ _ om];repeat' first|refine Yz ?_|intro _
  exact o6 (i+1) ⟨rfl,rfl,rfl,rfl,rfl,trivial⟩ slr om om
 ·obtain rfl:i=8:=by omega
  rw[show uQ (8*M.length) 8=eU (8*M.length) from rfl];have hz:(55-(M.length:Int)%64+64)%64=(((119-M.length%64)%64:Nat):Int):=by omega
  have hpad:M++([UInt8.ofNat (128:Int).toNat]++zeros ((119-M.length%64)%64)++eU (8*M.length))=pad M:=by
   rw[laa];rfl
  repeat' first|refine Yz ?_|intro _
  rw[hz];repeat' first|refine Yz ?_|intro _
  apply x8 [0];exact rfl;exact rfl;kernel_rfl;intro _ _;refine VB ?_;exact j4 (o9 rfl rfl);repeat' first|refine Yz ?_|intro _
  apply Y8 [1];exact rfl;exact rfl;exact rfl;kernel_rfl;intro sQ hQ;have hw:=LA (g:=gN) (s:=[UInt8.ofNat (128:Int).toNat]++zeros ((119-M.length%64)%64)++eU (8*M.length)) hH (by simp[zeros,eU];omega);rw[hpad] at hw;refine I8 [.var gN 422 (aD x buf M.length)] [] (by rw[hQ];exact hw) (fun u m1 hh=>?_) lpr;obtain⟨rfl,x',buf',hH',rfl⟩:=hh;refine j4 (R6 [.var gN 422 (aD x' buf' (pad M).length)] [] rfl rfl lpr rfl ?_);repeat' first|refine Yz ?_|intro _
  rename_i gq;refine gK (g:=gq) (v':=.agg 32 ((x'.bytes.take 0++zeros (32-0)).map w9)) (fun ok w cs h=>h) ?_;refine y5 (α:=Nat) (fun i=>[(2,ptr go),(3,ptr gN),(7,ptr gq),(58,int i)])
   (fun i=>[.var gq 34 (.agg 32 ((x'.bytes.take i++zeros (32-i)).map w9)),.var gN 422 (aD x' buf' (pad M).length),.var go 34 (hA F3),.var g 422 (aD x buf M.length)]) (fun i=>i<=32) (fun i=>32-i) 0 ⟨rfl,rfl,rfl,rfl,trivial⟩ (by repeat (first|exact List.nil_sublist _|exact List.Sublist.refl _|apply List.Sublist.cons_cons|apply List.Sublist.cons)) (Nat.zero_le _) ?_
  clear hi hlt;intro i hi;repeat' first|refine Yz ?_|intro _
  refine o8 (fun hlt=>?_) (fun hlt=>?_)
  ·have hl:(x'.bytes.take i++zeros (32-i)).length=32:=by
    rw[lla,List.length_take,zeros,List.length_replicate,x'.bytes_len];omega
   repeat' first|refine Yz ?_|intro _
   refine O4 (i / 4) ?_;refine aQ (hv:=SN (ps:=x'.words.map fun x=>.lit (O1 x)) (u:=S9 (x'.words.getD (i / 4) 0)) (pre:=[]) (j:=i / 4) inferInstance (by rw[List.getElem?_map,HZ x' (i / 4) om];rfl) rfl rfl (by show _=0+i / 4;omega)) ?_;repeat' first|refine Yz ?_|intro _
   refine BP (24-8*(i%4)) ?_;refine wW ?_;rw[NK,NM,BitVec.toNat_ushiftRight,Nat.shiftRight_eq_div_pow];refine O4 i ?_;refine kM (ps:=(x'.bytes.take i++zeros (32-i)).map w9) (j:=i) (by rw[llm,hl];omega) ?_;rw[<- List.map_set,a2a x'.bytes 32 i _ rfl om (Ko x' i om)];repeat' first|refine Yz ?_|intro _
   exact o6 (i+1) ⟨rfl,rfl,rfl,rfl,trivial⟩ slr om om
  ·obtain rfl:i=32:=by omega
   have e:(x'.bytes.take 32++zeros (32-32)).map w9=(aM M).l.map w9:=by
    rw[List.take_of_length_le (Nat.le_refl 32),Rq hH'];show (IW M++[]).map w9=_;rw[List.append_nil];rfl
   rw[e];repeat' first|refine Yz ?_|intro _
   refine l9 [.var g 422 (aD x buf M.length)] ⟨rfl,rfl⟩ ?_;exact x9
class LensLe (l:List Bs)(n:outParam Nat):Prop where
 out:l.flatten.length<=n
instance : LensLe [] 0 := ⟨Nat.le_refl _⟩
instance {a:Bs}{l:List Bs}{n k:Nat}[h:LenLe a n][g:LensLe l k]:LensLe (a::l) (n+k):=⟨by have:=h.out;have:=g.out;simp at *;omega⟩
def tF (l:List Bs):Hsh:=aM l.flatten
instance b4P {h:Hsh}:Ans Tryz.prog GL 246 [hA h] True (str h.l):=⟨fun _=>by
 refine qF Tryz.func246 Tryz.ntmps246 fun _ hs=>?_;repeat' first|refine Yz ?_|intro _
 exact d9 rfl⟩
instance b4e {xs:List AV}{id:Option Value}{l:List Bs}{n:Nat}[hx:Strs xs l][hl:LensLe l n]:Ans Tryz.prog GL 282 [.sl 1 xs id] (n<=1152921504606846976) (hA (tF l)):=⟨fun hn=>by
 have h:=hx.out;subst h;have hl2:=hl.out;refine qF Tryz.func282 Tryz.ntmps282 fun _ hs=>?_;refine CK 0 (fun hbnd=>?_);have hbnd:l.length<=9223372036854775807:=by simpa[maxLen] using hbnd
 repeat' first|refine Zz ?_|intro _
 refine I8 [] _ (by rw[hs];exact lX) (fun u m1 hh=>?_) lpr;obtain⟨gN,rfl,rfl⟩:=hh;repeat' first|refine Yz ?_|intro _
 rename_i go;rw[llm];refine y5 (α:=Nat × H8 × Bs) (fun q=>[(2,ptr go),(3,ptr gN),(7,.sl 1 (l.map str) id),(8,int l.length),(9,int q.1)])
  (fun q=>[.var gN 422 (aD q.2.1 q.2.2 (l.take q.1).flatten.length),.var go 34 (hA F3)]) (fun q=>q.1<=l.length/\HS (l.take q.1).flatten q.2.1 q.2.2) (fun q=>l.length-q.1) (0,h0,zeros 64) ⟨rfl,rfl,rfl,rfl,rfl,trivial⟩ slr ⟨Nat.zero_le _,HS.nil⟩ ?_
 rintro⟨i,x,b⟩ ⟨hi,hH⟩;dsimp only at hi hH ⊢;repeat' first|refine Zz ?_|intro _
 refine o8 (fun hlt=>?_) (fun hlt=>?_)
 ·have hil:i<l.length:=om
  have htk:(l.take (i+1)).flatten=(l.take i).flatten++l[i]:=by
   rw[List.take_add_one,List.getElem?_eq_getElem hil,Option.toList_some,List.flatten_append];simp only[List.flatten_cons,List.flatten_nil,List.append_nil]
  have hle:(l.take (i+1)).flatten.length<=l.flatten.length:=by
   have h:=congrArg (fun q=>(List.flatten q).length) (List.take_append_drop (i+1) l);simp only[List.flatten_append,List.length_append] at h;omega
  repeat' first|refine Zz ?_|intro _
  have hw:=LA (g:=gN) (s:=l[i]) hH (by rw[htk,lla] at hle;omega);rw[<- htk] at hw;refine I8 [.var gN 422 (aD x b (l.take i).flatten.length)] _ (by rw[hs];exact hw) (fun u m1 hh=>?_) lpr;obtain⟨rfl,x',b',hH',rfl⟩:=hh;repeat' first|refine Zz ?_|intro _
  exact o6 (i+1,x',b') ⟨rfl,rfl,rfl,rfl,rfl,trivial⟩ slr ⟨hil,hH'⟩ (by dsimp only;omega)
 ·obtain rfl:i=l.length:=by omega
  rw[List.take_length] at hH ⊢;repeat' first|refine Zz ?_|intro _
  refine I8 [.var gN 422 (aD x b l.flatten.length)] _ (by rw[hs];exact Eu hH om) (fun u m1 hh=>?_) lpr;obtain⟨rfl,rfl⟩:=hh;repeat' first|refine Zz ?_|intro _
  exact d9 rfl⟩
end Go.Proofs.YtjhnaegpchadiaaGreatDoor



namespace Go.Proofs.YtjhnaegpchadiaaGreatDoor
open Go Go.ChangeShapes Go.WideShapes Go.ChangeAt Go.RowKit Tw Av Go.Proofs.Tryz
theorem own:ownKnob prog.godebug=none:=by kernel_rfl
theorem laidOut:laidOutB prog=true:=by kernel_rfl
def Od:List Int:=kJ.map fun x=>(x.toNat:Int)
def Oe:List Int:=h0.words.map fun x=>(x.toNat:Int)
theorem SA {P:Program}{x:String × DataW Unit}{r:List (String × DataW Unit)}{w:World}(h:laidMet P (x::r) w):laidMet P r w:=by
 obtain⟨ps,h1,h2,h3⟩:=h;obtain⟨g,t,cs,fuel,p,q,e1,e2,e3,e4,e5,rfl⟩:=h1;exact⟨q,e5,(List.nodup_append.1 h2).2.1,fun b off hb=>h3 b off (by simp[hb])⟩
theorem Di {α:Type}{f:α->Value}{ok:Ok}{w:World}(hf:∀ x,(f x).oneCell'=true):∀ l:List α,RCs ok w (l.map fun x=>.lit (f x)) (l.map f)
 | []=>by rw[List.map_nil,RCs];rfl
 | x::l=>by
  rw[List.map_cons,RCs];exact⟨[f x],l.map f,rfl,by rw[RC];exact⟨rfl,hf x⟩,Di hf l⟩
theorem XA {W:World}{g:Nat}{name:String}{l:List W32}{n:Nat}(hg:prog.globalNamed name=some g)(hl:l.length=n)(h:Lib.TabIs prog W name .u32 (l.map fun x=>(x.toNat:Int))):∃ cs,At rP W g 0 cs/\RC rP W (.agg n (l.map fun x=>.lit (O1 x))) cs:=by
 refine⟨l.map O1,fun j v hj=>⟨?_,trivial⟩,?_⟩
 ·have hlt:j<l.length:=by have:=(List.getElem?_eq_some_iff.1 hj).1;simpa using this
  have h1:=Lib.TabIs.cell h hg j (by simpa using hlt);rw[Nat.zero_add,h1];rw[List.getElem?_map,List.getElem?_eq_getElem hlt] at hj;simp only[Option.map_some,Option.some.injEq] at hj;rw[<- hj];simp[List.getD,hlt,O1]
 ·rw[RC];exact⟨by simp[hl],Di (fun _=>rfl) l⟩
def rowOf (c:Array Value):Obj->Obj
 | .cells _ t frozen=>.cells c t frozen
 | o=>o
noncomputable def Dq (os:Os):World:=
 { World.holding prog os ⟨#[],#[],[]⟩ with heap:=((World.holding prog os ⟨#[],#[],[]⟩).heap.modify 1 (rowOf (h0.words.map O1).toArray)).modify 2 (rowOf (kJ.map O1).toArray) }
end Go.Proofs.YtjhnaegpchadiaaGreatDoor

namespace Go.Proofs.YtjhnaegpchadiaaGreatDoor
open Go Go.ChangeShapes Go.WideShapes Go.ChangeAt Go.RowKit Tw Av Go.Proofs.Tryz
theorem Fa {W : World} (h : laidMet Tryz.prog [("unicode/utf8.acceptRanges", Rows.laid_unicode_utf8_acceptRanges), ("twinspan/hash.factors", Rows.laid_twinspan_hash_factors), ("twinspan/hash.begin", Rows.laid_twinspan_hash_begin), ("unicode/utf8.first", Rows.laid_unicode_utf8_first)] W) : Glob GL rP W := by
 have gF : Tryz.prog.globalNamed "twinspan/hash.factors" = some 2 := by kernel_rfl
 have gB : Tryz.prog.globalNamed "twinspan/hash.begin" = some 1 := by kernel_rfl
 have h1 : Lib.TabIs Tryz.prog W "twinspan/hash.factors" .u32 Od := Lib.tabIs_of_head (g := 2) (t := 410) (e := 268) (n := 64) gF (by kernel_rfl) (by kernel_rfl) (by kernel_rfl) (by kernel_rfl) (by kernel_rfl) (rest := [("twinspan/hash.begin", Rows.laid_twinspan_hash_begin), ("unicode/utf8.first", Rows.laid_unicode_utf8_first)]) (SA h)
 have h2 : Lib.TabIs Tryz.prog W "twinspan/hash.begin" .u32 Oe := Lib.tabIs_of_head (g := 1) (t := 349) (e := 268) (n := 8) gB (by kernel_rfl) (by kernel_rfl) (by kernel_rfl) (by kernel_rfl) (by kernel_rfl) (rest := [("unicode/utf8.first", Rows.laid_unicode_utf8_first)]) (SA (SA h))
 intro p hp;unfold GL at hp;rcases List.mem_cons.1 hp with rfl|hp
 ·exact XA gB rfl h2
 ·obtain rfl:=List.mem_singleton.1 hp;exact XA gF rfl h1
def YZ (l:List Nat):Array Value:=(l.map fun n:Nat=>Value.int .u8 (n:Int)).toArray
noncomputable def AB (os:Os):World:=
 { Dq os with heap:=((Dq os).heap.modify 3 (rowOf (YZ Go.Pinned.utf8FirstZ))).modify 4 (rowOf (YZ ([128,191,160,191,128,159,144,191,128,143]++List.replicate 22 0))) }
end Go.Proofs.YtjhnaegpchadiaaGreatDoor
