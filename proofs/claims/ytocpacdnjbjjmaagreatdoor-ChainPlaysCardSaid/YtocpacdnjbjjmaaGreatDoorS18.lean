/- . -/
import Derived.Test.YtocpacdnjbjjmaaGreatDoorRows
import Derived.Lib.LaidTab
import Derived.LaidLaws
import Derived.Test.YtocpacdnjbjjmaaGreatDoorS17
namespace Go.Proofs
open Go.Shelf Go.RowKit
theorem Tryz.extraRepeat:Builder.Extra Tryz.prog Tryz.laysRepeat_ren where
 sizeBuilder:=by kernel_rfl
 liesBuilder:=by kernel_rfl
 t5:=Tryz.laysRepeat.t5
 a5:=Tryz.laysRepeat.a5
 z5:=Tryz.laysRepeat.z5
 v5:=Tryz.laysRepeat.v5
 infoByte:=by kernel_rfl
 cellsByte:=by kernel_rfl
 sizeByte:=by kernel_rfl
 neB5:=by decide
theorem Tryz.fRepeat:Tryz.laysRepeat_ren.f 105=292:=by kernel_rfl
end Go.Proofs
namespace Go.Proofs.YtocpacdnjbjjmaaGreatDoor
open Go Go.RowKit Tw
theorem Ck (l:Bs):∀ c,Lib.repeatL l c=(List.replicate c l).flatten
 | 0=>rfl
 | c+1=>by rw[Lib.repeatL,Ck l c,List.replicate_succ,List.flatten_cons]
theorem a0g (s:Bs)(c:Nat)(hc:s.length*c<=140737488355328)(hc2:c<=9223372036854775807)(w:World):Ret Tryz.prog 292 [sv s,.int .i64 c] w fun v w'=>v=sv (List.replicate c s).flatten/\Ext w w':=by
 have h:=Any.strings_Repeat Tryz.laysRepeat Tryz.extraRepeat ⟨s.toArray⟩ c w hc2 hc;rw[Tryz.fRepeat] at h;unfold Ret;refine Calls.mono h fun e w' ⟨h1,h2⟩=>⟨_,h1,?_,h2.os,h2.tape,h2.output,h2.size,h2.block⟩;rw[<- Ck]
end Go.Proofs.YtocpacdnjbjjmaaGreatDoor

namespace Go.Proofs.YtocpacdnjbjjmaaGreatDoor
open Go Go.RowKit Tw Go.Proofs.Tryz
theorem GH (l:List W32)(buf:Bs)(n:Nat)(hl:l.length=8)(hb:buf.length=64):(Y4 l buf n).length=74:=by simp[Y4,hl,hb]
def xR (N i:Nat):Bs:=zeros (8-i)++(eF N).drop (8-i)
theorem a2u (N i:Nat)(_h:i<=8):(xR N i).length=8:=by
 have:(eF N).length=8:=rfl;simp[xR,zeros,this]
theorem a2t (N i:Nat)(h:i<8):(xR N i).set (7-i) (UInt8.ofNat (N / 2 ^ (8*i)))=xR N (i+1):=by
 have h8:(eF N).length=8:=rfl;have hg:=Ox N i h;have e1:(eF N).drop (8-(i+1))=UInt8.ofNat (N / 2 ^ (8*i))::(eF N).drop (8-i):=by
  rw[show 8-(i+1)=7-i by omega,List.drop_eq_getElem_cons om,show 7-i+1=8-i by omega];congr 1
  rw[List.getElem?_eq_getElem om] at hg;exact Option.some.inj hg
 unfold xR;rw[e1,zeros,zeros,show 8-i=(8-(i+1))+1 by omega,List.replicate_succ',List.append_assoc,List.set_append,if_neg sm];simp only[List.length_replicate];rw[show 7-i-(8-(i+1))=0 by omega];rfl
theorem a4X (B:Bs)(n i:Nat)(b:UInt8)(hB:B.length=n)(hi:i<n)(h:B[i]?=some b):(B.take i++zeros (n-i)).set i b=B.take (i+1)++zeros (n-(i+1)):=by
 rw[List.set_append,if_neg (by simp;omega),List.take_add_one,h,show n-i=(n-(i+1))+1 by omega,zeros,List.replicate_succ];rw[show i-(B.take i).length=0 by simp;omega];simp[zeros]
theorem ZC (w:World)(g:Nat)(M:Bs)(x:H8)(buf:Bs)(hg:Glo w)(hb:w.heap[g]?=some (.cells (fl (M8 x buf M.length)).toArray 350 (0,0)))
  (hH:HS M x buf) (hlen:M.length<=1152921504606846976) :
  Ret prog 238 [.pointer (some ⟨g,0,none⟩)] w fun v w'=>v=hv (Y0 M)/\Ext w w':=by
 refine oZ func238 rfl ntmps238 rfl ?_;have hS:=St.start w (fun _=>True) (fun _ _=>trivial);have hr:Rg w g 0 (M8 x buf M.length):=by
  have:=Rg.of_block hb
  rwa [(dC _ _ _).fl] at this
 repeat (first|refine wk ?_|refine l9 ?_|intro _)
 apply zF;exact rfl;exact TA _ (St.glo (by assumption) hg (fun h=>h) (fun h=>h));exact rfl;rintro _ w2 ⟨g2,rfl,hN⟩;rename_i g1 ok1 w1 hS1 _ _;obtain⟨hS2,_⟩:=hS1.newOf hN;clear hS hS1;repeat (first|refine wk ?_|refine l9 ?_|intro _)
 apply XU;exact rfl;exact hS2.keepRg hr (fun h=>h);exact dC _ _ _;exact Hu _ _ _ hH.len;exact rfl;repeat (first|refine wk ?_|refine l9 ?_|intro _)
 apply PT (v:=st (M8 x buf M.length));exact rfl
 ·simp only[st,Value.cells,(dC _ _ _).fl];exact hS2.keepRg hr (fun h=>h)
 ·show (fl (M8 x buf M.length)).toArray.size=74;rw[(dC _ _ _).fl];exact GH _ _ _ rfl hH.len
 ·exact rfl
 ·exact rfl
 repeat (first|refine wk ?_|refine l9 ?_|intro _)
 apply Sy;exact hS2;exact rfl;exact rfl;exact .here;exact dC _ _ _;exact dC _ _ _;exact GI _ _ _
 ·exact GH _ _ _ rfl hH.len
 ·rw[GH _ _ _ rfl rfl];decide
 intro w3 hS3 _;rw[List.take_zero,List.nil_append,List.drop_of_length_le (by rw[GH _ _ _ rfl rfl];decide),List.append_nil] at hS3;clear hS2;repeat (first|refine wk ?_|refine l9 ?_|intro _)
 rename_i g3 ok3 w4 hS4 _ _;refine rU (α:=Nat) (fun i=>[(0,.pointer (some ⟨g,0,none⟩)),(2,.pointer (some ⟨g1,0,none⟩)),(3,.pointer (some ⟨g2,0,none⟩)),(4,.pointer (some ⟨g3,0,none⟩)),(23,.int .i64 (i:Int))])
  (fun i w'=>i<=8/\∃ ok,St ⟨w,fun _=>True,fun _=>False⟩ ok [.var g3 352 ((xR (8*M.length) i).map j6),.var g2 350 (M8 x buf M.length),.var g1 48 [hv J7]] w') (fun i=>8-i) 0 ⟨rfl,rfl,rfl,rfl,rfl,trivial⟩ ⟨om,ok3,hS4⟩ ?_
 clear hS3 hS4;intro i w5 ⟨hi,ok,hS⟩;repeat (first|refine wk ?_|refine l9 ?_|intro _)
 refine oJ rfl (fun hlt=>?_) (fun hlt=>?_)
 ·repeat (first|refine wk ?_|refine l9 ?_|intro _)
  apply kQ;assumption;exact rfl;(repeat (first|exact Has.here|apply Has.there));exact dC _ _ _;rw[Nat.zero_add];exact MS _ _ _ hH.len;exact rfl;repeat (first|refine wk ?_|refine l9 ?_|intro _)
  apply DU 33 rfl (show Value.int .u64 _=.int .u64 ((8*M.length:Nat):Int) by
   rw[IntKind.wrap_u64,IntKind.wrap_u64];congr 1;omega)
  apply DN (8*i) (2 ^ (8*i));exact rfl;exact rfl;omega
  ·rw[show min (8*i) IntKind.u64.bits=8*i by show min (8*i) 64=8*i;omega]
  ·exact rfl
  repeat (first|refine wk ?_|refine l9 ?_|intro _)
  apply jQ (7-i);exact rfl;exact rfl;omega;omega;exact rfl;apply DU 37 rfl (show _=j6 (UInt8.ofNat (8*M.length / 2 ^ (8*i))) by
   have h:=tO (8*M.length / 2 ^ (8*i));simp only[Int.natCast_ediv,Int.natCast_pow] at h;exact h)
  apply zD;assumption;exact rfl;exact rfl;(repeat (first|exact Upd.here|apply Upd.there));exact Units.map JL _;exact rfl;exact JM _
  ·rw[llm,a2u _ _ hi];omega
  intro w6 hS6 _;rw[<- List.map_set,show 0+(7-i)*1=7-i by omega,a2t _ _ om] at hS6;repeat (first|refine wk ?_|refine l9 ?_|intro _)
  exact mF (i+1) ⟨rfl,rfl,rfl,rfl,rfl,trivial⟩ ⟨om,_,hS6⟩ om
 ·obtain rfl:i=8:=by omega
  rw[show xR (8*M.length) 8=eF (8*M.length) from rfl] at hS;repeat (first|refine wk ?_|refine l9 ?_|intro _)
  apply kQ;assumption;exact rfl;(repeat (first|exact Has.here|apply Has.there));exact dC _ _ _;rw[Nat.zero_add];exact MS _ _ _ hH.len;exact rfl;apply DT;exact rfl;exact rfl;exact rfl;omega;omega;(intro c _ _;exact rR om om);exact rfl;repeat (first|refine wk ?_|refine l9 ?_|intro _)
  apply DT;exact rfl;exact rfl;exact rfl;omega;omega;(intro c _ _;exact rR om om);exact rfl;repeat (first|refine wk ?_|refine l9 ?_|intro _)
  refine YF 6 rfl (show _=Value.int .i64 (((119-M.length%64)%64:Nat):Int) by congr 1;omega) ?_;generalize hz:(119-M.length%64)%64=z;apply zH 9 [48,49,50,51,52,53,54,55,56] [] [.eqv ?_,.is (fun v ok w=>Sl ok w 5 1 v [j6 128]),.eqv ?_,.eqv ?_,.eqv ?_,.eqv ?_,.eqv ?_,.eqv ?_,.eqv ?_] mixed;assumption;kernel_rfl;exact rfl;exact rfl;exact rfl;apply G7;intro _ _ _ _;repeat (first|(apply F3;exact rfl;exact rfl;exact rfl)|(apply E8;exact rfl))
  repeat (first|refine wk ?_|refine l9 ?_|intro _)
  first|(apply G9;assumption;exact rfl)|(apply G8;assumption;assumption;exact rfl)
  apply G7;intro _ _ _ _;repeat (first|(apply F3;exact rfl;exact rfl;exact rfl)|(apply E8;exact rfl))
  repeat (first|refine wk ?_|refine l9 ?_|intro _)
  ·apply PU;exact rfl;assumption;assumption;show Sl _ _ _ _ _ _;assumption
  ·apply G7;intro okA wA hSA hEA;apply Ij;exact rfl;exact rfl;exact rfl;intro v hv;apply E8;exact rfl;have hsl:=hv.sl;obtain⟨A,c,rfl⟩:=hsl.shape;apply XM (l:=[128]);exact rfl;exact hsl;exact rfl;repeat (first|refine wk ?_|refine l9 ?_|intro _)
   first|(apply G9;assumption;exact rfl)|(apply G8;assumption;assumption;exact rfl)
   apply G7;intro _ _ _ _;repeat (first|(apply F3;exact rfl;exact rfl;exact rfl)|(apply E8;exact rfl))
   repeat (first|refine wk ?_|refine l9 ?_|intro _)
   first|(apply G9;assumption;exact rfl)|(apply G8;assumption;assumption;exact rfl)
   apply G7;intro _ _ _ _;repeat (first|(apply F3;exact rfl;exact rfl;exact rfl)|(apply E8;exact rfl))
   apply iU;assumption;exact rfl;exact a0g [0] z (by simp;omega) om _;exact rfl;rintro _ _ rfl _ _;repeat (first|refine wk ?_|refine l9 ?_|intro _)
   first|(apply G9;assumption;exact rfl)|(apply G8;assumption;assumption;exact rfl)
   apply G7;intro _ _ _ _;repeat (first|(apply F3;exact rfl;exact rfl;exact rfl)|(apply E8;exact rfl))
   apply JF;exact rfl;exact rfl;simp;omega;exact rfl;repeat (first|refine wk ?_|refine l9 ?_|intro _)
   first|(apply G9;assumption;exact rfl)|(apply G8;assumption;assumption;exact rfl)
   apply G7;intro _ _ _ _;repeat (first|(apply F3;exact rfl;exact rfl;exact rfl)|(apply E8;exact rfl))
   repeat (first|refine wk ?_|refine l9 ?_|intro _)
   first|(apply G9;assumption;exact rfl)|(apply G8;assumption;assumption;exact rfl)
   apply G7;intro _ _ _ _;repeat (first|(apply F3;exact rfl;exact rfl;exact rfl)|(apply E8;exact rfl))
   apply PQ;assumption;exact rfl;(repeat (first|exact Has.here|apply Has.there))
   ·rw[GU];exact IK _
   ·exact rfl
   ·exact rfl
   repeat (first|refine wk ?_|refine l9 ?_|intro _)
   first|(apply G9;assumption;exact rfl)|(apply G8;assumption;assumption;exact rfl)
   apply G7;intro _ _ _ _;repeat (first|(apply F3;exact rfl;exact rfl;exact rfl)|(apply E8;exact rfl))
   apply JF;exact rfl;exact rfl;simp[eF];omega;exact rfl;repeat (first|refine wk ?_|refine l9 ?_|intro _)
   first|(apply G9;assumption;exact rfl)|(apply G8;assumption;assumption;exact rfl)
   apply AY;intro okB wB hSB hEB;repeat (first|(apply F3;exact rfl;exact rfl;exact rfl)|(apply E8;exact rfl))
   apply Ij;exact rfl;exact rfl;exact rfl;intro _ _;repeat (first|(apply F3;exact rfl;exact rfl;exact rfl)|(apply E8;exact rfl))
   have hg2:w.heap.size<=g2:=by
    rcases (hSB.own (.var g2 350 (M8 x buf M.length)) sm g2 rfl).2.2 with h|h
    ·exact h
    ·exact h.elim
   have hn0:g2≠0:=fun h=>by have:=hg.begin.lt;omega
   have hn2:g2≠2:=fun h=>by have:=hg.factors.lt;omega
   have hpad:M++([128]++(List.replicate z [(0:UInt8)]).flatten++eF (8*M.length))=pad M:=by
    have:(List.replicate z [(0:UInt8)]).flatten=zeros z:=by simp[zeros]
    rw[this];simp[pad,hz]
   apply zF;exact rfl;exact PM _ g2 M x buf _ (St.glo hSB hg (fun h=>h) (fun h=>h)) hn0 hn2 (hSB.varAt (.there .here)) hH (by simp[eF];omega);exact rfl;rintro _ w6 ⟨rfl,x',buf',hH',hM⟩;obtain⟨hS6,_⟩:=hSB.mod (.there .here) hM;rw[hpad] at hH' hS6;clear hS hSB hM;repeat (first|refine wk ?_|refine l9 ?_|intro _)
   rename_i g5 ok5 w7 hS7 _ _
   replace hS7:=hS7.reseg (vs':=(zeros 32).map j6) .here (by rw[UH,GU];rfl)
   refine rU (α:=Nat) (fun i=>[(2,.pointer (some ⟨g1,0,none⟩)),(3,.pointer (some ⟨g2,0,none⟩)),(7,.pointer (some ⟨g5,0,none⟩)),(58,.int .i64 (i:Int))])
    (fun i w'=>i<=32/\∃ ok,St ⟨w,fun _=>True,fun _=>False⟩ ok [.var g5 48 ((x'.bytes.take i++zeros (32-i)).map j6),.var g3 352 ((eF (8*M.length)).map j6),.var g2 350 (M8 x' buf' (pad M).length),.var g1 48 [hv J7]] w') (fun i=>32-i) 0 ⟨rfl,rfl,rfl,rfl,trivial⟩ ⟨om,ok5,hS7⟩ ?_
   clear hS6 hS7;intro i w8 ⟨hi,ok,hS⟩;repeat (first|refine wk ?_|refine l9 ?_|intro _)
   refine oJ rfl (fun hlt=>?_) (fun hlt=>?_)
   ·repeat (first|refine wk ?_|refine l9 ?_|intro _)
    apply DT;exact rfl;exact rfl;exact rfl;omega;omega;(intro c _ _;exact rR om om);exact rfl;repeat (first|refine wk ?_|refine l9 ?_|intro _)
    apply jQ (i / 4);exact rfl;exact rfl;omega;omega;exact rfl;apply kQ;assumption;exact rfl;(repeat (first|exact Has.here|apply Has.there));exact dC _ _ _;rw[show 0+0+i / 4*1=i / 4 by omega];exact a3v _ _ _ _ om;exact rfl;repeat (first|refine wk ?_|refine l9 ?_|intro _)
    apply DT;exact rfl;exact rfl;exact rfl;omega;omega;(intro c _ _;exact rR om om);exact rfl;repeat (first|refine wk ?_|refine l9 ?_|intro _)
    apply JD (24-8*(i%4));exact rfl;exact rfl;omega;omega;exact rfl;apply JE;exact rfl;exact rfl;apply DU 74 rfl (show _=j6 (UInt8.ofNat ((x'.words.getD (i / 4) 0).toNat / 2 ^ (24-8*(i%4)))) by
     rw[<- tO,BitVec.toNat_ushiftRight,Nat.shiftRight_eq_div_pow])
    apply jQ i;exact rfl;exact rfl;exact rfl;omega;exact rfl;apply zD;assumption;exact rfl;exact rfl;(repeat (first|exact Upd.here|apply Upd.there));exact Units.map JL _;exact rfl;exact JM _
    ·simp[zeros,H8.bytes_len];omega
    intro w9 hS9 _;rw[<- List.map_set,show 0+i*1=i by omega,a4X _ 32 i _ rfl om (Nv x' i om)] at hS9;repeat (first|refine wk ?_|refine l9 ?_|intro _)
    exact mF (i+1) ⟨rfl,rfl,rfl,rfl,trivial⟩ ⟨om,_,hS9⟩ om
   ·obtain rfl:i=32:=by omega
    have hb:=Yu hH'
    replace hS:=hS.reseg (vs':=[hv (Y0 M)]) .here (by
     rw[UH,GU];show (x'.bytes.take 32++zeros 0).map j6=(JX M).map j6;rw[<- hb];rfl)
    repeat (first|refine wk ?_|refine l9 ?_|intro _)
    (apply rT;exact rfl;apply vL;assumption;exact rfl;(repeat (first|exact Has.here|apply Has.there));exact rfl)
    exact⟨rfl,St.out (by assumption)⟩
theorem a1w (w:World)(l:List Bs)(v:Value)(ok0:Nat->Prop)(hg:Glo w)(hsl:Sl ok0 w 9 1 v (l.map sv))(hlen:l.flatten.length<=1152921504606846976) :
  Ret prog 237 [v] w fun v w'=>v=hv (Y0 l.flatten)/\Ext w w':=by
 refine oZ func237 rfl ntmps237 rfl ?_;have hS:=St.start w (fun _=>True) (fun _ _=>trivial);obtain⟨A,c,rfl,_⟩:=hsl.form;have hmx:=hsl.cap;simp only[maxLen] at hmx;repeat (first|refine wk ?_|refine l9 ?_|intro _)
 apply zF;exact rfl;exact TA _ (St.glo (by assumption) hg (fun h=>h) (fun h=>h));exact rfl;rintro _ w2 ⟨g2,rfl,hN⟩;rename_i g1 ok1 w1 hS1 _ _;obtain⟨hS2,_⟩:=hS1.newOf hN;clear hS hS1;repeat (first|refine wk ?_|refine l9 ?_|intro _)
 refine rU (α:=Nat × H8 × Bs) (fun q=>[(2,.pointer (some ⟨g1,0,none⟩)),(3,.pointer (some ⟨g2,0,none⟩)),(7,.slice A l.length c),(8,.int .i64 (l.length:Nat)),(9,.int .i64 (q.1:Int))])
  (fun q w'=>q.1<=l.length/\HS (l.take q.1).flatten q.2.1 q.2.2/\∃ ok,St ⟨w,fun _=>True,fun _=>False⟩ ok [.var g2 350 (M8 q.2.1 q.2.2 (l.take q.1).flatten.length),.var g1 48 [hv J7]] w') (fun q=>l.length-q.1) (0,h0,zeros 64) ⟨rfl,rfl,rfl,rfl,rfl,trivial⟩ ⟨om,HS.nil,_,hS2⟩ ?_
 clear hS2;rintro⟨i,x,b⟩ w3 ⟨hi,hH,ok,hS⟩;dsimp only at hi hH hS ⊢;have hg2:w.heap.size<=g2:=by
  rcases (hS.own (.var g2 350 (M8 x b (l.take i).flatten.length)) sm g2 rfl).2.2 with h|h
  ·exact h
  ·exact h.elim
 have hn0:g2≠0:=fun h=>by have:=hg.begin.lt;omega
 have hn2:g2≠2:=fun h=>by have:=hg.factors.lt;omega
 repeat (first|refine wk ?_|refine l9 ?_|intro _)
 refine oJ rfl (fun hlt=>?_) (fun hlt=>?_)
 ·have hlt:i<l.length:=om
  repeat (first|refine wk ?_|refine l9 ?_|intro _)
  apply Uc i (hlt:=hlt);exact rfl;exact rfl;exact hS.keepSl hsl (fun _ _ h=>h);exact rfl;exact rfl;intro b0 o0 _ hr0;repeat (first|refine wk ?_|refine l9 ?_|intro _)
  have htk:(l.take (i+1)).flatten=(l.take i).flatten++l[i]:=by
   rw[List.take_add_one,List.getElem?_eq_getElem hlt,Option.toList_some,List.flatten_append];simp only[List.flatten_cons,List.flatten_nil,List.append_nil]
  have hle:(l.take (i+1)).flatten.length<=l.flatten.length:=by
   have h:=congrArg (fun q=>(List.flatten q).length) (List.take_append_drop (i+1) l);simp only[List.flatten_append,List.length_append] at h;omega
  apply zF;exact rfl;exact PM _ g2 _ _ _ l[i] (St.glo hS hg (fun h=>h) (fun h=>h)) hn0 hn2 (hS.varAt .here) hH (by rw[htk,lla] at hle;omega);exact rfl;rintro _ w6 ⟨rfl,x',b',hH',hM⟩;obtain⟨hS6,_⟩:=hS.mod .here hM;rw[<- htk] at hH' hS6;repeat (first|refine wk ?_|refine l9 ?_|intro _)
  exact mF (i+1,x',b') ⟨rfl,rfl,rfl,rfl,rfl,trivial⟩ ⟨hlt,hH',_,hS6⟩ (by simp only;omega)
 ·obtain rfl:i=l.length:=by omega
  rw[List.take_length] at hS hH;repeat (first|refine wk ?_|refine l9 ?_|intro _)
  apply iU;assumption;exact rfl;exact ZC _ g2 _ _ _ (St.glo hS hg (fun h=>h) (fun h=>h)) (hS.varAt .here) hH hlen;exact rfl;rintro _ _ rfl _ _;repeat (first|refine wk ?_|refine l9 ?_|intro _)
  (apply rT;exact rfl;apply vL;assumption;exact rfl;(repeat (first|exact Has.here|apply Has.there));exact rfl)
  exact⟨rfl,St.out (by assumption)⟩
theorem a3q (w:World)(h:Hsh):Ret prog 167 [hv h] w fun v w'=>v=sv h.l/\Ext w w':=by
 refine oZ func167 rfl ntmps167 rfl ?_;have hS:=St.start w (fun _=>True) (fun _ _=>trivial);repeat (first|refine wk ?_|refine l9 ?_|intro _)
 apply PQ;assumption;exact rfl;(repeat (first|exact Has.here|apply Has.there))
 ·rw[UH];exact IK _
 ·exact h.len
 ·exact rfl
 repeat (first|refine wk ?_|refine l9 ?_|intro _)
 (apply rT;exact rfl;apply kY;exact rfl)
 exact⟨rfl,St.out (by assumption)⟩
end Go.Proofs.YtocpacdnjbjjmaaGreatDoor

namespace Go.Proofs.YtocpacdnjbjjmaaGreatDoor
open Go Go.RowKit Tw Go.Proofs.Tryz
theorem a3B (c:UInt8)(n:Nat)(w:World):Ret prog 229 [j6 c,.int .i64 n] w fun v w'=>v=st [j6 c,j6 (UInt8.ofNat (n / 65536)),j6 (UInt8.ofNat (n / 256)),j6 (UInt8.ofNat n)]/\Ext w w':=by
 refine oZ func229 rfl ntmps229 rfl ?_;have hS:=St.start w (fun _=>True) (fun _ _=>trivial);repeat (first|refine wk ?_|refine l9 ?_|intro _)
 (apply rT;exact rfl;apply vL;assumption;exact rfl;(repeat (first|exact Has.here|apply Has.there));exact rfl)
 refine⟨?_,St.out (by assumption)⟩;have e1:=tO (n / 65536);have e2:=tO (n / 256);have e3:=tO n;simp only[Int.natCast_ediv] at e1 e2;rw[<- e1,<- e2,<- e3];rfl
theorem YX (c:UInt8)(s:Bs)(w:World):Ret prog 155 [j6 c,sv s] w fun v w'=>v=sv (oO c s)/\Ext w w':=by
 refine oZ func155 rfl ntmps155 rfl ?_;have hS:=St.start w (fun _=>True) (fun _ _=>trivial);repeat (first|refine wk ?_|refine l9 ?_|intro _)
 apply Tp;exact rfl;exact rfl;exact rfl;refine XO 0 (min s.length 16777215) rfl rfl rfl rfl om om om rfl ?_;repeat (first|refine wk ?_|refine l9 ?_|intro _)
 apply iU;assumption;exact rfl;apply a3B c _;exact rfl;intro v w1 hv _ _;subst hv;repeat (first|refine wk ?_|refine l9 ?_|intro _)
 apply PQ;assumption;exact rfl;(repeat (first|exact Has.here|apply Has.there));exact IK [_,_,_,_];exact rfl;exact rfl;apply XT;exact rfl;exact rfl;apply JF;exact rfl;exact rfl;simp;omega;exact rfl;repeat (first|refine wk ?_|refine l9 ?_|intro _)
 (apply rT;exact rfl;apply kY;exact rfl)
 refine⟨?_,St.out (by assumption)⟩;have e1:(s.take (min s.length 16777215)).drop 0=s.take bN:=by
  unfold bN;rw[List.drop_zero];rcases Nat.le_total s.length 16777215 with h|h
  ·rw[Nat.min_eq_left h,List.take_length,List.take_of_length_le h]
  ·rw[Nat.min_eq_right h]
 rw[e1];rfl
theorem Ls:∀ (f n:Nat),n<256 ^ f->V4 (f+1) n=V4 f n
 | 0,n,h=>by
  have:n=0:=by simpa using h
  subst this;rfl
 | f+1,n,h=>by
  have h1:=Ls f (n / 256) (by rw[Nat.pow_succ] at h;omega);show (if n=0 then [] else V4 (f+1) (n / 256)++[UInt8.ofNat n])=if n=0 then [] else V4 f (n / 256)++[UInt8.ofNat n]
  rw[h1]
theorem Lp {x:Nat}(h:x<256 ^ 8):V4 8 x=if x=0 then [] else V4 8 (x / 256)++[UInt8.ofNat x]:=by
 have h1:=Ls 7 (x / 256) om;show (if x=0 then [] else V4 7 (x / 256)++[UInt8.ofNat x])=_;rw[<- h1]
theorem a5S {x:Nat}(h:x<256 ^ 8):0<(V4 8 x).length↔x≠0:=by
 rw[Lp h];by_cases h0:x=0 <;> simp[h0]
theorem a5Q (n:Nat)(hn:n<256 ^ 8)(w:World):Ret prog 230 [.int .u64 n] w fun v w'=>v=sv (digits n)/\Ext w w':=by
 refine oZ func230 rfl ntmps230 rfl ?_;have hS:=(St.start w (fun _=>True) (fun _ _=>trivial)).nilRow 5 1;repeat (first|refine wk ?_|refine l9 ?_|intro _)
 refine rU (α:=Nat × Value × Bs) (fun x=>[(0,.int .u64 n),(3,x.2.1),(4,.int .i64 ((x.1:Int)*8-8))])
  (fun x w'=>x.1<=8/\x.2.2.length+x.1<=8/\x.2.2=V4 8 (n / 256 ^ x.1)/\∃ ok,St ⟨w,fun _=>True,fun _=>False⟩ ok [.row x.2.1 5 1 (x.2.2.map j6)] w')
  (fun x=>x.1) (8,.slice none 0 0,[]) ⟨rfl,rfl,rfl,trivial⟩ ?_ ?_
 ·exact⟨Nat.le_refl _,Nat.le_refl _,by rw[Nat.div_eq_of_lt hn];rfl,_,hS⟩
 ·rintro⟨r,v,l⟩ w1 ⟨h1,h2,h3,ok,hS⟩;dsimp only at h1 h2 h3 hS ⊢;repeat (first|refine wk ?_|refine l9 ?_|intro _)
  refine oJ rfl (fun hr=>?_) (fun hr=>?_)
  ·obtain⟨r,rfl⟩:∃ q,r=q+1:=⟨r-1,om⟩;obtain⟨A,c,rfl⟩:=(hS.rowSl 0 rfl).shape;repeat (first|refine wk ?_|refine l9 ?_|intro _)
   refine DN (8*r) (256 ^ r) rfl rfl om ?_ rfl ?_
   ·rw[show min (8*r) IntKind.u64.bits=8*r by show min (8*r) 64=8*r;omega,Int.pow_mul];rfl
   apply JE;exact rfl;exact rfl;apply XY;exact rfl;exact rfl;apply DU 5 rfl (by have h:=tO (n / 256 ^ r);simp only[Int.natCast_ediv,Int.natCast_pow] at h;exact h);generalize hx:n / 256 ^ r=x at *;have h3':l=V4 8 (x / 256):=by rw[h3,<- hx,Nat.div_div_eq_div_mul,Nat.pow_succ]
   have hx8:x<256 ^ 8:=by rw[<- hx];exact Nat.lt_of_le_of_lt (Nat.div_le_self _ _) hn
   repeat (first|refine wk ?_|refine l9 ?_|intro _)
   have hmod:(UInt8.ofNat x).toNat=x%256:=sm
   have hst:=Lp hx8;have hsm:=a5S (x:=x / 256) om;refine Ue 16 rfl ?_ ?_
   ·intro hz;have hz:x%256=0:=by
     rw[hmod] at hz;have:=of_decide_eq_false hz;omega
    repeat (first|refine wk ?_|refine l9 ?_|intro _)
    refine oJ rfl (fun hl=>?_) (fun hl=>?_)
    ·have hl:0<l.length:=by simpa using hl
     rw[<- h3'] at hsm hst;have hx0:x≠0:=by have:=hsm.1 hl;omega
     repeat (first|refine wk ?_|refine l9 ?_|intro _)
     refine YA 0 (by assumption) rfl rfl rfl (by assumption) rfl rfl rfl (by simp;omega) (by simp[maxLen];omega) ?_;intro v' ok' w' hS' _;repeat (first|refine wk ?_|refine l9 ?_|intro _)
     refine mF (r,v',l++[UInt8.ofNat x]) ⟨rfl,rfl,?_,trivial⟩ ⟨om,by simp;omega,?_,ok',by simpa using hS'⟩ (Nat.lt_succ_self r)
     ·show some (Value.int .i64 _)=some (Value.int .i64 _);congr 2
      omega
     ·show l++[UInt8.ofNat x]=V4 8 (n / 256 ^ r);rw[hx,hst,if_neg hx0]
    ·have hl:¬ 0<l.length:=by simpa using hl
     rw[<- h3'] at hsm hst;have hx0:x=0:=by have:=mt hsm.2 hl;omega
     repeat (first|refine wk ?_|refine l9 ?_|intro _)
     refine mF (r,_,l) ⟨rfl,rfl,?_,trivial⟩ ⟨Nat.le_of_succ_le h1,Nat.le_of_succ_le h2,?_,ok,hS⟩ (Nat.lt_succ_self r)
     ·show some (Value.int .i64 _)=some (Value.int .i64 _);congr 2
      omega
     ·show l=V4 8 (n / 256 ^ r);rw[hx,hst,if_pos hx0];exact List.eq_nil_of_length_eq_zero om
   ·intro hz;have hz:x%256≠0:=by
     rw[hmod] at hz;have:=of_decide_eq_true hz;omega
    have hx0:x≠0:=om
    repeat (first|refine wk ?_|refine l9 ?_|intro _)
    refine YA 0 (by assumption) rfl rfl rfl (by assumption) rfl rfl rfl (by simp;omega) (by simp[maxLen];omega) ?_;intro v' ok' w' hS' _;repeat (first|refine wk ?_|refine l9 ?_|intro _)
    refine mF (r,v',l++[UInt8.ofNat x]) ⟨rfl,rfl,?_,trivial⟩ ⟨om,by simp;omega,?_,ok',by simpa using hS'⟩ (Nat.lt_succ_self r)
    ·show some (Value.int .i64 _)=some (Value.int .i64 _);congr 2
     omega
    ·show l++[UInt8.ofNat x]=V4 8 (n / 256 ^ r);rw[hx,hst,if_neg hx0,<- h3']
  ·obtain rfl:r=0:=by omega
   repeat (first|refine wk ?_|refine l9 ?_|intro _)
   obtain⟨A,c,rfl⟩:=(hS.rowSl 0 rfl).shape;apply XM;exact rfl;exact hS.rowSl 0 rfl;exact rfl;repeat (first|refine wk ?_|refine l9 ?_|intro _)
   (apply rT;exact rfl;apply kY;exact rfl)
   refine⟨?_,hS.out⟩;rw[h3];simp[digits]
theorem Ep (c:UInt8)(n:Nat)(hn:n<256 ^ 8)(w:World):Ret prog 156 [j6 c,.int .u64 n] w fun v w'=>v=sv (DZ c n)/\Ext w w':=by
 refine oZ func156 rfl ntmps156 rfl ?_;have hS:=St.start w (fun _=>True) (fun _ _=>trivial);repeat (first|refine wk ?_|refine l9 ?_|intro _)
 apply iU;assumption;exact rfl;exact a5Q n hn _;exact rfl;rintro _ _ rfl _ _;apply iU;assumption;exact rfl;exact YX c _ _;exact rfl;rintro _ _ rfl _ _;repeat (first|refine wk ?_|refine l9 ?_|intro _)
 (apply rT;exact rfl;apply kY;exact rfl)
 exact⟨rfl,St.out (by assumption)⟩
theorem a2R (c:UInt8)(n:Int)(hn:n<=9223372036854775807)(w:World):Ret prog 106 [j6 c,.int .i64 n] w fun v w'=>v=sv (JU c n)/\Ext w w':=by
 refine oZ func106 rfl ntmps106 rfl ?_;have hS:=St.start w (fun _=>True) (fun _ _=>trivial);repeat (first|refine wk ?_|refine l9 ?_|intro _)
 apply Tq;exact rfl;exact rfl;exact rfl;repeat (first|refine wk ?_|refine l9 ?_|intro _)
 apply DU 8 rfl (show Value.int .u64 _=.int .u64 (n.toNat:Nat) by
  rw[IntKind.wrap_u64];congr 1
  omega)
 apply iU;assumption;exact rfl;exact Ep c n.toNat om _;exact rfl;rintro _ _ rfl _ _;repeat (first|refine wk ?_|refine l9 ?_|intro _)
 (apply rT;exact rfl;apply kY;exact rfl)
 exact⟨rfl,St.out (by assumption)⟩
end Go.Proofs.YtocpacdnjbjjmaaGreatDoor

namespace Go.Proofs.YtocpacdnjbjjmaaGreatDoor
open Go Go.RowKit Tw Av Go.Proofs.Tryz
def GL:List (Nat × AV):=[(0,.agg 8 (h0.words.map fun x=>.lit (y8 x))),(2,.agg 64 (jI.map fun x=>.lit (y8 x)))]
theorem Bv {ok:Ok}{w:World}{b:Nat}{cs:List Value}(h:At ok w b 0 cs)(h0:0<cs.length):Rg w b 0 cs:=by
 have h1:=(h 0 cs[0] (by simp[h0])).1;unfold World.cell? at h1;cases hb:w.heap[b]? with
 | none=>simp[hb] at h1
 | some o=>
  cases o with
  | cells C T fr=>
   refine⟨C,T,fr,hb,?_⟩;apply List.ext_getElem?;intro j;rw[List.drop_zero];rcases Nat.lt_or_ge j cs.length with hj|hj
   ·have h2:=(h j cs[j] (by simp[hj])).1;unfold World.cell? at h2;simp only[hb,Nat.zero_add] at h2;rw[List.getElem?_take_of_lt hj,List.getElem?_eq_getElem hj];simpa using h2
   ·rw[List.getElem?_eq_none hj,List.getElem?_eq_none (by simp;omega)]
  | _=>simp[hb] at h1
theorem AF {ok:Ok}{w:World}{α:Type}{f:α->Value}:∀ {l:List α} {cs:List Value},RCs ok w (l.map fun x=>.lit (f x)) cs->cs=l.map f
 | [],cs,h=>by rw[List.map_nil,RCs] at h;exact h
 | c::l,cs,h=>by
  rw[List.map_cons,RCs] at h;obtain⟨c1,c2,rfl,h1,h2⟩:=h;rw[RC] at h1;rw[h1.1,AF h2];rfl
theorem MX {ok:Ok}{w:World}(h:Glob GL ok w):Glo w:=by
 refine⟨?_,?_⟩
 ·obtain⟨cs,h1,h2⟩:=h _ (by unfold GL;exact List.mem_cons_self);rw[RC] at h2;have h3:=AF h2.2;subst h3;exact Bv h1 (by simp[H8.words])
 ·obtain⟨cs,h1,h2⟩:=h (2,_) (by unfold GL;exact List.mem_cons_of_mem _ List.mem_cons_self);rw[RC] at h2;have h3:=AF h2.2;subst h3;exact Bv h1 (by simp[jI])
theorem Yr {ok:Ok}{w:World}{xs:List AV}{id:Option Value}{k:Nat}{v:Value}{vs:List Value}{E:TypeId}(h:RV ok w (.sl k xs id) v)(hx:∀ cs,RCs ok w xs cs->cs=fl vs)(hl:xs.length=vs.length)(hk:∀ x∈vs,x.cells.size=k)(hg:Tw.Good vs)(hk0:0<k):Sl (fun _=>True) w E k v vs:=by
 obtain⟨A,c,rfl,_,h2,h3,h4,_⟩:=mJ h;refine⟨hk,hg,A,c,by rw[hl],om,h3,fun hn=>?_⟩;obtain⟨b,o,es,g1,g2,g3,g4⟩:=h4 om;have:=hx es g4;subst this;refine⟨b,o,g1,trivial,rfl,?_⟩;have h0:0<(fl vs).length\/(fl vs).length=0:=by omega
 rcases h0 with h0|h0
 ·have:At ok w b o (fl vs):=g3;have h1:=(this 0 (fl vs)[0] (by simp[h0])).1;unfold World.cell? at h1;cases hb:w.heap[b]? with
  | none=>simp[hb] at h1
  | some ob=>
   cases ob with
   | cells C T fr=>
    refine⟨C,T,fr,hb,?_⟩;apply List.ext_getElem?;intro j;rcases Nat.lt_or_ge j (fl vs).length with hj|hj
    ·have h2:=(this j (fl vs)[j] (by simp[hj])).1;unfold World.cell? at h2;simp only[hb] at h2;rw[List.getElem?_take_of_lt hj,List.getElem?_eq_getElem hj,List.getElem?_drop];simpa using h2
    ·rw[List.getElem?_eq_none hj,List.getElem?_eq_none (by simp;omega)]
   | _=>simp[hb] at h1
 ·have hvs:vs.length*k=0:=by rw[<- nA hk,h0]
  rcases Nat.mul_eq_zero.1 hvs with h|h
  ·omega
  ·omega
def o8 (c:Int)(s:Bs):Bs:=oO (UInt8.ofNat c.toNat) s
def QA (c:Int)(n:Nat):Bs:=DZ (UInt8.ofNat c.toNat) n
def D8 (c:Int)(n:Int):Bs:=JU (UInt8.ofNat c.toNat) n
instance {c:Int}{s:Bs}:LenLe (o8 c s) 16777219:=⟨by simp[o8,oO,bN,List.length_take];omega⟩
instance {c:Int}{n:Nat}:LenLe (QA c n) 16777219:=⟨by unfold QA DZ;simp[oO,bN,List.length_take];omega⟩
instance {c:Int}{n:Int}:LenLe (D8 c n) 16777219:=⟨by unfold D8 JU DZ;simp[oO,bN,List.length_take];omega⟩
instance {h:Hsh}:LenLe h.l 32:=⟨by rw[h.len];exact Nat.le_refl _⟩
theorem TS {c:Int}(h:0<=c/\c<256):Value.int .u8 c=j6 (UInt8.ofNat c.toNat):=by
 unfold j6;congr 1
 have:(UInt8.ofNat c.toNat).toNat=c.toNat:=by simp;omega
 rw[this];omega
instance b4G {c:Int}{s:Bs}:Ans prog GL 155 [.lit (.int .u8 c),str s] (0<=c/\c<256) (str (o8 c s)):=⟨fun hc=>EH fun ok w cargs hg hv=>by
 obtain⟨u1,us,rfl,h1,u2,us2,rfl,h2,rfl⟩:=hv;rw[RV0.lit h1,RV0.lit h2,TS hc];exact(YX _ s w).mono fun v w' hh=>⟨fun ok w=>by rw[hh.1];exact RVl rfl,hh.2⟩⟩
instance b7j {c:Int}{n:Int}:Ans prog GL 156 [.lit (.int .u8 c),.lit (.int .u64 n)] ((0<=c/\c<256)/\0<=n/\n<18446744073709551616) (str (QA c n.toNat)):=⟨fun hc=>EH fun ok w cargs hg hv=>by
 obtain⟨u1,us,rfl,h1,u2,us2,rfl,h2,rfl⟩:=hv;rw[RV0.lit h1,RV0.lit h2,TS hc.1];have:=Ep (UInt8.ofNat c.toNat) n.toNat om w;rw[show ((n.toNat:Nat):Int)=n by omega] at this;exact this.mono fun v w' hh=>⟨fun ok w=>by rw[hh.1];exact RVl rfl,hh.2⟩⟩
instance b7H {c:Int}{n:Int}:Ans prog GL 106 [.lit (.int .u8 c),int n] ((0<=c/\c<256)/\n<=9223372036854775807) (str (D8 c n)):=⟨fun hc=>EH fun ok w cargs hg hv=>by
 obtain⟨u1,us,rfl,h1,u2,us2,rfl,h2,rfl⟩:=hv;rw[RV0.lit h1,RV0.lit h2,TS hc.1];exact(a2R _ n hc.2 w).mono fun v w' hh=>⟨fun ok w=>by rw[hh.1];exact RVl rfl,hh.2⟩⟩
instance b7M {h:Hsh}:Ans prog GL 167 [hA h] True (str h.l):=⟨fun _=>EH fun ok w cargs hg hv=>by
 obtain⟨u1,us,rfl,h1,rfl⟩:=hv;rw[Ie h1];exact(a3q w h).mono fun v w' hh=>⟨fun ok w=>by rw[hh.1];exact RVl rfl,hh.2⟩⟩
theorem Db {ok:Ok}{w:World}:∀ {l:List Bs} {cs:List Value},RCs ok w (l.map str) cs->cs=fl (l.map sv)
 | [],cs,h=>by rw[List.map_nil,RCs] at h;exact h
 | c::l,cs,h=>by
  rw[List.map_cons,RCs] at h;obtain⟨c1,c2,rfl,h1,h2⟩:=h;rw[RC] at h1;rw[h1.1,Db h2];rfl
class LensLe (l:List Bs)(n:outParam Nat):Prop where
 out:l.flatten.length<=n
instance : LensLe [] 0 := ⟨Nat.le_refl _⟩
instance {a:Bs}{l:List Bs}{n k:Nat}[h:LenLe a n][g:LensLe l k]:LensLe (a::l) (n+k):=⟨by have:=h.out;have:=g.out;simp at *;omega⟩
def sM (l:List Bs):Hsh:=Y0 l.flatten
instance b7h {xs:List AV}{id:Option Value}{l:List Bs}{n:Nat}[hs:Strs xs l][hl:LensLe l n]:Ans prog GL 237 [.sl 1 xs id] (n<=1152921504606846976) (hA (sM l)):=⟨fun hc=>EH fun ok w cargs hg hv=>by
 obtain⟨u1,us,rfl,h1,rfl⟩:=hv;have hx:=hs.out;subst hx;exact(a1w w l u1 (fun _=>True) (MX hg) (Yr h1 (fun cs h=>Db h) sm (by intro x hx;obtain⟨b,_,rfl⟩:=List.mem_map.1 hx;rfl) (Tw.Good.map (fun b=>uJ rfl) l) dc) (by have:=hl.out;omega)).mono fun v w' hh=>⟨fun ok w=>by rw[hh.1];exact RV_hA _,hh.2⟩⟩
end Go.Proofs.YtocpacdnjbjjmaaGreatDoor

namespace Go.Proofs.YtocpacdnjbjjmaaGreatDoor
open Go Go.ChangeShapes Go.WideShapes Go.ChangeAt Go.RowKit Tw Av Go.Proofs.Tryz
theorem own:ownKnob prog.godebug=none:=by kernel_rfl
theorem laidOut:laidOutB prog=true:=by kernel_rfl
def Rx:List Int:=jI.map fun x=>(x.toNat:Int)
def Ry:List Int:=h0.words.map fun x=>(x.toNat:Int)
theorem UA {P:Program}{x:String × DataW Unit}{r:List (String × DataW Unit)}{w:World}(h:laidMet P (x::r) w):laidMet P r w:=by
 obtain⟨ps,h1,h2,h3⟩:=h;obtain⟨g,t,cs,fuel,p,q,e1,e2,e3,e4,e5,rfl⟩:=h1;exact⟨q,e5,(List.nodup_append.1 h2).2.1,fun b off hb=>h3 b off (by simp[hb])⟩
theorem Ga {α:Type}{f:α->Value}{ok:Ok}{w:World}(hf:∀ x,(f x).oneCell'=true):∀ l:List α,RCs ok w (l.map fun x=>.lit (f x)) (l.map f)
 | []=>by rw[List.map_nil,RCs];rfl
 | x::l=>by
  rw[List.map_cons,RCs];exact⟨[f x],l.map f,rfl,by rw[RC];exact⟨rfl,hf x⟩,Ga hf l⟩
theorem YZ {W:World}{g:Nat}{name:String}{l:List W32}{n:Nat}(hg:prog.globalNamed name=some g)(hl:l.length=n)(h:Lib.TabIs prog W name .u32 (l.map fun x=>(x.toNat:Int))):∃ cs,At pJ W g 0 cs/\RC pJ W (.agg n (l.map fun x=>.lit (y8 x))) cs:=by
 refine⟨l.map y8,fun j v hj=>⟨?_,trivial⟩,?_⟩
 ·have hlt:j<l.length:=by have:=(List.getElem?_eq_some_iff.1 hj).1;simpa using this
  have h1:=Lib.TabIs.cell h hg j (by simpa using hlt);rw[Nat.zero_add,h1];rw[List.getElem?_map,List.getElem?_eq_getElem hlt] at hj;simp only[Option.map_some,Option.some.injEq] at hj;rw[<- hj];simp[List.getD,hlt,y8]
 ·rw[RC];exact⟨by simp[hl],Ga (fun _=>rfl) l⟩
def rowOf (c:Array Value):Obj->Obj
 | .cells _ t frozen=>.cells c t frozen
 | o=>o
noncomputable def Gj (os:Os):World:=
 { World.holding prog os ⟨#[],#[],[]⟩ with heap:=((World.holding prog os ⟨#[],#[],[]⟩).heap.modify 0 (rowOf (h0.words.map y8).toArray)).modify 2 (rowOf (jI.map y8).toArray) }
end Go.Proofs.YtocpacdnjbjjmaaGreatDoor

namespace Go.Proofs.YtocpacdnjbjjmaaGreatDoor
open Go Go.ChangeShapes Go.WideShapes Go.ChangeAt Go.RowKit Tw Av Go.Proofs.Tryz
theorem Ii {W : World} (h : laidMet Tryz.prog [("unicode/utf8.acceptRanges", Rows.laid_unicode_utf8_acceptRanges), ("twinspan/hash.factors", Rows.laid_twinspan_hash_factors), ("twinspan/hash.begin", Rows.laid_twinspan_hash_begin), ("unicode/utf8.first", Rows.laid_unicode_utf8_first)] W) : Glob GL pJ W := by
 have gF : Tryz.prog.globalNamed "twinspan/hash.factors" = some 2 := by kernel_rfl
 have gB : Tryz.prog.globalNamed "twinspan/hash.begin" = some 0 := by kernel_rfl
 have h1 : Lib.TabIs Tryz.prog W "twinspan/hash.factors" .u32 Rx := Lib.tabIs_of_head (g := 2) (t := 354) (e := 222) (n := 64) gF (by kernel_rfl) (by kernel_rfl) (by kernel_rfl) (by kernel_rfl) (by kernel_rfl) (rest := [("twinspan/hash.begin", Rows.laid_twinspan_hash_begin), ("unicode/utf8.first", Rows.laid_unicode_utf8_first)]) (UA h)
 have h2 : Lib.TabIs Tryz.prog W "twinspan/hash.begin" .u32 Ry := Lib.tabIs_of_head (g := 0) (t := 317) (e := 222) (n := 8) gB (by kernel_rfl) (by kernel_rfl) (by kernel_rfl) (by kernel_rfl) (by kernel_rfl) (rest := [("unicode/utf8.first", Rows.laid_unicode_utf8_first)]) (UA (UA h))
 intro p hp;unfold GL at hp;rcases List.mem_cons.1 hp with rfl|hp
 ·exact YZ gB rfl h2
 ·obtain rfl:=List.mem_singleton.1 hp;exact YZ gF rfl h1
def Bg (l:List Nat):Array Value:=(l.map fun n:Nat=>Value.int .u8 (n:Int)).toArray
noncomputable def BP (os:Os):World:=
 { Gj os with heap:=((Gj os).heap.modify 3 (rowOf (Bg Go.Pinned.utf8FirstZ))).modify 4 (rowOf (Bg ([128,191,160,191,128,159,144,191,128,143]++List.replicate 22 0))) }
end Go.Proofs.YtocpacdnjbjjmaaGreatDoor
