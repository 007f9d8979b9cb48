/- What was written is read. Plain. -/
import Derived.Test.YtlkkekpcofjbeaaGreatDoorA27
import Derived.Test.YtlkkekpcofjbeaaGreatDoorA29
namespace Go.Proofs.YtlkkekpcofjbeaaGreatDoor
open Go Go.RowKit Tw Av
theorem put_same {x:Cli}{s:Sta}(h:atIs x.l s.h=true)(he:x.l.getD (atI x.l s.h) zeroS=s):putC x s=x:=by
 unfold putC
 rw [if_pos ⟨h,he⟩]
theorem put_frz1 {x:Cli}{s:Sta}(h:atIs x.l s.h=true)(he:x.l.getD (atI x.l s.h) zeroS≠s):putC x s=frz x:=by
 unfold putC
 rw [if_neg (fun hh=>he hh.2),if_pos (.inl h)]
theorem put_frz2 {x:Cli}{s:Sta}(h:atIs x.l s.h=false)(hb:badAt x.l s (atI x.l s.h)=true):putC x s=frz x:=by
 unfold putC
 rw [if_neg (by rw [h];simp),if_pos (.inr hb)]
theorem put_ins {x:Cli}{s:Sta}(h:atIs x.l s.h=false)(hb:badAt x.l s (atI x.l s.h)=false):putC x s={ x with l:=insS x.l s }:=by
 unfold putC
 rw [if_neg (by rw [h];simp),if_neg (by rw [h,hb];simp)]
theorem bad_0 {l:List Sta}{s:Sta}:badAt l s 0=(decide (0 < l.length) && !fol s (l.getD 0 zeroS)):=by simp [badAt]
theorem bad_s {l:List Sta}{s:Sta}{i:Nat}(hi:i < l.length):badAt l s (i + 1)=(!fol l[i] s || (decide (i + 1 < l.length) && !fol s (l.getD (i + 1) zeroS))):=by
 have:l.getD (i + 1 - 1) zeroS=l[i]:=by simp [List.getD,hi]
 unfold badAt
 rw [this]
 simp
set_option maxHeartbeats 2000000 in
instance fnCPut {c k:Bs}{p h t:Int}{f:Bool}{r:Hsh}{l:List Sta}{xs:List AV}{id:Option Value}[hx:Stas xs l]:Ans Tryz.prog GL 183 [.agg 5 [str c,str k,int p,boo f,.sl 34 xs id],.agg 34 [int h,int t,hA r]] (l.length<=1000000) (cliA (putC ⟨c,k,p,f,l⟩ ⟨h,t,r⟩)):=⟨fun hlen=>by
 have hxo:=hx.out
 subst hxo
 have hm:(l.map staA).length=l.length:=llm _
 have hle:=atI_le l h
 refine qE Tryz.func183 rfl Tryz.ntmps183 rfl (fun _ hs=>?_)
 repeat' (first|refine ct1 ?_|refine op1 ?_|refine opL ?_|refine op2 ?_|intro _)
 cases his:atIs l h
 ·refine dr1 hs ?_
  repeat' (first|refine ct1 ?_|refine op1 ?_|refine opL ?_|refine op2 ?_|refine ob1 ?_|refine ob4 ?_|refine ob2 (fun _=>?_)|intro _)
  rename_i g2 g3 g4
  refine ac_mid (α:=Unit) (fun _=>[(2,ptr g2),(3,ptr g3),(4,ptr g4),(5,int (atI l h)),(26,boo (badAt l ⟨h,t,r⟩ (atI l h)))]) (fun _=>[.var g4 82 (.agg 5 [str [],str [],int 0,boo false,nils]),.var g3 110 (staA ⟨h,t,r⟩),.var g2 82 (.agg 5 [str c,str k,int p,boo f,.sl 34 (l.map staA) id])]) ?_ (fun _=>?_)
  ·generalize atI l h=i at *
   rcases i with _|i
   ·rw [bad_0]
    repeat' first|refine Vz ?_|intro _
    by_cases hlt:0 < l.length
    ·have hg:l.getD 0 zeroS=l[0]:=by simp [List.getD,hlt]
     rw [dT (show ((0:Nat):Int) < ((l.map staA).length:Int) by omega)]
     repeat' first|refine Vz ?_|intro _
     exact ae_cut () ⟨rfl,rfl,rfl,rfl,by rw [dT hlt,hg];rfl,trivial⟩ slr
    ·rw [dZ (show ¬ ((0:Nat):Int) < ((l.map staA).length:Int) by omega)]
     repeat' first|refine Vz ?_|intro _
     exact ae_cut () ⟨rfl,rfl,rfl,rfl,by rw [dZ hlt];rfl,trivial⟩ slr
   ·have hil:i < l.length:=by omega
    rw [bad_s hil]
    repeat' first|refine Vz ?_|intro _
    rw [dT (show (0:Int) < ((i + 1:Nat):Int) by omega)]
    repeat' first|refine Vz ?_|intro _
    rw [show (((i + 1:Nat):Int) - 1)=(i:Int) by omega]
    repeat' first|refine Vz ?_|intro _
    cases hf:fol l[i] ⟨h,t,r⟩
    ·repeat' first|refine Vz ?_|intro _
     exact ae_cut () ⟨rfl,rfl,rfl,rfl,rfl,trivial⟩ slr
    ·repeat' first|refine Vz ?_|intro _
     by_cases hlt:i + 1 < l.length
     ·rw [dT (show ((i + 1:Nat):Int) < ((l.map staA).length:Int) by omega)]
      repeat' first|refine Vz ?_|intro _
      have hg:l.getD (i + 1) zeroS=l[i + 1]:=by simp [List.getD,hlt]
      exact ae_cut () ⟨rfl,rfl,rfl,rfl,by rw [dT hlt,hg];rfl,trivial⟩ slr
     ·rw [dZ (show ¬ ((i + 1:Nat):Int) < ((l.map staA).length:Int) by omega)]
      repeat' first|refine Vz ?_|intro _
      exact ae_cut () ⟨rfl,rfl,rfl,rfl,by rw [dZ hlt];rfl,trivial⟩ slr
  ·cases hbad:badAt l ⟨h,t,r⟩ (atI l h)
   ·repeat' (first|refine ct1 ?_|refine op1 ?_|refine opL ?_|refine op2 ?_|refine ob1 ?_|refine ob4 ?_|refine ob2 (fun _=>?_)|intro _)
    refine ac_perm [0,1,3,4,5,2,6,7,8] (by kernel_rfl) rfl hs (by kernel_rfl) ?_
    repeat' (first|refine ct1 ?_|refine op1 ?_|refine opL ?_|refine op2 ?_|refine ob1 ?_|refine ob4 ?_|refine ob2 (fun _=>?_)|intro _)
    have hL:(l.take (atI l h)++⟨h,t,r⟩::l.drop (atI l h)).length=l.length + 1:=by simp;omega
    have hmap:(l.map staA).take (atI l h)++staA ⟨h,t,r⟩::(l.map staA).drop (atI l h)=(l.take (atI l h)++⟨h,t,r⟩::l.drop (atI l h)).map staA:=by simp
    have hend:putC ⟨c,k,p,f,l⟩ ⟨h,t,r⟩=⟨c,k,p,f,(l.take (atI l h)++⟨h,t,r⟩::l.drop (atI l h)).drop (l.length + 1 - 32)⟩:=put_ins his hbad
    rw [hend]
    apply obl_fresh []
    exact rfl
    exact rfl
    kernel_rfl
    kernel_rfl
    intro _ hs'
    refine al_callK [] _ (by rw [hs'];exact cloneS_spec (xs:=l.map staA) (id:=id) (by rw [llm];omega)) (fun u m1 hh=>?_) lpr
    rcases hh with⟨hnil,rfl,rfl⟩|⟨g,cap,rfl,rfl,hcap⟩
    ·obtain rfl:l=[]:=by simpa using hnil
     have hx1:([staA ⟨h,t,r⟩]:List AV).length=1:=rfl
     refine al_nil (ae_fresh [] [] rfl rfl lpr rfl ?_)
     apply obl_fresh []
     exact rfl
     exact rfl
     kernel_rfl
     kernel_rfl
     intro _ hs'
     refine al_callK [] _ (by rw [hs'];exact insertS_nil (x:=staA ⟨h,t,r⟩) (idv:=none)) (fun u m1 hh=>?_) lpr
     rcases hh with⟨hnil,rfl,rfl⟩|⟨g,cap,rfl,rfl,hcap⟩
     ·simp at hnil
     ·refine al_freeze 68 ?_
      refine al_as 68 Imp.sl ?_
      refine al_nil (ae_fresh [] [.tail 110 34 _] rfl rfl lpr rfl ?_)
      repeat' first|refine Vz ?_|intro _
      refine al_sliceD 0 1 ?_
      repeat' first|refine Vz ?_|intro _
      refine reI ?_
      exact imp_cli1 (l:=[⟨h,t,r⟩])
    ·refine al_nil (ae_fresh [] [.buf g 110 34 (l.map staA) cap] rfl rfl lpr rfl ?_)
     apply obl_fresh [3]
     exact rfl
     exact rfl
     kernel_rfl
     kernel_rfl
     intro _ hs'
     refine al_callK [.buf g 110 34 (l.map staA) cap] [] (by rw [hs'];exact insertS_spec (i:=atI l h) (x:=staA ⟨h,t,r⟩) (idv:=none) rfl hcap (by rw [hm];exact hle) (by rw [hm];omega)) (fun u m1 hh=>?_) lpr
     rw [hmap] at hh
     rcases hh with⟨hnil,rfl,rfl⟩|⟨g,cap,rfl,rfl,hcap⟩
     ·simp at hnil
     ·refine al_freeze 68 ?_
      refine al_as 68 Imp.sl ?_
      refine al_nil (ae_fresh [.tail 110 34 _] [] rfl rfl lpr rfl ?_)
      have hL2:((l.take (atI l h)++⟨h,t,r⟩::l.drop (atI l h)).map staA).length=l.length + 1:=by rw [llm,hL]
      repeat' first|refine Vz ?_|intro _
      refine al_sliceD (l.length + 1 - 32) (l.length + 1) ?_
      rw [<- hL2,List.take_length,hL2,<- List.map_drop]
      repeat' first|refine Vz ?_|intro _
      refine reI ?_
      exact imp_cli1
   ·repeat' first|refine Vz ?_|intro _
    refine reI ?_
    rw [put_frz2 his hbad]
    exact imp_cli1
 ·have hl:atI l h < l.length:=by
   rcases Nat.lt_or_ge (atI l h) l.length with h|h
   ·exact h
   ·rw [atIs_out (by omega)] at his;cases his
  have hg:l.getD (atI l h) zeroS=l[atI l h]:=by simp [List.getD,hl]
  repeat' first|refine Vz ?_|intro _
  by_cases he:l[atI l h]=⟨h,t,r⟩
  ·rw [sta_eq,dT he]
   repeat' first|refine Vz ?_|intro _
   refine reI ?_
   rw [put_same his (hg.trans he)]
   exact imp_cli1
  ·rw [sta_eq,dZ he]
   repeat' first|refine Vz ?_|intro _
   refine reI ?_
   rw [put_frz1 his (by rw [hg];exact he)]
   exact imp_cli1⟩

theorem imp_zeroC' {n:Int}{o:Cli}(h:o=zeroC):Imp (.tup [.agg 5 [str [],str [],int 0,boo false,nils],int n]) (.tup [cliA o,int n]):=by rw [h];exact imp_zeroC
structure CliOk (x:Cli):Prop where
 n:x.l.length<=1000000
 k:x.k.length<=1000000
 t:-4611686018427387904<=(latC x.l).t/\(latC x.l).t<=4611686018427387904
 p:-4611686018427387904<=x.p/\x.p < 4611686018427387904
theorem upd19 {x:Cli}{h:Hdr}{mac:Hsh}{now:Int}(e:actC x now=false):updE x h mac now=19/\updC x h mac now=zeroC:=by
 have:updE x h mac now=19:=by unfold updE;rw [if_pos e]
 exact⟨this,by unfold updC;rw [this];rfl⟩
theorem upd1 {x:Cli}{h:Hdr}{mac:Hsh}{now:Int}(e:actC x now=true)(e2:chkH h=false\/h.c≠x.c):updE x h mac now=1/\updC x h mac now=zeroC:=by
 have:updE x h mac now=1:=by unfold updE;rw [if_neg (by rw [e];simp),if_pos e2]
 exact⟨this,by unfold updC;rw [this];rfl⟩
theorem upd18 {x:Cli}{h:Hdr}{mac:Hsh}{now:Int}(e:actC x now=true)(e2:chkH h=true)(e3:h.c=x.c)(e4:sealOf x.k h≠mac):updE x h mac now=18/\updC x h mac now=zeroC:=by
 have:updE x h mac now=18:=by unfold updE;rw [if_neg (by rw [e];simp),if_neg (by rw [e2,e3];simp),if_pos e4]
 exact⟨this,by unfold updC;rw [this];rfl⟩
theorem upd0 {x:Cli}{h:Hdr}{mac:Hsh}{now:Int}(e:actC x now=true)(e2:chkH h=true)(e3:h.c=x.c)(e4:sealOf x.k h=mac):updE x h mac now=0/\updC x h mac now=putC x (stOf h):=by
 have:updE x h mac now=0:=by unfold updE;rw [if_neg (by rw [e];simp),if_neg (by rw [e2,e3];simp),if_neg (by rw [e4];simp)]
 exact⟨this,by unfold updC;rw [this];rfl⟩
set_option maxHeartbeats 1000000 in
instance fnUpdate {c k c':Bs}{p h t now:Int}{f:Bool}{r mac:Hsh}{l:List Sta}{xs:List AV}{id:Option Value}[hx:Stas xs l]:Ans Tryz.prog GL 115 [.agg 5 [str c,str k,int p,boo f,.sl 34 xs id],.agg 35 [str c',int h,int t,hA r],hA mac,int now] (CliOk ⟨c,k,p,f,l⟩/\h<=9223372036854775807/\t<=9223372036854775807) (.tup [cliA (updC ⟨c,k,p,f,l⟩ ⟨c',h,t,r⟩ mac now),int (updE ⟨c,k,p,f,l⟩ ⟨c',h,t,r⟩ mac now)]):=⟨fun hpre=>by
 obtain⟨⟨p1,p2,⟨p3,p4⟩,p5,p6⟩,p7,p8⟩:=hpre
 dsimp only at p1 p2 p3 p4 p5 p6
 have hxo:=hx.out
 subst hxo
 refine qE Tryz.func115 rfl Tryz.ntmps115 rfl (fun _ hs=>?_)
 repeat' first|refine Vz ?_|intro _
 cases ha:actC ⟨c,k,p,f,l⟩ now
 ·obtain⟨e1,e2⟩:=upd19 (h:=⟨c',h,t,r⟩) (mac:=mac) ha
  rw [e1]
  repeat' first|refine Vz ?_|intro _
  refine reI ?_
  exact imp_zeroC' e2
 repeat' first|refine Vz ?_|intro _
 cases hc:chkH ⟨c',h,t,r⟩
 ·obtain⟨e1,e2⟩:=upd1 (mac:=mac) ha (.inl hc)
  rw [e1]
  repeat' first|refine Vz ?_|intro _
  refine reI ?_
  exact imp_zeroC' e2
 repeat' first|refine Vz ?_|intro _
 by_cases hcc:c'≠c
 ·obtain⟨e1,e2⟩:=upd1 (h:=⟨c',h,t,r⟩) (mac:=mac) ha (.inr hcc)
  rw [e1,dT hcc]
  repeat' first|refine Vz ?_|intro _
  refine reI ?_
  exact imp_zeroC' e2
 ·rw [dZ hcc]
  have hcc:c'=c:=Classical.not_not.1 hcc
  repeat' first|refine Vz ?_|intro _
  by_cases hmac:sealOf k ⟨c',h,t,r⟩≠mac
  ·obtain⟨e1,e2⟩:=upd18 (x:=⟨c,k,p,f,l⟩) ha hc hcc hmac
   rw [e1,dZ (show ¬ sealOf k ⟨c',h,t,r⟩=mac from hmac)]
   repeat' first|refine Vz ?_|intro _
   refine reI ?_
   exact imp_zeroC' e2
  ·have hmac:sealOf k ⟨c',h,t,r⟩=mac:=Classical.not_not.1 hmac
   obtain⟨e1,e2⟩:=upd0 (x:=⟨c,k,p,f,l⟩) ha hc hcc hmac
   rw [e1,dT hmac]
   repeat' first|refine Vz ?_|intro _
   refine reE ?_
   rw [e2]
   rfl⟩


def rhS1 (s:Bs):Bs:=rsT 99 32 s false
def rhB1 (s:Bs):Bool:=rbT 99 32 s false
def rhS2 (s:Bs):Bs:=rsT 104 8 (rhS1 s) (rhB1 s)
def rhB2 (s:Bs):Bool:=riB 104 1099511627776 (rhS1 s) (rhB1 s)
def rhS3 (s:Bs):Bs:=rsT 116 8 (rhS2 s) (rhB2 s)
def rhB3 (s:Bs):Bool:=riB 116 1099511627776 (rhS2 s) (rhB2 s)
def rhX (s:Bs):Bs:=rtT 114 32 (rhS3 s) (rhB3 s)
def rhE (s:Bs):Int:=reE' (rsT 114 32 (rhS3 s) (rhB3 s)) (rbT 114 32 (rhS3 s) (rhB3 s))
def rhV (s:Bs):Hdr:=⟨rtT 99 32 s false,riI 104 1099511627776 (rhS1 s) (rhB1 s),riI 116 1099511627776 (rhS2 s) (rhB2 s),hOf (rhX s)⟩
def rhOk (s:Bs):Bool:=decide ((rhX s).length=32) && (decide (rhE s=0) && chkH (rhV s))
def zeroHd:Hdr:=⟨[],0,0,zeroH⟩
def rhdV (s:Bs):Hdr:=if rhOk s=true then rhV s else zeroHd
def rhdE (s:Bs):Int:=if rhOk s=true then 0 else 10
theorem rh_lens (s:Bs):(rhS1 s).length<=s.length/\(rhS2 s).length<=s.length/\(rhS3 s).length<=s.length:=by
 have h1:=(rsT_len 99 32 s false).1
 have h2:=(rsT_len 104 8 (rhS1 s) (rhB1 s)).1
 have h3:=(rsT_len 116 8 (rhS2 s) (rhB2 s)).1
 unfold rhS3
 unfold rhS2 at *
 unfold rhS1 at *
 exact⟨h1,by omega,by omega⟩
theorem rf1 {s:Bs}:rsT 99 32 s false=rhS1 s:=rfl
theorem rf2 {s:Bs}:rbT 99 32 s false=rhB1 s:=rfl
theorem rf3 {s:Bs}:rsT 104 8 (rhS1 s) (rhB1 s)=rhS2 s:=rfl
theorem rf4 {s:Bs}:riB 104 1099511627776 (rhS1 s) (rhB1 s)=rhB2 s:=rfl
theorem rf5 {s:Bs}:rsT 116 8 (rhS2 s) (rhB2 s)=rhS3 s:=rfl
theorem rf6 {s:Bs}:riB 116 1099511627776 (rhS2 s) (rhB2 s)=rhB3 s:=rfl
instance fnReadHeader {s:Bs}:Ans Tryz.prog GL 231 [str s] (s.length<=1000000000) (.tup [hdrA (rhdV s),int (rhdE s)]):=⟨fun hl=>by
 obtain⟨l1,l2,l3⟩:=rh_lens s
 have e1:(rhS1 s).length=(rsT 99 32 s false).length:=rfl
 have e2:(rhS2 s).length=(rsT 104 8 (rsT 99 32 s false) (rbT 99 32 s false)).length:=rfl
 have e3:(rhS3 s).length=(rsT 116 8 (rsT 104 8 (rsT 99 32 s false) (rbT 99 32 s false)) (riB 104 1099511627776 (rsT 99 32 s false) (rbT 99 32 s false))).length:=rfl
 refine qE Tryz.func231 rfl Tryz.ntmps231 rfl (fun _ hs=>?_)
 repeat' first|refine Yz ?_|intro _
 refine al_callK (args:=[str s]) [] _ (by rw [hs];exact tlvRead) (fun u m1 hh=>?_) lpr
 obtain⟨gr,rfl,rfl⟩:=hh
 repeat' first|refine Yz ?_|intro _
 rw [rf1,rf2,rf3,rf4,rf5,rf6]
 have hX:rhX s=rtT 114 32 (rhS3 s) (rhB3 s):=rfl
 have hV:rhV s=⟨rtT 99 32 s false,riI 104 1099511627776 (rhS1 s) (rhB1 s),riI 116 1099511627776 (rhS2 s) (rhB2 s),hOf (rtT 114 32 (rhS3 s) (rhB3 s))⟩:=rfl
 have hEE:rhE s=reE' (rsT 114 32 (rhS3 s) (rhB3 s)) (rbT 114 32 (rhS3 s) (rhB3 s)):=rfl
 by_cases hx:(rtT 114 32 (rhS3 s) (rhB3 s)).length=32
 rotate_left
 ·have hk:rhOk s=false:=by
   unfold rhOk
   rw [hX,dZ hx]
   rfl
  rw [rhdV,rhdE,hk,if_neg hx]
  repeat' first|refine Yz ?_|intro _
  refine reE ?_
  rfl
 rw [if_pos hx]
 repeat' first|refine Yz ?_|intro _
 by_cases hE:rhE s=0
 rotate_left
 ·have hk:rhOk s=false:=by
   unfold rhOk
   rw [dZ hE,Bool.false_and,Bool.and_false]
  rw [rhdV,rhdE,hk]
  rw [hEE] at hE
  repeat' first|refine Yz ?_|intro _
  refine reE ?_
  rfl
 have hk:rhOk s=chkH (rhV s):=by
  unfold rhOk
  rw [hX,dT hx,dT hE,Bool.true_and,Bool.true_and]
 rw [rhdV,rhdE,hk,hV]
 rw [hEE] at hE
 repeat' first|refine Yz ?_|intro _
 cases hc:chkH ⟨rtT 99 32 s false,riI 104 1099511627776 (rhS1 s) (rhB1 s),riI 116 1099511627776 (rhS2 s) (rhB2 s),hOf (rtT 114 32 (rhS3 s) (rhB3 s))⟩
 ·repeat' first|refine Yz ?_|intro _
  refine reE ?_
  rfl
 ·repeat' first|refine Yz ?_|intro _
  refine reE ?_
  rfl⟩

instance fnRReadHeader {s:Bs}:Ans Tryz.prog GL 215 [str s] (s.length<=1000000000) (.tup [hdrA (rhdV s),int (rhdE s)]):=⟨fun hl=>by
 obtain⟨l1,l2,l3⟩:=rh_lens s
 have e1:(rhS1 s).length=(rsT 99 32 s false).length:=rfl
 have e2:(rhS2 s).length=(rsT 104 8 (rsT 99 32 s false) (rbT 99 32 s false)).length:=rfl
 have e3:(rhS3 s).length=(rsT 116 8 (rsT 104 8 (rsT 99 32 s false) (rbT 99 32 s false)) (riB 104 1099511627776 (rsT 99 32 s false) (rbT 99 32 s false))).length:=rfl
 refine qE Tryz.func215 rfl Tryz.ntmps215 rfl (fun _ hs=>?_)
 repeat' first|refine Yz ?_|intro _
 rw [rf1,rf2,rf3,rf4,rf5,rf6]
 have hX:rhX s=rtT 114 32 (rhS3 s) (rhB3 s):=rfl
 have hV:rhV s=⟨rtT 99 32 s false,riI 104 1099511627776 (rhS1 s) (rhB1 s),riI 116 1099511627776 (rhS2 s) (rhB2 s),hOf (rtT 114 32 (rhS3 s) (rhB3 s))⟩:=rfl
 have hEE:rhE s=reE' (rsT 114 32 (rhS3 s) (rhB3 s)) (rbT 114 32 (rhS3 s) (rhB3 s)):=rfl
 by_cases hE:rhE s=0
 rotate_left
 ·have hk:rhOk s=false:=by
   unfold rhOk
   rw [dZ hE,Bool.false_and,Bool.and_false]
  rw [rhdV,rhdE,hk]
  rw [hEE] at hE
  repeat' first|refine Yz ?_|intro _
  refine reE ?_
  rfl
 by_cases hx:(rtT 114 32 (rhS3 s) (rhB3 s)).length=32
 rotate_left
 ·have hk:rhOk s=false:=by
   unfold rhOk
   rw [hX,dZ hx]
   rfl
  rw [rhdV,rhdE,hk]
  rw [hEE] at hE
  repeat' first|refine Yz ?_|intro _
  refine reE ?_
  rfl
 have hk:rhOk s=chkH (rhV s):=by
  unfold rhOk
  rw [hX,dT hx,dT hE,Bool.true_and,Bool.true_and]
 rw [rhdV,rhdE,hk,hV]
 rw [hEE] at hE
 repeat' first|refine Yz ?_|intro _
 generalize rtT 114 32 (rhS3 s) (rhB3 s)=x at *
 generalize rtT 99 32 s false=C at *
 generalize riI 104 1099511627776 (rhS1 s) (rhB1 s)=H at *
 generalize riI 116 1099511627776 (rhS2 s) (rhB2 s)=T at *
 rename_i g2 gr g5
 refine ac_loop (α:=Nat) (fun i=>[(2,ptr g2),(5,ptr g5),(6,str x),(7,int i)]) (fun i=>[.var g5 42 (.agg 35 [str C,int H,int T,.agg 32 ((layB x i).map u8A)]),.var g2 42 (hdrA zeroHd)]) (fun i=>i<=32) (fun i=>32 - i) 0 ⟨rfl,rfl,rfl,rfl,trivial⟩ ?_ (Nat.zero_le _) ?_
 focus
  exact sbl
 intro i hi
 repeat' first|refine Yz ?_|intro _
 refine ac_cond (fun hlt=>?_) (fun hlt=>?_)
 ·have hil:i < 32:=by omega
  have hix:i < x.length:=by omega
  repeat' first|refine Yz ?_|intro _
  refine al_idxS i ?_ (List.getElem?_eq_getElem hix)
  repeat' first|refine Yz ?_|intro _
  refine al_idxA i ?_
  have hst:=putV_arrK (n:=35) (pre:=[str C,int H,int T]) (post:=[]) (l:=layB x i) (j:=i) (c:=x[i]) (layB_len hx hi) (by rw [layB_len hx hi];exact hil) (o:=0 + 3 + i * 1) (by simp [AV.size])
  rw [layB_next hx hil] at hst
  refine al_store (v':=.agg 35 [str C,int H,int T,.agg 32 ((layB x (i + 1)).map u8A)]) ?_ (hp:=hst)
  repeat' first|refine Yz ?_|intro _
  exact ae_round (i + 1) ⟨rfl,rfl,rfl,rfl,trivial⟩ slr hil (by omega)
 ·obtain rfl:i=32:=by omega
  have hA1:AV.agg 32 ((layB x 32).map u8A)=hA (hOf x):=by rw [layB_all hx,hA,hOf_l hx]
  rw [hA1]
  repeat' first|refine Yz ?_|intro _
  cases hc:chkH ⟨C,H,T,hOf x⟩
  ·repeat' first|refine Yz ?_|intro _
   refine reE ?_
   rfl
  ·repeat' first|refine Yz ?_|intro _
   refine reE ?_
   rfl⟩

structure CliW (x:Cli):Prop where
 n:x.l.length<=1000000
 p:x.p<=9223372036854775807
 s:∀ s ∈ x.l,s.h<=9223372036854775807/\s.t<=9223372036854775807
def cliB (x:Cli):Bs:=tlvT 99 x.c++tlvT 107 x.k++tlvI 112 x.p++tlvI 102 (if x.f=true then 1 else 0)++tlvA 115 (x.l.map fun s=>hdrB (hdOf x.c s))
set_option maxHeartbeats 1000000 in
instance fnCBytes {c k:Bs}{p:Int}{f:Bool}{l:List Sta}{xs:List AV}{id:Option Value}[hx:Stas xs l]:Ans Tryz.prog GL 114 [.agg 5 [str c,str k,int p,boo f,.sl 34 xs id]] (CliW ⟨c,k,p,f,l⟩) (str (cliB ⟨c,k,p,f,l⟩)):=⟨fun hp=>by
 obtain⟨hn,hp,hs4⟩:=hp
 dsimp only at hn hp hs4
 have h:=hx.out
 subst h
 have hm:(l.map staA).length=l.length:=llm _
 refine qE Tryz.func114 rfl Tryz.ntmps114 rfl (fun _ hs=>?_)
 repeat' first|refine Yz ?_|intro _
 rename_i g1
 generalize hF:(if f=true then 1 else 0:Int)=F at *
 refine ac_mid (α:=Unit) (fun _=>[(1,ptr g1),(3,int F)]) (fun _=>[.var g1 82 (.agg 5 [str c,str k,int p,boo f,.sl 34 (l.map staA) id])]) ?_ (fun _=>?_)
 focus
  subst hF
  cases f
  all_goals
   repeat' first|refine Yz ?_|intro _
   exact ae_cut () ⟨rfl,rfl,trivial⟩ slr
 have hF0:F<=9223372036854775807:=by subst hF;split <;> decide
 repeat' first|refine Yz ?_|intro _
 refine ac_as 4 (Imp.nil (k:=1)) ?_
 refine ac_st (fun ok w h=>h.full 9 1 none 0) ?_
 refine ac_loop (α:=Nat × Value) (fun q=>[(1,ptr g1),(3,int F),(4,.sl 1 (((l.take q.1).map fun s=>hdrB (hdOf c s)).map str) (some q.2)),(10,.sl 34 (l.map staA) id),(11,int l.length),(12,int q.1)]) (fun q=>[.tail 9 1 q.2,.var g1 82 (.agg 5 [str c,str k,int p,boo f,.sl 34 (l.map staA) id])]) (fun q=>q.1<=l.length) (fun q=>l.length - q.1) (0,.slice none 0 0) ⟨rfl,rfl,rfl,rfl,by rw [<- hm];rfl,rfl,trivial⟩ slr (Nat.zero_le _) ?_
 rintro⟨i,v⟩ hi
 dsimp only at hi ⊢
 repeat' first|refine Yz ?_|intro _
 refine ac_cond (fun hlt=>?_) (fun hlt=>?_)
 ·have hil:i < l.length:=by omega
  have hst:=hs4 l[i] (List.getElem_mem hil)
  have hml:((l.take i).map fun s=>hdrB (hdOf c s)).length<=1000000:=by simp;omega
  repeat' first|refine Yz ?_|intro _
  refine al_append (fun v'=>?_)
  repeat' first|refine Yz ?_|intro _
  refine ae_round (i + 1,v') ⟨rfl,rfl,?_,rfl,rfl,rfl,trivial⟩ (List.Sublist.cons _ slr) hil (by dsimp only;omega)
  rw [List.take_succ_eq_append_getElem hil,List.map_append,List.map_append]
  rfl
 ·obtain rfl:i=l.length:=by omega
  rw [List.take_length]
  have hml:(l.map fun s=>hdrB (hdOf c s)).length<=8000000:=by simp;omega
  repeat' first|refine Yz ?_|intro _
  refine reE ?_
  unfold cliB
  dsimp only
  rw [hF]
  rfl⟩
set_option maxHeartbeats 1000000 in
instance fnRCBytes {c k:Bs}{p:Int}{f:Bool}{l:List Sta}{xs:List AV}{id:Option Value}[hx:Stas xs l]:Ans Tryz.prog GL 22 [.agg 5 [str c,str k,int p,boo f,.sl 34 xs id]] (CliW ⟨c,k,p,f,l⟩) (str (cliB ⟨c,k,p,f,l⟩)):=⟨fun hp=>by
 obtain⟨hn,hp,hs4⟩:=hp
 dsimp only at hn hp hs4
 have h:=hx.out
 subst h
 have hm:(l.map staA).length=l.length:=llm _
 refine qE Tryz.func22 rfl Tryz.ntmps22 rfl (fun _ hs=>?_)
 repeat' first|refine Yz ?_|intro _
 rename_i g1
 generalize hF:(if f=true then 1 else 0:Int)=F at *
 refine ac_mid (α:=Unit) (fun _=>[(1,ptr g1),(3,int F)]) (fun _=>[.var g1 82 (.agg 5 [str c,str k,int p,boo f,.sl 34 (l.map staA) id])]) ?_ (fun _=>?_)
 focus
  subst hF
  cases f
  all_goals
   repeat' first|refine Yz ?_|intro _
   exact ae_cut () ⟨rfl,rfl,trivial⟩ slr
 have hF0:F<=9223372036854775807:=by subst hF;split <;> decide
 repeat' first|refine Yz ?_|intro _
 refine ac_as 4 (Imp.nil (k:=1)) ?_
 refine ac_st (fun ok w h=>h.full 9 1 none 0) ?_
 refine ac_loop (α:=Nat × Value) (fun q=>[(1,ptr g1),(3,int F),(4,.sl 1 (((l.take q.1).map fun s=>hdrB (hdOf c s)).map str) (some q.2)),(5,int q.1)]) (fun q=>[.tail 9 1 q.2,.var g1 82 (.agg 5 [str c,str k,int p,boo f,.sl 34 (l.map staA) id])]) (fun q=>q.1<=l.length) (fun q=>l.length - q.1) (0,.slice none 0 0) ⟨rfl,rfl,rfl,rfl,trivial⟩ slr (Nat.zero_le _) ?_
 rintro⟨i,v⟩ hi
 dsimp only at hi ⊢
 repeat' first|refine Yz ?_|intro _
 refine ac_cond (fun hlt=>?_) (fun hlt=>?_)
 ·have hil:i < l.length:=by omega
  have hst:=hs4 l[i] (List.getElem_mem hil)
  have hml:((l.take i).map fun s=>hdrB (hdOf c s)).length<=1000000:=by simp;omega
  repeat' first|refine Yz ?_|intro _
  apply obl_fresh [0];exact rfl;exact rfl;exact rfl;kernel_rfl;intro _ _
  refine al_append (fun v'=>?_)
  refine al_nil (ae_fresh [.tail 9 1 v'] [] rfl rfl lpr rfl ?_)
  repeat' first|refine Yz ?_|intro _
  refine ae_round (i + 1,v') ⟨rfl,rfl,?_,rfl,trivial⟩ slr hil (by dsimp only;omega)
  rw [List.take_succ_eq_append_getElem hil,List.map_append,List.map_append]
  rfl
 ·obtain rfl:i=l.length:=by omega
  rw [List.take_length]
  have hml:(l.map fun s=>hdrB (hdOf c s)).length<=8000000:=by simp;omega
  repeat' first|refine Yz ?_|intro _
  refine reE ?_
  unfold cliB
  dsimp only
  rw [hF]
  rfl⟩

def rcC (s:Bs):Bs:=rtT 99 32 s false
def rcS1 (s:Bs):Bs:=rsT 99 32 s false
def rcB1 (s:Bs):Bool:=rbT 99 32 s false
def rcK (s:Bs):Bs:=rtT 107 64 (rcS1 s) (rcB1 s)
def rcS2 (s:Bs):Bs:=rsT 107 64 (rcS1 s) (rcB1 s)
def rcB2 (s:Bs):Bool:=rbT 107 64 (rcS1 s) (rcB1 s)
def rcP (s:Bs):Int:=riI 112 1099511627776 (rcS2 s) (rcB2 s)
def rcS3 (s:Bs):Bs:=rsT 112 8 (rcS2 s) (rcB2 s)
def rcB3 (s:Bs):Bool:=riB 112 1099511627776 (rcS2 s) (rcB2 s)
def rcF (s:Bs):Bool:=decide (riI 102 1 (rcS3 s) (rcB3 s)=1)
def rcS4 (s:Bs):Bs:=rsT 102 8 (rcS3 s) (rcB3 s)
def rcB4 (s:Bs):Bool:=riB 102 1 (rcS3 s) (rcB3 s)
def rcL (s:Bs):List Bs:=raL 115 32 200 (rcS4 s) (rcB4 s)
def rcE (s:Bs):Int:=reE' (rsT 115 16777215 (rcS4 s) (rcB4 s)) (raB 115 32 200 (rcS4 s) (rcB4 s))
def rcT (C t:Bs):Bool:=decide (rhdE t=0) && decide ((rhdV t).c=C)
def rcV (s:Bs):Cli:=⟨rcC s,rcK s,rcP s,rcF s,(rcL s).map fun t=>stOf (rhdV t)⟩
def rcOk (s:Bs):Bool:=(rcL s).all (rcT (rcC s)) && (decide (rcE s=0) && mayC (rcV s))
def rcdV (s:Bs):Cli:=if rcOk s=true then rcV s else zeroC
def rcdE (s:Bs):Int:=if rcOk s=true then 0 else 10
theorem rg1 {s:Bs}:rsT 99 32 s false=rcS1 s:=rfl
theorem rg2 {s:Bs}:rbT 99 32 s false=rcB1 s:=rfl
theorem rg3 {s:Bs}:rsT 107 64 (rcS1 s) (rcB1 s)=rcS2 s:=rfl
theorem rg4 {s:Bs}:rbT 107 64 (rcS1 s) (rcB1 s)=rcB2 s:=rfl
theorem rg5 {s:Bs}:rsT 112 8 (rcS2 s) (rcB2 s)=rcS3 s:=rfl
theorem rg6 {s:Bs}:riB 112 1099511627776 (rcS2 s) (rcB2 s)=rcB3 s:=rfl
theorem rg7 {s:Bs}:rsT 102 8 (rcS3 s) (rcB3 s)=rcS4 s:=rfl
theorem rg8 {s:Bs}:riB 102 1 (rcS3 s) (rcB3 s)=rcB4 s:=rfl
theorem rg9 {s:Bs}:raL 115 32 200 (rcS4 s) (rcB4 s)=rcL s:=rfl
theorem rc_lens (s:Bs):(rcS1 s).length<=s.length/\(rcS2 s).length<=s.length/\(rcS3 s).length<=s.length/\(rcS4 s).length<=s.length:=by
 have h1:=(rsT_len 99 32 s false).1
 have h2:=(rsT_len 107 64 (rcS1 s) (rcB1 s)).1
 have h3:=(rsT_len 112 8 (rcS2 s) (rcB2 s)).1
 have h4:=(rsT_len 102 8 (rcS3 s) (rcB3 s)).1
 rw [rg1] at h1
 rw [rg3] at h2
 rw [rg5] at h3
 rw [rg7] at h4
 exact⟨h1,by omega,by omega,by omega⟩
theorem all_take {α:Type}{l:List α}{p:α->Bool}{i:Nat}(hi:i < l.length)(h:(l.take i).all p=true)(h2:p l[i]=true):(l.take (i + 1)).all p=true:=by
 rw [List.take_succ_eq_append_getElem hi,List.all_append,h]
 simp [h2]
theorem all_not {α:Type}{l:List α}{p:α->Bool}{i:Nat}(hi:i < l.length)(h2:p l[i]=false):l.all p=false:=by
 rw [List.all_eq_false]
 exact⟨l[i],List.getElem_mem hi,by simp [h2]⟩
theorem bods_len {c most:Int}(h:0<=most):∀ {f:Nat} {s:Bs} {b:Bool} {x:Bs},x ∈ (bods c most f s b).1->(x.length:Int)<=most
 | 0,_,_,_,hx=>by simp [bods] at hx
 | f + 1,s,b,x,hx=>by
  rw [bods] at hx
  split at hx
  ·simp at hx
  ·rcases List.mem_cons.1 hx with rfl|hx
   ·exact (rtT_len c most s b).2 h
   ·exact bods_len h hx
theorem raL_mem {c many most:Int}{s:Bs}{b:Bool}{x:Bs}(h:0<=most)(hx:x ∈ raL c many most s b):(x.length:Int)<=most:=by
 unfold raL outA at hx
 split at hx
 ·simp at hx
 ·exact bods_len h hx
theorem raL_len {c many most:Int}{s:Bs}{b:Bool}(h0:0<=many):((raL c many most s b).length:Int)<=many:=by
 unfold raL outA
 split
 ·simpa using h0
 ·rename_i h
  unfold badA at h
  by_cases hm:many < ((allX c most (rtT c 16777215 s b)).1.length:Int)
  ·rw [dT hm] at h
   simp at h
  ·omega
theorem imp_rzC:Imp (.tup [.agg 5 [.lit (.string ⟨#[]⟩),.lit (.string ⟨#[]⟩),.lit (.int .i64 0),.lit (.bool false),.lit (.slice none 0 0)],int 10]) (.tup [cliA zeroC,int 10]):=(inferInstance:ImpR _ (.tup [.agg 5 [str [],str [],int 0,boo false,.sl 34 [] none],int 10])).imp
theorem imp_rcl {C K:Bs}{Pd:Int}{Fr:Bool}{xs:List AV}{v:Value}:Imp (.tup [.agg 5 [str C,str K,int Pd,boo Fr,.sl 34 xs (some v)],int 0]) (.tup [.agg 5 [str C,str K,int Pd,boo Fr,.sl 34 xs none],int 0]):=ImpR.imp
theorem imp_rvar {C K:Bs}{Pd:Int}{Fr:Bool}:ImpC (.agg 5 [str C,str K,int Pd,boo Fr,.lit (.slice none 0 0)]) (.agg 5 [str C,str K,int Pd,boo Fr,.sl 34 [] (some (.slice none 0 0))]):=fun ok w cs h=>by
 rw [RC] at h ⊢
 refine⟨h.1,?_⟩
 have h:=h.2
 rw [RCs] at h ⊢
 obtain⟨a1,b1,e1,f1,h⟩:=h
 refine⟨a1,b1,e1,f1,?_⟩
 rw [RCs] at h ⊢
 obtain⟨a1,b1,e1,f1,h⟩:=h
 refine⟨a1,b1,e1,f1,?_⟩
 rw [RCs] at h ⊢
 obtain⟨a1,b1,e1,f1,h⟩:=h
 refine⟨a1,b1,e1,f1,?_⟩
 rw [RCs] at h ⊢
 obtain⟨a1,b1,e1,f1,h⟩:=h
 refine⟨a1,b1,e1,f1,?_⟩
 rw [RCs] at h ⊢
 obtain⟨a1,b1,e1,f1,h⟩:=h
 exact⟨a1,b1,e1,ImpC.nilT _ _ _ f1,h⟩
set_option maxHeartbeats 1000000 in
instance fnCRead {s:Bs}:Ans Tryz.prog GL 173 [str s] (s.length<=1000000000) (.tup [cliA (rcdV s),int (rcdE s)]):=⟨fun hl=>by
 obtain⟨l1,l2,l3,l4⟩:=rc_lens s
 have e1:(rcS1 s).length=(rsT 99 32 s false).length:=rfl
 have e2:(rcS2 s).length=(rsT 107 64 (rsT 99 32 s false) (rbT 99 32 s false)).length:=rfl
 have e3:(rcS3 s).length=(rsT 112 8 (rsT 107 64 (rsT 99 32 s false) (rbT 99 32 s false)) (rbT 107 64 (rsT 99 32 s false) (rbT 99 32 s false))).length:=rfl
 have e4:(rcS4 s).length=(rsT 102 8 (rsT 112 8 (rsT 107 64 (rsT 99 32 s false) (rbT 99 32 s false)) (rbT 107 64 (rsT 99 32 s false) (rbT 99 32 s false))) (riB 112 1099511627776 (rsT 107 64 (rsT 99 32 s false) (rbT 99 32 s false)) (rbT 107 64 (rsT 99 32 s false) (rbT 99 32 s false)))).length:=rfl
 refine qE Tryz.func173 rfl Tryz.ntmps173 rfl (fun _ hs=>?_)
 repeat' first|refine Yz ?_|intro _
 refine al_callK (args:=[str s]) [] _ (by rw [hs];exact tlvRead) (fun u m1 hh=>?_) lpr
 obtain⟨gr,rfl,rfl⟩:=hh
 repeat' first|refine Yz ?_|intro _
 rw [rg1,rg2,rg3,rg4,rg5,rg6,rg7,rg8,rg9]
 have hE:rcE s=reE' (rsT 115 16777215 (rcS4 s) (rcB4 s)) (raB 115 32 200 (rcS4 s) (rcB4 s)):=rfl
 have hV:rcV s=⟨rtT 99 32 s false,rtT 107 64 (rcS1 s) (rcB1 s),riI 112 1099511627776 (rcS2 s) (rcB2 s),decide (riI 102 1 (rcS3 s) (rcB3 s)=1),(rcL s).map fun t=>stOf (rhdV t)⟩:=rfl
 have hK:rcOk s=((rcL s).all (rcT (rtT 99 32 s false)) && (decide (rcE s=0) && mayC (rcV s))):=rfl
 have hm:=fun t (ht:t ∈ rcL s)=>raL_mem (c:=115) (many:=32) (most:=200) (by decide) ht
 have hn:=raL_len (c:=115) (many:=32) (most:=200) (s:=rcS4 s) (b:=rcB4 s) (by decide)
 rw [rg9] at hn
 rw [rcdV,rcdE,hK,hV]
 rw [hE]
 generalize rcL s=L at *
 generalize rsT 115 16777215 (rcS4 s) (rcB4 s)=S5 at *
 generalize raB 115 32 200 (rcS4 s) (rcB4 s)=B5 at *
 generalize rtT 99 32 s false=C at *
 generalize rtT 107 64 (rcS1 s) (rcB1 s)=K at *
 generalize riI 112 1099511627776 (rcS2 s) (rcB2 s)=Pd at *
 generalize decide (riI 102 1 (rcS3 s) (rcB3 s)=1)=Fr at *
 have hml:(L.map str).length=L.length:=llm _
 rename_i g2 g5
 refine ac_asV (g:=g5) (v':=.agg 5 [str C,str K,int Pd,boo Fr,.sl 34 [] (some (.slice none 0 0))]) imp_rvar ?_
 refine ac_st (fun ok w h=>h.full 110 34 none 0) ?_
 refine ac_loop (α:=Nat × Value) (fun q=>[(2,ptr g2),(4,ptr gr),(5,ptr g5),(26,.sl 1 (L.map str) none),(27,int L.length),(28,int q.1)])
  (fun q=>[.tail 110 34 q.2,.var g5 82 (.agg 5 [str C,str K,int Pd,boo Fr,.sl 34 (((L.take q.1).map fun t=>stOf (rhdV t)).map staA) (some q.2)]),.var gr 204 (rdA S5 B5),.var g2 82 (.agg 5 [str [],str [],int 0,boo false,nils])])
  (fun q=>q.1<=L.length/\(L.take q.1).all (rcT C)=true) (fun q=>L.length - q.1) (0,.slice none 0 0) ⟨rfl,rfl,rfl,rfl,by rw [<- hml];rfl,rfl,trivial⟩ slr ⟨Nat.zero_le _,rfl⟩ ?_
 rintro⟨i,v⟩ ⟨h1,h2⟩
 dsimp only at h1 h2 ⊢
 repeat' first|refine Yz ?_|intro _
 refine ac_cond (fun hlt=>?_) (fun hlt=>?_)
 ·have hil:i < L.length:=by omega
  have ht:=hm L[i] (List.getElem_mem hil)
  have hml2:((L.take i).map fun t=>stOf (rhdV t)).length<=32:=by simp;omega
  repeat' first|refine Yz ?_|intro _
  by_cases he:rhdE L[i]=0
  rotate_left
  ·rw [all_not hil (show rcT C L[i]=false by unfold rcT;rw [dZ he];rfl),Bool.false_and]
   repeat' first|refine Yz ?_|intro _
   refine reI ?_
   exact imp_rzC
  by_cases hcc:(rhdV L[i]).c=C
  rotate_left
  ·rw [all_not hil (show rcT C L[i]=false by unfold rcT;rw [dZ hcc,Bool.and_false]),Bool.false_and]
   repeat' first|refine Yz ?_|intro _
   rw [dT (show (rhdV L[i]).c≠C from hcc)]
   repeat' first|refine Yz ?_|intro _
   refine reI ?_
   exact imp_rzC
  ·repeat' first|refine Yz ?_|intro _
   rw [dZ (show ¬ (rhdV L[i]).c≠C from fun h=>h hcc)]
   repeat' first|refine Yz ?_|intro _
   apply obl_fresh [1];exact rfl;exact rfl;exact rfl;kernel_rfl;intro _ _
   refine al_append (fun v'=>?_)
   refine al_nil (ae_fresh [.tail 110 34 v'] [] rfl rfl lpr rfl ?_)
   repeat' first|refine Yz ?_|intro _
   refine ae_round (i + 1,v') ⟨rfl,rfl,rfl,rfl,rfl,rfl,trivial⟩ ?_ ⟨hil,all_take hil h2 (by unfold rcT;rw [dT he,dT hcc];rfl)⟩ (by dsimp only;omega)
   dsimp only
   rw [List.take_succ_eq_append_getElem hil,List.map_append,List.map_append]
   exact List.Sublist.cons _ slr
 ·obtain rfl:i=L.length:=by omega
  rw [List.take_length] at h2 ⊢
  rw [h2,Bool.true_and]
  repeat' first|refine Yz ?_|intro _
  by_cases hE0:reE' S5 B5=0
  rotate_left
  ·rw [dZ hE0,Bool.false_and]
   repeat' first|refine Yz ?_|intro _
   refine reI ?_
   exact imp_rzC
  rw [dT hE0,Bool.true_and]
  repeat' first|refine Yz ?_|intro _
  cases hmc:mayC ⟨C,K,Pd,Fr,L.map fun t=>stOf (rhdV t)⟩
  ·repeat' first|refine Yz ?_|intro _
   refine reI ?_
   exact imp_rzC
  ·repeat' first|refine Yz ?_|intro _
   refine reI ?_
   exact imp_rcl⟩
set_option maxHeartbeats 1000000 in
instance fnRCRead {s:Bs}:Ans Tryz.prog GL 149 [str s] (s.length<=1000000000) (.tup [cliA (rcdV s),int (rcdE s)]):=⟨fun hl=>by
 obtain⟨l1,l2,l3,l4⟩:=rc_lens s
 have e1:(rcS1 s).length=(rsT 99 32 s false).length:=rfl
 have e2:(rcS2 s).length=(rsT 107 64 (rsT 99 32 s false) (rbT 99 32 s false)).length:=rfl
 have e3:(rcS3 s).length=(rsT 112 8 (rsT 107 64 (rsT 99 32 s false) (rbT 99 32 s false)) (rbT 107 64 (rsT 99 32 s false) (rbT 99 32 s false))).length:=rfl
 have e4:(rcS4 s).length=(rsT 102 8 (rsT 112 8 (rsT 107 64 (rsT 99 32 s false) (rbT 99 32 s false)) (rbT 107 64 (rsT 99 32 s false) (rbT 99 32 s false))) (riB 112 1099511627776 (rsT 107 64 (rsT 99 32 s false) (rbT 99 32 s false)) (rbT 107 64 (rsT 99 32 s false) (rbT 99 32 s false)))).length:=rfl
 refine qE Tryz.func149 rfl Tryz.ntmps149 rfl (fun _ hs=>?_)
 repeat' first|refine Yz ?_|intro _
 rw [rg1,rg2,rg3,rg4,rg5,rg6,rg7,rg8,rg9]
 have hE:rcE s=reE' (rsT 115 16777215 (rcS4 s) (rcB4 s)) (raB 115 32 200 (rcS4 s) (rcB4 s)):=rfl
 have hV:rcV s=⟨rtT 99 32 s false,rtT 107 64 (rcS1 s) (rcB1 s),riI 112 1099511627776 (rcS2 s) (rcB2 s),decide (riI 102 1 (rcS3 s) (rcB3 s)=1),(rcL s).map fun t=>stOf (rhdV t)⟩:=rfl
 have hK:rcOk s=((rcL s).all (rcT (rtT 99 32 s false)) && (decide (rcE s=0) && mayC (rcV s))):=rfl
 have hm:=fun t (ht:t ∈ rcL s)=>raL_mem (c:=115) (many:=32) (most:=200) (by decide) ht
 have hn:=raL_len (c:=115) (many:=32) (most:=200) (s:=rcS4 s) (b:=rcB4 s) (by decide)
 rw [rg9] at hn
 rw [rcdV,rcdE,hK,hV]
 rw [hE]
 generalize rcL s=L at *
 generalize rsT 115 16777215 (rcS4 s) (rcB4 s)=S5 at *
 generalize raB 115 32 200 (rcS4 s) (rcB4 s)=B5 at *
 generalize rtT 99 32 s false=C at *
 generalize rtT 107 64 (rcS1 s) (rcB1 s)=K at *
 generalize riI 112 1099511627776 (rcS2 s) (rcB2 s)=Pd at *
 generalize decide (riI 102 1 (rcS3 s) (rcB3 s)=1)=Fr at *
 have hml:(L.map str).length=L.length:=llm _
 by_cases hE0:reE' S5 B5=0
 rotate_left
 ·rw [dZ hE0,Bool.false_and,Bool.and_false]
  repeat' first|refine Yz ?_|intro _
  refine reI ?_
  exact imp_rzC
 rw [dT hE0,Bool.true_and]
 repeat' first|refine Yz ?_|intro _
 rename_i g2 gr g5
 refine ac_asV (g:=g5) (v':=.agg 5 [str C,str K,int Pd,boo Fr,.sl 34 [] (some (.slice none 0 0))]) imp_rvar ?_
 refine ac_st (fun ok w h=>h.full 110 34 none 0) ?_
 refine ac_loop (α:=Nat × Value) (fun q=>[(2,ptr g2),(4,ptr gr),(5,ptr g5),(6,.sl 1 (L.map str) none),(7,int q.1)])
  (fun q=>[.tail 110 34 q.2,.var g5 82 (.agg 5 [str C,str K,int Pd,boo Fr,.sl 34 (((L.take q.1).map fun t=>stOf (rhdV t)).map staA) (some q.2)]),.var gr 144 (rdA S5 B5),.var g2 82 (.agg 5 [str [],str [],int 0,boo false,nils])])
  (fun q=>q.1<=L.length/\(L.take q.1).all (rcT C)=true) (fun q=>L.length - q.1) (0,.slice none 0 0) ⟨rfl,rfl,rfl,rfl,rfl,trivial⟩ slr ⟨Nat.zero_le _,rfl⟩ ?_
 rintro⟨i,v⟩ ⟨h1,h2⟩
 dsimp only at h1 h2 ⊢
 repeat' first|refine Yz ?_|intro _
 refine ac_cond (fun hlt=>?_) (fun hlt=>?_)
 ·have hil:i < L.length:=by omega
  have ht:=hm L[i] (List.getElem_mem hil)
  have hml2:((L.take i).map fun t=>stOf (rhdV t)).length<=32:=by simp;omega
  repeat' first|refine Yz ?_|intro _
  by_cases he:rhdE L[i]=0
  rotate_left
  ·rw [all_not hil (show rcT C L[i]=false by unfold rcT;rw [dZ he];rfl),Bool.false_and]
   repeat' first|refine Yz ?_|intro _
   refine reI ?_
   exact imp_rzC
  by_cases hcc:(rhdV L[i]).c=C
  rotate_left
  ·rw [all_not hil (show rcT C L[i]=false by unfold rcT;rw [dZ hcc,Bool.and_false]),Bool.false_and]
   repeat' first|refine Yz ?_|intro _
   rw [dT (show (rhdV L[i]).c≠C from hcc)]
   repeat' first|refine Yz ?_|intro _
   refine reI ?_
   exact imp_rzC
  ·repeat' first|refine Yz ?_|intro _
   rw [dZ (show ¬ (rhdV L[i]).c≠C from fun h=>h hcc)]
   repeat' first|refine Yz ?_|intro _
   refine al_append (fun v'=>?_)
   repeat' first|refine Yz ?_|intro _
   refine ae_round (i + 1,v') ⟨rfl,rfl,rfl,rfl,rfl,trivial⟩ ?_ ⟨hil,all_take hil h2 (by unfold rcT;rw [dT he,dT hcc];rfl)⟩ (by dsimp only;omega)
   dsimp only
   rw [List.take_succ_eq_append_getElem hil,List.map_append,List.map_append]
   exact List.Sublist.cons _ slr
 ·obtain rfl:i=L.length:=by omega
  rw [List.take_length] at h2 ⊢
  rw [h2,Bool.true_and]
  repeat' first|refine Yz ?_|intro _
  cases hmc:mayC ⟨C,K,Pd,Fr,L.map fun t=>stOf (rhdV t)⟩
  ·repeat' first|refine Yz ?_|intro _
   refine reI ?_
   exact imp_rzC
  ·repeat' first|refine Yz ?_|intro _
   refine reI ?_
   exact imp_rcl⟩

theorem chkH_iff {x:Hdr}:chkH x=true↔(1<=x.c.length/\x.c.length<=32/\1<=x.h/\x.h<=1099511627776/\0<=x.t/\x.t<=1099511627776):=by
 unfold chkH
 exact decide_eq_true_iff
theorem all_iff {x:Cli}:mayC x=true↔((x.k.length<=64/\1<=x.p/\x.p<=1099511627776/\1<=x.l.length/\x.l.length<=32)/\∀ i,i < x.l.length->mayAt x.c x.l i=true):=by
 unfold mayC
 rw [bet,decide_eq_true_iff,List.all_eq_true]
 simp
theorem may_chk {x:Cli}(h:mayC x=true):∀ s ∈ x.l,chkH (hdOf x.c s)=true:=by
 intro s hs
 obtain⟨i,hi,rfl⟩:=List.getElem_of_mem hs
 have:=(all_iff.1 h).2 i hi
 unfold mayAt at this
 rw [Bool.and_eq_true,show x.l.getD i zeroS=x.l[i] by simp [List.getD,hi]] at this
 exact this.1
end Go.Proofs.YtlkkekpcofjbeaaGreatDoor
