/- a log, walked: it is opened -/
import Derived.Test.YtndhpgclmgpmoaaGreatDoorA16
import Derived.Test.YtndhpgclmgpmoaaGreatDoorA22
import Derived.Test.YtndhpgclmgpmoaaGreatDoorA24
import Derived.Test.YtndhpgclmgpmoaaGreatDoorA26
import Derived.Test.YtndhpgclmgpmoaaGreatDoorA27
import Derived.Test.YtndhpgclmgpmoaaGreatDoorA29
namespace Av
open Go Go.RowKit Tw
theorem wrap_u32e {c:Int}(h0:0<=c)(h1:c<=4294967295):IntKind.u32.wrap c=c:=by
 simp [IntKind.wrap,IntKind.bits,IntKind.signed]
 omega
section
variable {P:Program} {N:Nat} {ops:Array Oper} {Q:Exit->Act->World->Prop} {rest:List Oper} {s:Base} {e:Env} {m:List Piece} {d:Nat} {ty:TypeId} {pos:String} {af:Array Edge}
abbrev u32A (n:Int):AV:=.lit (.int .u32 n)
theorem al_arithW {op:BinOp}{T yT:TypeId}{x y:Operand}{i j c:Int}(h:AL P N ops Q s rest ((d,u32A c)::e) m)(hx:ev e x=some (u32A i):=by exact rfl)(hy:ev e y=some (u32A j):=by exact rfl)(hc:arith op i j=some c:=by exact rfl)
  (h0:0<=c:=by omega) (h1:c<=4294967295:=by omega) (hd:Nat.blt d N=true:=by exact rfl):AL P N ops Q s (⟨some d,.binOp op T x y yT,ty,pos,af,none⟩::rest) e m:=
 al_arith (c:=c) (by rw [wrap_u32e h0 h1];exact h) hx hy hc hd
theorem al_divW {op:BinOp}{T yT:TypeId}{x y:Operand}{i j c:Int}(h:AL P N ops Q s rest ((d,u32A c)::e) m)(hx:ev e x=some (u32A i):=by exact rfl)(hy:ev e y=some (u32A j):=by exact rfl)(hc:divs op i j=some c:=by exact rfl)
  (h0:0<=i:=by omega) (h1:0 < j:=by omega) (h2:i<=4294967295:=by omega) (hd:Nat.blt d N=true:=by exact rfl):AL P N ops Q s (⟨some d,.binOp op T x y yT,ty,pos,af,none⟩::rest) e m:=
 al_div h hx hy hc h0 h1 (fun c a b=>wrap_u32e a (by omega)) hd
theorem al_shl16 {T yT:TypeId}{yk:IntKind}{x y:Operand}{a:Int}(h:AL P N ops Q s rest ((d,u32A (a * 65536))::e) m)(hx:ev e x=some (u32A a):=by exact rfl)(hy:ev e y=some (.lit (.int yk 16)):=by exact rfl)(h0:0<=a:=by omega)(h1:a<=65535:=by omega)(hd:Nat.blt d N=true:=by exact rfl) :
  AL P N ops Q s (⟨some d,.binOp .shl T x y yT,ty,pos,af,none⟩::rest) e m:=
 al_shift rfl hx hy (fun w=>by
  have h2:min (16:Int).toNat IntKind.u32.bits=16:=rfl
  have h3:¬ ((16:Int) < 0):=by omega
  simp only [Op.shift,h3,if_false,h2]
  show Result.ok (Value.int .u32 (IntKind.u32.wrap (a * 2 ^ 16))) w=_
  rw [show (2:Int) ^ 16=65536 from rfl,wrap_u32e (by omega) (by omega)]) (.inl rfl) hd h
theorem al_or16 {T yT:TypeId}{x y:Operand}{a c:Int}(h:AL P N ops Q s rest ((d,u32A (a * 65536 + c))::e) m)(hx:ev e x=some (u32A (a * 65536)):=by exact rfl)(hy:ev e y=some (u32A c):=by exact rfl)(h0:0<=a:=by omega)(h1:0<=c:=by omega)(h2:c < 65536:=by omega)(h3:a<=65535:=by omega)(hd:Nat.blt d N=true:=by exact rfl) :
  AL P N ops Q s (⟨some d,.binOp .or T x y yT,ty,pos,af,none⟩::rest) e m:=by
 obtain⟨a,rfl⟩:=Int.eq_ofNat_of_zero_le h0
 obtain⟨c,rfl⟩:=Int.eq_ofNat_of_zero_le h1
 refine al_bits rfl hx hy (fun w=>?_) (.inr (.inl rfl)) hd h
 have e1:((a:Int) * 65536)=((a * 65536:Nat):Int):=by simp
 have e2:(BitVec.ofInt IntKind.u32.bits ((a:Int) * 65536) ||| BitVec.ofInt IntKind.u32.bits (c:Int)).toNat=a * 65536 + c:=by
  rw [BitVec.toNat_or,e1,BitVec.ofInt_natCast,BitVec.ofInt_natCast,BitVec.toNat_ofNat,BitVec.toNat_ofNat,show IntKind.u32.bits=32 from rfl,Nat.mod_eq_of_lt (by omega),Nat.mod_eq_of_lt (by omega)]
  have:=Nat.two_pow_add_eq_or_of_lt (i:=16) (b:=c) (by omega) a
  rw [show a * 65536=2 ^ 16 * a by omega]
  exact this.symm
 show Result.ok (Value.int .u32 (IntKind.u32.wrap ((BitVec.ofInt IntKind.u32.bits ((a:Int) * 65536) ||| BitVec.ofInt IntKind.u32.bits (c:Int)).toNat:Int))) w=_
 rw [e2,wrap_u32e (by omega) (by omega)]
 simp
end
end Av
namespace Go.Proofs.YtndhpgclmgpmoaaGreatDoor
open Go Go.RowKit Tw Av
theorem ckOn {T3 T4:TypeId}{g3 g4:Nat}{q:Nat × Nat}{c:UInt8}(hq:q.1 < 65521/\q.2 < 65521):Av.Spec Tryz.prog GL 180 [u8A c,ptr g3,ptr g4] [.var g4 T4 (u32A q.2),.var g3 T3 (u32A q.1)] fun u m=>u=.tup []/\m=[.var g4 T4 (u32A (smS q c).2),.var g3 T3 (u32A (smS q c).1)]:=by
 obtain⟨a,b⟩:=q
 have hc:=c.toNat_lt
 dsimp only at hq
 refine qE Tryz.func180 rfl Tryz.ntmps180 rfl (fun _ hs=>?_)
 repeat' first|refine Zz ?_|intro _
 rw [wrap_u32e (by omega) (by omega)]
 refine al_arithW ?_
 refine al_divW ?_
 repeat' first|refine Zz ?_|intro _
 refine al_arithW ?_
 refine al_divW ?_
 repeat' first|refine Zz ?_|intro _
 refine reN _ ⟨rfl,?_⟩ slr
 unfold smS
 dsimp only
 rw [show ((((a + c.toNat) % 65521:Nat):Int))=((a:Int) + c.toNat) % 65521 by omega,show ((((b + (a + c.toNat) % 65521) % 65521:Nat):Int))=((b:Int) + ((a:Int) + c.toNat) % 65521) % 65521 by omega]
theorem smF_take {s:Bs}{i:Nat}(h:i < s.length):smF (s.take (i + 1))=smS (smF (s.take i)) s[i]:=by
 unfold smF
 rw [<- List.take_append_getElem h,List.foldl_append]
 rfl
set_option maxHeartbeats 1000000 in
instance fnCkSum {s:Bs}:Ans Tryz.prog GL 111 [str s] (s.length<=4611686018427387904) (u32A (smN s)):=⟨fun hl=>by
 refine qE Tryz.func111 rfl Tryz.ntmps111 rfl (fun _ hs=>?_)
 repeat' first|refine Zz ?_|intro _
 rename_i g3 g4
 have hcs:∀ v ∈ [Value.pointer (some ⟨g3,0,none⟩),.pointer (some ⟨g4,0,none⟩)],v.oneCell'=true:=by simp [Value.oneCell']
 refine al_makeFunc (vs:=[.pointer (some ⟨g3,0,none⟩),.pointer (some ⟨g4,0,none⟩)]) ?_
 repeat' first|refine Zz ?_|intro _
 refine ac_loop (α:=Nat) (fun i=>[(0,str s),(3,ptr g3),(4,ptr g4),(5,fnv 180 [.pointer (some ⟨g3,0,none⟩),.pointer (some ⟨g4,0,none⟩)]),(9,int s.length),(10,int i)])
  (fun i=>[.var g4 186 (u32A (smF (s.take i)).2),.var g3 186 (u32A (smF (s.take i)).1)]) (fun i=>i<=s.length) (fun i=>s.length - i) 0 ⟨rfl,rfl,rfl,rfl,rfl,rfl,trivial⟩ slr (Nat.zero_le _) ?_
 intro i hi
 have hq:=smF_lt (s.take i)
 by_cases hi':i < s.length
 ·repeat' first|refine Zz ?_|intro _
  refine al_idxSC (c:=s[i]) ?_ (hc:=by rw [Int.toNat_natCast];exact List.getElem?_eq_getElem hi')
  repeat' first|refine Zz ?_|intro _
  refine al_callVW (args:=[u8A s[i]]) (ckOn hq) (fun u m1 hh=>?_) (hcs:=hcs)
  obtain⟨rfl,rfl⟩:=hh
  rw [<- smF_take hi']
  repeat' first|refine Zz ?_|intro _
  exact ae_round (i + 1) ⟨rfl,rfl,rfl,rfl,rfl,rfl,trivial⟩ slr hi' (by omega)
 ·obtain rfl:i=s.length:=by omega
  rw [List.take_length] at hq ⊢
  repeat' first|refine Zz ?_|intro _
  refine al_shl16 ?_
  repeat' first|refine Zz ?_|intro _
  refine al_or16 ?_
  repeat' first|refine Zz ?_|intro _
  refine reE ?_
  unfold smN
  rw [Int.natCast_add,Int.natCast_mul]
  rfl⟩
attribute [local irreducible] smN
instance fnCkPut {s:Bs}:Ans Tryz.prog GL 63 [str s] True (.tup [str (if 1048576 < s.length then [] else recB s),int (if 1048576 < s.length then 11 else 0)]):=⟨fun _=>by
 refine qE Tryz.func63 rfl Tryz.ntmps63 rfl (fun _ hs=>?_)
 repeat' first|refine Zz ?_|intro _
 refine ac_cond (fun h=>?_) (fun h=>?_)
 ·rw [if_pos (show 1048576 < s.length by omega),if_pos (show 1048576 < s.length by omega)]
  repeat' first|refine Zz ?_|intro _
  refine reE ?_
  rfl
 ·rw [if_neg (show ¬ 1048576 < s.length by omega),if_neg (show ¬ 1048576 < s.length by omega)]
  have hr:=smN_rng (tlvT 82 s)
  have hl:(tlvT 82 s).length<=4611686018427387904:=Nat.le_trans LenLe.out (by decide)
  repeat' first|refine Zz ?_|intro _
  refine reE ?_
  rfl⟩
theorem rsT_drop (c most:Int)(s:Bs)(b:Bool):rsT c most s b=s.drop (s.length - (rsT c most s b).length):=by
 have key:∃ k,rsT c most s b=s.drop k:=by
  unfold rsT cutT
  split
  ·split
   ·rename_i s0 s1 s2 s3 r _
    exact⟨len3 s1 s2 s3 + 4,rfl⟩
   ·exact⟨0,rfl⟩
  ·exact⟨0,rfl⟩
 obtain⟨k,hk⟩:=key
 rw [hk,List.length_drop]
 by_cases h:k<=s.length
 ·rw [show s.length - (s.length - k)=k by omega]
 ·rw [List.drop_of_length_le (by omega),List.drop_of_length_le (by omega)]
theorem tkZ_len (s:Bs):(tkZ s).length<=s.length:=Nat.le_trans (rsT_len _ _ _ _).1 (rsT_len _ _ _ _).1
theorem tkZ_drop (s:Bs):tkZ s=s.drop (s.length - (tkZ s).length):=by
 have h1:=rsT_drop 82 1048576 s false
 have h2:=rsT_drop 83 8 (tkA s) (tkB s)
 have l1:=(rsT_len 82 1048576 s false).1
 have l2:=(rsT_len 83 8 (tkA s) (tkB s)).1
 show rsT 83 8 (tkA s) (tkB s)=s.drop (s.length - (rsT 83 8 (tkA s) (tkB s)).length)
 rw [h2]
 have l1':(tkA s).length<=s.length:=l1
 have h1':tkA s=s.drop (s.length - (tkA s).length):=h1
 generalize rsT 83 8 (tkA s) (tkB s)=z at *
 rw [List.length_drop,show (tkA s).length - ((tkA s).length - z.length)=z.length by omega]
 conv=>lhs;rw [h1',List.drop_drop]
 congr 1
 rw [List.length_drop]
 omega
set_option maxHeartbeats 2000000 in
instance fnCkTake {s:Bs}:Ans Tryz.prog GL 86 [str s] (s.length<=1000000000) (.tup [str (if tkOk s=true then tkT s else []),int (if tkOk s=true then (s.length:Int) - (tkZ s).length else 0),int (if tkOk s=true then 0 else 10)]):=⟨fun hl=>by
 have hA:(tkA s).length<=s.length:=(rsT_len 82 1048576 s false).1
 have hZ:=tkZ_len s
 have e1:rsT 82 1048576 s false=tkA s:=rfl
 have e2:rbT 82 1048576 s false=tkB s:=rfl
 have e3:rtT 82 1048576 s false=tkT s:=rfl
 have e4:riI 83 4294967295 (tkA s) (tkB s)=tkN s:=rfl
 have e5:rsT 83 8 (tkA s) (tkB s)=tkZ s:=rfl
 have e6:riB 83 4294967295 (tkA s) (tkB s)=tkY s:=rfl
 refine qE Tryz.func86 rfl Tryz.ntmps86 rfl (fun _ hs=>?_)
 repeat' first|refine Zz ?_|intro _
 refine al_callW tlvRead (fun u m1 hh=>?_)
 obtain⟨g,rfl,rfl⟩:=hh
 repeat' first|refine Zz ?_|intro _
 rw [e1,e2,e3]
 cases hb:tkB s
 ·rw [show (if false=true then 0 else (tkA s).length)=(tkA s).length from rfl]
  repeat' first|refine Zz ?_|intro _
  rw [hb] at e4 e5 e6
  rw [e4,e5,e6]
  repeat' first|refine Zz ?_|intro _
  have hr:0<=tkN s/\tkN s<=4294967295:=by
   unfold tkN riI
   split <;> omega
  have ht:(s.take (s.length - (tkA s).length)).length<=4611686018427387904:=by
   rw [List.length_take]
   omega
  cases hy:tkY s
  ·repeat' first|refine Zz ?_|intro _
   rw [wrap_u32e hr.1 hr.2]
   refine al_sliceS 0 (s.length - (tkA s).length) ?_
   rw [List.drop_zero]
   repeat' first|refine Zz ?_|intro _
   have hk:tkOk s=decide (tkN s=smN (s.take (s.length - (tkA s).length))):=by
    unfold tkOk
    rw [hy]
    rfl
   refine ac_cond (fun h=>?_) (fun h=>?_)
   ·rw [dZ h] at hk
    rw [hk]
    repeat' first|refine Zz ?_|intro _
    refine reE ?_
    rfl
   ·rw [dT (Classical.not_not.1 h)] at hk
    rw [hk]
    repeat' first|refine Zz ?_|intro _
    rw [show (if false=true then 0 else (tkZ s).length)=(tkZ s).length from rfl]
    repeat' first|refine Zz ?_|intro _
    refine reE ?_
    rfl
  ·have hk:tkOk s=false:=by
    unfold tkOk
    rw [hy]
    rfl
   rw [hk]
   repeat' first|refine Zz ?_|intro _
   refine reE ?_
   rfl
 ·have hy:tkY s=true:=by
   unfold tkY riB
   rw [hb]
   simp [rnB,rbT,rbT_bad]
  have hk:tkOk s=false:=by
   unfold tkOk
   rw [hy]
   rfl
  rw [if_pos rfl]
  repeat' first|refine Zz ?_|intro _
  rw [hb] at e4 e5 e6
  rw [e4,e5,e6,hy,hk]
  repeat' first|refine Zz ?_|intro _
  refine reE ?_
  rfl⟩
theorem alF_ok {f:Nat}{s:Bs}(h:tkOk s=true):alF (f + 1) s=(tkT s::(alF f (tkZ s)).1,(alF f (tkZ s)).2):=by
 rw [alF,if_pos h]
theorem alF_no {f:Nat}{s:Bs}(h:tkOk s=false):alF (f + 1) s=([],s):=by
 rw [alF,if_neg (by rw [h];decide)]
set_option maxHeartbeats 2000000 in
instance fnCkAll {s:Bs}:Ans Tryz.prog GL 52 [str s] (s.length<=1000000000) (.tup [.sl 1 ((alL s).map str) none,int ((s.length:Int) - (alR s).length)]):=⟨fun hl=>by
 refine qE Tryz.func52 rfl Tryz.ntmps52 rfl (fun _ hs=>?_)
 repeat' first|refine Zz ?_|intro _
 refine ac_as 2 (Imp.nil (k:=1)) ?_
 refine ac_st (fun ok w h=>h.full 9 1 none 0) ?_
 refine ac_loop (α:=List Bs × Nat × Nat × Value) (fun z=>[(0,str s),(2,.sl 1 (z.1.map str) (some z.2.2.2)),(3,int z.2.1)]) (fun z=>[.tail 9 1 z.2.2.2])
  (fun z=>z.2.1<=s.length/\z.1.length<=z.2.1/\(s.drop z.2.1).length < z.2.2.1/\alL s=z.1++(alF z.2.2.1 (s.drop z.2.1)).1/\alR s=(alF z.2.2.1 (s.drop z.2.1)).2) (fun z=>s.length - z.2.1) ([],0,s.length + 1,.slice none 0 0) ⟨rfl,rfl,rfl,trivial⟩ slr
  ⟨Nat.zero_le _,Nat.le_refl _,Nat.lt_succ_self _,rfl,rfl⟩ ?_
 rintro⟨acc,n,f,v⟩ ⟨hn,ha,hf,h1,h2⟩
 dsimp only at hn ha hf h1 h2 ⊢
 repeat' first|refine Zz ?_|intro _
 refine al_sliceS n s.length ?_
 rw [List.take_length]
 have hdl:(s.drop n).length=s.length - n:=List.length_drop
 rcases f with _|f
 ·omega
 have hal:(acc.map str).length=acc.length:=llm _
 cases hk:tkOk (s.drop n)
 ·rw [alF_no hk] at h1 h2
  dsimp only at h1 h2
  rw [List.append_nil] at h1
  repeat' first|refine Zz ?_|intro _
  rw [hk]
  repeat' first|refine Zz ?_|intro _
  rw [h1,h2,hdl]
  refine reI ?_
  show Imp (.tup [.sl 1 (acc.map str) (some v),int n]) (.tup [.sl 1 (acc.map str) none,int ((s.length:Int) - ((s.length - n:Nat):Int))])
  rw [show (s.length:Int) - ((s.length - n:Nat):Int)=n by omega]
  exact ImpR.imp
 ·rw [alF_ok hk] at h1 h2
  dsimp only at h1 h2
  have hd:=tk_dec hk
  have hz:=tkZ_drop (s.drop n)
  rw [hdl] at hd hz
  rw [List.drop_drop] at hz
  repeat' first|refine Zz ?_|intro _
  rw [hk]
  repeat' first|refine Zz ?_|intro _
  refine al_append (fun v'=>?_)
  repeat' first|refine Zz ?_|intro _
  generalize hN:n + (s.length - n - (tkZ (s.drop n)).length)=N at hz
  simp only [if_true]
  refine ae_as 3 (v:=int ((n:Int) + (((s.drop n).length:Int) - ((tkZ (s.drop n)).length:Int)))) (v':=int N) (Imp.of_eq (by rw [hdl,show (n:Int) + (((s.length - n:Nat):Int) - ((tkZ (s.drop n)).length:Int))=(N:Int) by omega])) ?_
  refine ae_as 2 (v:=.sl 1 (acc.map str++[str (tkT (s.drop n))]) (some v')) (v':=.sl 1 ((acc++[tkT (s.drop n)]).map str) (some v')) (Imp.of_eq (by rw [List.map_append];rfl)) ?_
  refine ae_round (acc++[tkT (s.drop n)],N,f,v') ⟨rfl,rfl,rfl,trivial⟩ slr ⟨?_,?_,?_,?_,?_⟩ ?_
  ·dsimp only
   omega
  ·dsimp only
   rw [lla,List.length_singleton]
   omega
  ·dsimp only
   rw [<- hz]
   omega
  ·dsimp only
   rw [<- hz,h1,laa]
   rfl
  ·dsimp only
   rw [<- hz,h2]
  ·dsimp only
   omega⟩
end Go.Proofs.YtndhpgclmgpmoaaGreatDoor

namespace Go.Proofs.YtndhpgclmgpmoaaGreatDoor
open Go Go.RowKit Tw Av
theorem fnSlRead {I:DvI}{x:DvX}{gd gb:Nat}{T1:TypeId}{l:Bs}{m0:List Av.Piece}{a:Int}(hx:DvOk x)(hon:x.on=true)(ha:0<=a/\a < x.n)(hw:x.ws.length<=1000000)(hl:l.length<=1000000)(hB:Bld gb l m0) :
  Av.Spec Tryz.prog GL 48 [int a,ptr gd,ptr gb] ((.var gd T1 (ptr I.gd)::dvM I x)++m0) fun u m=>u=boo true/\∃ m1,Bld gb (l++dvRd x a) m1/\m=(.var gd T1 (ptr I.gd)::dvM I x)++m1:=by
 have hh:dvHas x a=true:=dT ha
 refine qE Tryz.func48 rfl Tryz.ntmps48 rfl (fun _ hs=>?_)
 repeat' first|refine Zz ?_|intro _
 refine al_callF [_] (dvM I x) m0 (fnDvRead hon hh hw) (fun u m1 hu=>?_)
 obtain⟨rfl,rfl⟩:=hu
 have h64:=dvRd_len hx a
 repeat' first|refine Zz ?_|intro _
 refine al_callEnd (.var gd T1 (ptr I.gd)::dvM I x) m0 (bwrite (a:=dvRd x a) hB (by omega)) (fun u m1 hu=>?_)
 obtain⟨rfl,hB1⟩:=hu
 repeat' first|refine Zz ?_|intro _
 exact reK _ ⟨rfl,m1,hB1,rfl⟩ slr
theorem blen {g:Nat}{l:Bs}{m:List Av.Piece}(hb:Bld g l m):Av.Spec Tryz.prog GL 50 [ptr g] m fun u m'=>u=int l.length/\m'=m:=by
 obtain⟨p,hp,⟨rfl,rfl⟩|⟨g',c,h0,hc,rfl⟩⟩:=hb
 ·refine qE Tryz.func50 rfl Tryz.ntmps50 rfl (fun _ hs=>?_)
  repeat' first|refine Zz ?_|intro _
  exact reK _ ⟨rfl,rfl⟩ slr
 ·refine qE Tryz.func50 rfl Tryz.ntmps50 rfl (fun _ hs=>?_)
  repeat' first|refine Zz ?_|intro _
  trace_state
  exact reK _ ⟨rfl,rfl⟩ slr
theorem fnSlOpen1 {I:DvI}{x:DvX}(hn:x.n<=2):Av.Spec Tryz.prog GL 30 [ptr I.gd] (dvM I x) fun u m=>u=.tup [.lit (.pointer none),nils,int 1]/\m=dvM I x:=by
 refine qE Tryz.func30 rfl Tryz.ntmps30 rfl (fun _ hs=>?_)
 repeat' first|refine Zz ?_|intro _
 refine reK (dvM I x) ⟨rfl,rfl⟩ ?_
 exact sbl
theorem unM_nn {s:Bs}:0<=((unM s).getD mk0).e/\0<=((unM s).getD mk0).b/\0<=((unM s).getD mk0).c:=by
 unfold unM
 split
 ·exact⟨Int.natCast_nonneg _,Int.natCast_nonneg _,Int.natCast_nonneg _⟩
 ·exact⟨Int.le_refl _,Int.le_refl _,Int.le_refl _⟩
theorem nwM_b {a b:Bs}:0<=(nwM a b).b:=by
 unfold nwM
 split
 ·exact unM_nn.2.1
 ·exact unM_nn.2.1
theorem dvSec_take {x:DvX}(hx:DvOk x){b:Int}{k:Nat}(hk:b<=64 * k):(dvSec x k).take b.toNat=logD x b:=by
 unfold logD nSec
 have key:∀ (k j:Nat),j<=k->(dvSec x k).take (64 * j)=dvSec x j:=by
  intro k j hj
  induction k with
  | zero=>
   obtain rfl:j=0:=by omega
   rfl
  | succ k ih=>
   rw [dvSec_succ]
   by_cases h:j<=k
   ·rw [List.take_append_of_le_length (by rw [dvSec_len hx];omega),ih h]
   ·obtain rfl:j=k + 1:=by omega
    rw [List.take_of_length_le (by rw [lla,dvSec_len hx,dvRd_len hx];omega),dvSec_succ]
 by_cases hb:0<=b
 ·rw [<- key k ((b + 63) / 64).toNat (by omega),List.take_take,Nat.min_eq_left (by omega)]
 ·rw [show b.toNat=0 by omega]
  rfl
set_option maxHeartbeats 4000000 in
theorem fnSlOpen0 {I:DvI}{x:DvX}(hx:DvOk x)(hw:x.ws.length<=1000000)(h0:opnE x=0):Av.Spec Tryz.prog GL 30 [ptr I.gd] (dvM I x) fun u m=>∃ gs,u=.tup [ptr gs,.sl 1 ((opR x).map str) none,int 0]/\m=slM ⟨I,gs⟩ x (opS x):=by
 have hn:=hx.n
 have h2:¬ x.n<=2:=fun h=>by unfold opnE at h0;rw [if_pos h] at h0;cases h0
 have hon:x.on=true:=by
  cases h:x.on with
  | true=>rfl
  | false=>unfold opnE at h0;rw [if_neg h2,if_pos h] at h0;cases h0
 have hr:¬ roomD x.n < (newD x).b:=fun h=>by unfold opnE at h0;rw [if_neg h2,if_neg (by rw [hon];decide),if_pos h] at h0;cases h0
 have hA:alR (logD x (newD x).b)=[]/\((alL (logD x (newD x).b)).length:Int)=(newD x).c:=by
  unfold opnE at h0
  rw [if_neg h2,if_neg (by rw [hon];decide),if_neg hr] at h0
  by_cases h:alR (logD x (newD x).b)=[]/\((alL (logD x (newD x).b)).length:Int)=(newD x).c
  ·exact h
  ·rw [if_neg h] at h0;cases h0
 have hh0:dvHas x 0=true:=dT ⟨by omega,by omega⟩
 have hh1:dvHas x 1=true:=dT ⟨by omega,by omega⟩
 have hrm:roomD x.n<=262016:=by unfold roomD;omega
 have hrn:roomD x.n=(x.n - 2) * 64:=rfl
 have hbn:0<=(newD x).b:=nwM_b
 refine qE Tryz.func30 rfl Tryz.ntmps30 rfl (fun _ hs=>?_)
 repeat' first|refine Zz ?_|intro _
 refine al_callF [_] (dvM I x) [] (fnDvRead hon hh0 hw) (fun u m1 hu=>?_)
 obtain⟨rfl,rfl⟩:=hu
 repeat' first|refine Zz ?_|intro _
 refine al_callF [_] (dvM I x) [] (fnDvRead hon hh1 hw) (fun u m1 hu=>?_)
 obtain⟨rfl,rfl⟩:=hu
 repeat' first|refine Zz ?_|intro _
 rw [show nwM (dvRd x 0) (dvRd x 1)=newD x from rfl]
 repeat' first|refine Zz ?_|intro _
 rename_i g1 g8 g9
 have hcs:∀ v ∈ [Value.pointer (some ⟨g1,0,none⟩),.pointer (some ⟨g9,0,none⟩)],v.oneCell'=true:=by simp [Value.oneCell']
 refine al_makeFunc (vs:=[.pointer (some ⟨g1,0,none⟩),.pointer (some ⟨g9,0,none⟩)]) ?_
 repeat' first|refine Zz ?_|intro _
 refine ac_ord ([.var g9 125 (.agg 2 [.lit (.pointer none),nils])]++([.var g8 119 (mkA (newD x))]++(.var g1 27 (ptr I.gd)::dvM I x))) _ ?_ lpr slr
 refine ac_loop (α:=Nat × List Av.Piece) (fun z=>[(1,ptr g1),(8,ptr g8),(9,ptr g9),(10,fnv 48 [.pointer (some ⟨g1,0,none⟩),.pointer (some ⟨g9,0,none⟩)]),(11,int (2 + z.1))]) (fun z=>z.2++([.var g8 119 (mkA (newD x))]++(.var g1 27 (ptr I.gd)::dvM I x)))
  (fun z=>(z.1:Int) * 64 < (newD x).b + 64/\Bld g9 (dvSec x z.1) z.2) (fun z=>5000 - z.1) (0,[.var g9 125 (.agg 2 [.lit (.pointer none),nils])]) ⟨rfl,rfl,rfl,rfl,rfl,trivial⟩ slr ⟨by have:=(nwM_b (a:=dvRd x 0) (b:=dvRd x 1));unfold newD;dsimp only;omega,none,.inl rfl,.inl ⟨rfl,rfl⟩⟩ ?_
 rintro⟨k,m0⟩ ⟨hk,hB⟩
 dsimp only at hk hB ⊢
 have hsl:=dvSec_len hx k
 obtain⟨p,hp,⟨hl0,rfl⟩|⟨g',c,hl0,hc,rfl⟩⟩:=id hB
 ·repeat' first|refine Zz ?_|intro _
  apply obl_read [0];exact rfl;exact rfl;kernel_rfl
  ·intro _ _
   refine al_callW (blen hB) (fun u m1 hu=>?_)
   obtain⟨rfl,rfl⟩:=hu
   exact al_nil (ae_got rfl rfl)
  by_cases hlt:((dvSec x k).length:Int) < (newD x).b
  ·repeat' first|refine Zz ?_|intro _
   refine al_callV (args:=[int (2 + k)]) ((.var g1 27 (ptr I.gd)::dvM I x)++_) [.var g8 119 (mkA (newD x))] (by rw [hs];exact fnSlRead (T1:=27) (l:=dvSec x k) (a:=2 + (k:Int)) hx hon ⟨by omega,by omega⟩ hw (by omega) hB) (fun u m1 hu=>?_) ?_ (hcs:=hcs)
   rotate_left
   ·exact List.perm_append_comm.trans (by rw [laa];exact List.perm_append_comm)
   obtain⟨rfl,m2,hB2,rfl⟩:=hu
   rw [<- dvSec_succ] at hB2
   repeat' first|refine Zz ?_|intro _
   refine ae_ord (m2++([.var g8 119 (mkA (newD x))]++(.var g1 27 (ptr I.gd)::dvM I x))) _ ?_ ?_ slr
   ·exact ae_round (k + 1,m2) ⟨rfl,rfl,rfl,rfl,rfl,trivial⟩ slr ⟨by dsimp only;omega,hB2⟩ (by dsimp only;omega)
   ·exact List.perm_append_comm.trans (by rw [laa];exact List.perm_append_comm)
  ·have hlg:(dvSec x k).take (newD x).b.toNat=logD x (newD x).b:=dvSec_take hx (by omega)
   have hll:(logD x (newD x).b).length<=1000000:=by
    rw [<- hlg,List.length_take]
    omega
   have hrc:((alL (logD x (newD x).b)).map str).length=(alL (logD x (newD x).b)).length:=llm _
   have hc2:=hA.2
   have hl1:(([]:Bs)).length=0:=rfl
   repeat' first|refine Zz ?_|intro _
   apply obl_write [0];exact rfl;exact rfl;kernel_rfl
   ·intro _ _
    refine al_callW (bstring (l:=dvSec x k) hB (by omega)) (fun u m1 hu=>?_)
    subst hu
    refine al_nil (ae_ord [] [] ?_ lpr (List.nil_sublist _))
    refine ae_st (fun ok w h=>h.full 0 1 none 0) ?_
    exact ae_got rfl rfl
   ·exact rfl
   ·exact rfl
   repeat' first|refine Zz ?_|intro _
   apply obl_read [];exact rfl;exact rfl;kernel_rfl
   ·intro _ _
    refine al_sliceS 0 (newD x).b.toNat ?_
    rw [List.drop_zero,hlg]
    exact al_nil (ae_got rfl rfl)
   repeat' first|refine Zz ?_|intro _
   rw [hA.1]
   repeat' (first|refine ct1 ?_|refine op1 ?_|refine op2 ?_|intro _|simp only [List.set]|refine gdT ?_|refine gdF ?_|refine cdT ?_|refine cdF ?_|fail)
   refine ac_perm [0,1,2,3,4,5,6,7,8,9,10,12,11,13,14,15] (by kernel_rfl) rfl hs (by kernel_rfl) ?_
   repeat' first|refine Zz ?_|intro _
   apply obl_read [];exact rfl;exact rfl;kernel_rfl
   ·intro _ _
    refine al_sliceS ((logD x (newD x).b).length - (logD x (newD x).b).length % 64) (logD x (newD x).b).length ?_ (h4:=Nat.le_refl _)
    rw [List.take_length]
    exact al_nil (ae_got rfl rfl)
   repeat' first|refine Zz ?_|intro _
   rename_i gs
   refine ae_ord (slM ⟨I,gs⟩ x (opS x)) (dvM I x++[.var gs 133 (slA I.gd (opS x))]) ?_ (List.perm_append_comm (l₁:=[_])) ?_
   ·exact reK _ ⟨gs,rfl,rfl⟩ slr
   ·exact sbl
 ·repeat' first|refine Zz ?_|intro _
  apply obl_read [0,1];exact rfl;exact rfl;kernel_rfl
  ·intro _ _
   refine al_callW (blen hB) (fun u m1 hu=>?_)
   obtain⟨rfl,rfl⟩:=hu
   exact al_nil (ae_got rfl rfl)
  by_cases hlt:((dvSec x k).length:Int) < (newD x).b
  ·repeat' first|refine Zz ?_|intro _
   refine al_callV (args:=[int (2 + k)]) ((.var g1 27 (ptr I.gd)::dvM I x)++_) [.var g8 119 (mkA (newD x))] (by rw [hs];exact fnSlRead (T1:=27) (l:=dvSec x k) (a:=2 + (k:Int)) hx hon ⟨by omega,by omega⟩ hw (by omega) hB) (fun u m1 hu=>?_) ?_ (hcs:=hcs)
   rotate_left
   ·exact List.perm_append_comm.trans (by rw [laa];exact List.perm_append_comm)
   obtain⟨rfl,m2,hB2,rfl⟩:=hu
   rw [<- dvSec_succ] at hB2
   repeat' first|refine Zz ?_|intro _
   refine ae_ord (m2++([.var g8 119 (mkA (newD x))]++(.var g1 27 (ptr I.gd)::dvM I x))) _ ?_ ?_ slr
   ·exact ae_round (k + 1,m2) ⟨rfl,rfl,rfl,rfl,rfl,trivial⟩ slr ⟨by dsimp only;omega,hB2⟩ (by dsimp only;omega)
   ·exact List.perm_append_comm.trans (by rw [laa];exact List.perm_append_comm)
  ·have hlg:(dvSec x k).take (newD x).b.toNat=logD x (newD x).b:=dvSec_take hx (by omega)
   have hll:(logD x (newD x).b).length<=1000000:=by
    rw [<- hlg,List.length_take]
    omega
   have hrc:((alL (logD x (newD x).b)).map str).length=(alL (logD x (newD x).b)).length:=llm _
   have hc2:=hA.2
   have hl1:(([]:Bs)).length=0:=rfl
   repeat' first|refine Zz ?_|intro _
   apply obl_write [0,1];exact rfl;exact rfl;kernel_rfl
   ·intro _ _
    refine al_callW (bstring (l:=dvSec x k) hB (by omega)) (fun u m1 hu=>?_)
    subst hu
    refine al_nil (ae_ord [] [] ?_ lpr (List.nil_sublist _))
    refine ae_st (fun ok w h=>h.full 0 1 none 0) ?_
    refine ae_st (fun ok w h=>h.full 0 1 none 0) ?_
    exact ae_got rfl rfl
   ·exact rfl
   ·exact rfl
   repeat' first|refine Zz ?_|intro _
   apply obl_read [];exact rfl;exact rfl;kernel_rfl
   ·intro _ _
    refine al_sliceS 0 (newD x).b.toNat ?_
    rw [List.drop_zero,hlg]
    exact al_nil (ae_got rfl rfl)
   repeat' first|refine Zz ?_|intro _
   rw [hA.1]
   repeat' (first|refine ct1 ?_|refine op1 ?_|refine op2 ?_|intro _|simp only [List.set]|refine gdT ?_|refine gdF ?_|refine cdT ?_|refine cdF ?_|fail)
   refine ac_perm [0,1,2,3,4,5,6,7,8,9,10,12,11,13,14,15] (by kernel_rfl) rfl hs (by kernel_rfl) ?_
   repeat' first|refine Zz ?_|intro _
   apply obl_read [];exact rfl;exact rfl;kernel_rfl
   ·intro _ _
    refine al_sliceS ((logD x (newD x).b).length - (logD x (newD x).b).length % 64) (logD x (newD x).b).length ?_ (h4:=Nat.le_refl _)
    rw [List.take_length]
    exact al_nil (ae_got rfl rfl)
   repeat' first|refine Zz ?_|intro _
   rename_i gs
   refine ae_ord (slM ⟨I,gs⟩ x (opS x)) (dvM I x++[.var gs 133 (slA I.gd (opS x))]) ?_ (List.perm_append_comm (l₁:=[_])) ?_
   ·exact reK _ ⟨gs,rfl,rfl⟩ slr
   ·exact sbl
end Go.Proofs.YtndhpgclmgpmoaaGreatDoor
