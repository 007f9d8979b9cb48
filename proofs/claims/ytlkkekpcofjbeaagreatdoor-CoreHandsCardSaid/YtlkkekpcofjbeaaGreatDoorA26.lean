/- strings.Builder, walked: WriteString, String -/
import Derived.Test.YtlkkekpcofjbeaaGreatDoorA14
import Derived.Test.YtlkkekpcofjbeaaGreatDoorA19
import Derived.Test.YtlkkekpcofjbeaaGreatDoorA21
import Derived.Test.YtlkkekpcofjbeaaGreatDoorA24
import Derived.Test.YtlkkekpcofjbeaaGreatDoorA25
namespace Go.Proofs.YtlkkekpcofjbeaaGreatDoor
open Go Go.RowKit Tw Av
theorem u8ofInt (n:Nat):UInt8.ofNat (IntKind.u8.wrap (n:Int)).toNat=UInt8.ofNat n:=by
 rw [IntKind.wrap_u8]
 apply UInt8.toNat_inj.1
 simp
 omega
theorem tlvT_eq (c:Int)(s:Bs)(n:Nat)(hn:n=(s.take bodyLen).length):[UInt8.ofNat c.toNat,UInt8.ofNat (IntKind.u8.wrap ((n:Int) / 65536)).toNat,UInt8.ofNat (IntKind.u8.wrap ((n:Int) / 256)).toNat,UInt8.ofNat (IntKind.u8.wrap (n:Int)).toNat]++s.take bodyLen=tlvT c s:=by
 subst hn
 have e1:=u8ofInt ((s.take bodyLen).length / 65536)
 have e2:=u8ofInt ((s.take bodyLen).length / 256)
 have e3:=u8ofInt (s.take bodyLen).length
 simp only [Int.natCast_ediv,Int.cast_ofNat_Int] at e1 e2
 rw [e1,e2,e3]
 rfl
instance {s:Bs}:LenLe (s.take bodyLen) 16777215:=⟨by simp [bodyLen,List.length_take];omega⟩
instance fnRText {c:Int}{s:Bs}:Ans Tryz.prog GL 43 [.lit (.int .u8 c),str s] True (str (tlvT c s)):=⟨fun _=>by
 refine qE Tryz.func43 rfl Tryz.ntmps43 rfl (fun _ hs=>?_)
 repeat' first|refine Wz ?_|intro _
 refine ac_cond (fun hl=>?_) (fun hl=>?_)
 ·repeat' first|refine Wz ?_|intro _
  have hb:(s.take 16777215).drop 0=s.take bodyLen:=rfl
  have hlen:(s.take bodyLen).length=16777215:=by simp [bodyLen];omega
  refine al_sliceS 0 16777215 ?_
  rw [hb]
  repeat' first|refine Wz ?_|intro _
  refine reE ?_
  exact congrArg str (tlvT_eq c s _ rfl)
 ·repeat' first|refine Wz ?_|intro _
  refine reE ?_
  have hb:s.take bodyLen=s:=List.take_of_length_le (by simp [bodyLen];omega)
  have:=tlvT_eq c s s.length (by rw [hb])
  rw [hb] at this
  exact congrArg str this⟩

instance fnRDigits {n:Nat}:Ans Tryz.prog GL 146 [.lit (.int .u64 n)] (n < 18446744073709551616) (str (Tw.digits n)):=⟨fun hn=>by
 refine qE Tryz.func146 rfl Tryz.ntmps146 rfl (fun _ hs=>?_)
 repeat' first|refine Wz ?_|intro _
 refine ac_loop (α:=Nat × Nat × Bs) (fun q=>[(0,.lit (.int .u64 q.2.1)),(3,str q.2.2)]) (fun _=>[]) (fun q=>q.2.1 < 256 ^ q.1/\q.2.2.length + q.1<=8/\digitsF q.1 q.2.1++q.2.2=Tw.digits n) (fun q=>q.1) (8,n,[]) ⟨rfl,rfl,trivial⟩ slr ⟨by simpa using hn,by simp,by simp [Tw.digits]⟩ ?_
 rintro⟨f,k,s⟩ ⟨g1,g2,g3⟩
 dsimp only at g1 g2 g3 ⊢
 repeat' first|refine Wz ?_|intro _
 refine ac_cond (fun hlt=>?_) (fun hlt=>?_)
 ·obtain⟨f,rfl⟩:∃ f',f=f' + 1:=⟨f - 1,by
   rcases Nat.eq_zero_or_pos f with h|h
   ·subst h;simp at g1;omega
   ·omega⟩
  have h0:k≠0:=by omega
  rw [digitsF,if_neg h0,laa] at g3
  have hk:k < 18446744073709551616:=by
   have:256 ^ (f + 1)<=256 ^ 8:=Nat.pow_le_pow_right (by omega) (by omega)
   omega
  repeat' first|refine Wz ?_|intro _
  rw [u8ofInt k]
  refine al_div (h2:=by intro c _ _;rw [IntKind.wrap_u64];omega) ?_
  repeat' first|refine Wz ?_|intro _
  have hq:(k:Int) / 256=((k / 256:Nat):Int):=by omega
  rw [hq]
  exact ae_round (f,k / 256,[UInt8.ofNat k]++s) ⟨rfl,rfl,trivial⟩ slr ⟨by simp only;rw [Nat.pow_succ] at g1;omega,by simp only [List.length_append,List.length_singleton];omega,by simpa using g3⟩ (Nat.lt_succ_self f)
 ·have h0:k=0:=by omega
  subst h0
  have:digitsF f 0=[]:=by cases f <;> simp [digitsF]
  rw [this,List.nil_append] at g3
  subst g3
  repeat' first|refine Wz ?_|intro _
  refine reE ?_
  rfl⟩
instance fnRNum {c:Int}{n:Nat}:Ans Tryz.prog GL 80 [.lit (.int .u8 c),.lit (.int .u64 n)] (n < 18446744073709551616) (str (tlvT c (Tw.digits n))):=⟨fun hn=>by
 refine qE Tryz.func80 rfl Tryz.ntmps80 rfl (fun _ hs=>?_)
 repeat' first|refine Wz ?_|intro _
 refine reE ?_
 rfl⟩
instance fnRInt {c:Int}{n:Int}:Ans Tryz.prog GL 46 [.lit (.int .u8 c),int n] (n<=9223372036854775807) (str (tlvI c n)):=⟨fun hn=>by
 refine qE Tryz.func46 rfl Tryz.ntmps46 rfl (fun _ hs=>?_)
 repeat' first|refine Wz ?_|intro _
 refine ac_cond (fun hlt=>?_) (fun hlt=>?_)
 ·repeat' first|refine Wz ?_|intro _
  refine al_callP (show (0:Nat) < 18446744073709551616 by omega) ?_ (hc:=fnRNum (n:=0))
  repeat' first|refine Wz ?_|intro _
  refine reE ?_
  have:n.toNat=0:=by omega
  rw [tlvI,tlvInt,this]
  rfl
 ·repeat' first|refine Wz ?_|intro _
  obtain⟨k,rfl⟩:∃ k:Nat,n=k:=⟨n.toNat,by omega⟩
  refine al_callP (show k < 18446744073709551616 by omega) ?_ (hc:=fnRNum (n:=k))
  repeat' first|refine Wz ?_|intro _
  refine reE ?_
  rfl⟩
instance fnTurned {x:W32}{c:Int}:Ans Tryz.prog GL 284 [w32A x,.lit (.int .u64 c)] (0 < c/\c < 32) (w32A (rotr x c.toNat)):=⟨fun hc=>by
 obtain⟨n,rfl⟩:∃ n:Nat,c=n:=⟨c.toNat,by omega⟩
 refine qE Tryz.func284 rfl Tryz.ntmps284 rfl (fun _ hs=>?_)
 repeat' first|refine Wz ?_|intro _
 refine al_shr32 n ?_
 repeat' first|refine Wz ?_|intro _
 refine al_arith ?_
 have hw:IntKind.u64.wrap ((32:Int) - (n:Int))=((32 - n:Nat):Int):=by rw [IntKind.wrap_u64];omega
 rw [hw]
 repeat' first|refine Wz ?_|intro _
 refine al_shl32 (32 - n) ?_
 repeat' (first|refine opW ?_|refine obW ?_|refine W ?_|refine ob2 (fun _=>?_)|intro _)
 refine reE ?_
 rfl⟩
instance fnRHText {h:Hsh}:Ans Tryz.prog GL 79 [hA h] True (str h.l):=⟨fun _=>by
 refine qE Tryz.func79 rfl Tryz.ntmps79 rfl (fun _ hs=>?_)
 repeat' first|refine Wz ?_|intro _
 rename_i g
 have hlen:=h.len
 refine ac_as 3 (Imp.nil (k:=1)) ?_
 refine ac_st (fun ok w h=>h.full 5 1 none 0) ?_
 refine ac_loop (α:=Nat × Value) (fun q=>[(1,ptr g),(3,.sl 1 ((h.l.take q.1).map u8A) (some q.2)),(4,int q.1)]) (fun q=>[.tail 5 1 q.2,.var g 40 (.agg 32 (h.l.map u8A))]) (fun q=>q.1<=32) (fun q=>32 - q.1) (0,.slice none 0 0) ⟨rfl,rfl,rfl,trivial⟩ slr (Nat.zero_le _) ?_
 rintro⟨i,v⟩ g1
 dsimp only at g1 ⊢
 repeat' first|refine Wz ?_|intro _
 refine ac_cond (fun hlt=>?_) (fun hlt=>?_)
 ·have hlt':i < h.l.length:=by omega
  repeat' first|refine Wz ?_|intro _
  refine al_idxA i ?_
  repeat' first|refine Wz ?_|intro _
  refine al_loadM i hlt' ?_
  repeat' first|refine Wz ?_|intro _
  refine al_append (fun v'=>?_)
  repeat' first|refine Wz ?_|intro _
  have e:(h.l.take i).map u8A++[u8A h.l[i]]=(h.l.take (i + 1)).map u8A:=by rw [List.take_succ_eq_append_getElem hlt',List.map_append];rfl
  rw [e]
  exact ae_round (i + 1,v') ⟨rfl,rfl,rfl,trivial⟩ slr (by simp only;omega) (by simp only;omega)
 ·repeat' first|refine Wz ?_|intro _
  rw [List.take_of_length_le (by omega)]
  repeat' first|refine Wz ?_|intro _
  refine reE ?_
  rfl⟩

theorem wsl (blk:Bs):∀ k,(ws blk k).length=k
 | 0=>rfl
 | k + 1=>by simp [ws,wsl blk k]
def wA (blk:Bs)(k:Nat):List AV:=(ws blk k).map (fun x=>.lit (w32v x))++List.replicate (64 - k) (.lit (w32v 0))
instance {blk:Bs}{k:Nat}:Siz (wA blk k) 1:=by unfold wA;infer_instance
theorem wA_len (blk:Bs)(k:Nat)(h:k<=64):(wA blk k).length=64:=by simp [wA,wsl];omega
theorem wA_get (blk:Bs)(k j:Nat)(h:j < k):(wA blk k)[j]?=some (w32A ((ws blk k).getD j 0)):=by
 have hl:=wsl blk k
 simp [wA,List.getElem?_append,hl,h]
def nxt (blk:Bs)(k:Nat):W32:=if k < 16 then wordAt blk k else nextW (ws blk k) k
theorem wA_next (blk:Bs)(k:Nat)(h:k < 64):(wA blk k).set k (w32A (nxt blk k))=wA blk (k + 1):=by
 have hl:=wsl blk k
 have hx:ws blk (k + 1)=ws blk k++[nxt blk k]:=rfl
 unfold wA
 rw [hx,List.set_append,if_neg (by simp [hl]),List.map_append,List.length_map,hl,Nat.sub_self,show 64 - k=(64 - (k + 1)) + 1 by omega,List.replicate_succ]
 simp
abbrev hwA (x:H8):AV:=.agg 8 (x.words.map fun x=>.lit (w32v x))
abbrev tabA:AV:=.agg 2 [.sl 1 (h0.words.map fun x=>.lit (w32v x)) none,.sl 1 (kTab.map fun x=>.lit (w32v x)) none]
theorem gd {l:Bs}{i:Nat}(h:i < l.length):l.getD i 0=l[i]:=by simp [List.getD,h]
theorem gdk {l:List W32}{i:Nat}(h:i < l.length):l.getD i 0=l[i]:=by simp [List.getD,h]
theorem ch_eq (e f g:W32):(e &&& f) ^^^ (~~~ e &&& g)=g ^^^ e &&& (f ^^^ g):=by
 apply BitVec.eq_of_getLsbD_eq
 intro i hi
 simp only [BitVec.getLsbD_xor,BitVec.getLsbD_and,BitVec.getLsbD_not,hi,decide_true,Bool.true_and]
 cases e.getLsbD i <;> cases f.getLsbD i <;> cases g.getLsbD i <;> rfl
theorem maj_eq (a b c:W32):(a &&& b) ^^^ (a &&& c) ^^^ (b &&& c)=a &&& b ||| c &&& (a ||| b):=by
 apply BitVec.eq_of_getLsbD_eq
 intro i hi
 simp only [BitVec.getLsbD_xor,BitVec.getLsbD_and,BitVec.getLsbD_or]
 cases a.getLsbD i <;> cases b.getLsbD i <;> cases c.getLsbD i <;> rfl
def roundR (k w:W32)(y:H8):H8:=
 ⟨y.h + (rotr y.e 6 ^^^ rotr y.e 11 ^^^ rotr y.e 25) + ((y.e &&& y.f) ^^^ (~~~ y.e &&& y.g)) + k + w + ((rotr y.a 2 ^^^ rotr y.a 13 ^^^ rotr y.a 22) + ((y.a &&& y.b) ^^^ (y.a &&& y.c) ^^^ (y.b &&& y.c))),y.a,y.b,y.c,
  y.d + (y.h + (rotr y.e 6 ^^^ rotr y.e 11 ^^^ rotr y.e 25) + ((y.e &&& y.f) ^^^ (~~~ y.e &&& y.g)) + k + w),y.e,y.f,y.g⟩
theorem roundR_eq (k w:W32)(y:H8):round k w y=roundR k w y:=by
 unfold round roundR
 simp only [ch_eq,maj_eq,BitVec.add_assoc]
theorem addTo_map (x y:H8)(i:Nat)(h:i < 8):((addTo x y i).map fun x=>AV.lit (w32v x)).set i (w32A (x.words.getD i 0 + y.words.getD i 0))=(addTo x y (i + 1)).map fun x=>AV.lit (w32v x):=by
 rw [<- addTo_next x y i h,List.map_set]
attribute [local irreducible] Av.Obl
set_option maxHeartbeats 4000000 in
instance fnRBlock {x:H8}{blk:Bs}{id:Option Value}:Ans Tryz.prog GL 257 [tabA,hwA x,.sl 1 (blk.map u8A) id] (blk.length=64) (hwA (compress x blk)):=⟨fun hbl=>by
 refine qE Tryz.func257 rfl Tryz.ntmps257 rfl (fun _ hs=>?_)
 repeat' first|refine Wz ?_|intro _
 rename_i g3 g4 g6 g7
 refine ac_asV (g:=g7) (v':=.agg 64 (wA blk 0)) (fun ok w cs h=>h) ?_
 refine ac_loop (α:=Nat) (fun i=>[(2,.sl 1 (blk.map u8A) id),(3,ptr g3),(4,ptr g4),(6,ptr g6),(7,ptr g7),(8,int i)])
   (fun i=>[.var g7 311 (.agg 64 (wA blk i)),.var g6 289 (hwA ⟨0,0,0,0,0,0,0,0⟩),.var g4 289 (hwA x),.var g3 251 tabA]) (fun i=>i<=64) (fun i=>64 - i) 0 ⟨rfl,rfl,rfl,rfl,rfl,rfl,trivial⟩ slr (Nat.zero_le _) ?_
 intro i hi
 repeat' first|refine Wz ?_|intro _
 refine ac_cond (fun hlt=>?_) (fun hlt=>?_)
 ·repeat' first|refine Wz ?_|intro _
  have hn:=wA_next blk i (by omega)
  have hl64:=wA_len blk i (by omega)
  refine ac_cond (fun h16=>?_) (fun h16=>?_)
  ·repeat' (first|refine opW ?_|refine obW ?_|refine W ?_|refine ob2 (fun _=>?_)|intro _)
   apply obl_read [];exact rfl;exact rfl;kernel_rfl;intro _ _
   refine al_idxM (l:=blk) (f:=u8A) (4 * i) (by omega) ?_
   exact al_nil (ae_got rfl rfl)
   repeat' (first|refine opW ?_|refine obW ?_|refine W ?_|refine ob2 (fun _=>?_)|intro _)
   apply obl_read [];exact rfl;exact rfl;kernel_rfl;intro _ _
   refine al_idxM (l:=blk) (f:=u8A) (4 * i + 1) (by omega) ?_
   exact al_nil (ae_got rfl rfl)
   repeat' (first|refine opW ?_|refine obW ?_|refine W ?_|refine ob2 (fun _=>?_)|intro _)
   apply obl_read [];exact rfl;exact rfl;kernel_rfl;intro _ _
   refine al_idxM (l:=blk) (f:=u8A) (4 * i + 2) (by omega) ?_
   exact al_nil (ae_got rfl rfl)
   repeat' (first|refine opW ?_|refine obW ?_|refine W ?_|refine ob2 (fun _=>?_)|intro _)
   apply obl_read [];exact rfl;exact rfl;kernel_rfl;intro _ _
   refine al_idxM (l:=blk) (f:=u8A) (4 * i + 3) (by omega) ?_
   exact al_nil (ae_got rfl rfl)
   repeat' (first|refine opW ?_|refine obW ?_|refine W ?_|refine ob2 (fun _=>?_)|intro _)
   apply obl_read [];exact rfl;exact rfl;kernel_rfl;intro _ _
   refine al_idxA i ?_
   exact al_nil (ae_got rfl rfl)
   apply obl_writeN [0];exact rfl;exact rfl;kernel_rfl
   ·intro _ _
    refine al_storeE (j:=i) (ps:=wA blk i) (by omega) ?_
    exact al_nil (ae_gotN rfl)
   ·exact rfl
   ·exact rfl
   have e:b32 blk[4 * i] <<< 24 ||| b32 blk[4 * i + 1] <<< 16 ||| b32 blk[4 * i + 2] <<< 8 ||| b32 blk[4 * i + 3]=nxt blk i:=by
    rw [nxt,if_pos (by omega),wordAt,gd,gd,gd,gd]
   rw [e,hn]
   repeat' first|refine Wz ?_|intro _
   refine ae_round (i + 1) ⟨rfl,rfl,rfl,rfl,rfl,rfl,trivial⟩ slr (by omega) (by omega)
  ·repeat' (first|refine opW ?_|refine obW ?_|refine W ?_|refine ob2 (fun _=>?_)|intro _)
   apply obl_read [];exact rfl;exact rfl;kernel_rfl;intro _ _
   refine al_idxA (i - 15) ?_
   exact al_nil (ae_got rfl rfl)
   repeat' (first|refine opW ?_|refine obW ?_|refine W ?_|refine ob2 (fun _=>?_)|intro _)
   apply obl_read [0];exact rfl;exact rfl;kernel_rfl;intro _ _
   refine al_loadE (j:=i - 15) (ps:=wA blk i) (wA_get blk i (i - 15) (by omega)) ?_
   exact al_nil (ae_got rfl rfl)
   repeat' (first|refine opW ?_|refine obW ?_|refine W ?_|refine ob2 (fun _=>?_)|intro _)
   apply obl_read [];exact rfl;exact rfl;kernel_rfl;intro _ _
   refine al_idxA (i - 15) ?_
   exact al_nil (ae_got rfl rfl)
   repeat' (first|refine opW ?_|refine obW ?_|refine W ?_|refine ob2 (fun _=>?_)|intro _)
   apply obl_read [0];exact rfl;exact rfl;kernel_rfl;intro _ _
   refine al_loadE (j:=i - 15) (ps:=wA blk i) (wA_get blk i (i - 15) (by omega)) ?_
   exact al_nil (ae_got rfl rfl)
   repeat' (first|refine opW ?_|refine obW ?_|refine W ?_|refine ob2 (fun _=>?_)|intro _)
   apply obl_read [];exact rfl;exact rfl;kernel_rfl;intro _ _
   refine al_idxA (i - 15) ?_
   exact al_nil (ae_got rfl rfl)
   repeat' (first|refine opW ?_|refine obW ?_|refine W ?_|refine ob2 (fun _=>?_)|intro _)
   apply obl_read [0];exact rfl;exact rfl;kernel_rfl;intro _ _
   refine al_loadE (j:=i - 15) (ps:=wA blk i) (wA_get blk i (i - 15) (by omega)) ?_
   exact al_nil (ae_got rfl rfl)
   repeat' (first|refine opW ?_|refine obW ?_|refine W ?_|refine ob2 (fun _=>?_)|intro _)
   apply obl_read [];exact rfl;exact rfl;kernel_rfl;intro _ _
   refine al_idxA (i - 2) ?_
   exact al_nil (ae_got rfl rfl)
   repeat' (first|refine opW ?_|refine obW ?_|refine W ?_|refine ob2 (fun _=>?_)|intro _)
   apply obl_read [0];exact rfl;exact rfl;kernel_rfl;intro _ _
   refine al_loadE (j:=i - 2) (ps:=wA blk i) (wA_get blk i (i - 2) (by omega)) ?_
   exact al_nil (ae_got rfl rfl)
   repeat' (first|refine opW ?_|refine obW ?_|refine W ?_|refine ob2 (fun _=>?_)|intro _)
   apply obl_read [];exact rfl;exact rfl;kernel_rfl;intro _ _
   refine al_idxA (i - 2) ?_
   exact al_nil (ae_got rfl rfl)
   repeat' (first|refine opW ?_|refine obW ?_|refine W ?_|refine ob2 (fun _=>?_)|intro _)
   apply obl_read [0];exact rfl;exact rfl;kernel_rfl;intro _ _
   refine al_loadE (j:=i - 2) (ps:=wA blk i) (wA_get blk i (i - 2) (by omega)) ?_
   exact al_nil (ae_got rfl rfl)
   repeat' (first|refine opW ?_|refine obW ?_|refine W ?_|refine ob2 (fun _=>?_)|intro _)
   apply obl_read [];exact rfl;exact rfl;kernel_rfl;intro _ _
   refine al_idxA (i - 2) ?_
   exact al_nil (ae_got rfl rfl)
   repeat' (first|refine opW ?_|refine obW ?_|refine W ?_|refine ob2 (fun _=>?_)|intro _)
   apply obl_read [0];exact rfl;exact rfl;kernel_rfl;intro _ _
   refine al_loadE (j:=i - 2) (ps:=wA blk i) (wA_get blk i (i - 2) (by omega)) ?_
   exact al_nil (ae_got rfl rfl)
   repeat' (first|refine opW ?_|refine obW ?_|refine W ?_|refine ob2 (fun _=>?_)|intro _)
   apply obl_read [];exact rfl;exact rfl;kernel_rfl;intro _ _
   refine al_idxA (i - 7) ?_
   exact al_nil (ae_got rfl rfl)
   repeat' (first|refine opW ?_|refine obW ?_|refine W ?_|refine ob2 (fun _=>?_)|intro _)
   apply obl_read [0];exact rfl;exact rfl;kernel_rfl;intro _ _
   refine al_loadE (j:=i - 7) (ps:=wA blk i) (wA_get blk i (i - 7) (by omega)) ?_
   exact al_nil (ae_got rfl rfl)
   repeat' (first|refine opW ?_|refine obW ?_|refine W ?_|refine ob2 (fun _=>?_)|intro _)
   apply obl_read [];exact rfl;exact rfl;kernel_rfl;intro _ _
   refine al_idxA (i - 16) ?_
   exact al_nil (ae_got rfl rfl)
   repeat' (first|refine opW ?_|refine obW ?_|refine W ?_|refine ob2 (fun _=>?_)|intro _)
   apply obl_read [0];exact rfl;exact rfl;kernel_rfl;intro _ _
   refine al_loadE (j:=i - 16) (ps:=wA blk i) (wA_get blk i (i - 16) (by omega)) ?_
   exact al_nil (ae_got rfl rfl)
   repeat' (first|refine opW ?_|refine obW ?_|refine W ?_|refine ob2 (fun _=>?_)|intro _)
   apply obl_read [];exact rfl;exact rfl;kernel_rfl;intro _ _
   refine al_idxA i ?_
   exact al_nil (ae_got rfl rfl)
   apply obl_writeN [0];exact rfl;exact rfl;kernel_rfl
   ·intro _ _
    refine al_storeE (j:=i) (ps:=wA blk i) (by omega) ?_
    exact al_nil (ae_gotN rfl)
   ·exact rfl
   ·exact rfl
   have e:(rotr ((ws blk i).getD (i - 2) 0) (17:Int).toNat ^^^ rotr ((ws blk i).getD (i - 2) 0) (19:Int).toNat ^^^ (ws blk i).getD (i - 2) 0 >>> 10) + (ws blk i).getD (i - 7) 0 + (rotr ((ws blk i).getD (i - 15) 0) (7:Int).toNat ^^^ rotr ((ws blk i).getD (i - 15) 0) (18:Int).toNat ^^^ (ws blk i).getD (i - 15) 0 >>> 3) + (ws blk i).getD (i - 16) 0=nxt blk i:=by
    rw [nxt,if_neg (by omega),nextW]
    show sig1 ((ws blk i).getD (i - 2) 0) + (ws blk i).getD (i - 7) 0 + sig0 ((ws blk i).getD (i - 15) 0) + (ws blk i).getD (i - 16) 0=_
    ac_rfl
   repeat' (first|refine opW ?_|refine obW ?_|refine W ?_|refine ob2 (fun _=>?_)|intro _)
   rw [e,hn]
   exact ae_round (i + 1) ⟨rfl,rfl,rfl,rfl,rfl,rfl,trivial⟩ slr (by omega) (by omega)
 ·obtain rfl:i=64:=by omega
  repeat' (first|refine opW ?_|refine obW ?_|refine W ?_|refine ob2 (fun _=>?_)|intro _)
  rename_i g11
  refine ac_loop (α:=Nat) (fun i=>[(3,ptr g3),(4,ptr g4),(6,ptr g6),(7,ptr g7),(11,ptr g11),(12,int i)])
   (fun i=>[.var g11 289 (hwA (roundsTo blk x i)),.var g7 311 (.agg 64 (wA blk 64)),.var g6 289 (hwA ⟨0,0,0,0,0,0,0,0⟩),.var g4 289 (hwA x),.var g3 251 tabA]) (fun i=>i<=64) (fun i=>64 - i) 0 ⟨rfl,rfl,rfl,rfl,rfl,rfl,trivial⟩ slr (Nat.zero_le _) ?_
  intro i hi
  repeat' first|refine Wz ?_|intro _
  refine ac_cond (fun hlt=>?_) (fun hlt=>?_)
  ·have hk:i < kTab.length:=by
    have:kTab.length=64:=rfl
    omega
   have hr:roundsTo blk x (i + 1)=roundR kTab[i] ((ws blk 64).getD i 0) (roundsTo blk x i):=by rw [roundsTo,roundR_eq,gdk hk]
   generalize roundsTo blk x i=y at *
   repeat' (first|refine opW ?_|refine obW ?_|refine W ?_|refine ob2 (fun _=>?_)|intro _)
   apply obl_read [];exact rfl;exact rfl;kernel_rfl;intro _ _
   refine al_idxM (l:=kTab) (f:=fun x=>.lit (w32v x)) i hk ?_
   exact al_nil (ae_got rfl rfl)
   repeat' (first|refine opW ?_|refine obW ?_|refine W ?_|refine ob2 (fun _=>?_)|intro _)
   apply obl_read [];exact rfl;exact rfl;kernel_rfl;intro _ _
   refine al_idxA i ?_
   exact al_nil (ae_got rfl rfl)
   apply obl_read [1];exact rfl;exact rfl;kernel_rfl
   ·intro _ _
    refine al_loadE (j:=i) (ps:=wA blk 64) (wA_get blk 64 i (by omega)) ?_
    exact al_nil (ae_got rfl rfl)
   repeat' (first|refine opW ?_|refine obW ?_|refine W ?_|refine ob2 (fun _=>?_)|intro _)
   refine ae_round (i + 1) ⟨rfl,rfl,rfl,rfl,rfl,rfl,trivial⟩ ?_ (by omega) (by omega)
   dsimp only
   rw [hr]
   exact List.Sublist.refl _
  ·obtain rfl:i=64:=by omega
   have hcm:compress x blk=x.add (roundsTo blk x 64):=rfl
   rw [hcm]
   generalize roundsTo blk x 64=y at *
   repeat' (first|refine opW ?_|refine obW ?_|refine W ?_|refine ob2 (fun _=>?_)|intro _)
   refine ac_loop (α:=Nat) (fun i=>[(4,ptr g4),(6,ptr g6),(11,ptr g11),(19,int i)])
    (fun i=>[.var g11 289 (hwA y),.var g6 289 (hwA ⟨0,0,0,0,0,0,0,0⟩),.var g4 289 (.agg 8 ((addTo x y i).map fun x=>.lit (w32v x)))]) (fun i=>i<=8) (fun i=>8 - i) 0 ⟨rfl,rfl,rfl,rfl,trivial⟩ (by repeat (first|exact List.nil_sublist _|exact List.Sublist.refl _|apply List.Sublist.cons_cons|apply List.Sublist.cons)) (Nat.zero_le _) ?_
   intro i hi
   repeat' first|refine Wz ?_|intro _
   refine ac_cond (fun hlt=>?_) (fun hlt=>?_)
   ·have hi8:i < 8:=by omega
    repeat' (first|refine opW ?_|refine obW ?_|refine W ?_|refine ob2 (fun _=>?_)|intro _)
    apply obl_read [];exact rfl;exact rfl;kernel_rfl;intro _ _
    refine al_idxA i ?_
    exact al_nil (ae_got rfl rfl)
    apply obl_read [2];exact rfl;exact rfl;kernel_rfl
    ·intro _ _
     refine al_loadE (j:=i) (ps:=(addTo x y i).map fun x=>.lit (w32v x)) (u:=w32A (x.words.getD i 0)) (by rw [List.getElem?_map,addTo_get x y i hi8];rfl) ?_
     exact al_nil (ae_got rfl rfl)
    repeat' (first|refine opW ?_|refine obW ?_|refine W ?_|refine ob2 (fun _=>?_)|intro _)
    apply obl_read [];exact rfl;exact rfl;kernel_rfl;intro _ _
    refine al_idxA i ?_
    exact al_nil (ae_got rfl rfl)
    apply obl_read [0];exact rfl;exact rfl;kernel_rfl;intro _ _
    refine al_loadE (j:=i) (ps:=y.words.map fun x=>.lit (w32v x)) (u:=w32A (y.words.getD i 0)) (by rw [List.getElem?_map,words_get y i hi8];rfl) ?_
    exact al_nil (ae_got rfl rfl)
    repeat' (first|refine opW ?_|refine obW ?_|refine W ?_|refine ob2 (fun _=>?_)|intro _)
    apply obl_read [];exact rfl;exact rfl;kernel_rfl;intro _ _
    refine al_idxA i ?_
    exact al_nil (ae_got rfl rfl)
    apply obl_writeN [2];exact rfl;exact rfl;kernel_rfl
    ·intro _ _
     refine al_storeE (j:=i) (ps:=(addTo x y i).map fun x=>.lit (w32v x)) (by simp [addTo_len x y i hi];omega) ?_
     exact al_nil (ae_gotN rfl)
    ·exact rfl
    ·exact rfl
    repeat' (first|refine opW ?_|refine obW ?_|refine W ?_|refine ob2 (fun _=>?_)|intro _)
    rw [addTo_map x y i hi8]
    exact ae_round (i + 1) ⟨rfl,rfl,rfl,rfl,trivial⟩ slr (by omega) (by omega)
   ·obtain rfl:i=8:=by omega
    repeat' (first|refine opW ?_|refine obW ?_|refine W ?_|refine ob2 (fun _=>?_)|intro _)
    refine reE ?_
    rfl⟩
end Go.Proofs.YtlkkekpcofjbeaaGreatDoor

namespace Go.Proofs.YtlkkekpcofjbeaaGreatDoor
open Go Go.RowKit Tw Av
instance rrEnd {g:Nat}{s:Bs}{b:Bool}:AnsM Tryz.prog GL 84 g [] 144 (rdA s b) True (int (reE' s b)) (rdA s b):=⟨fun _=>by
 refine qE Tryz.func84 rfl Tryz.ntmps84 rfl (fun _ hs=>?_)
 cases b
 ·cases s with
  | nil=>
   repeat' first|refine Yz ?_|intro _
   exact reK _ ⟨rfl,rfl⟩ slr
  | cons c s=>
   repeat' first|refine Yz ?_|intro _
   exact reK _ ⟨rfl,rfl⟩ slr
 ·repeat' first|refine Yz ?_|intro _
  exact reK _ ⟨rfl,rfl⟩ slr⟩
instance rrText {g:Nat}{s:Bs}{b:Bool}{c most:Int}:AnsM Tryz.prog GL 82 g [.lit (.int .u8 c),int most] 144 (rdA s b) (s.length<=4611686018427387904) (str (rtT c most s b)) (rdA (rsT c most s b) (rbT c most s b)):=⟨fun hl=>by
 refine qE Tryz.func82 rfl Tryz.ntmps82 rfl (fun _ hs=>?_)
 cases b
 rotate_left
 ·repeat' first|refine Yz ?_|intro _
  refine reK [.var g 144 (rdA s true)] ⟨?_,?_⟩ slr
  ·rw [rtT,rbT_bad];rfl
  ·rw [rsT,rbT,rbT_bad];rfl
 rcases s with _|⟨s0,_|⟨s1,_|⟨s2,_|⟨s3,r⟩⟩⟩⟩
 ·repeat' first|refine Yz ?_|intro _
  exact reK [.var g 144 (rdA [] true)] ⟨rfl,rfl⟩ slr
 ·repeat' first|refine Yz ?_|intro _
  exact reK [.var g 144 (rdA [s0] true)] ⟨rfl,rfl⟩ slr
 ·repeat' first|refine Yz ?_|intro _
  exact reK [.var g 144 (rdA [s0,s1] true)] ⟨rfl,rfl⟩ slr
 ·repeat' first|refine Yz ?_|intro _
  exact reK [.var g 144 (rdA [s0,s1,s2] true)] ⟨rfl,rfl⟩ slr
 have hlen:(s0::s1::s2::s3::r).length=r.length + 4:=rfl
 have q1:=s1.toNat_lt
 have q2:=s2.toNat_lt
 have q3:=s3.toNat_lt
 by_cases hc:(s0.toNat:Int)=c
 rotate_left
 ·have e:cutT c most false (s0::s1::s2::s3::r)=none:=by rw [cutT,if_neg (fun h=>hc h.2.1)]
  repeat' first|refine Yz ?_|intro _
  refine reK [.var g 144 (rdA (s0::s1::s2::s3::r) true)] ⟨?_,?_⟩ slr
  ·rw [rtT,e];rfl
  ·rw [rsT,rbT,e];rfl
 have hv:(s1.toNat:Int) * 65536 + (s2.toNat:Int) * 256 + (s3.toNat:Int)=(len3 s1 s2 s3:Nat):=by simp [len3];omega
 have hlt:=len3_lt s1 s2 s3
 have hct:cutT c most false (s0::s1::s2::s3::r)=if (len3 s1 s2 s3:Int)<=most/\len3 s1 s2 s3<=r.length then some (r.take (len3 s1 s2 s3),r.drop (len3 s1 s2 s3)) else none:=by
  rw [cutT]
  simp [hc]
 repeat' first|refine Yz ?_|intro _
 rw [hv]
 generalize len3 s1 s2 s3=n at *
 by_cases h1:(n:Int)<=most
 rotate_left
 ·have e:cutT c most false (s0::s1::s2::s3::r)=none:=by rw [hct,if_neg (fun h=>h1 h.1)]
  repeat' first|refine Yz ?_|intro _
  refine reK [.var g 144 (rdA (s0::s1::s2::s3::r) true)] ⟨?_,?_⟩ slr
  ·rw [rtT,e];rfl
  ·rw [rsT,rbT,e];rfl
 by_cases h2:n<=r.length
 rotate_left
 ·have e:cutT c most false (s0::s1::s2::s3::r)=none:=by rw [hct,if_neg (fun h=>h2 h.2)]
  repeat' first|refine Yz ?_|intro _
  refine reK [.var g 144 (rdA (s0::s1::s2::s3::r) true)] ⟨?_,?_⟩ slr
  ·rw [rtT,e];rfl
  ·rw [rsT,rbT,e];rfl
 have e:cutT c most false (s0::s1::s2::s3::r)=some (r.take n,r.drop n):=by rw [hct,if_pos ⟨h1,h2⟩]
 repeat' first|refine Yz ?_|intro _
 refine al_sliceS 4 (4 + n) ?_
 repeat' first|refine Yz ?_|intro _
 refine al_sliceS (4 + n) (r.length + 4) ?_
 repeat' first|refine Yz ?_|intro _
 refine reK [.var g 144 (rdA (r.drop n) false)] ⟨?_,?_⟩ ?_
 ·rw [rtT,e]
  simp [outOf,Nat.add_comm]
 ·rw [rsT,rbT,e];rfl
 ·have e2:List.drop (4 + n) (List.take (r.length + 4) (s0::s1::s2::s3::r))=r.drop n:=by
   rw [List.take_of_length_le (by simp),Nat.add_comm 4 n]
   simp
  rw [e2]
  exact List.Sublist.refl _⟩
instance rrNum {g:Nat}{s:Bs}{b:Bool}{c:Int}:AnsM Tryz.prog GL 147 g [.lit (.int .u8 c)] 144 (rdA s b) (s.length<=4611686018427387904) (.lit (.int .u64 (rnN c s b))) (rdA (rsT c 8 s b) (rnB c s b)):=⟨fun hl=>by
 refine qE Tryz.func147 rfl Tryz.ntmps147 rfl (fun _ hs=>?_)
 repeat' first|refine Yz ?_|intro _
 have hx:=(rtT_len c 8 s b).2 (by decide)
 rw [rnB,rnN_eq]
 generalize rtT c 8 s b=x at *
 refine ac_loop (α:=Nat) (fun i=>[(0,ptr g),(5,str x),(6,.lit (.int .u64 (numOf (x.take i):Nat))),(7,int i)]) (fun _=>[.var g 144 (rdA (rsT c 8 s b) (rbT c 8 s b))])
  (fun i=>i<=x.length) (fun i=>x.length - i) 0 ⟨rfl,rfl,rfl,rfl,trivial⟩ slr (by omega) ?_
 intro i hi
 repeat' first|refine Yz ?_|intro _
 refine ac_cond (fun hlt=>?_) (fun hlt=>?_)
 ·have hil:i < x.length:=by omega
  have h1:=numOf_take hil
  have h2:=x[i].toNat_lt
  have h3:=numOf_small (l:=x.take (i + 1)) (by simp;omega)
  repeat' first|refine Yz ?_|intro _
  refine al_idxS i ?_ (List.getElem?_eq_getElem hil)
  repeat' first|refine Yz ?_|intro _
  refine ae_round (i + 1) ⟨rfl,rfl,?_,rfl,trivial⟩ slr hil (by omega)
  rw [h1]
  rfl
 ·obtain rfl:i=x.length:=by omega
  rw [List.take_length]
  have hdg:=digits_num (l:=x) (by omega)
  have hns:=numOf_small (l:=x) (by omega)
  repeat' first|refine Yz ?_|intro _
  cases h0:lead0 x
  ·have e:=hdg.2 h0
   refine ac_cond (fun h=>absurd e h) (fun _=>?_)
   repeat' first|refine Yz ?_|intro _
   refine reK [.var g 144 (rdA (rsT c 8 s b) (rbT c 8 s b))] ⟨rfl,?_⟩ slr
   simp
  ·refine ac_cond (fun _=>?_) (fun h=>?_)
   rotate_left
   ·exact absurd (hdg.1 (Classical.not_not.1 h)) (by rw [h0];simp)
   repeat' first|refine Yz ?_|intro _
   refine reK [.var g 144 (rdA (rsT c 8 s b) true)] ⟨rfl,?_⟩ slr
   simp⟩
theorem rnB_zero {c:Int}{s:Bs}{b:Bool}(h:rnB c s b=true):rnN c s b=0:=by
 rw [rnN_eq]
 unfold rnB at h
 rcases Bool.or_eq_true_iff.1 h with h|h
 ·have:rtT c 8 s b=[]:=by
   unfold rbT at h
   rw [rtT,Option.isNone_iff_eq_none.1 h]
   rfl
  rw [this]
  rfl
 ·rw [if_pos h]
instance rrInt {g:Nat}{s:Bs}{b:Bool}{c most:Int}:AnsM Tryz.prog GL 81 g [.lit (.int .u8 c),int most] 144 (rdA s b) (s.length<=4611686018427387904/\0<=most/\most<=9223372036854775807) (int (riI c most s b)) (rdA (rsT c 8 s b) (riB c most s b)):=⟨fun hp=>by
 obtain⟨hl,h0,h1⟩:=hp
 refine qE Tryz.func81 rfl Tryz.ntmps81 rfl (fun _ hs=>?_)
 repeat' first|refine Yz ?_|intro _
 have hx:=rnN_lt c s b
 have hz:=rnB_zero (c:=c) (s:=s) (b:=b)
 rw [riI,riB]
 generalize rnN c s b=n at *
 by_cases h:most < (n:Int)
 ·rw [if_pos h,dT h]
  repeat' first|refine Yz ?_|intro _
  refine reK [.var g 144 (rdA (rsT c 8 s b) true)] ⟨rfl,?_⟩ slr
  simp
 ·rw [if_neg h,dZ h]
  cases hb:rnB c s b
  ·repeat' first|refine Yz ?_|intro _
   refine reK [.var g 144 (rdA (rsT c 8 s b) false)] ⟨rfl,?_⟩ slr
   simp
  ·obtain rfl:=hz hb
   repeat' first|refine Yz ?_|intro _
   refine reK [.var g 144 (rdA (rsT c 8 s b) true)] ⟨rfl,?_⟩ slr
   simp⟩
theorem rtT_most {c:Int}{s:Bs}{b:Bool}:rtT c 16777216 s b=rtT c 16777215 s b/\rsT c 16777216 s b=rsT c 16777215 s b/\rbT c 16777216 s b=rbT c 16777215 s b:=by
 have h:cutT c 16777216 b s=cutT c 16777215 b s:=by
  unfold cutT
  split
  ·rename_i s0 s1 s2 s3 r
   have:=len3_lt s1 s2 s3
   by_cases h1:b=false/\(s0.toNat:Int)=c/\len3 s1 s2 s3<=r.length
   ·rw [if_pos ⟨h1.1,h1.2.1,by omega,h1.2.2⟩,if_pos ⟨h1.1,h1.2.1,by omega,h1.2.2⟩]
   ·rw [if_neg (fun h=>h1 ⟨h.1,h.2.1,h.2.2.2⟩),if_neg (fun h=>h1 ⟨h.1,h.2.1,h.2.2.2⟩)]
  ·rfl
 unfold rtT rsT rbT
 rw [h]
 exact⟨rfl,rfl,rfl⟩
instance rrAll {g:Nat}{s:Bs}{b:Bool}{c many most:Int}:AnsM Tryz.prog GL 214 g [.lit (.int .u8 c),int many,int most] 144 (rdA s b) (s.length<=1000000000) (.sl 1 ((raL c many most s b).map str) none) (rdA (rsT c 16777215 s b) (raB c many most s b)):=⟨fun hl=>by
 refine qE Tryz.func214 rfl Tryz.ntmps214 rfl (fun _ hs=>?_)
 repeat' first|refine Yz ?_|intro _
 rw [rtT_most.1,rtT_most.2.1,rtT_most.2.2]
 have hx:=(rtT_len c 16777215 s b).1
 have hx2:=(rsT_len c 16777215 s b).1
 rw [raL,raB]
 generalize rtT c 16777215 s b=x at *
 generalize rsT c 16777215 s b=s1 at *
 generalize rbT c 16777215 s b=b1 at *
 generalize hX:allX c most x=X at *
 rename_i gr
 refine ac_as 10 (Imp.nil (k:=1)) ?_
 refine ac_st (fun ok w h=>h.full 9 1 none 0) ?_
 refine ac_midB (α:=Value × Bs) (fun q=>[(0,ptr g),(2,int many),(9,ptr gr),(10,.sl 1 (X.1.map str) (some q.1))]) (fun q=>[.tail 9 1 q.1,.var gr 144 (rdA q.2 X.2),.var g 144 (rdA s1 b1)]) ?_ (fun q=>?_)
 rotate_left
 ·rcases q with⟨v,s2⟩
  dsimp only
  have hml:(X.1.map str).length=X.1.length:=llm _
  unfold outA badA
  cases hq:X.2
  ·by_cases hm:many < (X.1.length:Int)
   ·rw [dT hm,Bool.or_true,Bool.or_true,if_pos rfl]
    repeat' first|refine Yz ?_|intro _
    refine reIKm (.sl 1 [] none) [.var g 144 (rdA s1 true)] ?_ ⟨rfl,rfl⟩ ?_
    focus
     exact Imp.nilN
    exact sbl
   ·rw [dZ hm,Bool.or_false,Bool.or_false]
    cases b1
    ·repeat' first|refine Yz ?_|intro _
     refine reIKm (.sl 1 (X.1.map str) none) [.var g 144 (rdA s1 false)] ?_ ⟨rfl,rfl⟩ ?_
     focus
      exact Imp.sl
     exact sbl
    ·repeat' first|refine Yz ?_|intro _
     refine reIKm (.sl 1 [] none) [.var g 144 (rdA s1 true)] ?_ ⟨rfl,rfl⟩ ?_
     focus
      exact Imp.nilN
     exact sbl
  ·rw [Bool.true_or,Bool.or_true,if_pos rfl]
   repeat' first|refine Yz ?_|intro _
   refine reIKm (.sl 1 [] none) [.var g 144 (rdA s1 true)] ?_ ⟨rfl,rfl⟩ ?_
   focus
    exact Imp.nilN
   exact sbl
 refine ac_loop (α:=List Bs × Value × Bs × Bool × Nat) (fun q=>[(0,ptr g),(1,.lit (.int .u8 c)),(2,int many),(3,int most),(9,ptr gr),(10,.sl 1 (q.1.map str) (some q.2.1))])
   (fun q=>[.tail 9 1 q.2.1,.var gr 144 (rdA q.2.2.1 q.2.2.2.1),.var g 144 (rdA s1 b1)])
   (fun q=>X=(q.1++(bods c most q.2.2.2.2 q.2.2.1 q.2.2.2.1).1,(bods c most q.2.2.2.2 q.2.2.1 q.2.2.2.1).2)/\(q.2.2.2.1=false->q.2.2.1.length < q.2.2.2.2)/\(q.2.2.2.1=false->q.1.length + q.2.2.1.length<=x.length)/\q.1.length<=x.length) (fun q=>q.2.2.2.2) ([],.slice none 0 0,x,false,x.length + 1) ⟨rfl,rfl,rfl,rfl,rfl,rfl,trivial⟩ slr ⟨hX.symm,fun _=>by dsimp only;omega,fun _=>by simp,by simp⟩ ?_
 rintro⟨acc,v,s2,b2,f⟩ ⟨e1,e2,e3,e4⟩
 dsimp only at e1 e2 e3 e4 ⊢
 cases b2
 rotate_left
 ·rw [bods_bad,List.append_nil] at e1
  subst e1
  cases s2 with
  | nil=>
   repeat' first|refine Yz ?_|intro _
   refine ae_cut (v,[]) ⟨rfl,rfl,rfl,rfl,trivial⟩ ?_
   exact sbl
  | cons a s2=>
   repeat' first|refine Yz ?_|intro _
   refine ae_cut (v,a::s2) ⟨rfl,rfl,rfl,rfl,trivial⟩ ?_
   exact sbl
 have e2:=e2 rfl
 have e3:=e3 rfl
 rcases f with _|f
 ·omega
 cases s2 with
 | nil=>
  rw [bods_nil,List.append_nil] at e1
  subst e1
  repeat' first|refine Yz ?_|intro _
  refine ae_cut (v,[]) ⟨rfl,rfl,rfl,rfl,trivial⟩ ?_
  exact sbl
 | cons a s2=>
  rw [bods_cons] at e1
  have hle:=(rsT_len c most (a::s2) false).1
  have hlt:=rsT_dec (c:=c) (most:=most) (s:=a::s2) (b:=false)
  have hl3:(a::s2).length=s2.length + 1:=rfl
  have hma:(acc.map str).length=acc.length:=llm _
  repeat' first|refine Yz ?_|intro _
  refine al_append (fun v'=>?_)
  repeat' first|refine Yz ?_|intro _
  refine ae_round (acc++[rtT c most (a::s2) false],v',rsT c most (a::s2) false,rbT c most (a::s2) false,f) ⟨rfl,rfl,rfl,rfl,rfl,?_,trivial⟩ slr ⟨by simpa using e1,fun h=>?_,fun h=>?_,?_⟩ (by dsimp only;omega)
  ·rw [List.map_append];rfl
  ·have:=hlt h
   dsimp only
   omega
  ·have:=hlt h
   simp only [List.length_append,List.length_cons,List.length_nil] at *
   omega
  ·simp only [List.length_append,List.length_cons,List.length_nil] at *
   omega⟩

theorem tUB:Tryz.prog.underlying 265=some (.pointer 267):=by kernel_rfl
theorem tUU:Tryz.prog.underlying 313=some .unsafePointer:=by kernel_rfl
theorem tUS:(Tryz.prog.info? 267).map (·.size)=some 2:=by kernel_rfl
theorem tUL:liesAt Tryz.prog Tryz.prog.depth 267 (2 / Tryz.prog.cellsOf 267) 0 267 1=true:=by kernel_rfl
theorem tUP:Tryz.prog.underlying 296=some (.pointer 5):=by kernel_rfl
theorem tUC:Tryz.prog.cellsOf 5=1:=by kernel_rfl
def Bld (g:Nat)(l:Bs)(m:List Av.Piece):Prop:=∃ p:Option Addr,(p=none\/p=some ⟨g,0,none⟩)/\((l=[]/\m=[.var g 267 (.agg 2 [.lit (.pointer p),nils])]) \/
 ∃ g' c,l≠[]/\l.length<=c/\m=[.var g 267 (.agg 2 [.lit (.pointer p),.lit (.slice (some ⟨g',0,none⟩) l.length c)]),.buf g' 5 1 (bytA l) c])
theorem ccheck {g:Nat}{p:Option Addr}{v:AV}(hp:p=none\/p=some ⟨g,0,none⟩)(_:v.size=1):Av.Spec Tryz.prog GL 267 [ptr g] [.var g 267 (.agg 2 [.lit (.pointer p),v])] fun u m=>u=.tup []/\m=[.var g 267 (.agg 2 [ptr g,v])]:=by
 obtain⟨j,hj,hjs⟩:=Option.map_eq_some_iff.1 tUS
 refine qE Tryz.func267 rfl Tryz.ntmps267 rfl (fun _ hs=>?_)
 rcases hp with rfl|rfl
 ·repeat' first|refine Vz ?_|intro _
  refine al_toUnsafe (n:=2) tUB tUU hj (by rw [hjs];decide) (by decide) ?_
  apply al_ext (v:=ptr g) (en:=Extern.AbiNoEscape.same) Tryz.func290;kernel_rfl;exact rfl;kernel_rfl;kernel_rfl;exact rfl;exact rfl;exact rfl
  focus
   intro ok w cs _ hv
   obtain⟨u1,us,rfl,h1,rfl⟩:=hv
   exact⟨u1,rfl,RV.of0 h1⟩
  refine al_fromUnsafe (n:=2) tUU tUB hj tUL ?_
  repeat' first|refine Vz ?_|intro _
  exact reN _ ⟨rfl,rfl⟩ slr
 ·repeat' first|refine Vz ?_|intro _
  refine al_ptrSame tUB hj ?_
  repeat' first|refine Vz ?_|intro _
  exact reN _ ⟨rfl,rfl⟩ slr
theorem bwrite {g:Nat}{l a:Bs}{m:List Av.Piece}(hb:Bld g l m)(hl:l.length + a.length<=140737488355328):Av.Spec Tryz.prog GL 234 [ptr g,str a] m fun u m=>u=.tup [int a.length,.lit .nilIface]/\Bld g (l++a) m:=by
 obtain⟨p,hp,⟨rfl,rfl⟩|⟨g',c,h0,hc,rfl⟩⟩:=hb
 ·refine qE Tryz.func234 rfl Tryz.ntmps234 rfl (fun _ hs=>?_)
  repeat' first|refine Vz ?_|intro _
  refine al_callK (args:=[ptr g]) [.var g 267 (.agg 2 [.lit (.pointer p),nils])] [] (by rw [hs];exact ccheck hp rfl) (fun u m1 hh=>?_) lpr
  obtain⟨rfl,rfl⟩:=hh
  rcases a with _|⟨x,a⟩
  focus
   repeat' first|refine Vz ?_|intro _
   refine al_appendNE ?_
   repeat' first|refine Vz ?_|intro _
   exact reK _ ⟨rfl,_,.inr rfl,.inl ⟨rfl,rfl⟩⟩ slr
  focus
   have hl2:(x::a).length=a.length + 1:=rfl
   have hl1:([]:Bs).length=0:=rfl
   repeat' first|refine Vz ?_|intro _
   refine al_appendNS (fun g' c' hc'=>?_)
   repeat' first|refine Vz ?_|intro _
   refine ae_st (fun ok w h=>h.perm (List.Perm.swap _ _ _)) ?_
   refine reK _ ⟨rfl,_,.inr rfl,.inr ⟨g',c',by simp,hc',rfl⟩⟩ slr
 ·refine qE Tryz.func234 rfl Tryz.ntmps234 rfl (fun _ hs=>?_)
  repeat' first|refine Vz ?_|intro _
  refine al_callK (args:=[ptr g]) [.var g 267 (.agg 2 [.lit (.pointer p),.lit (.slice (some ⟨g',0,none⟩) l.length c)])] [.buf g' 5 1 (bytA l) c] (by rw [hs];exact ccheck hp rfl) (fun u m1 hh=>?_) lpr
  obtain⟨rfl,rfl⟩:=hh
  have hbl:=bytA_len l
  repeat' first|refine Vz ?_|intro _
  refine al_appendBS (fun g' c' hc'=>?_)
  repeat' first|refine Vz ?_|intro _
  refine reK _ ⟨rfl,_,.inr rfl,.inr ⟨g',c',by simp [h0],by simpa using hc',?_⟩⟩ slr
  rw [lla,show bytA (l++a)=bytA l++bytA a from List.map_append]
theorem bstring {g:Nat}{l:Bs}{m:List Av.Piece}(hb:Bld g l m)(hl:l.length<=140737488355328):Av.Spec Tryz.prog GL 235 [ptr g] m fun u _=>u=str l:=by
 obtain⟨p,hp,⟨rfl,rfl⟩|⟨g',c,h0,hc,rfl⟩⟩:=hb
 ·refine qE Tryz.func235 rfl Tryz.ntmps235 rfl (fun _ hs=>?_)
  repeat' first|refine Vz ?_|intro _
  apply obl_read [];exact rfl;exact rfl;kernel_rfl;intro _ _
  refine al_sliceDataN ?_
  exact al_nil (ae_got rfl rfl)
  repeat' first|refine Vz ?_|intro _
  apply obl_read [];exact rfl;exact rfl;kernel_rfl;intro _ _
  refine al_unsafeStrN ?_
  exact al_nil (ae_got rfl rfl)
  repeat' first|refine Vz ?_|intro _
  exact reK [] rfl (List.nil_sublist _)
 ·refine qE Tryz.func235 rfl Tryz.ntmps235 rfl (fun _ hs=>?_)
  have hc0:c≠0:=by
   have:=List.length_pos_iff.2 h0
   omega
  repeat' first|refine Vz ?_|intro _
  apply obl_read [];exact rfl;exact rfl;kernel_rfl;intro _ _
  refine al_sliceData (c:=c) ?_ hc0
  exact al_nil (ae_got rfl rfl)
  repeat' first|refine Vz ?_|intro _
  apply obl_write [1];exact rfl;exact rfl;kernel_rfl
  focus
   intro _ _
   refine al_unsafeStr (l:=l) (c:=c) tUP tUC h0 ?_
   exact al_nil (ae_got rfl rfl)
  focus
   exact rfl
  focus
   exact rfl
  repeat' first|refine Vz ?_|intro _
  exact reK [] rfl (List.nil_sublist _)
end Go.Proofs.YtlkkekpcofjbeaaGreatDoor
