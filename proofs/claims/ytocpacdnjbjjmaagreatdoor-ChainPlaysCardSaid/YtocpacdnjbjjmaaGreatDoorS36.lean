/- . -/
import Derived.Test.YtocpacdnjbjjmaaGreatDoorS35
set_option maxHeartbeats 64000000
namespace Go.Proofs.YtocpacdnjbjjmaaGreatDoor
open Go Go.RowKit Tw Av Go.Proofs.Tryz
instance b7a {s:Bs}:Ans prog GL 189 [str s] (s.length<=1000000000) (j3 (W9 s)):=⟨fun hl=>by
 have hlen:=EG s;have hcnt:=List.count_le_length (l:=s) (a:=(47:UInt8));refine qE func189 rfl ntmps189 rfl (fun _ hs=>?_);repeat' first|refine Vz ?_|intro _
 have hml:((A8 s).map str).length=(A8 s).length:=llm _;refine z8 (α:=Nat) (fun i=>[(0,str s),(3,.sl 1 ((A8 s).map str) none),(4,int i)]) (fun i=>[]) (fun i=>i<=(A8 s).length/\∀ j,(hj:j<(A8 s).length)->j<i->H9 (A8 s)[j]=true) (fun i=>(A8 s).length-i) 0 ⟨rfl,rfl,rfl,trivial⟩ slr ⟨Nat.zero_le _,fun _ _ h=>absurd h om⟩ ?_;rintro i ⟨hi,hall⟩;repeat' first|refine Vz ?_|intro _
 refine o9 (fun hlt=>?_) (fun hlt=>?_)
 ·have hil:i<(A8 s).length:=om
  have hpl:(A8 s)[i].length<=4611686018427387904:=Nat.le_trans (QH (List.getElem_mem hil)) om;repeat' first|refine Vz ?_|intro _
  cases hb:H9 (A8 s)[i]
  ·repeat' first|refine Vz ?_|intro _
   refine d9 ?_;have:W9 s=false:=by
    unfold W9;have:(A8 s).all H9=false:=List.all_eq_false.2 ⟨_,List.getElem_mem hil,by rw[hb];decide⟩;rw[this];simp
   rw[this];rfl
  ·repeat' first|refine Vz ?_|intro _
   refine o6 (i+1) ⟨rfl,rfl,rfl,trivial⟩ slr ⟨hil,fun j hj h=>?_⟩ om;by_cases hj2:j<i
   ·exact hall j hj hj2
   ·obtain rfl:j=i:=by omega
    exact hb
 ·obtain rfl:i=(A8 s).length:=by omega
  have ht:(A8 s).all H9=true:=List.all_eq_true.2 fun x hx=>by
   obtain⟨j,hj,rfl⟩:=List.getElem_of_mem hx;exact hall j hj hj
  have hd:W9 s=(decide (s.length<=200)&&decide ((A8 s).length<=5)):=by
   unfold W9;rw[ht,Bool.true_and]
  rw[hd];repeat' first|refine Vz ?_|intro _
  refine Y5 (fun h=>?_) (fun h=>?_)
  ·repeat' first|refine Vz ?_|intro _
   refine d9 ?_;rw[dT (show (A8 s).length<=5 by omega),Bool.and_true,decide_eq_decide.2 (show s.length<=200↔(s.length:Int)<=200 by omega)];rfl
  ·repeat' first|refine Zz ?_|intro _
   refine d9 ?_;rw[dZ (show ¬ (A8 s).length<=5 by omega),Bool.and_false];rfl⟩
theorem a3A {s:Bs}:((A8 s).length:Int)-1=(s.count 47:Nat):=by
 have:=EG s;omega
instance b6Z {s:Bs}:Ans prog GL 191 [str s] (s.length<=1000000000) (int (iK s)):=⟨fun hl=>by
 have hlen:=EG s;have hcnt:=List.count_le_length (l:=s) (a:=(47:UInt8));have hml:((A8 s).map str).length=(A8 s).length:=llm _;refine qE func191 rfl ntmps191 rfl (fun _ hs=>?_);repeat' first|refine Vz ?_|intro _
 unfold iK;cases hb:W9 s
 ·repeat' first|refine Vz ?_|intro _
  refine d9 ?_;rfl
 ·repeat' first|refine Vz ?_|intro _
  refine d9 ?_;show int (((A8 s).map str).length-1)=_;rw[hml,a3A];rfl⟩
instance b4I {s:Bs}:Ans prog GL 297 [str s] (s.length<=1000000000) (int (iK s)):=⟨fun hl=>by
 refine qE func297 rfl ntmps297 rfl (fun _ hs=>?_);repeat' first|refine Vz ?_|intro _
 unfold iK;cases hb:W9 s
 ·repeat' first|refine Vz ?_|intro _
  refine d9 ?_;rfl
 ·repeat' first|refine Vz ?_|intro _
  refine d9 ?_;rfl⟩
instance b8L {s:Bs}:Ans prog GL 352 [str s] True (j3 (M5 s)):=⟨fun _=>by
 refine qE func352 rfl ntmps352 rfl (fun _ hs=>?_);repeat' first|refine Vz ?_|intro _
 unfold M5;rcases s with _|⟨c,s⟩
 ·repeat' first|refine Zz ?_|intro _
  refine d9 ?_;rfl
 ·repeat' first|refine Zz ?_|intro _
  refine d9 ?_;rw[decide_eq_decide.2 (show (1<=(c::s).length/\(c::s).length<=64)↔(((c::s).length:Int)<=64) by rw[List.length_cons];omega)];rfl⟩
instance b8R {s:Bs}:Ans prog GL 407 [str s] True (j3 (V3 s)):=⟨fun _=>by
 refine qE func407 rfl ntmps407 rfl (fun _ hs=>?_);repeat' first|refine Vz ?_|intro _
 unfold V3;rcases s with _|⟨c,s⟩
 ·repeat' first|refine Zz ?_|intro _
  refine d9 ?_;rfl
 ·repeat' first|refine Zz ?_|intro _
  refine d9 ?_;rw[decide_eq_decide.2 (show (1<=(c::s).length/\(c::s).length<=200)↔(((c::s).length:Int)<=200) by rw[List.length_cons];omega)];rfl⟩
instance b7b {s:Bs}:Ans prog GL 262 [str s] True (j3 (M5 s)):=⟨fun _=>by
 refine qE func262 rfl ntmps262 rfl (fun _ hs=>?_);repeat' first|refine Vz ?_|intro _
 unfold M5;by_cases h:1<=s.length
 ·repeat' first|refine Zz ?_|intro _
  refine d9 ?_;rw[decide_eq_decide.2 (show (1<=s.length/\s.length<=64)↔((s.length:Int)<=64) by omega)];rfl
 ·repeat' first|refine Zz ?_|intro _
  refine d9 ?_;rw[dZ (show ¬ (1<=s.length/\s.length<=64) by omega)];rfl⟩
instance b7c {s:Bs}:Ans prog GL 263 [str s] True (j3 (V3 s)):=⟨fun _=>by
 refine qE func263 rfl ntmps263 rfl (fun _ hs=>?_);repeat' first|refine Vz ?_|intro _
 unfold V3;by_cases h:1<=s.length
 ·repeat' first|refine Zz ?_|intro _
  refine d9 ?_;rw[decide_eq_decide.2 (show (1<=s.length/\s.length<=200)↔((s.length:Int)<=200) by omega)];rfl
 ·repeat' first|refine Zz ?_|intro _
  refine d9 ?_;rw[dZ (show ¬ (1<=s.length/\s.length<=200) by omega)];rfl⟩
instance b7g {s:Bs}:Ans prog GL 298 [str s] True (j3 (Y3 s)):=⟨fun _=>by
 refine qE func298 rfl ntmps298 rfl (fun _ hs=>?_);repeat' first|refine Vz ?_|intro _
 unfold Y3;cases hb:M5 s
 ·repeat' first|refine Zz ?_|intro _
  refine d9 ?_;rw[Bool.and_false];rfl
 ·repeat' first|refine Zz ?_|intro _
  refine d9 ?_;rw[Bool.and_true,Bool.not_not];rfl⟩
instance b6W {s:Bs}:Ans prog GL 190 [str s] (s.length<=4611686018427387904) (j3 (Y3 s)):=⟨fun hl=>by
 refine qE func190 rfl ntmps190 rfl (fun _ hs=>?_);repeat' first|refine Vz ?_|intro _
 refine z8 (α:=Nat) (fun i=>[(0,str s),(3,int i)]) (fun i=>[]) (fun i=>i<=s.length/\∀ j,j<i->(s.getD j 0).toNat≠47) (fun i=>s.length-i) 0 ⟨rfl,rfl,trivial⟩ slr ⟨Nat.zero_le _,fun _ h=>absurd h om⟩ ?_;rintro i ⟨hi,hall⟩;repeat' first|refine Vz ?_|intro _
 refine o9 (fun hlt=>?_) (fun hlt=>?_)
 ·have hil:i<s.length:=om
  repeat' first|refine Vz ?_|intro _
  refine rQ i ?_ (List.getElem?_eq_getElem hil);repeat' first|refine Vz ?_|intro _
  refine o9 (fun h=>?_) (fun h=>?_)
  ·repeat' first|refine Vz ?_|intro _
   refine d9 ?_;unfold Y3;rw[SX hil (by rw[getD_in hil];omega)];rfl
  ·repeat' first|refine Vz ?_|intro _
   refine o6 (i+1) ⟨rfl,rfl,trivial⟩ slr ⟨hil,fun j hj=>?_⟩ om;by_cases hj2:j<i
   ·exact hall j hj2
   ·obtain rfl:j=i:=by omega
    rw[getD_in hil];omega
 ·have hy:iG s=true:=LV.2 fun j hj=>hall j om;repeat' first|refine Vz ?_|intro _
  refine d9 ?_;unfold Y3;rw[hy,Bool.true_and];rfl⟩
instance b7e {a b:Bs}:Ans prog GL 426 [str a,str b] (a.length<=1000000000/\b.length<=1000000000) (str (a++[47]++b)):=⟨fun hp=>by
 obtain⟨h1,h2⟩:=hp;refine qE func426 rfl ntmps426 rfl (fun _ hs=>?_);repeat' first|refine Vz ?_|intro _
 refine d9 ?_;rfl⟩
theorem KY {c d:Bs}:SA c d=decide (d.take (c++[47]).length=c++[47]):=by
 unfold SA;rw[lla];rfl
instance b4Y {c d:Bs}:Ans prog GL 425 [str c,str d] (c.length<=1000000000/\d.length<=1000000000) (.tup [str (zY c d),j3 (qO c d)]):=⟨fun hp=>by
 obtain⟨h1,h2⟩:=hp;have hl:(c++[47]).length=c.length+1:=by rw[lla];rfl
 have hdl:(d.drop (c.length+1)).length<=1000000000:=by rw[List.length_drop];omega
 refine qE func425 rfl ntmps425 rfl (fun _ hs=>?_);unfold zY qO;rw[KY];repeat' (first|refine iN ?_|refine V7 ?_|refine bZ ?_|refine R9 ?_|intro _)
 rw[hl];by_cases h:d.take (c.length+1)=c++[47]
 ·rw[if_pos h,dT h,dZ (nni h),Bool.true_and];repeat' first|refine Zz ?_|intro _
  cases hb:W9 (d.drop (c.length+1))
  ·repeat' first|refine Zz ?_|intro _
   refine d9 ?_;rfl
  ·repeat' first|refine Zz ?_|intro _
   refine d9 ?_;rfl
 ·rw[if_neg h,dZ h,dT h,Bool.false_and];repeat' first|refine Zz ?_|intro _
  refine d9 ?_;rfl⟩
instance b6Y {c d:Bs}:Ans prog GL 344 [str c,str d] (c.length<=1000000000/\d.length<=1000000000) (.tup [str (zY c d),j3 (qO c d)]):=⟨fun hp=>by
 obtain⟨h1,h2⟩:=hp;have hl:(c++[47]).length=c.length+1:=by rw[lla];rfl
 refine qE func344 rfl ntmps344 rfl (fun _ hs=>?_);repeat' first|refine Vz ?_|intro _
 unfold zY qO;refine Y5 (fun hlt=>?_) (fun hlt=>?_)
 ·have h:¬ d.take (c++[47]).length=c++[47]:=fun e=>by
   have h2:=congrArg List.length e;rw[List.length_take] at h2;omega
  rw[KY,dZ h,Bool.false_and];repeat' first|refine Zz ?_|intro _
  refine d9 ?_;rfl
 ·repeat' first|refine Zz ?_|intro _
  refine Q7 0 (c++[47]).length ?_;rw[List.drop_zero];repeat' first|refine Zz ?_|intro _
  refine o9 (fun h=>?_) (fun h=>?_)
  ·rw[KY,dZ h,Bool.false_and];repeat' first|refine Zz ?_|intro _
   refine d9 ?_;rfl
  ·have h':=Classical.not_not.1 h;have hdl:(d.drop (c.length+1)).length<=1000000000:=by rw[List.length_drop];omega
   rw[KY,dT h',Bool.true_and];repeat' first|refine Zz ?_|intro _
   refine Q7 (c.length+1) d.length ?_;rw[List.take_length];cases hb:W9 (d.drop (c.length+1))
   ·repeat' first|refine Zz ?_|intro _
    rw[hb];repeat' first|refine Zz ?_|intro _
    refine d9 ?_;rfl
   ·repeat' first|refine Zz ?_|intro _
    rw[hb];repeat' first|refine Zz ?_|intro _
    refine Q7 (c.length+1) d.length ?_;rw[List.take_length];repeat' first|refine Zz ?_|intro _
    refine d9 ?_;rfl⟩

instance b5f {a b:Wd}:Ans prog GL 264 [C9 a,C9 b] True (.tup [C9 (X4 (a.n+b.n)),j3 (T9 (a.n+b.n))]):=⟨fun _=>by
 have hla:=aR a.n 32;have hlb:=aR b.n 32;refine qE func264 rfl ntmps264 rfl (fun _ hs=>?_);repeat' first|refine Vz ?_|intro _
 rename_i g2 g3 g4;refine aM 8 (Imp.nil (k:=1)) ?_;refine O5 (fun ok w h=>h.full 3 1 none 0) ?_;refine z8 (α:=Nat × Value) (fun q=>[(4,ptr g4),(6,.sl 1 (dI (I6 a.n 32)) none),(7,.sl 1 (dI (I6 b.n 32)) none),(8,.sl 1 (dI (I6 (a.n+b.n) q.1)) (some q.2)),(9,int (Y8 a.n b.n q.1)),(10,int q.1)]) (fun q=>[.tail 3 1 q.2,.var g4 94 (U5 0)]) (fun q=>q.1<=32) (fun q=>32-q.1) (0,.slice none 0 0) ⟨rfl,rfl,rfl,rfl,?_,rfl,trivial⟩ (by repeat (first|exact List.nil_sublist _|exact List.Sublist.refl _|apply List.Sublist.cons_cons|apply List.Sublist.cons)) (Nat.zero_le _) ?_
 ·rw[Mg];rfl
 rintro⟨i,v⟩ hi;dsimp only at hi ⊢;have hm:(dI (I6 (a.n+b.n) i)).length=i:=by rw[IE,aR]
 have hm2:=aR (a.n+b.n) i;have c1:=(CY a.n b.n i).1;repeat' first|refine Vz ?_|intro _
 refine o9 (fun hlt=>?_) (fun hlt=>?_)
 ·have hka:i<(I6 a.n 32).length:=om
  have hkb:i<(I6 b.n 32).length:=om
  have ea:=yH hka;have eb:=yH hkb;have da:=uS a.n i;have db:=uS b.n i;have e1:True->(((I6 a.n 32)[i].toNat:Int)+((I6 b.n 32)[i].toNat:Int)+(Y8 a.n b.n i:Int))%256=((dg (a.n+b.n) i:Nat):Int):=fun _=>by
   obtain⟨c1,c2,c3⟩:=CY a.n b.n i;omega
  have e2:True->(((I6 a.n 32)[i].toNat:Int)+((I6 b.n 32)[i].toNat:Int)+(Y8 a.n b.n i:Int)) / 256=((Y8 a.n b.n (i+1):Nat):Int):=fun _=>by
   obtain⟨c1,c2,c3⟩:=CY a.n b.n i;omega
  repeat' first|refine Vz ?_|intro _
  rw[e1 trivial];repeat' first|refine Vz ?_|intro _
  refine I4 (fun v'=>?_);repeat' first|refine Vz ?_|intro _
  rw[e2 trivial,<- VN];refine o6 (i+1,v') ⟨rfl,rfl,rfl,rfl,rfl,rfl,trivial⟩ ?_ (by dsimp only;omega) (by dsimp only;omega);exact r9
 ·obtain rfl:i=32:=by omega
  have hall:=a8Z a b;generalize Y8 a.n b.n 32=c at *;have e3:dI (I6 (a.n+b.n) 32)++[int (c:Int)]=dI (I6 (a.n+b.n) 32++[UInt8.ofNat c]):=by
   have h1:(UInt8.ofNat c).toNat=c:=by
    rw[UInt8.toNat_ofNat'];exact Nat.mod_eq_of_lt om
   rw[Lv,h1]
  have hlen:(I6 (a.n+b.n) 32++[UInt8.ofNat c]).length=32\/(I6 (a.n+b.n) 32++[UInt8.ofNat c]).length=33:=.inr (by rw[lla,aR];rfl);generalize I6 (a.n+b.n) 32=D at *;generalize hX:D++[UInt8.ofNat c]=X at *;repeat' first|refine Vz ?_|intro _
  refine I4 (fun v'=>?_);rw[e3];repeat' first|refine Vz ?_|intro _
  refine d9 ?_;rw[hall];rfl⟩
instance b5c {a b:Wd}:Ans prog GL 270 [C9 a,C9 b] True (.tup [C9 (X4 (a.n-b.n)),j3 (decide (b.n<=a.n))]):=⟨fun _=>by
 have hla:=aR a.n 32;have hlb:=aR b.n 32;by_cases hle:b.n<=a.n
 ·have hc:tF a b=0\/tF a b=1:=by
   unfold tF;rw[if_neg om];split
   ·exact .inr rfl
   ·exact .inl rfl
  have hnn:0<=tF a b:=om
  obtain⟨d,hd⟩:∃ d,a.n=d+b.n:=⟨a.n-b.n,om⟩;rw[dT hle,show a.n-b.n=d by omega];have hdl:d<115792089237316195423570985008687907853269984665640564039457584007913129639936:=Nat.lt_of_le_of_lt om a.lt;refine qE func270 rfl ntmps270 rfl (fun _ hs=>?_);repeat' first|refine Zz ?_|intro _
  rename_i g2 g3 g4;refine aM 8 (Imp.nil (k:=1)) ?_;refine O5 (fun ok w h=>h.full 3 1 none 0) ?_;refine z8 (α:=Nat × Value) (fun q=>[(4,ptr g4),(6,.sl 1 (dI (I6 a.n 32)) none),(7,.sl 1 (dI (I6 b.n 32)) none),(8,.sl 1 (dI (I6 d q.1)) (some q.2)),(9,int (Y8 d b.n q.1)),(10,int q.1)]) (fun q=>[.tail 3 1 q.2,.var g4 94 (U5 0)]) (fun q=>q.1<=32) (fun q=>32-q.1) (0,.slice none 0 0) ⟨rfl,rfl,rfl,rfl,?_,rfl,trivial⟩ (by repeat (first|exact List.nil_sublist _|exact List.Sublist.refl _|apply List.Sublist.cons_cons|apply List.Sublist.cons)) (Nat.zero_le _) ?_
  ·rw[Mg];rfl
  rintro⟨i,v⟩ hi;dsimp only at hi ⊢;have hm:(dI (I6 d i)).length=i:=by rw[IE,aR]
  have hm2:=aR d i;have c1:=(CY d b.n i).1;repeat' first|refine Vz ?_|intro _
  refine o9 (fun hlt=>?_) (fun hlt=>?_)
  ·have hka:i<(I6 a.n 32).length:=om
   have hkb:i<(I6 b.n 32).length:=om
   have ea:=yH hka;have eb:=yH hkb;have da:=uS a.n i;have db:=uS b.n i;have dd:=uS d i;obtain⟨z,hz,hzz⟩:=Yc hd i;have ez:(((I6 a.n 32)[i].toNat:Int)-((I6 b.n 32)[i].toNat:Int)-(Y8 d b.n i:Int))=z:=by omega
   have e1:=VN (n:=d) (k:=i);generalize dg d i=D at *;have hzb:-257<=z/\z<=256:=by omega
   repeat' first|refine Vz ?_|intro _
   rw[ez];clear hd hz ez ea eb da db;rcases hzz with⟨z1,z2,z3⟩|⟨z1,z2,z3⟩
   ·repeat' first|refine Zz ?_|intro _
    refine I4 (fun v'=>?_);repeat' first|refine Vz ?_|intro _
    rw[z2,<- e1];refine M6 9 (v:=int 1) (v':=int (Y8 d b.n (i+1))) (Imp.of_eq (by rw[z3];rfl)) ?_;refine o6 (i+1,v') ⟨rfl,rfl,rfl,rfl,rfl,rfl,trivial⟩ ?_ (by dsimp only;omega) (by dsimp only;omega);exact r9
   ·repeat' first|refine Zz ?_|intro _
    refine I4 (fun v'=>?_);repeat' first|refine Vz ?_|intro _
    rw[z2,<- e1];refine M6 9 (v:=int 0) (v':=int (Y8 d b.n (i+1))) (Imp.of_eq (by rw[z3];rfl)) ?_;refine o6 (i+1,v') ⟨rfl,rfl,rfl,rfl,rfl,rfl,trivial⟩ ?_ (by dsimp only;omega) (by dsimp only;omega);exact r9
  ·obtain rfl:i=32:=by omega
   have hlen:(I6 d 32).length=32\/(I6 d 32).length=33:=.inl (aR d 32);have hall:=Yd hdl;generalize I6 d 32=X at *;repeat' first|refine Vz ?_|intro _
   refine d9 ?_;rw[hall];rw[show T9 d=true from dT hdl];rfl
 ·have hneg:tF a b=-1:=by
   unfold tF;rw[if_pos om]
  rw[dZ hle,show a.n-b.n=0 by omega];refine qE func270 rfl ntmps270 rfl (fun _ hs=>?_);repeat' first|refine Vz ?_|intro _
  rw[hneg];repeat' first|refine Zz ?_|intro _
  refine d9 ?_;rfl⟩

theorem YU (c:Int)(n:Int):(D8 c n).length<=16777219:=(inferInstance:LenLe (D8 c n) 16777219).out
instance b7A {k i:Bs}:Ans prog GL 338 [str k,str i] (k.length<=1000000000) (str (J3 k i)):=⟨fun h=>by
 refine qE func338 rfl ntmps338 rfl (fun _ hs=>?_);have hl:=rX 105 i;repeat' first|refine Vz ?_|intro _
 refine d9 ?_;rfl⟩
instance b7y {k i:Bs}{n:Int}:Ans prog GL 384 [str k,str i,int n] (k.length<=1000000000/\n<=9223372036854775807) (str (Z7 k i n)):=⟨fun h=>by
 obtain⟨h1,h2⟩:=h;have hl:=rX 105 i;have hl2:(J3 k i).length<=2000000000:=by unfold J3;rw[lla];omega
 have hl3:=YU 113 n;refine qE func384 rfl ntmps384 rfl (fun _ hs=>?_);repeat' first|refine Vz ?_|intro _
 refine d9 ?_;rfl⟩
instance b7C {i:Bs}:Ans prog GL 306 [str i] True (str (J3 [67] i)):=⟨fun _=>by
 refine qE func306 rfl ntmps306 rfl (fun _ hs=>?_);repeat' first|refine Vz ?_|intro _
 refine d9 ?_;rfl⟩
instance b7D {i:Bs}:Ans prog GL 256 [str i] True (str (J3 [72] i)):=⟨fun _=>by
 refine qE func256 rfl ntmps256 rfl (fun _ hs=>?_);repeat' first|refine Vz ?_|intro _
 refine d9 ?_;rfl⟩
instance b7B {i:Bs}:Ans prog GL 322 [str i] True (str (J3 [78] i)):=⟨fun _=>by
 refine qE func322 rfl ntmps322 rfl (fun _ hs=>?_);repeat' first|refine Vz ?_|intro _
 refine d9 ?_;rfl⟩
theorem Ct {s:Bs}{b:Bool}(h:P5 s b≠0):P5 s b=10:=by
 unfold P5 at h ⊢;split at h <;> simp_all
instance b7z {s:Bs}:Ans prog GL 374 [str s] (s.length<=1000000000) (.tup [int (xS s),int (rE s)]):=⟨fun hl=>by
 refine qE func374 rfl ntmps374 rfl (fun _ hs=>?_);repeat' first|refine Vz ?_|intro _
 refine M3 (args:=[str s]) [] _ (by rw[hs];exact rY) (fun u m1 hh=>?_) lpr;obtain⟨gr,rfl,rfl⟩:=hh;repeat' first|refine Vz ?_|intro _
 refine o9 (fun h=>?_) (fun h=>?_)
 ·repeat' first|refine Vz ?_|intro _
  refine d9 ?_;have h2:rE s=10:=Ct h;unfold xS;rw[h2];rfl
 ·repeat' first|refine Vz ?_|intro _
  refine d9 ?_;have h1:rE s=0:=Classical.not_not.1 h;unfold xS;rw[h1];rfl⟩
instance b6T {k i:Bs}:Ans prog GL 197 [str k,str i] (k.length<=1000000000) (str (J3 k i)):=⟨fun h=>by
 have hl:=rX 105 i;refine qE func197 rfl ntmps197 rfl (fun _ hs=>?_);repeat' first|refine Vz ?_|intro _
 refine d9 ?_;rfl⟩
instance b6R {k i:Bs}{n:Int}:Ans prog GL 213 [str k,str i,int n] (k.length<=1000000000/\n<=9223372036854775807) (str (Z7 k i n)):=⟨fun h=>by
 obtain⟨h1,h2⟩:=h;have hl:=rX 105 i;have hl2:(J3 k i).length<=2000000000:=by unfold J3;rw[lla];omega
 have hl3:=YU 113 n;refine qE func213 rfl ntmps213 rfl (fun _ hs=>?_);repeat' first|refine Vz ?_|intro _
 refine d9 ?_;rfl⟩
instance b6S {s:Bs}:Ans prog GL 282 [str s] (s.length<=1000000000) (.tup [int (xS s),int (rE s)]):=⟨fun hl=>by
 refine qE func282 rfl ntmps282 rfl (fun _ hs=>?_);repeat' first|refine Vz ?_|intro _
 refine o9 (fun h=>?_) (fun h=>?_)
 ·repeat' first|refine Vz ?_|intro _
  refine d9 ?_;have h2:rE s=10:=Ct h;unfold xS;rw[h2];rfl
 ·repeat' first|refine Vz ?_|intro _
  refine d9 ?_;have h1:rE s=0:=Classical.not_not.1 h;unfold xS;rw[h1];rfl⟩
theorem within {n l:Int}:Ans prog GL 375 [int n,int l] True (j3 (decide (l<=n/\n<=1099511627776))):=⟨fun _=>by
 refine qE func375 rfl ntmps375 rfl (fun _ hs=>?_);repeat' first|refine Vz ?_|intro _
 refine Y5 (fun h=>?_) (fun h=>?_)
 ·repeat' first|refine Vz ?_|intro _
  refine d9 ?_;rw[decide_eq_decide.2 (show (l<=n/\n<=1099511627776)↔(n<=1099511627776) by omega)];rfl
 ·repeat' first|refine Vz ?_|intro _
  refine d9 ?_;rw[dZ (show ¬ (l<=n/\n<=1099511627776) by omega)];rfl⟩
instance {n l:Int}:Ans prog GL 375 [int n,int l] True (j3 (decide (l<=n/\n<=1099511627776))):=within
def nE (x:Pkt):Int:=if dJ x=true then 0 else 1
theorem VY {x:Pkt}(h:LU x=false\/FV x=false\/II x=false):nE x=1:=by
 unfold nE dJ;rcases h with h|h|h <;> rw[h] <;> simp
theorem a6j {x:Pkt}(h1:LU x=true)(h2:FV x=true)(h3:II x=true):nE x=0:=by
 unfold nE dJ;rw[h1,h2,h3];rfl
theorem LQ {q h t:Int}{s k d f g:Bs}{a:Wd}(e:¬ (1<=q/\q<=1099511627776)\/¬ (0<=h/\h<=1099511627776)\/¬ (0<=t/\t<=1099511627776)\/(h=0/\t=0)):nE ⟨q,s,k,d,a,f,g,h,t⟩=1:=VY (.inl (dZ (fun e2=>by simp only at e2;omega)))
theorem TB {q h t:Int}{s k d f g:Bs}{a:Wd}(e:H9 s=false\/H9 k=false\/W9 d=false):nE ⟨q,s,k,d,a,f,g,h,t⟩=1:=VY (.inr (.inl (by
 unfold FV;rcases e with e|e|e <;> simp[e])))
theorem VV {q h t:Int}{s k d f g:Bs}{a:Wd}(e:a.n=0\/Y3 f=false\/Y3 g=false):nE ⟨q,s,k,d,a,f,g,h,t⟩=1:=VY (.inr (.inr (by
 unfold II;rcases e with e|e|e <;> simp[e])))
theorem Ng {q h t:Int}{s k d f g:Bs}{a:Wd}(h1:1<=q/\q<=1099511627776)(h2:0<=h/\h<=1099511627776)(h3:0<=t/\t<=1099511627776)(h4:¬ (h=0/\t=0))(p1:H9 s=true)(p2:H9 k=true)(p3:W9 d=true)(z:¬ a.n=0)(c1:Y3 f=true)(c2:Y3 g=true):nE ⟨q,s,k,d,a,f,g,h,t⟩=0:=
 a6j (dT (by simp only;omega)) (by unfold FV;simp[p1,p2,p3]) (by unfold II;simp[z,c1,c2])
instance b6X {q:Int}{s k d:Bs}{a:Wd}{f g:Bs}{h t:Int}:Ans prog GL 209 [.agg 12 [int q,str s,str k,.agg 7 [str d,C9 a,str f,str g],int h,int t]] (s.length<=1000000000/\k.length<=1000000000/\d.length<=1000000000/\f.length<=1000000000/\g.length<=1000000000) (int (nE ⟨q,s,k,d,a,f,g,h,t⟩)):=⟨fun hd=>by
 obtain⟨l1,l2,l3,l4,l5⟩:=hd;refine qE func209 rfl ntmps209 rfl (fun _ hs=>?_);repeat' first|refine Zz ?_|intro _
 cases p1:H9 s
 focus
  repeat' first|refine Zz ?_|intro _
  refine d9 ?_;rw[TB (.inl p1)];rfl
 repeat' first|refine Zz ?_|intro _
 cases p2:H9 k
 focus
  repeat' first|refine Zz ?_|intro _
  refine d9 ?_;rw[TB (.inr (.inl p2))];rfl
 repeat' first|refine Zz ?_|intro _
 cases p3:W9 d
 focus
  repeat' first|refine Zz ?_|intro _
  refine d9 ?_;rw[TB (.inr (.inr p3))];rfl
 repeat' first|refine Zz ?_|intro _
 cases c1:Y3 f
 focus
  repeat' first|refine Zz ?_|intro _
  refine d9 ?_;rw[VV (.inr (.inl c1))];rfl
 repeat' first|refine Zz ?_|intro _
 cases c2:Y3 g
 focus
  repeat' first|refine Zz ?_|intro _
  refine d9 ?_;rw[VV (.inr (.inr c2))];rfl
 repeat' first|refine Zz ?_|intro _
 rw[zG];by_cases z:a.n=0
 focus
  repeat' first|refine Zz ?_|intro _
  refine d9 ?_;rw[VV (.inl z)];rfl
 by_cases h1:1<=q/\q<=1099511627776
 rotate_left
 focus
  by_cases h0:q<1
  all_goals
   repeat' first|refine Zz ?_|intro _
   refine d9 ?_;rw[LQ (.inl h1)];rfl
 by_cases h2:0<=h/\h<=1099511627776
 rotate_left
 focus
  by_cases h0:h<0
  all_goals
   repeat' first|refine Zz ?_|intro _
   refine d9 ?_;rw[LQ (.inr (.inl h2))];rfl
 by_cases h3:0<=t/\t<=1099511627776
 rotate_left
 focus
  by_cases h0:t<0
  all_goals
   repeat' first|refine Zz ?_|intro _
   refine d9 ?_;rw[LQ (.inr (.inr (.inl h3)))];rfl
 by_cases h4:h=0
 focus
  by_cases h5:t=0
  focus
   repeat' first|refine Zz ?_|intro _
   refine d9 ?_;rw[LQ (.inr (.inr (.inr ⟨h4,h5⟩)))];rfl
  repeat' first|refine Zz ?_|intro _
  refine d9 ?_;rw[Ng h1 h2 h3 (fun e=>h5 e.2) p1 p2 p3 z c1 c2];rfl
 repeat' first|refine Zz ?_|intro _
 refine d9 ?_;rw[Ng h1 h2 h3 (fun e=>h4 e.1) p1 p2 p3 z c1 c2];rfl⟩

instance {x:Pkt}:LenLe (LA x) 150994971:=by unfold LA;infer_instance
instance {n:Nat}:LenLe (X9 n) 32:=⟨Nat.le_of_eq (yO n)⟩
instance b5p {q:Int}{s k d:Bs}{a:Wd}{f g:Bs}{h t:Int}:Ans prog GL 285 [.agg 12 [int q,str s,str k,.agg 7 [str d,C9 a,str f,str g],int h,int t]] (q<=9223372036854775807/\h<=9223372036854775807/\t<=9223372036854775807) (str (LA ⟨q,s,k,d,a,f,g,h,t⟩)):=⟨fun hp=>by
 obtain⟨h1,h2,h3⟩:=hp;refine qE func285 rfl ntmps285 rfl (fun _ hs=>?_);repeat' first|refine Vz ?_|intro _
 refine d9 ?_;rfl⟩
instance b5O {q:Int}{s k d:Bs}{a:Wd}{f g:Bs}{h t:Int}:Ans prog GL 214 [.agg 12 [int q,str s,str k,.agg 7 [str d,C9 a,str f,str g],int h,int t]] (q<=9223372036854775807/\h<=9223372036854775807/\t<=9223372036854775807) (str (nD ⟨q,s,k,d,a,f,g,h,t⟩)):=⟨fun hp=>by
 refine qE func214 rfl ntmps214 rfl (fun _ hs=>?_);repeat' first|refine Vz ?_|intro _
 refine d9 ?_;rfl⟩
instance b5m {a:Bs}:Ans prog GL 217 [str a] (a.length<=1000000000) (str (FE a)):=⟨fun hl=>by
 haveI:LenLe a 1000000000:=⟨hl⟩
 refine qE func217 rfl ntmps217 rfl (fun _ hs=>?_);repeat' first|refine Vz ?_|intro _
 refine d9 ?_;rfl⟩
instance b5L {e:Int}:Ans prog GL 216 [int e] (0<=e/\e<256) (str (NE e)):=⟨fun he=>by
 obtain⟨n,rfl⟩:=Int.eq_ofNat_of_zero_le he.1;refine qE func216 rfl ntmps216 rfl (fun _ hs=>?_);repeat' first|refine Vz ?_|intro _
 refine d9 ?_;rw[DW];rfl⟩
theorem TY (x:Pkt)(h t:Int):jH x h t=(decide (x.h≠0/\x.h<=h) || decide (x.t≠0/\x.t<=t)):=by
 unfold jH;rw[Bool.decide_or]
instance b5C {q:Int}{s k d:Bs}{a:Wd}{f g:Bs}{h t h' t':Int}:Ans prog GL 211 [.agg 12 [int q,str s,str k,.agg 7 [str d,C9 a,str f,str g],int h,int t],int h',int t'] True (j3 (jH ⟨q,s,k,d,a,f,g,h,t⟩ h' t')):=⟨fun _=>by
 refine qE func211 rfl ntmps211 rfl (fun _ hs=>?_);by_cases h1:h=0
 ·have e1:¬ (h≠0/\h<=h'):=fun e=>e.1 h1;rw[TY,dZ e1,Bool.false_or];by_cases h2:t=0
  ·have e2:¬ (t≠0/\t<=t'):=fun e=>e.1 h2;rw[dZ e2];repeat' first|refine Zz ?_|intro _
   refine d9 ?_;rfl
  ·rw[decide_eq_decide.2 (show (t≠0/\t<=t')↔t<=t' from ⟨fun e=>e.2,fun e=>⟨h2,e⟩⟩)];repeat' first|refine Zz ?_|intro _
   refine d9 ?_;rfl
 ·by_cases h3:h<=h'
  ·rw[TY,dT (show h≠0/\h<=h' from ⟨h1,h3⟩),Bool.true_or];repeat' first|refine Zz ?_|intro _
   refine d9 ?_;rfl
  ·rw[TY,dZ (show ¬ (h≠0/\h<=h') from fun e=>h3 e.2),Bool.false_or];by_cases h2:t=0
   ·have e2:¬ (t≠0/\t<=t'):=fun e=>e.1 h2;rw[dZ e2];repeat' first|refine Zz ?_|intro _
    refine d9 ?_;rfl
   ·rw[decide_eq_decide.2 (show (t≠0/\t<=t')↔t<=t' from ⟨fun e=>e.2,fun e=>⟨h2,e⟩⟩)];repeat' first|refine Zz ?_|intro _
    refine d9 ?_;rfl⟩
end Go.Proofs.YtocpacdnjbjjmaaGreatDoor

namespace Go.Proofs.YtocpacdnjbjjmaaGreatDoor
open Go Go.RowKit Tw Av
end Go.Proofs.YtocpacdnjbjjmaaGreatDoor

namespace Go.Proofs.YtocpacdnjbjjmaaGreatDoor
open Go Go.RowKit Tw Av Go.Proofs.Tryz
instance b7t {l:List Bs}{xs:List AV}{id:Option Value}[hx:Strs xs l]:Ans prog GL 420 [.sl 1 xs id] (1<=l.length) (j3 (l.all H9)):=⟨fun hn=>by
 have h:=hx.out;subst h;have hm:(l.map str).length=l.length:=llm _;refine qE func420 rfl ntmps420 rfl (fun _ hs=>?_);refine uZ 0 (fun hb=>?_);have hb:=lJ hb;repeat' first|refine Vz ?_|intro _
 refine z8 (α:=Nat) (fun i=>[(3,j3 true),(6,.sl 1 (l.map str) id),(7,int (l.map str).length),(8,int i)]) (fun i=>[]) (fun i=>i<=l.length/\∀ j,(hj:j<l.length)->j<i->H9 l[j]=true) (fun i=>l.length-i) 0 ⟨rfl,rfl,rfl,rfl,trivial⟩ slr ⟨Nat.zero_le _,fun _ _ h=>absurd h om⟩ ?_;rintro i ⟨hi,hall⟩;repeat' first|refine Vz ?_|intro _
 refine o9 (fun hlt=>?_) (fun hlt=>?_)
 ·have hil:i<l.length:=om
  repeat' first|refine Vz ?_|intro _
  cases hb:H9 l[i]
  ·repeat' first|refine Vz ?_|intro _
   refine d9 ?_;have:l.all H9=false:=List.all_eq_false.2 ⟨_,List.getElem_mem hil,by rw[hb];decide⟩;rw[this];rfl
  ·repeat' first|refine Vz ?_|intro _
   refine o6 (i+1) ⟨rfl,rfl,rfl,rfl,trivial⟩ slr ⟨hil,fun j hj h=>?_⟩ om;by_cases hj2:j<i
   ·exact hall j hj hj2
   ·obtain rfl:j=i:=by omega
    exact hb
 ·obtain rfl:i=l.length:=by omega
  have ht:l.all H9=true:=List.all_eq_true.2 fun x hx=>by
   obtain⟨j,hj,rfl⟩:=List.getElem_of_mem hx;exact hall j hj hj
  rw[ht];repeat' first|refine Vz ?_|intro _
  refine d9 ?_;rfl⟩
instance b7x {s:Int}{o q p:Bs}:Ans prog GL 396 [.agg 4 [int s,str o,str q,str p]] True (j3 (fM ⟨s,o,q,p⟩)):=⟨fun _=>by
 refine qE func396 rfl ntmps396 rfl (fun _ hs=>?_);by_cases h1:s=1
 ·subst h1;repeat' first|refine Zz ?_|intro _
  rw[show ([o,q].all H9)=(H9 o&&H9 q) by simp];cases p1:H9 o&&H9 q
  ·repeat' first|refine Zz ?_|intro _
   refine d9 ?_;simp only[Bool.and_eq_false_iff] at p1;rcases p1 with p1|p1 <;> simp[I8,fM,p1]
  ·repeat' first|refine Zz ?_|intro _
   refine d9 ?_;simp only[Bool.and_eq_true] at p1;simp[I8,fM,p1.1,p1.2]
 by_cases h2:2<=s/\s<=4
 ·have e:fM ⟨s,o,q,p⟩=[o,q,p].all H9:=by
   unfold fM;simp only[if_neg h1];rw[dT (show 1<=s/\s<=4 by omega)];simp
  rw[e];by_cases h3:s=2
  ·subst h3;repeat' first|refine Zz ?_|intro _
   refine d9 ?_;rfl
  ·by_cases h4:s=3
   ·subst h4;repeat' first|refine Zz ?_|intro _
    refine d9 ?_;rfl
   ·obtain rfl:s=4:=by omega
    repeat' first|refine Zz ?_|intro _
    refine d9 ?_;rfl
 ·have e:fM ⟨s,o,q,p⟩=false:=by
   unfold fM;rw[dZ (show ¬ (1<=s/\s<=4) by omega)];rfl
  rw[e];have h3:s≠2:=by omega
  have h4:s≠3:=om
  have h5:s≠4:=om
  repeat' first|refine Zz ?_|intro _
  refine d9 ?_;rfl⟩
instance b6V {s:Int}{o q p:Bs}:Ans prog GL 277 [.agg 4 [int s,str o,str q,str p]] (o.length<=1000000000/\q.length<=1000000000/\p.length<=1000000000) (j3 (fM ⟨s,o,q,p⟩)):=⟨fun hp=>by
 obtain⟨l1,l2,l3⟩:=hp;refine qE func277 rfl ntmps277 rfl (fun _ hs=>?_);by_cases h1:1<=s/\s<=4
 ·have e:fM ⟨s,o,q,p⟩=(H9 o&&(H9 q&&if s=1 then decide (p=[]) else H9 p)):=by
   unfold fM;rw[dT h1,Bool.true_and]
  rw[e];repeat' first|refine Zz ?_|intro _
  cases p1:H9 o
  ·repeat' first|refine Zz ?_|intro _
   refine d9 ?_;rfl
  repeat' first|refine Zz ?_|intro _
  cases p2:H9 q
  ·repeat' first|refine Zz ?_|intro _
   refine d9 ?_;rfl
  by_cases h2:s=1
  ·rw[if_pos h2];repeat' first|refine Zz ?_|intro _
   refine d9 ?_;rfl
  ·rw[if_neg h2];repeat' first|refine Zz ?_|intro _
   refine d9 ?_;rfl
 ·have e:fM ⟨s,o,q,p⟩=false:=by
   unfold fM;rw[dZ h1];rfl
  rw[e];by_cases h2:s<1
  all_goals
   repeat' first|refine Zz ?_|intro _
   refine d9 ?_;rfl⟩
end Go.Proofs.YtocpacdnjbjjmaaGreatDoor

namespace Go.Proofs.YtocpacdnjbjjmaaGreatDoor
open Go Go.RowKit Tw Av
end Go.Proofs.YtocpacdnjbjjmaaGreatDoor

namespace Go.Proofs.YtocpacdnjbjjmaaGreatDoor
open Go Go.RowKit Tw Av Go.Proofs.Tryz
theorem Cs (s:Bs):(mV s).length<=s.length/\(mU s).length<=s.length/\(bX s).length<=s.length:=by
 have h1:=(Q9 115 8 s false).1;have h2:=(Q9 111 32 (mV s) (uD s)).1;have h3:=(Q9 113 32 (mU s) (uC s)).1;unfold bX;unfold mU at *;unfold mV at *;exact⟨h1,om,om⟩
theorem Cz {s:Bs}:j5 115 8 s false=mV s:=rfl
theorem Cy {s:Bs}:K3 115 4 s false=uD s:=rfl
theorem Cx {s:Bs}:j5 111 32 (mV s) (uD s)=mU s:=rfl
theorem Cw {s:Bs}:A7 111 32 (mV s) (uD s)=uC s:=rfl
theorem Cv {s:Bs}:j5 113 32 (mU s) (uC s)=bX s:=rfl
theorem Cu {s:Bs}:A7 113 32 (mU s) (uC s)=fV s:=rfl
theorem KR {s:Bs}(h:qP s≠0\/fM (qQ s)=false):kD s=vD/\pE s=10:=by
 have hk:xH s=false:=by
  unfold xH;rcases h with h|h
  ·rw[dZ h,Bool.false_and]
  ·rw[h,Bool.and_false]
 unfold kD pE;rw[hk];exact⟨rfl,rfl⟩
theorem Cn {s:Bs}(h1:qP s=0)(h2:fM (qQ s)=true):kD s=qQ s/\pE s=0:=by
 have hk:xH s=true:=by
  unfold xH;rw[dT h1,h2];rfl
 unfold kD pE;rw[hk];exact⟨rfl,rfl⟩
instance b7s {s:Bs}:Ans prog GL 337 [str s] (s.length<=1000000000) (.tup [GX (kD s),int (pE s)]):=⟨fun hl=>by
 obtain⟨l1,l2,l3⟩:=Cs s;have e1:(mV s).length=(j5 115 8 s false).length:=rfl;have e2:(mU s).length=(j5 111 32 (j5 115 8 s false) (K3 115 4 s false)).length:=rfl;have e3:(bX s).length=(j5 113 32 (j5 111 32 (j5 115 8 s false) (K3 115 4 s false)) (A7 111 32 (j5 115 8 s false) (K3 115 4 s false))).length:=rfl;refine qE func337 rfl ntmps337 rfl (fun _ hs=>?_);repeat' first|refine Yz ?_|intro _
 refine M3 (args:=[str s]) [] _ (by rw[hs];exact rY) (fun u m1 hh=>?_) lpr;obtain⟨gr,rfl,rfl⟩:=hh;repeat' first|refine Yz ?_|intro _
 rw[Cz,Cy,Cx,Cw,Cv,Cu];by_cases hE:qP s=0
 rotate_left
 ·obtain⟨v1,v2⟩:=KR (.inl hE);rw[v1,v2];rw[show qP s=P5 (j5 112 32 (bX s) (fV s)) (A7 112 32 (bX s) (fV s)) from rfl] at hE;repeat' first|refine Yz ?_|intro _
  refine d9 ?_;rfl
 cases hc:fM (qQ s)
 ·obtain⟨v1,v2⟩:=KR (.inr hc);rw[v1,v2];rw[show qP s=P5 (j5 112 32 (bX s) (fV s)) (A7 112 32 (bX s) (fV s)) from rfl] at hE;unfold qQ at hc;repeat' first|refine Yz ?_|intro _
  rw[hc];repeat' first|refine Yz ?_|intro _
  refine d9 ?_;rfl
 ·obtain⟨v1,v2⟩:=Cn hE hc;rw[v1,v2];rw[show qP s=P5 (j5 112 32 (bX s) (fV s)) (A7 112 32 (bX s) (fV s)) from rfl] at hE;unfold qQ at hc;repeat' first|refine Yz ?_|intro _
  rw[hc];repeat' first|refine Yz ?_|intro _
  refine d9 ?_;rfl⟩
instance b6U {s:Bs}:Ans prog GL 228 [str s] (s.length<=1000000000) (.tup [GX (kD s),int (pE s)]):=⟨fun hl=>by
 obtain⟨l1,l2,l3⟩:=Cs s;have e1:(mV s).length=(j5 115 8 s false).length:=rfl;have e2:(mU s).length=(j5 111 32 (j5 115 8 s false) (K3 115 4 s false)).length:=rfl;have e3:(bX s).length=(j5 113 32 (j5 111 32 (j5 115 8 s false) (K3 115 4 s false)) (A7 111 32 (j5 115 8 s false) (K3 115 4 s false))).length:=rfl;have t1:=(Q9 111 32 (mV s) (uD s)).2;have t2:=(Q9 113 32 (mU s) (uC s)).2;have t3:=(Q9 112 32 (bX s) (fV s)).2;have t4:(D5 111 32 (mV s) (uD s)).length<=1000000000/\(D5 113 32 (mU s) (uC s)).length<=1000000000/\(D5 112 32 (bX s) (fV s)).length<=1000000000:=by omega
 refine qE func228 rfl ntmps228 rfl (fun _ hs=>?_);repeat' first|refine Yz ?_|intro _
 rw[Cz,Cy,Cx,Cw,Cv,Cu];by_cases hE:qP s=0
 rotate_left
 ·obtain⟨v1,v2⟩:=KR (.inl hE);rw[v1,v2];rw[show qP s=P5 (j5 112 32 (bX s) (fV s)) (A7 112 32 (bX s) (fV s)) from rfl] at hE;repeat' first|refine Yz ?_|intro _
  refine d9 ?_;rfl
 cases hc:fM (qQ s)
 ·obtain⟨v1,v2⟩:=KR (.inr hc);rw[v1,v2];rw[show qP s=P5 (j5 112 32 (bX s) (fV s)) (A7 112 32 (bX s) (fV s)) from rfl] at hE;unfold qQ at hc;repeat' first|refine Yz ?_|intro _
  rw[hc];repeat' first|refine Yz ?_|intro _
  refine d9 ?_;rfl
 ·obtain⟨v1,v2⟩:=Cn hE hc;rw[v1,v2];rw[show qP s=P5 (j5 112 32 (bX s) (fV s)) (A7 112 32 (bX s) (fV s)) from rfl] at hE;unfold qQ at hc;repeat' first|refine Yz ?_|intro _
  rw[hc];repeat' first|refine Yz ?_|intro _
  refine d9 ?_;rfl⟩
end Go.Proofs.YtocpacdnjbjjmaaGreatDoor

namespace Av
open Go Go.RowKit Tw
theorem SpecE.imp {P:Program}{gl:List (Nat × AV)}{f:FuncId}{args:List AV}{out out':AV}(h:SpecE P gl f args out)(hi:Imp out out'):SpecE P gl f args out':=Spec.mk fun ok w c hS hv=>
 Calls.mono (h.run ok w c hS hv) fun _ _ ⟨v,m',ok',cv,e0,e,r,st⟩=>by
  obtain⟨rfl,rfl⟩:=e0;exact⟨out',[],ok',cv,⟨rfl,rfl⟩,e,hi _ _ _ r,st⟩
end Av
namespace Go.Proofs.YtocpacdnjbjjmaaGreatDoor
open Go Go.RowKit Tw Av
theorem DOk.le {d:List Ent}(h:DOk d):d.length<=1073741823:=Nat.le_trans h.l dc
theorem DOk.val {d:List Ent}(h:DOk d)(k:Bs):(Q3 d k).length<=4000:=by
 unfold Q3 gO dD;cases hf:d.find? fun x=>decide (x.key=k) with
 | none=>exact Nat.zero_le _
 | some x=>exact(h.f x (List.mem_of_find?_eq_some hf)).2
instance (priority:=high) c5x {d:List Ent}{k:Bs}{xs:List AV}{id:Option Value}[hx:Ents xs d]:Ans Tryz.prog GL 326 [.agg 1 [.sl 2 xs id],str k] (DOk d) (.tup [str (Q3 d k),j3 (gO d k).isSome]):=⟨fun h=>by
 have:=(a4z (l:=d) (k:=k) (xs:=xs) (id:=id)).spec h.le;rw[Vv h.s,MO h.s] at this;exact this⟩
instance (priority:=high) c5u {d:List Ent}{k:Bs}{xs:List AV}{id:Option Value}[hx:Ents xs d]:Ans Tryz.prog GL 147 [.sl 2 xs id,str k] (DOk d) (.tup [str (Q3 d k),j3 (gO d k).isSome]):=⟨fun h=>by
 have:=(a4p (l:=d) (k:=k) (xs:=xs) (id:=id)).spec h.le;rw[<- Option.isSome_map (f:=(·.val))] at this;exact this⟩
instance (priority:=high) c5w {d:List Ent}{k v:Bs}{xs:List AV}{id:Option Value}[hx:Ents xs d]:Ans Tryz.prog GL 70 [.agg 1 [.sl 2 xs id],str k,str v] (DOk d) (.tup [dA (U2 d k v).1,int (U2 d k v).2]):=⟨fun h=>by
 refine SpecE.imp ((a4x (l:=d) (k:=k) (v:=v) (xs:=xs) (id:=id)).spec h.le) ?_;unfold pI U2;by_cases he:K7 d k v=0
 ·rw[if_pos he,if_pos he,he];exact Imp.of_eq rfl
 ·rw[if_neg he,if_neg he];exact(inferInstance:ImpR (.tup [.agg 1 [.lit (.slice none 0 0)],int (K7 d k v)]) (.tup [.agg 1 [.sl 2 [] none],int (K7 d k v)])).imp⟩
instance (priority:=high) c5t {d:List Ent}{k v:Bs}{xs:List AV}{id:Option Value}[hx:Ents xs d]:Ans Tryz.prog GL 82 [.sl 2 xs id,str k,str v] (DOk d) (.tup [.sl 2 ((U2 d k v).1.map C8) none,int (U2 d k v).2]):=⟨fun h=>by
 refine SpecE.imp ((a4m (l:=d) (k:=k) (v:=v) (xs:=xs) (id:=id)).spec h.le) ?_;unfold uE U2;rw[RY v h.s];by_cases he:K7 d k v=0
 ·have e1:=Dk ⟨k,v⟩ h.s;unfold mW aZ at e1;rw[RY v h.s] at e1;simp only[if_pos he] at e1;rw[if_pos he,if_pos he,he,e1];exact Imp.of_eq rfl
 ·rw[if_neg he,if_neg he];exact(inferInstance:ImpR (.tup [.lit (.slice none 0 0),int (K7 d k v)]) (.tup [.sl 2 [] none,int (K7 d k v)])).imp⟩
instance (priority:=high) c5y {d:List Ent}{k:Bs}{xs:List AV}[hx:Ents xs d]:Ans Tryz.prog GL 393 [.agg 1 [.sl 2 xs none],str k] (DOk d) (.tup [dA (jM d k),j3 (gO d k).isSome]):=⟨fun h=>by
 have:=(a4E (l:=d) (k:=k) (xs:=xs)).spec h.le;rw[MO h.s] at this;unfold jM;rw[MO h.s];exact this⟩
def fJ (d:List Ent)(k:Bs):List Ent:=d.filter fun x=>decide (x.key≠k)
theorem Jz {d:List Ent}{k:Bs}(h:∀ x∈d,x.key≠k):fJ d k=d:=List.filter_eq_self.2 fun x hx=>dT (h x hx)
theorem a4O {d:List Ent}{k:Bs}(h:Srt d):fJ d k=jM d k:=by
 obtain⟨A,B,hA,hB,hl,h1⟩:=wK k h;rw[Lg hl h1];have eA:fJ A k=A:=Jz fun x hx e=>by have:=hA x hx;rw[e,CO] at this;cases this
 have eB:fJ B k=B:=Jz fun x hx e=>by have:=hB x hx;rw[e,CO] at this;cases this
 unfold fJ at *;rcases h1 with⟨_,rfl⟩|⟨v,_,rfl⟩
 ·rw[List.filter_append,eA,eB]
 ·rw[List.filter_append,List.filter_cons,eA,eB];simp
theorem a4N {d:List Ent}{k:Bs}:decide ((fJ d k).length<d.length)=(gO d k).isSome:=by
 unfold fJ gO dD;rw[Option.isSome_map];cases hf:d.find? fun x=>decide (x.key=k) with
 | none=>
  rw[List.find?_eq_none] at hf;have:d.filter (fun x=>decide (x.key≠k))=d:=List.filter_eq_self.2 fun x hx=>by simpa using hf x hx
  rw[this];simp
 | some x=>
  refine dT ?_;have hm:=List.mem_of_find?_eq_some hf;have hk:=List.find?_some hf;by_cases h:(d.filter fun x=>decide (x.key≠k)).length<d.length
  ·exact h
  ·exfalso
   have h2:=List.length_filter_eq_length_iff.1 (Nat.le_antisymm (List.length_filter_le _ _) (Nat.not_lt.1 h)) x hm;simp at h2 hk;exact h2 hk
instance (priority:=high) c5v {d:List Ent}{k:Bs}{xs:List AV}{id:Option Value}[hx:Ents xs d]:Ans Tryz.prog GL 221 [.sl 2 xs id,str k] (DOk d) (.tup [.sl 2 ((jM d k).map C8) none,j3 (gO d k).isSome]):=⟨fun hd=>by
 have h:=hx.out;subst h;have hl:=hd.le;have hm:(d.map C8).length=d.length:=llm _;rw[<- a4O hd.s,<- a4N];refine qE Tryz.func221 rfl Tryz.ntmps221 rfl (fun _ hs=>?_);repeat' first|refine Vz ?_|intro _
 refine aM 6 (Imp.nil (k:=2)) ?_;refine O5 (fun ok w h=>h.full 120 2 none 0) ?_;refine z8 (α:=Nat × Value) (fun q=>[(0,.sl 2 (d.map C8) id),(1,str k),(6,.sl 2 ((fJ (d.take q.1) k).map C8) (some q.2)),(7,int q.1)]) (fun q=>[.tail 120 2 q.2]) (fun q=>q.1<=d.length) (fun q=>d.length-q.1) (0,.slice none 0 0) ⟨rfl,rfl,rfl,rfl,trivial⟩ slr (Nat.zero_le _) ?_;rintro⟨i,v⟩ hi;dsimp only at hi ⊢;have hfl:(fJ (d.take i) k).length<=i:=Nat.le_trans (List.length_filter_le _ _) (List.length_take_le _ _);have hfm:((fJ (d.take i) k).map C8).length=(fJ (d.take i) k).length:=llm _;repeat' first|refine Vz ?_|intro _
 refine o9 (fun hlt=>?_) (fun hlt=>?_)
 ·have hil:i<d.length:=om
  have htk:d.take (i+1)=d.take i++[d[i]]:=List.take_succ_eq_append_getElem hil;repeat' first|refine Vz ?_|intro _
  refine o9 (fun h=>?_) (fun h=>?_)
  ·have e1:(fJ (d.take (i+1)) k).map C8=(fJ (d.take i) k).map C8++[C8 d[i]]:=by
    unfold fJ;rw[htk,List.filter_append,List.filter_cons,if_pos (dT h),List.filter_nil,List.map_append];rfl
   repeat' first|refine Vz ?_|intro _
   refine I4 (fun v'=>?_);repeat' first|refine Vz ?_|intro _
   rw[<- e1];refine o6 (i+1,v') ⟨rfl,rfl,rfl,rfl,trivial⟩ ?_ hil (by dsimp only;omega);exact r9
  ·have e1:fJ (d.take (i+1)) k=fJ (d.take i) k:=by
    unfold fJ;rw[htk,List.filter_append,List.filter_cons,if_neg (by rw[dZ h];decide),List.filter_nil,List.append_nil]
   repeat' first|refine Vz ?_|intro _
   rw[<- e1];refine o6 (i+1,v) ⟨rfl,rfl,rfl,rfl,trivial⟩ ?_ hil (by dsimp only;omega);exact r9
 ·obtain rfl:i=d.length:=by omega
  simp only[List.take_length] at hfl hfm ⊢;repeat' first|refine Vz ?_|intro _
  refine E9 ?_;rw[hm,hfm,show decide (((fJ d k).length:Int)<(d.length:Int))=decide ((fJ d k).length<d.length) from decide_eq_decide.2 om];simp only[I8];exact ImpR.imp⟩
end Go.Proofs.YtocpacdnjbjjmaaGreatDoor
