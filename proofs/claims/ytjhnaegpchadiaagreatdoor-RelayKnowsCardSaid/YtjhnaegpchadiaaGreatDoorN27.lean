/- . -/
import Derived.Test.YtjhnaegpchadiaaGreatDoorN26
set_option maxHeartbeats 64000000
namespace Go.Proofs.YtjhnaegpchadiaaGreatDoor
open Go Go.RowKit Tw Av Go.Proofs.Tryz
theorem getD_in {l:Bs}{i:Nat}(h:i<l.length):l.getD i 0=l[i]:=by simp[List.getD,h]
theorem KL {s:Bs}:rT s=true↔∀ j,j<s.length->(s.getD j 0).toNat≠47:=by
 unfold rT;rw[List.all_eq_true]
 constructor
 ·intro h j hj;have:=of_decide_eq_true (h s[j] (List.getElem_mem hj));rw[getD_in hj];intro e;exact this (UInt8.toNat_inj.1 e)
 ·intro h c hc;obtain⟨j,hj,rfl⟩:=List.getElem_of_mem hc;have:=h j hj;rw[getD_in hj] at this;exact dT fun e=>this (by rw[e];rfl)
theorem QS {s:Bs}{i:Nat}(hi:i<s.length)(h:(s.getD i 0).toNat=47):rT s=false:=by
 cases hn:rT s
 ·rfl
 ·exact absurd h (KL.1 hn i hi)
theorem Br {s:Bs}(h:rT s=false):I5 s=false:=by unfold I5;rw[h];rfl
theorem Bq {s:Bs}(h:rT s=true):I5 s=decide (1<=s.length/\s.length<=32):=by unfold I5;rw[h];rfl
instance b1E {s:Bs}:Ans prog GL 167 [str s] True (j3 (I5 s)):=⟨fun _=>by
 refine qF func167 ntmps167 fun _ hs=>?_;repeat' first|refine Vz ?_|intro _
 refine a4I (fun g=>?_);repeat' first|refine Vz ?_|intro _
 refine y5 (α:=Nat) (fun i=>[(0,str s),(6,ptr g)]) (fun i=>[.obj g (.stringIter ⟨s.toArray⟩ i)]) (fun i=>i<=s.length/\∀ j,j<i->(s.getD j 0).toNat≠47) (fun i=>s.length-i) 0 ⟨rfl,rfl,trivial⟩ slr ⟨Nat.zero_le _,fun _ h=>absurd h om⟩ ?_;rintro i ⟨hi,hall⟩;repeat' first|refine Vz ?_|intro _
 by_cases hlt:i<s.length
 ·obtain⟨w1,w2,w3⟩:=YG hlt;obtain⟨r1,r2⟩:=Sa hlt (show 47<128 by decide);refine a4X (pre:=[]) (post:=[]) hlt rfl ?_;repeat' first|refine Vz ?_|intro _
  refine o8 (fun h=>?_) (fun h=>?_)
  ·repeat' first|refine Vz ?_|intro _
   refine d9 ?_;rw[Br (QS hlt (r1.1 om))];rfl
  ·repeat' first|refine Vz ?_|intro _
   refine o6 (i+(iQ s i).2) ⟨rfl,rfl,trivial⟩ slr ⟨w2,fun j hj=>?_⟩ om;by_cases hj2:j<i
   ·exact hall j hj2
   ·exact r2 om j om hj
 ·refine a4Y (g:=g) om (List.mem_singleton.2 rfl) ?_;have hy:rT s=true:=KL.2 fun j hj=>hall j om;rw[Bq hy];rcases s with _|⟨c,s⟩
  ·repeat' first|refine Zz ?_|intro _
   exact d9 rfl
  ·repeat' first|refine Zz ?_|intro _
   refine d9 ?_;rw[decide_eq_decide.2 (show (1<=(c::s).length/\(c::s).length<=32)↔(((c::s).length:Int)<=32) by rw[List.length_cons];omega)];rfl⟩
instance b2q {s:Bs}:Ans prog GL 401 [str s] (s.length<=4611686018427387904) (j3 (I5 s)):=⟨fun hl=>by
 refine qF func401 ntmps401 fun _ hs=>?_;repeat' first|refine Vz ?_|intro _
 refine y5 (α:=Nat) (fun i=>[(0,str s),(3,int i)]) (fun i=>[]) (fun i=>i<=s.length/\∀ j,j<i->(s.getD j 0).toNat≠47) (fun i=>s.length-i) 0 ⟨rfl,rfl,trivial⟩ slr ⟨Nat.zero_le _,fun _ h=>absurd h om⟩ ?_;rintro i ⟨hi,hall⟩;repeat' first|refine Vz ?_|intro _
 refine o8 (fun hlt=>?_) (fun hlt=>?_)
 ·have hil:i<s.length:=om
  repeat' first|refine Vz ?_|intro _
  refine sH i ?_ (List.getElem?_eq_getElem hil);repeat' first|refine Vz ?_|intro _
  refine o8 (fun h=>?_) (fun h=>?_)
  ·repeat' first|refine Vz ?_|intro _
   refine d9 ?_;rw[Br (QS hil (by rw[getD_in hil];omega))];rfl
  ·repeat' first|refine Vz ?_|intro _
   refine o6 (i+1) ⟨rfl,rfl,trivial⟩ slr ⟨hil,fun j hj=>?_⟩ om;by_cases hj2:j<i
   ·exact hall j hj2
   ·obtain rfl:j=i:=by omega
    rw[getD_in hil];omega
 ·have hy:rT s=true:=KL.2 fun j hj=>hall j om;rw[Bq hy];repeat' first|refine Vz ?_|intro _
  by_cases h1:1<=s.length
  ·repeat' first|refine Zz ?_|intro _
   refine d9 ?_;rw[decide_eq_decide.2 (show (1<=s.length/\s.length<=32)↔((s.length:Int)<=32) by omega)];rfl
  ·repeat' first|refine Zz ?_|intro _
   refine d9 ?_;have h0:¬ (1<=s.length/\s.length<=32):=fun h=>h1 h.1;rw[dZ h0];rfl⟩
theorem DN (s:Bs):A8 s≠[]:=by
 cases s with
 | nil=>simp[A8]
 | cons c s=>
  rw[A8];split <;> simp
theorem XG:∀ s:Bs,A8 (s++[47])=A8 s++[[]]
 | []=>rfl
 | c::s=>by
  have ih:=XG s;rw[List.cons_append,A8,A8,ih];split
  ·rfl
  ·have hn:=DN s;cases h:A8 s with
   | nil=>exact absurd h hn
   | cons a l=>rfl
theorem XH {c:UInt8}(hc:c≠47):∀ s:Bs,A8 (s++[c])=(A8 s).dropLast++[(A8 s).getLastD []++[c]]
 | []=>by simp[A8,hc]
 | d::s=>by
  have ih:=XH hc s;have hn:=DN s;rw[List.cons_append,A8,A8,ih];cases h:A8 s with
  | nil=>exact absurd h hn
  | cons a l=>
   split
   ·cases l <;> simp
   ·cases l <;> simp
theorem OD (s:Bs):(A8 s).dropLast++[(A8 s).getLastD []]=A8 s:=by
 have hn:=DN s;cases h:A8 s with
 | nil=>exact absurd h hn
 | cons a l=>
  rw[List.getLastD_cons,<- List.getLast_eq_getLastD (h:=by simp)];exact List.dropLast_concat_getLast _
theorem DR:∀ s:Bs,(A8 s).length=s.count 47+1
 | []=>rfl
 | c::s=>by
  have ih:=DR s;have hn:=DN s;rw[A8];split
  ·rename_i h;subst h;simp[ih]
  ·rename_i h;rw[List.count_cons_of_ne (by exact h)];cases h2:A8 s with
   | nil=>exact absurd h2 hn
   | cons a l=>rw[h2] at ih;simpa using ih
theorem OC {s x:Bs}(h:x∈A8 s):x.length<=s.length:=by
 induction s generalizing x with
 | nil=>simp[A8] at h;simp[h]
 | cons c s ih=>
  have hn:=DN s;rw[A8] at h;split at h
  ·rcases List.mem_cons.1 h with rfl|h
   ·simp
   ·have:=ih h;simp;omega
  ·cases h2:A8 s with
   | nil=>exact absurd h2 hn
   | cons a l=>
    rw[h2] at h;simp at h;rcases h with rfl|h
    ·have:=ih (x:=a) (by rw[h2];simp);simp;omega
    ·have:=ih (x:=x) (by rw[h2];simp[h]);simp;omega
instance b2p {s:Bs}:Ans prog GL 434 [str s] (s.length<=1000000000) (.sl 1 ((A8 s).map str) none):=⟨fun hl=>by
 refine qF func434 ntmps434 fun _ hs=>?_;repeat' first|refine Vz ?_|intro _
 refine aT 3 (Imp.nil (k:=1)) ?_;refine Q6 (fun ok w h=>h.full 9 1 none 0) ?_;refine y5 (α:=Nat × Value) (fun q=>[(0,str s),(3,.sl 1 ((A8 (s.take q.1)).dropLast.map str) (some q.2)),(4,str ((A8 (s.take q.1)).getLastD [])),(5,int q.1)]) (fun q=>[.tail 9 1 q.2]) (fun q=>q.1<=s.length) (fun q=>s.length-q.1) (0,.slice none 0 0) ⟨rfl,rfl,rfl,rfl,trivial⟩ slr (Nat.zero_le _) ?_;rintro⟨i,v⟩ hi;dsimp only at hi ⊢;have hlen:=DR (s.take i);have hcnt:=List.count_le_length (l:=s.take i) (a:=(47:UInt8));have htl:(s.take i).length<=s.length:=List.length_take_le' _ _;have hlast:((A8 (s.take i)).getLastD []).length<=s.length:=by
  have h:=OD (s.take i);refine Nat.le_trans (OC (s:=s.take i) ?_) htl;rw[<- h];simp
 have hm:((A8 (s.take i)).dropLast.map str).length<=1000000001:=by rw[llm,List.length_dropLast];omega
 repeat' first|refine Vz ?_|intro _
 refine o8 (fun hlt=>?_) (fun hlt=>?_)
 ·have hil:i<s.length:=om
  have htk:s.take (i+1)=s.take i++[s[i]]:=List.take_succ_eq_append_getElem hil;repeat' first|refine Vz ?_|intro _
  refine sH i ?_ (List.getElem?_eq_getElem hil);repeat' first|refine Vz ?_|intro _
  refine o8 (fun h=>?_) (fun h=>?_)
  ·have h47:s[i]=47:=UInt8.toNat_inj.1 (by show _=47;omega);have hsp:A8 (s.take (i+1))=A8 (s.take i)++[[]]:=by rw[htk,h47,XG]
   repeat' first|refine Vz ?_|intro _
   refine I1 (fun v'=>?_);repeat' first|refine Vz ?_|intro _
   have e1:(A8 (s.take (i+1))).dropLast.map str=(A8 (s.take i)).dropLast.map str++[str ((A8 (s.take i)).getLastD [])]:=by
    rw[hsp,List.dropLast_concat]
    conv=>lhs;rw[<- OD (s.take i)]
    rw[List.map_append];rfl
   have e2:(A8 (s.take (i+1))).getLastD []=[]:=by rw[hsp,List.getLastD_concat]
   rw[<- e1];refine aR 4 (v:=str []) (v':=str ((A8 (s.take (i+1))).getLastD [])) (Imp.of_eq (by rw[e2])) ?_;refine o6 (i+1,v') ⟨rfl,rfl,rfl,rfl,trivial⟩ ?_ hil (by dsimp only;omega);exact x9
  ·have h47:s[i]≠47:=fun e=>h (by rw[e];rfl);have hsp:A8 (s.take (i+1))=(A8 (s.take i)).dropLast++[(A8 (s.take i)).getLastD []++[s[i]]]:=by rw[htk,XH h47]
   repeat' first|refine Vz ?_|intro _
   refine U7 i (i+1) ?_;have hone:(s.take (i+1)).drop i=[s[i]]:=by
    rw[htk,List.drop_left' (by rw[List.length_take];omega)]
   rw[hone];have hl1:[s[i]].length=1:=rfl;repeat' first|refine Vz ?_|intro _
   have e1:(A8 (s.take (i+1))).dropLast=(A8 (s.take i)).dropLast:=by rw[hsp,List.dropLast_concat]
   have e2:(A8 (s.take (i+1))).getLastD []=(A8 (s.take i)).getLastD []++[s[i]]:=by rw[hsp,List.getLastD_concat]
   rw[<- e1,<- e2];refine o6 (i+1,v) ⟨rfl,rfl,rfl,rfl,trivial⟩ ?_ hil (by dsimp only;omega);exact x9
 ·obtain rfl:i=s.length:=by omega
  simp only[List.take_length] at hlen hcnt hlast hm ⊢;repeat' first|refine Vz ?_|intro _
  refine I1 (fun v'=>?_);repeat' first|refine Vz ?_|intro _
  refine E5 ?_;refine Imp.trans (Imp.of_eq (?_:_=.sl 1 ((A8 s).map str) (some v'))) ?_
  ·conv=>rhs;rw[<- OD s]
   rw[List.map_append];rfl
  ·exact Imp.sl⟩

abbrev dI (l:Bs):List AV:=l.map fun c=>int (c.toNat:Int)
class DIs (xs:List AV)(l:outParam Bs):Prop where
 out:xs=dI l
instance {l:Bs}:DIs (dI l) l:=⟨rfl⟩
theorem FO (l:Bs):(dI l).length=l.length:=llm _
theorem TT {n k:Nat}:dI (I9 n (k+1))=dI (I9 n k)++[int ((dg n k:Nat):Int)]:=by
 rw[Iz];unfold dI;rw[List.map_append,List.map_singleton,QM]
instance b5a {a:Wd}:Ans prog GL 199 [O0 a] True (.sl 1 (dI (I9 a.n 32)) none):=⟨fun _=>by
 refine qF func199 ntmps199 fun _ hs=>?_;repeat' first|refine Vz ?_|intro _
 rename_i g1;refine aT 3 (Imp.nil (k:=1)) ?_;refine Q6 (fun ok w h=>h.full 3 1 none 0) ?_;refine y5 (α:=Nat × Value) (fun q=>[(1,ptr g1),(3,.sl 1 (dI (I9 a.n q.1)) (some q.2)),(4,int q.1)]) (fun q=>[.tail 3 1 q.2,.var g1 39 (O0 a)]) (fun q=>q.1<=32) (fun q=>32-q.1) (0,.slice none 0 0) ⟨rfl,rfl,rfl,trivial⟩ slr (Nat.zero_le _) ?_;rintro⟨i,v⟩ hi;dsimp only at hi ⊢;have hm:(dI (I9 a.n i)).length=i:=by rw[FO,aZ]
 have hm2:=aZ a.n i;repeat' first|refine Vz ?_|intro _
 refine o8 (fun hlt=>?_) (fun hlt=>?_)
 ·have hi32:i<32:=om
  have hq:((i:Int) / 8)=((i / 8:Nat):Int):=om
  have hr:((i:Int)%8)=((i%8:Nat):Int):=om
  have hlm:=Yk a.n (i / 8);have hdv:lm a.n (i / 8) / 256 ^ (i%8)<18446744073709551616:=Nat.lt_of_le_of_lt (Nat.div_le_self _ _) hlm;have e1:=Yl a.n i;have e2:=vB a.n i;repeat' first|refine Vz ?_|intro _
  refine O4 (i / 8) ?_;repeat' first|refine Vz ?_|intro _
  refine dP (j:=i / 8) (WF om) ?_;repeat' first|refine Vz ?_|intro _
  rw[hr];repeat' first|refine Yz ?_|intro _
  refine a4D (i%8) ?_;refine a5S hdv ?_;rw[e1];repeat' first|refine Vz ?_|intro _
  refine I1 (fun v'=>?_);repeat' first|refine Vz ?_|intro _
  rw[<- TT];refine o6 (i+1,v') ⟨rfl,rfl,rfl,trivial⟩ ?_ hi32 (by dsimp only;omega);exact x9
 ·obtain rfl:i=32:=by omega
  repeat' first|refine Vz ?_|intro _
  refine E5 ?_;exact Imp.sl⟩
theorem yI {n k i:Nat}(h:i<(I9 n k).length):(I9 n k)[i].toNat=dg n i:=by
 have h1:i<k:=by rw[aZ] at h;exact h
 have h2:=TU (n:=n) h1;rw[List.getElem?_eq_getElem h] at h2;injection h2 with h2
 rw[h2,QM]
instance b2M {a b:Wd}:Ans prog GL 459 [O0 a,O0 b] True (int (tY a b)):=⟨fun _=>by
 have hla:=aZ a.n 32;have hlb:=aZ b.n 32;refine qF func459 ntmps459 fun _ hs=>?_;repeat' first|refine Vz ?_|intro _
 rename_i g2 g3;refine y5 (α:=Nat) (fun n=>[(5,.sl 1 (dI (I9 a.n 32)) none),(6,.sl 1 (dI (I9 b.n 32)) none),(7,int ((n:Int)-1))]) (fun n=>[]) (fun n=>n<=32/\a.n / 256 ^ n=b.n / 256 ^ n) (fun n=>n) 32 ⟨rfl,rfl,rfl,trivial⟩ (List.nil_sublist _) ⟨Nat.le_refl _,by rw[Nat.div_eq_of_lt a.lt,Nat.div_eq_of_lt b.lt]⟩ ?_;rintro n ⟨hn,he⟩;rcases n with _|k
 ·rw[Nat.pow_zero,Nat.div_one,Nat.div_one] at he;repeat' first|refine Zz ?_|intro _
  refine d9 ?_;unfold tY;rw[if_neg om,if_neg om];rfl
 ·rw[show ((k+1:Nat):Int)-1=(k:Int) by omega];have hka:k<(I9 a.n 32).length:=by omega
  have hkb:k<(I9 b.n 32).length:=om
  have ea:=yI hka;have eb:=yI hkb;have da:=Ip a.n k;have db:=Ip b.n k;repeat' first|refine Zz ?_|intro _
  refine o8 (fun h=>?_) (fun h=>?_)
  ·repeat' first|refine Vz ?_|intro _
   refine d9 ?_;have:a.n<b.n:=Cy (P:=256 ^ k) om;unfold tY;rw[if_pos this];rfl
  ·repeat' first|refine Vz ?_|intro _
   refine o8 (fun h2=>?_) (fun h2=>?_)
   ·repeat' first|refine Vz ?_|intro _
    refine d9 ?_;have:b.n<a.n:=Cy (P:=256 ^ k) om;unfold tY;rw[if_neg om,if_pos this];rfl
   ·repeat' first|refine Vz ?_|intro _
    refine o6 k ⟨rfl,rfl,rfl,trivial⟩ (List.nil_sublist _) ⟨om,om⟩ (Nat.lt_succ_self k)⟩
instance b2d {a:Wd}:Ans prog GL 88 [O0 a] True (str (eT a.n)):=⟨fun _=>by
 have hla:=aZ a.n 32;have hbl:=BO a.n;refine qF func88 ntmps88 fun _ hs=>?_;repeat' first|refine Vz ?_|intro _
 refine aT 4 (Imp.nil (k:=1)) ?_;refine Q6 (fun ok w h=>h.full 5 1 none 0) ?_;refine y5 (α:=Nat × Value) (fun q=>[(3,.sl 1 (dI (I9 a.n 32)) none),(4,.sl 1 (((eT a.n).take (32-q.1)).map w9) (some q.2)),(5,int ((q.1:Int)-1))]) (fun q=>[.tail 5 1 q.2]) (fun q=>q.1<=32) (fun q=>q.1) (32,.slice none 0 0) ⟨rfl,rfl,rfl,trivial⟩ (by repeat (first|exact List.nil_sublist _|exact List.Sublist.refl _|apply List.Sublist.cons_cons|apply List.Sublist.cons)) (Nat.le_refl _) ?_;rintro⟨n,v⟩ hn;dsimp only at hn ⊢;rcases n with _|k
 ·rw[show 32-0=32 from rfl,List.take_of_length_le om];repeat' first|refine Zz ?_|intro _
  exact d9 rfl
 ·rw[show ((k+1:Nat):Int)-1=(k:Int) by omega];have hka:k<(I9 a.n 32).length:=by omega
  have ea:=yI hka;have hm:((eT a.n).take (32-(k+1))).length<=32:=by rw[List.length_take];omega
  have hm2:(((eT a.n).take (32-(k+1))).map w9).length<=32:=by rw[llm];exact hm
  have e2:((eT a.n).take (32-k)).map w9=((eT a.n).take (32-(k+1))).map w9++[w9 (UInt8.ofNat (dg a.n k))]:=by
   rw[show 32-k=32-(k+1)+1 by omega,a3U om,List.map_append,show 31-(32-(k+1))=k by omega];rfl
  repeat' first|refine Zz ?_|intro _
  rw[ea,NL];refine I1 (fun v'=>?_);repeat' first|refine Vz ?_|intro _
  rw[<- e2];refine o6 (k,v') ⟨rfl,rfl,rfl,trivial⟩ ?_ (by dsimp only;omega) (Nat.lt_succ_self k);repeat (first|exact List.nil_sublist _|exact List.Sublist.refl _|apply List.Sublist.cons_cons|apply List.Sublist.cons)⟩
theorem RQ {l:Bs}{i:Nat}:L6 (l.take i)<256 ^ i:=by
 have h:=zZ (l.take i);refine Nat.lt_of_lt_of_le h (Nat.pow_le_pow_right dc ?_);rw[List.length_take];omega
theorem Ox {n m i:Nat}{x:Nat}(hi:i<4)(h:∀ j,j<4->lm m j=if j=i then x else lm n j):[u6 (lm n 0),u6 (lm n 1),u6 (lm n 2),u6 (lm n 3)].set i (u6 x)=[u6 (lm m 0),u6 (lm m 1),u6 (lm m 2),u6 (lm m 3)]:=by
 have h0:=h 0 om;have h1:=h 1 om;have h2:=h 2 om;have h3:=h 3 om;rw[h0,h1,h2,h3];rcases i with _|_|_|_|i <;> first|rfl|omega
theorem Un {l:Bs}{i:Nat}(hi:i<l.length)(j:Nat):lm (L6 (l.take (i+1))) j=if j=i / 8 then lm (L6 (l.take i)) (i / 8)+256 ^ (i%8)*l[i].toNat else lm (L6 (l.take i)) j:=by
 rw[Dl (List.getElem?_eq_getElem hi),Yj RQ l[i].toNat_lt];split
 ·rename_i h;rw[h]
 ·rfl
instance b4f {l:Bs}{xs:List AV}{id:Option Value}[hx:DIs xs l]:Ans prog GL 221 [.sl 1 xs id] (l.length=32\/l.length=33) (.tup [O0 (Z6 (L6 l)),j3 (aU (L6 l))]):=⟨fun hlen=>by
 have h:=hx.out;subst h;have hm:(dI l).length=l.length:=FO l;have hbig:33=l.length->L6 l=L6 (l.take 32)+256 ^ 32*(l.getD 32 0).toNat:=fun h=>by
  have h1:=Dl (List.getElem?_eq_getElem (show 32<l.length by omega));rw[List.take_of_length_le om] at h1;rw[h1,getD_in om]
 refine qF func221 ntmps221 fun _ hs=>?_;repeat' first|refine Vz ?_|intro _
 rename_i g2 g4;refine gK (g:=g4) (v:=iL 0) (v':=iL (L6 (l.take 0))) (fun ok w cs h=>h) ?_;refine y5 (α:=Nat) (fun i=>[(0,.sl 1 (dI l) id),(2,ptr g2),(4,ptr g4),(5,int i)]) (fun i=>[.var g4 39 (iL (L6 (l.take (min i 32)))),.var g2 39 (iL 0)])
  (fun i=>i<=l.length/\(i=33->l.getD 32 0=0)) (fun i=>l.length-i) 0 ⟨rfl,rfl,rfl,rfl,trivial⟩ slr ⟨Nat.zero_le _,fun h=>absurd h dc⟩ ?_
 rintro i ⟨hi,h33⟩;repeat' first|refine Vz ?_|intro _
 refine o8 (fun hlt=>?_) (fun hlt=>?_)
 ·have hil:i<l.length:=om
  repeat' first|refine Vz ?_|intro _
  by_cases h32:i=32
  ·subst h32;have hl33:33=l.length:=by omega
   have hb:=hbig hl33;repeat' first|refine Zz ?_|intro _
   refine o8 (fun h0=>?_) (fun h0=>?_)
   ·repeat' first|refine Vz ?_|intro _
    refine d9 ?_;have hc:1<=(l.getD 32 0).toNat:=by rw[getD_in hil];omega
    have hbb:¬ L6 l<115792089237316195423570985008687907853269984665640564039457584007913129639936:=by
     have h1:256 ^ 32*1<=256 ^ 32*(l.getD 32 0).toNat:=Nat.mul_le_mul_left _ hc;have h2:(256:Nat) ^ 32*1=115792089237316195423570985008687907853269984665640564039457584007913129639936:=by decide
     omega
    rw[Pf hbb,show aU (L6 l)=false from dZ hbb];rfl
   ·repeat' first|refine Zz ?_|intro _
    refine o6 33 ⟨rfl,rfl,rfl,rfl,trivial⟩ ?_ ⟨om,fun _=>by rw[getD_in hil];exact UInt8.toNat_inj.1 (by show _=0;omega)⟩ om;exact x9
  ·have hi32:i<32:=om
   have hr:((i:Int)%8)=((i%8:Nat):Int):=om
   have hby:=l[i].toNat_lt;have hps:=Un hil;have htop:lm (L6 (l.take i)) (i / 8)<256 ^ (i%8):=Yi RQ;have hset:=Ox (n:=L6 (l.take i)) (m:=L6 (l.take (i+1))) (x:=lm (L6 (l.take i)) (i / 8)+256 ^ (i%8)*l[i].toNat) (show i / 8<4 by omega) (fun j _=>hps j);rw[Nat.min_eq_left om];repeat' first|refine Zz ?_|intro _
   apply x8 [];exact rfl;exact rfl;kernel_rfl;intro _ _;refine O4 (i / 8) ?_;exact j4 (o9 rfl rfl);apply x8 [0];exact rfl;exact rfl;kernel_rfl;intro _ _;refine dP (j:=i / 8) (WF om) ?_;exact j4 (o9 rfl rfl);repeat' first|refine Yz ?_|intro _
   rw[hr];repeat' first|refine Yz ?_|intro _
   apply x8 [];exact rfl;exact rfl;kernel_rfl;intro _ _;refine a4E (i%8) ?_;exact j4 (o9 rfl rfl);apply x8 [];exact rfl;exact rfl;kernel_rfl;intro _ _;refine a4N ?_ rfl rfl htop hby om;exact j4 (o9 rfl rfl);repeat' first|refine Yz ?_|intro _
   apply x8 [];exact rfl;exact rfl;kernel_rfl;intro _ _;refine O4 (i / 8) ?_;exact j4 (o9 rfl rfl);apply bP [0];exact rfl;exact rfl;kernel_rfl;intro _ _;refine kM (ps:=[u6 (lm (L6 (l.take i)) 0),u6 (lm (L6 (l.take i)) 1),u6 (lm (L6 (l.take i)) 2),u6 (lm (L6 (l.take i)) 3)]) (j:=i / 8) (show i / 8<4 by omega) ?_;exact j4 (bW rfl);exact rfl;exact rfl;rw[hset];repeat' first|refine Yz ?_|intro _
   refine o6 (i+1) ⟨rfl,rfl,rfl,rfl,trivial⟩ ?_ ⟨hil,fun h=>absurd h om⟩ om;rw[Nat.min_eq_left om];exact x9
 ·obtain rfl:i=l.length:=by omega
  have hfin:L6 (l.take (min l.length 32))=L6 l:=by
   rcases hlen with h|h
   ·rw[Nat.min_eq_left om,List.take_length]
   ·rw[Nat.min_eq_right om,hbig h.symm,h33 h];rfl
  have hlt2:L6 l<115792089237316195423570985008687907853269984665640564039457584007913129639936:=by
   rw[<- hfin];refine Nat.lt_of_lt_of_le RQ ?_;exact Nat.pow_le_pow_right (n:=256) (j:=32) dc om
  rw[hfin];repeat' first|refine Vz ?_|intro _
  refine d9 ?_;rw[show aU (L6 l)=true from dT hlt2];show AV.tup [iL _,_]=.tup [iL _,_];rw[uD hlt2]⟩
theorem Ja (l:Bs)(c:UInt8):dI (l++[c])=dI l++[int (c.toNat:Int)]:=by
 unfold dI;rw[List.map_append];rfl
instance a1i {s:Bs}:Ans prog GL 311 [str s] (s.length<=1000000000) (.tup [O0 (if s.length=32 then Z6 (jK s) else wZ),int (if s.length=32 then 0 else 10)]):=⟨fun hl=>by
 refine qF func311 ntmps311 fun _ hs=>?_;repeat' first|refine Vz ?_|intro _
 refine o8 (fun hne=>?_) (fun hne=>?_)
 ·have h32:¬ s.length=32:=om
  repeat' first|refine Vz ?_|intro _
  refine d9 ?_;rw[if_neg h32,if_neg h32];rfl
 have h32:s.length=32:=om
 repeat' first|refine Vz ?_|intro _
 rename_i g2;refine aT 4 (Imp.nil (k:=1)) ?_;refine Q6 (fun ok w h=>h.full 3 1 none 0) ?_;refine y5 (α:=Nat × Value) (fun q=>[(0,str s),(2,ptr g2),(3,int 0),(4,.sl 1 (dI (s.reverse.take (32-q.1))) (some q.2)),(5,int ((q.1:Int)-1))]) (fun q=>[.tail 3 1 q.2,.var g2 39 (iL 0)]) (fun q=>q.1<=32) (fun q=>q.1) (32,.slice none 0 0) ⟨rfl,rfl,rfl,rfl,rfl,trivial⟩ (by repeat (first|exact List.nil_sublist _|exact List.Sublist.refl _|apply List.Sublist.cons_cons|apply List.Sublist.cons)) (Nat.le_refl _) ?_;rintro⟨n,v⟩ hn;dsimp only at hn ⊢;rcases n with _|k
 ·rw[show 32-0=32 from rfl,List.take_of_length_le (by rw[List.length_reverse];omega)];have hrl:s.reverse.length=32\/s.reverse.length=33:=.inl (by rw[List.length_reverse];omega);repeat' first|refine Zz ?_|intro _
  refine d9 ?_;rw[if_pos h32,if_pos h32];rfl
 ·rw[show ((k+1:Nat):Int)-1=(k:Int) by omega];have hk:k<s.length:=by omega
  have hm:(s.reverse.take (32-(k+1))).length<=32:=by rw[List.length_take];omega
  have hm2:(dI (s.reverse.take (32-(k+1)))).length<=32:=by rw[FO];exact hm
  have e0:s.reverse[32-(k+1)]'(by rw[List.length_reverse];omega)=s[k]:=by
   rw[List.getElem_reverse];congr 1
   omega
  have e2:dI (s.reverse.take (32-k))=dI (s.reverse.take (32-(k+1)))++[int (s[k].toNat:Int)]:=by
   rw[show 32-k=32-(k+1)+1 by omega,List.take_succ_eq_append_getElem (by rw[List.length_reverse];omega),Ja,e0]
  repeat' first|refine Zz ?_|intro _
  have hby:=s[k].toNat_lt;refine sH k ?_ (List.getElem?_eq_getElem hk);repeat' first|refine Yz ?_|intro _
  refine I1 (fun v'=>?_);repeat' first|refine Vz ?_|intro _
  rw[<- e2];refine o6 (k,v') ⟨rfl,rfl,rfl,rfl,rfl,trivial⟩ ?_ (by dsimp only;omega) (Nat.lt_succ_self k);repeat (first|exact List.nil_sublist _|exact List.Sublist.refl _|apply List.Sublist.cons_cons|apply List.Sublist.cons)⟩
end Go.Proofs.YtjhnaegpchadiaaGreatDoor

namespace Go.Proofs.YtjhnaegpchadiaaGreatDoor
open Go Go.RowKit Tw Av
abbrev RS:={σ:Bs × Bool // σ.1.length<=1000000000}
def sT (c most:Int)(σ:RS):RS:=⟨(j5 c most σ.1.1 σ.1.2,z8 c most σ.1.1 σ.1.2),Nat.le_trans (X5 c most σ.1.1 σ.1.2).1 σ.2⟩
def sI (c most:Int)(σ:RS):RS:=⟨(j5 c 8 σ.1.1 σ.1.2,K8 c most σ.1.1 σ.1.2),Nat.le_trans (X5 c 8 σ.1.1 σ.1.2).1 σ.2⟩
def gT (c most:Int)(σ:RS):Bs:=D8 c most σ.1.1 σ.1.2
def gI (c most:Int)(σ:RS):Int:=K3 c most σ.1.1 σ.1.2
def gZ (σ:RS):Int:=R3 σ.1.1 σ.1.2
def r9 (σ:RS):AV:=C8 σ.1.1 σ.1.2
theorem AO (c most:Int)(σ:RS):(gT c most σ).length<=1000000000:=Nat.le_trans (X5 c most σ.1.1 σ.1.2).2 σ.2
theorem a0Q {c most:Int}{σ:RS}(h:0<=most):0<=gI c most σ/\gI c most σ<=most:=by
 unfold gI K3;split <;> omega
def I4 (s:Bs):RS:=if h:s.length<=1000000000 then ⟨(s,false),h⟩ else ⟨([],true),dc⟩
theorem VZ {s:Bs}(h:s.length<=1000000000):C8 s false=r9 (I4 s):=by
 unfold I4;rw[dif_pos h];rfl
def mO (σ:RS):RS:=sI 75 16 σ
def oJ (σ:RS):RS:=sT 73 4000 (mO σ)
def oD (σ:RS):RS:=sT 79 4000 (oJ σ)
def oC (σ:RS):RS:=sT 81 4000 (oD σ)
def nZ (σ:RS):RS:=sT 82 4000 (oC σ)
def nY (σ:RS):RS:=sT 89 4000 (nZ σ)
def nX (σ:RS):RS:=sI 69 1099511627776 (nY σ)
def nW (σ:RS):RS:=sT 99 4000 (nX σ)
def nV (σ:RS):RS:=sI 104 1099511627776 (nW σ)
def iK (σ:RS):RS:=sI 116 1099511627776 (nV σ)
def iJ (σ:RS):RS:=sT 114 32 (iK σ)
def oQ (σ:RS):RS:=sT 77 32 (iJ σ)
def oP (σ:RS):RS:=sI 113 1099511627776 (oQ σ)
def oO (σ:RS):RS:=sT 115 4000 (oP σ)
def oN (σ:RS):RS:=sT 107 4000 (oO σ)
def iI (σ:RS):RS:=sT 100 4000 (oN σ)
def oM (σ:RS):RS:=sT 97 32 (iI σ)
def oL (σ:RS):RS:=sT 102 4000 (oM σ)
def oK (σ:RS):RS:=sT 103 4000 (oL σ)
def oI (σ:RS):RS:=sI 117 1099511627776 (oK σ)
def oH (σ:RS):RS:=sI 118 1099511627776 (oI σ)
def oG (σ:RS):RS:=sT 65 4000 (oH σ)
def iH (σ:RS):RS:=sI 84 1099511627776 (oG σ)
def iG (σ:RS):RS:=sT 70 4000 (iH σ)
def oF (σ:RS):RS:=sT 71 4000 (iG σ)
def CL (σ:RS):Bs:=gT 114 32 (iK σ)
def CP (σ:RS):Bs:=gT 77 32 (iJ σ)
def CR (σ:RS):Bs:=gT 97 32 (iI σ)
def CO (σ:RS):Bs:=gT 70 4000 (iH σ)
def CQ (σ:RS):Bs:=gT 71 4000 (iG σ)
def wV (b:Bs):Wd:=if b.length=32 then Z6 (jK b) else wZ
def CY (σ:RS):TxX:=
 ⟨gI 75 16 σ,gT 73 4000 (mO σ),gT 79 4000 (oJ σ),gT 81 4000 (oD σ),gT 82 4000 (oC σ),gT 89 4000 (nZ σ),gI 69 1099511627776 (nY σ),
  ⟨gT 99 4000 (nX σ),gI 104 1099511627776 (nW σ),gI 116 1099511627776 (nV σ),R9 (CL σ)⟩,R9 (CP σ),
  ⟨gI 113 1099511627776 (oQ σ),gT 115 4000 (oP σ),gT 107 4000 (oO σ),gT 100 4000 (oN σ),wV (CR σ),gT 102 4000 (oM σ),gT 103 4000 (oL σ),gI 117 1099511627776 (oK σ),gI 118 1099511627776 (oI σ)⟩,
  gT 65 4000 (oH σ),gI 84 1099511627776 (oG σ),fK (CO σ),kT (CQ σ)⟩
def sM (σ:RS):Bool:=decide ((CL σ).length=32)&&(decide ((CP σ).length=32)&&(decide ((CR σ).length=32)&&(decide (bY (CO σ)=0)&&(decide (jU (CQ σ)=0)&&decide (gZ (oF σ)=0)))))
def iF:TxX:=⟨0,[],[],[],[],[],0,NA,F3,Og,[],0,mK,qQ⟩
def J9 (σ:RS):TxX:=if sM σ=true then CY σ else iF
def Y1 (σ:RS):Int:=if sM σ=true then 0 else 10
def G5 (x:TxX):Bs:=
 p9 75 x.k++j6 73 x.i++j6 79 x.o++j6 81 x.p++j6 82 x.q++j6 89 x.y++p9 69 x.e++j6 99 x.h.c++p9 104 x.h.h++p9 116 x.h.t++j6 114 x.h.r.l++j6 77 x.m.l
 ++ p9 113 x.x.q++j6 115 x.x.s++j6 107 x.x.k++j6 100 x.x.d++j6 97 (eT x.x.a.n)++j6 102 x.x.f++j6 103 x.x.g++p9 117 x.x.h++p9 118 x.x.t
 ++ j6 65 x.a++p9 84 x.t++j6 70 (Y7 x.f)++j6 71 (jF x.g)
end Go.Proofs.YtjhnaegpchadiaaGreatDoor

namespace Go.Proofs.YtjhnaegpchadiaaGreatDoor
open Go Go.RowKit Tw Av Go.Proofs.Tryz
def dG (s:Bs):Nat:=s.findIdx fun c=>decide (c=47)
def rV (s:Bs):Int:=if dG s<s.length then (dG s:Int) else -1
theorem Zq (s:Bs):Lib.indexByte s 47=rV s:=by
 induction s with
 | nil=>rfl
 | cons c s ih=>
  rw[Lib.indexByte,ih];unfold rV dG;rw[List.findIdx_cons,List.length_cons];by_cases h:c=47
  ·subst h;simp
  ·have h2:(c == 47)=false:=by simpa using h
   rw[h2,dZ h];simp only[Bool.false_eq_true,if_false,cond_false];generalize s.findIdx (fun c=>decide (c=47))=k;by_cases hk:k<s.length
   ·have h3:(((k:Nat):Int) == -1)=false:=by
     rw[beq_eq_false_iff_ne];omega
    have h4:k+1<s.length+1:=om
    simp only[if_pos hk,if_pos h4,h3];simp
   ·have h4:¬ k+1<s.length+1:=om
    simp only[if_neg hk,if_neg h4];rfl
theorem Sk (s:Bs)(w:World):(Extern.BytealgIndexByte.indexByte #[sv s,.int .u8 47]).run prog w=.ok (.int .i64 (rV s)) w:=by
 have h:=Lib.run_indexByteString (P:=prog) ⟨s.toArray⟩ 47 w;rw[show (47:Int).toNat.toUInt8=47 from rfl,Zq] at h;exact h
instance b4H {s:Bs}:Ans prog GL 428 [str s,.lit (o5 47)] True (int (rV s)):=⟨fun _=>by
 refine qF func428 ntmps428 fun _ hs=>?_;repeat' first|refine Vz ?_|intro _
 apply GI (v:=int (rV s)) func456;kernel_rfl;exact rfl;kernel_rfl;kernel_rfl;exact rfl;exact rfl;exact rfl
 ·rintro ok w cs _ ⟨u1,us,rfl,h1,u2,us2,rfl,h2,rfl⟩;rw[RV0.lit h1,RV0.lit h2];exact⟨_,Sk s _,RVl rfl⟩
 repeat' first|refine Vz ?_|intro _
 exact d9 rfl⟩
instance b4G {s:Bs}:Ans prog GL 382 [str s,str [47]] True (int (rV s)):=⟨fun _=>by
 refine qF func382 ntmps382 fun _ hs=>?_;repeat' first|refine Zz ?_|intro _
 refine o8 (fun h=>?_) (fun h=>?_)
 ·repeat' first|refine Zz ?_|intro _
  refine d9 ?_;rw[<- h];rfl
 have h1:([47]:Bs).length=1:=rfl;repeat' first|refine Yz ?_|intro _
 exact d9 rfl⟩
instance b4I {s:Bs}:Ans prog GL 332 [str s,str [47]] True (int (rV s)):=⟨fun _=>by
 refine qF func332 ntmps332 fun _ hs=>?_;repeat' first|refine Vz ?_|intro _
 exact d9 rfl⟩
instance b4N {s p:Bs}:Ans prog GL 454 [str s,str p] True (j3 (decide (s.take p.length=p))):=⟨fun _=>by
 refine qF func454 ntmps454 fun _ hs=>?_;repeat' first|refine Vz ?_|intro _
 refine Y9 (fun h=>?_) (fun h=>?_)
 ·repeat' first|refine Vz ?_|intro _
  refine U7 0 p.length ?_;repeat' first|refine Vz ?_|intro _
  exact d9 rfl
 ·repeat' first|refine Zz ?_|intro _
  refine d9 ?_;have:¬ s.take p.length=p:=fun e=>by
   have h2:=congrArg List.length e;rw[List.length_take] at h2;omega
  rw[dZ this];rfl⟩
instance b5c {s p:Bs}:Ans prog GL 433 [str s,str p] True (.tup [str (if s.take p.length=p then s.drop p.length else s),j3 (decide (s.take p.length=p))]):=⟨fun _=>by
 refine qF func433 ntmps433 fun _ hs=>?_;repeat' first|refine Vz ?_|intro _
 refine o8 (fun h=>?_) (fun h=>?_)
 ·repeat' first|refine Vz ?_|intro _
  refine d9 ?_;rw[if_neg h,dZ h];rfl
 ·have h':s.take p.length=p:=Classical.not_not.1 h;have hl:p.length<=s.length:=by
   have h2:=congrArg List.length h';rw[List.length_take] at h2;omega
  repeat' first|refine Vz ?_|intro _
  refine U7 p.length s.length ?_;repeat' first|refine Vz ?_|intro _
  refine d9 ?_;rw[if_pos h',dT h',List.take_length];rfl⟩
instance b5d {s p:Bs}:Ans prog GL 391 [str s,str p] True (.tup [str (if s.take p.length=p then s.drop p.length else s),j3 (decide (s.take p.length=p))]):=⟨fun _=>by
 refine qF func391 ntmps391 fun _ hs=>?_;repeat' first|refine Vz ?_|intro _
 exact d9 rfl⟩
end Go.Proofs.YtjhnaegpchadiaaGreatDoor
