/- chapter 18's world, walked: behind a step -/
import Derived.Test.YtlmcongmglfaeaaGreatDoorD17
import Derived.Test.YtlmcongmglfaeaaGreatDoorD24
import Derived.Test.YtlmcongmglfaeaaGreatDoorD25
import Derived.Test.YtlmcongmglfaeaaGreatDoorD31
import Derived.Test.YtlmcongmglfaeaaGreatDoorD42
import Derived.Test.YtlmcongmglfaeaaGreatDoorD43
namespace Go.Proofs.YtlmcongmglfaeaaGreatDoor
open Go Go.RowKit Tw Av
section
variable {P:Program} {N:Nat} {ops:Array Oper} {Q:Exit->Act->World->Prop} {rest:List Oper} {s:Av.Base} {e:Av.Env} {m:List Av.Piece} {d:Nat} {ty:TypeId} {pos:String} {af:Array Edge}
theorem al_ix0 {T E:TypeId}[t:TyA P T 3 E 1][tE:Ty P E false 1]{x ix:Operand}{a b c:Bs}(h:AL P N ops Q s rest ((d,str a)::e) m)(hx:Av.ev e x=some (.agg 3 [str a,str b,str c]):=by exact rfl)(hi:Av.ev e ix=some (int 0):=by exact rfl)(hd:Nat.blt d N=true:=by exact rfl):AL P N ops Q s (⟨some d,.index T x ix,ty,pos,af,none⟩::rest) e m:=
 al_index (k:=1) (n:=3) 0 h rfl (by decide) rfl (fun p hp=>by
  rcases List.mem_cons.1 hp with rfl|hp
  ·rfl
  rcases List.mem_cons.1 hp with rfl|hp
  ·rfl
  ·rw [List.mem_singleton.1 hp]
   rfl) rfl hx hi hd
end
instance fnWKnown0 {a b:SideX}{I J:IdS}:Ans Tryz.prog GL 42 [wdA a b I J,int 0] (DOk a.d) (int (knX a false)):=⟨fun hd=>by
 refine qE Tryz.func42 rfl Tryz.ntmps42 rfl (fun _ hs=>?_)
 repeat' first|refine Zz ?_|intro _
 apply obl_read [];exact rfl;exact rfl;kernel_rfl;intro _ _
 refine al_ix0 ?_
 exact al_nil (ae_got rfl rfl)
 repeat' first|refine Zz ?_|intro _
 refine reE ?_
 rfl⟩
instance fnWKnown1 {a b:SideX}{I J:IdS}:Ans Tryz.prog GL 42 [wdA a b I J,int 1] (DOk b.d) (int (knX b true)):=⟨fun hd=>by
 refine qE Tryz.func42 rfl Tryz.ntmps42 rfl (fun _ hs=>?_)
 repeat' first|refine Zz ?_|intro _
 apply obl_read [];exact rfl;exact rfl;kernel_rfl;intro _ _
 refine al_ix0 ?_
 exact al_nil (ae_got rfl rfl)
 repeat' first|refine Zz ?_|intro _
 refine reE ?_
 rfl⟩
section
variable {P:Program} {N:Nat} {ops:Array Oper} {Q:Exit->Act->World->Prop} {rest:List Oper} {s:Av.Base} {e:Av.Env} {m:List Av.Piece} {d:Nat} {ty:TypeId} {pos:String} {af:Array Edge}
theorem al_mask7' {T yT:TypeId}{x y:Operand}{n b:Int}(h:AL P N ops Q s rest ((d,int (n % 8))::e) m)(hx:Av.ev e x=some (int n):=by exact rfl)(hy:Av.ev e y=some (int b):=by exact rfl)(hb:b=7:=by exact rfl)(hd:Nat.blt d N=true:=by exact rfl):AL P N ops Q s (⟨some d,.binOp .and T x y yT,ty,pos,af,none⟩::rest) e m:=al_mask 3 h hx hy hb (by decide) hd
theorem al_incU {T yT:TypeId}{x y:Operand}{i:Nat}(h:AL P N ops Q s rest ((d,.lit (.int .u64 (((i + 1) % 18446744073709551616:Nat):Int)))::e) m)(hx:Av.ev e x=some (.lit (.int .u64 (i:Int))):=by exact rfl)(hy:Av.ev e y=some (.lit (.int .u64 1)):=by exact rfl)(hd:Nat.blt d N=true:=by exact rfl) :
  AL P N ops Q s (⟨some d,.binOp .add T x y yT,ty,pos,af,none⟩::rest) e m:=
 al_lit rfl (fun ok w A hA=>run_bin hA hx hy (by
  show Result.ok (Value.int .u64 (IntKind.u64.wrap ((i:Int) + 1))) w=_
  rw [IntKind.wrap_u64]
  congr 2)) hd h
end
theorem wid_inc (a:Wd):widA (inc0 a)=.agg 4 [.lit (.int .u64 (((lm a.n 0 + 1) % 18446744073709551616:Nat):Int)),.lit (.int .u64 (lm a.n 1)),.lit (.int .u64 (lm a.n 2)),.lit (.int .u64 (lm a.n 3))]:=by
 have hl:∀ i,lm a.n i < 18446744073709551616:=fun i=>Nat.mod_lt _ (by decide)
 obtain⟨h1,h2,h3,h4,h5⟩:=wj_lm (a:=(lm a.n 0 + 1) % 18446744073709551616) (b:=lm a.n 1) (c:=lm a.n 2) (d:=lm a.n 3) (Nat.mod_lt _ (by decide)) (hl 1) (hl 2) (hl 3)
 show widN (wOf (wj ((lm a.n 0 + 1) % 18446744073709551616) (lm a.n 1) (lm a.n 2) (lm a.n 3))).n=_
 rw [wOf_n h1,widN,h2,h3,h4,h5]
instance fnWSpoilt {a b:SideX}{I J:IdS}{s:StpX}{x:TxX}:Ans Tryz.prog GL 47 [wdA a b I J,stpA s,txA x] (x.t<=1099511627776/\x.f.a<=1099511627776/\-1099511627776<=x.t/\-1099511627776<=x.f.a) (txA (spoX (s.s % 16) x)):=⟨fun hp=>by
 obtain⟨h1,h2,h3,h4⟩:=hp
 have k0:0<=s.s % 16:=Int.emod_nonneg _ (by decide)
 have k1:s.s % 16 < 16:=Int.emod_lt_of_pos _ (by decide)
 refine qE Tryz.func47 rfl Tryz.ntmps47 rfl (fun _ hs=>?_)
 repeat' first|refine Zz ?_|intro _
 generalize s.s % 16=n at *
 unfold spoX
 by_cases c1:n=1
 ·rw [if_pos c1]
  repeat' first|refine Zz ?_|intro _
  refine reE ?_
  rfl
 rw [if_neg c1]
 by_cases c2:n=2
 ·rw [if_pos c2]
  repeat' first|refine Zz ?_|intro _
  refine al_incU ?_
  repeat' first|refine Zz ?_|intro _
  refine reE ?_
  show AV.agg 100 _=AV.agg 100 _
  dsimp only [txA,pktA]
  rw [wid_inc]
 rw [if_neg c2]
 by_cases c3:n=3
 ·rw [if_pos c3]
  repeat' first|refine Zz ?_|intro _
  refine reE ?_
  rfl
 rw [if_neg c3]
 by_cases c4:n=4
 ·rw [if_pos c4]
  obtain⟨k,i,o,p,q,y,e,h,⟨l,hl⟩,x,a,t,f,g⟩:=x
  obtain⟨b0,r,rfl⟩:∃ b r,l=b::r:=by
   cases l with
   | nil=>cases hl
   | cons b r=>exact⟨b,r,rfl⟩
  repeat' first|refine Zz ?_|intro _
  refine reE ?_
  rfl
 rw [if_neg c4]
 by_cases c5:n=5
 ·rw [if_pos c5]
  repeat' first|refine Zz ?_|intro _
  refine reE ?_
  rfl
 rw [if_neg c5]
 by_cases c6:n=6
 ·rw [if_pos c6]
  repeat' first|refine Zz ?_|intro _
  refine reE ?_
  rfl
 rw [if_neg c6]
 repeat' first|refine Zz ?_|intro _
 refine reE ?_
 rfl⟩
instance fnWHands {a b:SideX}{I J:IdS}{s:StpX}{k:Int}{past:List Ent}{xs:List AV}[hx:Ents xs past]:Ans Tryz.prog GL 45 [wdA a b I J,stpA s,txA (txK 0 k),.sl 2 xs none] (past.length<=2000) (txA (hanX (decide (s.i % 2=1)) (s.k % 16) k past)):=⟨fun hl=>by
 have h':=hx.out
 subst h'
 have k0:0<=s.k % 16:=Int.emod_nonneg _ (by decide)
 have k1:s.k % 16 < 16:=Int.emod_lt_of_pos _ (by decide)
 have hi:s.i % 2=0\/s.i % 2=1:=by omega
 refine qE Tryz.func45 rfl Tryz.ntmps45 rfl (fun _ hs=>?_)
 unfold hanX
 repeat' first|refine Zz ?_|intro _
 rcases hi with hi|hi
 ·rw [hi,show decide ((0:Int)=1)=false from rfl]
  repeat' first|refine Zz ?_|intro _
  rw [show (1:Int) - 0=1 from rfl]
  repeat' first|refine Zz ?_|intro _
  by_cases c:6 < s.k % 16
  ·rw [if_pos c]
   repeat' first|refine Zz ?_|intro _
   rw [show 9 + s.k % 16 - 6=s.k % 16 + 3 by omega]
   refine reE ?_
   rfl
  ·rw [if_neg c]
   repeat' first|refine Zz ?_|intro _
   rw [show 5 + s.k % 16 - 2=s.k % 16 + 3 by omega]
   refine reE ?_
   rfl
 ·rw [hi,show decide ((1:Int)=1)=true from rfl]
  repeat' first|refine Zz ?_|intro _
  rw [show (1:Int) - 1=0 from rfl]
  repeat' first|refine Zz ?_|intro _
  by_cases c:6 < s.k % 16
  ·rw [if_pos c]
   repeat' first|refine Zz ?_|intro _
   rw [show 9 + s.k % 16 - 6=s.k % 16 + 3 by omega]
   refine reE ?_
   rfl
  ·rw [if_neg c]
   repeat' first|refine Zz ?_|intro _
   rw [show 5 + s.k % 16 - 2=s.k % 16 + 3 by omega]
   refine reE ?_
   rfl⟩
theorem pick_at {l:List Pkt}{n:Int}{m:Nat}(hm:m=l.length)(h:1<=l.length):∃ j:Nat,pickI n (m:Int)=(j:Int)/\∃ hj:j < l.length,atPk l n=l[j]:=by
 subst hm
 have hp:=pick_lt n (m:=(l.length:Int)) (by omega)
 refine⟨(pickI n (l.length:Int)).toNat,by omega,by omega,?_⟩
 unfold atPk
 rw [List.getD_eq_getElem?_getD,List.getElem?_eq_getElem (by omega)]
 rfl
theorem pk_eq (p q:Pkt):(decide (p.q=q.q) && (decide (p.s=q.s) && (decide (p.k=q.k) && ((decide (p.d=q.d) && (decide ([((lm p.a.n 0:Nat):Int),((lm p.a.n 1:Nat):Int),((lm p.a.n 2:Nat):Int),((lm p.a.n 3:Nat):Int)]=[((lm q.a.n 0:Nat):Int),((lm q.a.n 1:Nat):Int),((lm q.a.n 2:Nat):Int),((lm q.a.n 3:Nat):Int)]) && (decide (p.f=q.f) && (decide (p.g=q.g) && true)))) && (decide (p.h=q.h) && (decide (p.t=q.t) && true))))))=decide (p=q):=by
 rw [wd_eq]
 obtain⟨a1,a2,a3,a4,a5,a6,a7,a8,a9⟩:=p
 obtain⟨b1,b2,b3,b4,b5,b6,b7,b8,b9⟩:=q
 rw [Bool.eq_iff_iff]
 simp only [Bool.and_eq_true,decide_eq_true_eq,Pkt.mk.injEq,and_true]
 constructor
 ·rintro⟨h1,h2,h3,⟨h4,h5,h6,h7⟩,h8,h9⟩
  exact⟨h1,h2,h3,h4,h5,h6,h7,h8,h9⟩
 ·rintro⟨h1,h2,h3,h4,h5,h6,h7,h8,h9⟩
  exact⟨h1,h2,h3,⟨h4,h5,h6,h7⟩,h8,h9⟩
theorem ackTo_y {g:List Pkt}{a:List Bs}{p:Pkt}{n:Nat}(h:n < g.length)(ha:a.length=g.length)(e:g[n]=p):ackTo g a p (n + 1)=a[n]:=by
 show (if g.getD n zeroPk=p then a.getD n [] else ackTo g a p n)=_
 rw [List.getD_eq_getElem?_getD,List.getElem?_eq_getElem h,List.getD_eq_getElem?_getD,List.getElem?_eq_getElem (by omega),Option.getD_some,Option.getD_some,if_pos e]
theorem ackTo_n {g:List Pkt}{a:List Bs}{p:Pkt}{n:Nat}(h:n < g.length)(e:¬ g[n]=p):ackTo g a p (n + 1)=ackTo g a p n:=by
 show (if g.getD n zeroPk=p then a.getD n [] else ackTo g a p n)=_
 rw [List.getD_eq_getElem?_getD,List.getElem?_eq_getElem h,Option.getD_some,if_neg e]
abbrev tx0V:AV:=.agg 100 [int 0,str [],str [],str [],str [],str [],int 0,.agg 35 [str [],int 0,int 0,hA zeroH],hA zeroH,.agg 12 [int 0,str [],str [],.agg 7 [str [],.agg 4 [.lit (.int .u64 0),.lit (.int .u64 0),.lit (.int .u64 0),.lit (.int .u64 0)],str [],str []],int 0,int 0],str [],int 0,.agg 3 [int 0,int 0,.lit (.slice none 0 0)],.agg 9 [int 0,.lit (.slice none 0 0),.lit (.slice none 0 0),.agg 3 [int 0,int 0,.lit (.slice none 0 0)],.agg 3 [int 0,int 0,.lit (.slice none 0 0)]]]
set_option maxHeartbeats 2000000 in
instance fnWPackets {a b:SideX}{I J:IdS}{s:StpX}{k:Int}{past:List Ent}{xs:List AV}[hx:Ents xs past]:Ans Tryz.prog GL 46 [wdA a b I J,stpA s,txA (txK 0 k),.sl 2 xs none] ((past.length<=2000/\Srt past)/\(a.s.length<=1000000/\a.g.length<=1000000/\a.a.length=a.g.length/\∀ p ∈ a.s,PkB p)/\(b.s.length<=1000000/\b.g.length<=1000000/\b.a.length=b.g.length/\∀ p ∈ b.s,PkB p)/\12<=s.k % 16/\s.k % 16<=14)
  (txA (if s.i % 2=1 then (if s.k % 16=12 then recX a s.n k past else if s.k % 16=13 then ackX b a s.n k past else timX b s.n k past) else (if s.k % 16=12 then recX b s.n k past else if s.k % 16=13 then ackX a b s.n k past else timX a s.n k past))):=⟨fun hp=>by
 have h':=hx.out
 subst h'
 obtain⟨⟨p1,p2⟩,⟨a1,a2,a3,a4⟩,⟨b1,b2,b3,b4⟩,k1,k2⟩:=hp
 have hi:s.i % 2=0\/s.i % 2=1:=by omega
 have hm1:(a.s.map pktA).length=a.s.length:=llm _
 have hm2:(b.s.map pktA).length=b.s.length:=llm _
 have hm3:(a.g.map pktA).length=a.g.length:=llm _
 have hm4:(b.g.map pktA).length=b.g.length:=llm _
 have hpS:past.length<=2000/\Srt past:=⟨p1,p2⟩
 refine qE Tryz.func46 rfl Tryz.ntmps46 rfl (fun _ hs=>?_)
 repeat' first|refine Zz ?_|intro _
 rcases hi with hi|hi
 ·rw [hi,if_neg (by decide)]
  repeat' first|refine Zz ?_|intro _
  rw [show (1:Int) - 0=1 from rfl]
  repeat' first|refine Zz ?_|intro _
  by_cases c:s.k % 16=12
  ·rw [if_pos c]
   unfold recX
   by_cases hs:b.s=[]
   ·rw [if_pos hs]
    have hb:b.s.length=0:=by rw [hs];rfl
    repeat' first|refine Zz ?_|intro _
    refine reE ?_
    rfl
   ·rw [if_neg hs]
    have hb:1<=b.s.length:=by
     cases e:b.s with
     | nil=>exact absurd e hs
     | cons _ _=>simp
    obtain⟨j,hj,hjl,hat⟩:=pick_at (n:=s.n) hm2 hb
    rw [hat]
    have hq:=(b4 _ (List.getElem_mem hjl)).q
    repeat' first|refine Zz ?_|intro _
    rw [hj]
    repeat' first|refine Zz ?_|intro _
    refine reE ?_
    rfl
  ·rw [if_neg c]
   by_cases c3:s.k % 16=13
   ·rw [if_pos c3]
    unfold ackX
    repeat' first|refine Zz ?_|intro _
    by_cases hs:a.s=[]
    ·rw [if_pos hs]
     have hb:a.s.length=0:=by rw [hs];rfl
     repeat' first|refine Zz ?_|intro _
     refine reE ?_
     rfl
    ·rw [if_neg hs]
     have hb:1<=a.s.length:=by
      cases e:a.s with
      | nil=>exact absurd e hs
      | cons _ _=>simp
     obtain⟨j,hj,hjl,hat⟩:=pick_at (n:=s.n) hm1 hb
     rw [hat]
     have hq:=(a4 _ (List.getElem_mem hjl)).q
     repeat' first|refine Zz ?_|intro _
     rw [hj]
     repeat' first|refine Zz ?_|intro _
     rename_i gw gs gx gr ga gb
     refine ac_loop (α:=Nat) (fun i=>[(3,.sl 2 (past.map entA) none),(6,ptr gx),(8,ptr gr),(11,ptr gb),(12,str (kyW [71] a.s[j].k a.s[j].q)),(13,int i)]) (fun i=>[.var gb 30 (sdA b J),.var gr 54 tx0V,.var gx 54 (txA { txK 15 k with x:=a.s[j],a:=ackTo b.g b.a a.s[j] i })]) (fun i=>i<=b.g.length) (fun i=>b.g.length - i) 0 ⟨rfl,rfl,rfl,rfl,rfl,rfl,trivial⟩ ?_ (Nat.zero_le _) ?_
     ·exact sbl
     intro i hi
     repeat' first|refine Zz ?_|intro _
     refine ac_cond (fun h2=>?_) (fun h2=>?_)
     ·have hil:i < b.g.length:=by omega
      have hla:i < b.a.length:=by omega
      repeat' first|refine Zz ?_|intro _
      rw [pk_eq]
      by_cases he:b.g[i]=a.s[j]
      ·rw [dT he]
       repeat' first|refine Zz ?_|intro _
       rw [<- ackTo_y hil b3 he]
       refine ae_round (i + 1) ⟨rfl,rfl,rfl,rfl,rfl,rfl,trivial⟩ ?_ hil (by omega)
       exact sbl
      ·rw [dZ he]
       repeat' first|refine Zz ?_|intro _
       rw [<- ackTo_n hil he]
       refine ae_round (i + 1) ⟨rfl,rfl,rfl,rfl,rfl,rfl,trivial⟩ ?_ hil (by omega)
       exact sbl
     ·obtain rfl:i=b.g.length:=by omega
      repeat' first|refine Zz ?_|intro _
      refine reE ?_
      rfl
   ·rw [if_neg c3]
    unfold timX
    repeat' first|refine Zz ?_|intro _
    by_cases hs:a.s=[]
    ·rw [if_pos hs]
     have hb:a.s.length=0:=by rw [hs];rfl
     repeat' first|refine Zz ?_|intro _
     refine reE ?_
     rfl
    ·rw [if_neg hs]
     have hb:1<=a.s.length:=by
      cases e:a.s with
      | nil=>exact absurd e hs
      | cons _ _=>simp
     obtain⟨j,hj,hjl,hat⟩:=pick_at (n:=s.n) hm1 hb
     rw [hat]
     have hq:=(a4 _ (List.getElem_mem hjl)).q
     repeat' first|refine Zz ?_|intro _
     rw [hj]
     repeat' first|refine Zz ?_|intro _
     refine reE ?_
     rfl
 ·rw [hi,if_pos rfl]
  repeat' first|refine Zz ?_|intro _
  rw [show (1:Int) - 1=0 from rfl]
  repeat' first|refine Zz ?_|intro _
  by_cases c:s.k % 16=12
  ·rw [if_pos c]
   unfold recX
   by_cases hs:a.s=[]
   ·rw [if_pos hs]
    have hb:a.s.length=0:=by rw [hs];rfl
    repeat' first|refine Zz ?_|intro _
    refine reE ?_
    rfl
   ·rw [if_neg hs]
    have hb:1<=a.s.length:=by
     cases e:a.s with
     | nil=>exact absurd e hs
     | cons _ _=>simp
    obtain⟨j,hj,hjl,hat⟩:=pick_at (n:=s.n) hm1 hb
    rw [hat]
    have hq:=(a4 _ (List.getElem_mem hjl)).q
    repeat' first|refine Zz ?_|intro _
    rw [hj]
    repeat' first|refine Zz ?_|intro _
    refine reE ?_
    rfl
  ·rw [if_neg c]
   by_cases c3:s.k % 16=13
   ·rw [if_pos c3]
    unfold ackX
    repeat' first|refine Zz ?_|intro _
    by_cases hs:b.s=[]
    ·rw [if_pos hs]
     have hb:b.s.length=0:=by rw [hs];rfl
     repeat' first|refine Zz ?_|intro _
     refine reE ?_
     rfl
    ·rw [if_neg hs]
     have hb:1<=b.s.length:=by
      cases e:b.s with
      | nil=>exact absurd e hs
      | cons _ _=>simp
     obtain⟨j,hj,hjl,hat⟩:=pick_at (n:=s.n) hm2 hb
     rw [hat]
     have hq:=(b4 _ (List.getElem_mem hjl)).q
     repeat' first|refine Zz ?_|intro _
     rw [hj]
     repeat' first|refine Zz ?_|intro _
     rename_i gw gs gx gr ga gb
     refine ac_loop (α:=Nat) (fun i=>[(3,.sl 2 (past.map entA) none),(6,ptr gx),(8,ptr gr),(11,ptr gb),(12,str (kyW [71] b.s[j].k b.s[j].q)),(13,int i)]) (fun i=>[.var gb 30 (sdA a I),.var gr 54 tx0V,.var gx 54 (txA { txK 15 k with x:=b.s[j],a:=ackTo a.g a.a b.s[j] i })]) (fun i=>i<=a.g.length) (fun i=>a.g.length - i) 0 ⟨rfl,rfl,rfl,rfl,rfl,rfl,trivial⟩ ?_ (Nat.zero_le _) ?_
     ·exact sbl
     intro i hi
     repeat' first|refine Zz ?_|intro _
     refine ac_cond (fun h2=>?_) (fun h2=>?_)
     ·have hil:i < a.g.length:=by omega
      have hla:i < a.a.length:=by omega
      repeat' first|refine Zz ?_|intro _
      rw [pk_eq]
      by_cases he:a.g[i]=b.s[j]
      ·rw [dT he]
       repeat' first|refine Zz ?_|intro _
       rw [<- ackTo_y hil a3 he]
       refine ae_round (i + 1) ⟨rfl,rfl,rfl,rfl,rfl,rfl,trivial⟩ ?_ hil (by omega)
       exact sbl
      ·rw [dZ he]
       repeat' first|refine Zz ?_|intro _
       rw [<- ackTo_n hil he]
       refine ae_round (i + 1) ⟨rfl,rfl,rfl,rfl,rfl,rfl,trivial⟩ ?_ hil (by omega)
       exact sbl
     ·obtain rfl:i=a.g.length:=by omega
      repeat' first|refine Zz ?_|intro _
      refine reE ?_
      rfl
   ·rw [if_neg c3]
    unfold timX
    repeat' first|refine Zz ?_|intro _
    by_cases hs:b.s=[]
    ·rw [if_pos hs]
     have hb:b.s.length=0:=by rw [hs];rfl
     repeat' first|refine Zz ?_|intro _
     refine reE ?_
     rfl
    ·rw [if_neg hs]
     have hb:1<=b.s.length:=by
      cases e:b.s with
      | nil=>exact absurd e hs
      | cons _ _=>simp
     obtain⟨j,hj,hjl,hat⟩:=pick_at (n:=s.n) hm2 hb
     rw [hat]
     have hq:=(b4 _ (List.getElem_mem hjl)).q
     repeat' first|refine Zz ?_|intro _
     rw [hj]
     repeat' first|refine Zz ?_|intro _
     refine reE ?_
     rfl⟩

instance impT_nilW {k:Nat}:ImpT (.lit (.slice none 0 0)) (.sl k [] (some (.slice none 0 0))):=⟨ImpC.nilT⟩
abbrev niV:Value:=.slice none 0 0
def idP (vp vt:Value):IdS:=⟨vp,vt,niV,niV,niV⟩
abbrev nmX (i:Bool):Bs:=if i=true then [98] else [97]
abbrev sd0 (i:Bool):SideX:=⟨nmX i,minD,0,0,[],[],[],[],[]⟩
theorem cut_s (i:Bool):cutX (sd0 i) 1=cutS i:=rfl
theorem cut_hd (i:Bool):((1:Int)<=1/\(1:Int)<=((cutS i).p.length:Nat))/\((cutS i).p.length<=1000000/\(cutS i).ts.length=(cutS i).p.length)/\∀ q ∈ (cutS i).p,q.length<=1000000:=
 ⟨⟨by decide,by show (1:Int)<=((1:Nat):Int);decide⟩,⟨by show 1<=1000000;decide,rfl⟩,fun q hq=>by
  rw [show q=minD from List.mem_singleton.1 hq]
  have:=minD_ok.l
  omega⟩
theorem cl_w (i:Bool):CliW (clS i):=by
 unfold clS newR
 split
 ·exact⟨by show 1<=1000000;decide,by show (1000:Int)<=_;decide,fun s hs=>by
   rw [List.mem_singleton.1 hs]
   show (1:Int)<=_/\(hdrX (cutS (!i)) 1).t<=_
   exact⟨by decide,by show (1:Int)<=_;decide⟩⟩
 ·exact⟨by decide,by decide,fun s hs=>by cases hs⟩
theorem wz_imp (i:Bool):Imp (.agg 9 [str (nmX i),.sl 2 (minD.map entA) none,int 0,int 0,.lit (.slice none 0 0),.lit (.slice none 0 0),.lit (.slice none 0 0),.lit (.slice none 0 0),.lit (.slice none 0 0)]) (sdA (sd0 i) (idP niV niV)):=by
 show Imp _ (.agg 9 [str (nmX i),.sl 2 (minD.map entA) none,int 0,int 0,.sl 1 [] (some (.slice none 0 0)),.sl 1 [] (some (.slice none 0 0)),.sl 12 [] (some (.slice none 0 0)),.sl 12 [] (some (.slice none 0 0)),.sl 1 [] (some (.slice none 0 0))])
 exact ImpR.imp
theorem wid_natW {n:Nat}(h:n < 18446744073709551616):widA (wOf n)=.agg 4 [.lit (.int .u64 (n:Int)),.lit (.int .u64 0),.lit (.int .u64 0),.lit (.int .u64 0)]:=by
 have e:(wOf n).n=n:=wOf_n (by omega)
 have h0:lm n 0=n:=by
  unfold lm
  rw [Nat.pow_zero,Nat.div_one,Nat.mod_eq_of_lt h]
 have hz:∀ i,1<=i->lm n i=0:=fun i hi=>by
  unfold lm
  rw [Nat.div_eq_of_lt (Nat.lt_of_lt_of_le h (by
   have:=Nat.pow_le_pow_right (n:=18446744073709551616) (by decide) hi
   rw [Nat.pow_one] at this
   exact this))]
 show widN (wOf n).n=_
 rw [e,widN,h0,hz 1 (by decide),hz 2 (by decide),hz 3 (by decide)]
 rfl
theorem spec_impH {P:Program}{gl:List (Nat × AV)}{f:FuncId}{a b:AV}{r:List AV}{m:List Av.Piece}{K:AV->List Av.Piece->Prop}(hi:∀ ok w v,RV0 ok w a v->RV0 ok w b v)(h:Av.Spec P gl f (b::r) m K):Av.Spec P gl f (a::r) m K:=Av.Spec.mk fun ok w c hS hv=>by
 refine h.run ok w c hS ?_
 rw [RVs] at hv ⊢
 obtain⟨u,us,h1,h2,h3⟩:=hv
 exact⟨u,us,h1,hi _ _ _ h2,h3⟩
abbrev anD:List Ent:=(mintR [] [97,110,110] [120] (wOf 50)).1
instance fnWMint0:Ans Tryz.prog GL 112 [.lit (.slice none 0 0),str [97,110,110],str [120],.agg 4 [.lit (.int .u64 50),.lit (.int .u64 0),.lit (.int .u64 0),.lit (.int .u64 0)]] True (.tup [dSl anD,int (mintR [] [97,110,110] [120] (wOf 50)).2]):=⟨fun _=>spec_impH (b:=.sl 2 [] none) (fun ok w v h=>Imp.nilN ok w v h) (by
 rw [<- show widA (wOf 50)=.agg 4 [.lit (.int .u64 50),.lit (.int .u64 0),.lit (.int .u64 0),.lit (.int .u64 0)] from wid_natW (n:=50) (by decide)]
 exact (fnRBMint (d:=[]) (xs:=[]) (id:=none)).spec .nil)⟩
instance fnWMint1:Ans Tryz.prog GL 112 [.sl 2 (anD.map entA) none,str [98,111,98],str [121],.agg 4 [.lit (.int .u64 9),.lit (.int .u64 0),.lit (.int .u64 0),.lit (.int .u64 0)]] True (.tup [dSl minD,int (mintR anD [98,111,98] [121] (wOf 9)).2]):=⟨fun _=>by
 rw [<- show widA (wOf 9)=.agg 4 [.lit (.int .u64 9),.lit (.int .u64 0),.lit (.int .u64 0),.lit (.int .u64 0)] from wid_natW (n:=9) (by decide)]
 exact (fnRBMint (d:=anD) (xs:=anD.map entA) (id:=none)).spec (mintR_dok .nil)⟩
section
variable {P:Program} {N:Nat} {ops:Array Oper} {Q:Exit->Act->World->Prop} {s:Av.Base} {e:Av.Env} {m:List Av.Piece}
theorem al_prm {l:List Oper}(m':List Av.Piece)(h:AL P N ops Q s l e m')(hm:m'.Perm m):AL P N ops Q s l e m:=AL.mk fun ok w a hS ha=>h.run ok w a (hS.perm hm) ha
theorem al_rot {l:List Oper}(B r:List Av.Piece)(h:AL P N ops Q s l e (r++B)):AL P N ops Q s l e (B++r):=al_prm _ h List.perm_append_comm
end
theorem put_n (x:SideX)(k v:Bs):(putX x k v).n=x.n/\(putX x k v).p=x.p/\(putX x k v).ts=x.ts:=by
 unfold putX
 split <;> exact⟨rfl,rfl,rfl⟩
theorem fre_n:(freS false).n=(cutS false).n:=(put_n _ _ _).1
theorem fre_hx:hdrX (freS false) 1=hdrX (cutS false) 1:=by
 obtain⟨h1,h2,h3⟩:=put_n (cutS false) (kyO [67] (nmK false)) (cliB (clS false))
 unfold hdrX
 rw [show (freS false).n=_ from h1,show (freS false).p=_ from h2,show (freS false).ts=_ from h3]
theorem fre_hd:((1:Int)<=1/\(1:Int)<=((freS false).p.length:Nat))/\((freS false).p.length<=1000000/\(freS false).ts.length=(freS false).p.length)/\∀ q ∈ (freS false).p,q.length<=1000000:=by
 obtain⟨h1,h2,h3⟩:=put_n (cutS false) (kyO [67] (nmK false)) (cliB (clS false))
 rw [show (freS false).p=_ from h2,show (freS false).ts=_ from h3]
 exact cut_hd false
abbrev zSd (i:Bool):AV:=.agg 9 [str (nmX i),.lit (.slice none 0 0),int 0,int 0,.lit (.slice none 0 0),.lit (.slice none 0 0),.lit (.slice none 0 0),.lit (.slice none 0 0),.lit (.slice none 0 0)]
structure Ids where
 p:Value
 t:Value
 q:Value
 u:Value
def wF0:Nat->Ids->AV
 | 0,_=>.agg 18 [.agg 18 [zSd false,zSd true]]
 | 1,z=>.agg 18 [.agg 18 [sdA (cutS false) (idP z.p z.t),zSd true]]
 | _,z=>wdA (cutS false) (cutS true) (idP z.p z.t) (idP z.q z.u)
def wT0:Nat->Ids->List Av.Piece
 | 0,_=>[]
 | 1,z=>tlS (idP z.p z.t)
 | _,z=>tlS (idP z.p z.t)++tlS (idP z.q z.u)
def wF1:Nat->IdS->IdS->AV
 | 0,I,J=>wdA (cutS false) (cutS true) I J
 | 1,I,J=>wdA (freS false) (cutS true) I J
 | _,I,J=>wdA (freS false) (freS true) I J
set_option maxRecDepth 100000 in
set_option maxHeartbeats 4000000 in
theorem fnWFresh:Av.Spec Tryz.prog GL 41 [] [] fun u m=>∃ p0 t0 p1 t1,u=wdA (freS false) (freS true) (idP p0 t0) (idP p1 t1)/\m=tlS (idP p0 t0)++tlS (idP p1 t1):=by
 refine qE Tryz.func41 rfl Tryz.ntmps41 rfl (fun _ hs=>?_)
 repeat' first|refine Zz ?_|intro _
 rename_i g0 g1
 refine ac_loop (α:=Nat × Ids) (fun q=>[(0,ptr g0),(1,ptr g1),(2,int q.1)]) (fun q=>[.var g1 33 (wF0 q.1 q.2),.var g0 33 (.agg 18 [.agg 18 [.agg 9 [str [],.lit (.slice none 0 0),int 0,int 0,.lit (.slice none 0 0),.lit (.slice none 0 0),.lit (.slice none 0 0),.lit (.slice none 0 0),.lit (.slice none 0 0)],.agg 9 [str [],.lit (.slice none 0 0),int 0,int 0,.lit (.slice none 0 0),.lit (.slice none 0 0),.lit (.slice none 0 0),.lit (.slice none 0 0),.lit (.slice none 0 0)]]])]++wT0 q.1 q.2) (fun q=>q.1<=2) (fun q=>2 - q.1) (0,⟨niV,niV,niV,niV⟩) ⟨rfl,rfl,rfl,trivial⟩ slr (Nat.zero_le _) ?_
 rintro⟨i,z⟩ hi
 dsimp only at hi ⊢
 obtain rfl|rfl|rfl:i=0\/i=1\/i=2:=by omega
 ·dsimp only [wF0,wT0]
  repeat' first|refine Zz ?_|intro _
  refine al_as 36 (wz_imp false) ?_
  refine al_st (fun ok w h=>h.full 9 1 none 0) ?_
  refine al_st (fun ok w h=>h.full 47 12 none 0) ?_
  refine al_st (fun ok w h=>h.full 47 12 none 0) ?_
  refine al_st (fun ok w h=>h.full 3 1 none 0) ?_
  refine al_st (fun ok w h=>h.full 24 1 none 0) ?_
  refine al_callK (args:=[sdA (sd0 false) (idP niV niV),int 1]) (tlS (idP niV niV)) _ (by rw [hs];exact fnWCut (by decide) (by decide) (by decide)) (fun u m1 hh=>?_) lpr
  obtain⟨vp,vt,rfl,rfl⟩:=hh
  rw [cut_s]
  show AL _ _ _ _ _ _ ((37,sdA (cutS false) (idP vp vt))::_) (tlS (idP vp vt)++_)
  refine al_rot (tlS (idP vp vt)) _ ?_
  repeat' first|refine Zz ?_|intro _
  refine ae_round (1,⟨vp,vt,niV,niV⟩) ⟨rfl,rfl,rfl,trivial⟩ ?_ (by show (1:Nat)<=2;decide) (by show (2 - 1:Nat) < 2 - 0;decide)
  ·exact sbl
 ·dsimp only [wF0,wT0]
  repeat' first|refine Zz ?_|intro _
  refine al_as 36 (wz_imp true) ?_
  refine al_st (fun ok w h=>h.full 9 1 none 0) ?_
  refine al_st (fun ok w h=>h.full 47 12 none 0) ?_
  refine al_st (fun ok w h=>h.full 47 12 none 0) ?_
  refine al_st (fun ok w h=>h.full 3 1 none 0) ?_
  refine al_st (fun ok w h=>h.full 24 1 none 0) ?_
  refine al_callK (args:=[sdA (sd0 true) (idP niV niV),int 1]) (tlS (idP niV niV)) _ (by rw [hs];exact fnWCut (by decide) (by decide) (by decide)) (fun u m1 hh=>?_) lpr
  obtain⟨vp,vt,rfl,rfl⟩:=hh
  rw [cut_s]
  show AL _ _ _ _ _ _ ((37,sdA (cutS true) (idP vp vt))::_) (tlS (idP vp vt)++_)
  refine al_rot (tlS (idP vp vt)) _ ?_
  repeat' first|refine Zz ?_|intro _
  refine ae_round (2,⟨z.p,z.t,vp,vt⟩) ⟨rfl,rfl,rfl,trivial⟩ ?_ (by show (2:Nat)<=2;decide) (by show (2 - 2:Nat) < 2 - 1;decide)
  ·exact sbl
 ·dsimp only [wF0,wT0]
  repeat' first|refine Zz ?_|intro _
  refine ac_loop (α:=Nat) (fun q=>[(0,ptr g0),(1,ptr g1),(4,int q)]) (fun q=>[.var g1 33 (wF1 q (idP z.p z.t) (idP z.q z.u)),.var g0 33 (.agg 18 [.agg 18 [.agg 9 [str [],.lit (.slice none 0 0),int 0,int 0,.lit (.slice none 0 0),.lit (.slice none 0 0),.lit (.slice none 0 0),.lit (.slice none 0 0),.lit (.slice none 0 0)],.agg 9 [str [],.lit (.slice none 0 0),int 0,int 0,.lit (.slice none 0 0),.lit (.slice none 0 0),.lit (.slice none 0 0),.lit (.slice none 0 0),.lit (.slice none 0 0)]]])]++(tlS (idP z.p z.t)++tlS (idP z.q z.u))) (fun q=>q<=2) (fun q=>2 - q) 0 ⟨rfl,rfl,rfl,trivial⟩ slr (Nat.zero_le _) ?_
  intro i hi
  obtain rfl|rfl|rfl:i=0\/i=1\/i=2:=by omega
  ·dsimp only [wF1]
   rw [show ((0:Nat):Int)=0 from rfl]
   have hn1:(cutS true).n.length=1:=rfl
   have hhd:=cut_hd true
   have hw:CliW (newR ([107,101,121]++(cutS true).n) 1000 (hdrX (cutS true) 1)):=cl_w false
   have hd0:DOk (cutS false).d:=minD_ok
   repeat' first|refine Zz ?_|intro _
   rw [show (1:Int) - 0=1 from rfl]
   repeat' first|refine Zz ?_|intro _
   apply obl_writeN [12];exact rfl;exact rfl;kernel_rfl
   ·intro _ _
    refine al_store ?_
    exact al_nil (ae_gotN rfl)
   ·exact rfl
   ·exact rfl
   repeat' first|refine Zz ?_|intro _
   apply obl_read [];exact rfl;exact rfl;kernel_rfl
   ·intro _ _
    refine al_ix0 ?_
    exact al_nil (ae_got rfl rfl)
   repeat' first|refine Zz ?_|intro _
   apply obl_read [12];exact rfl;exact rfl;kernel_rfl
   ·intro _ _
    refine al_load ?_
    exact al_nil (ae_got rfl rfl)
   repeat' first|refine Zz ?_|intro _
   refine ae_round 1 ⟨rfl,rfl,rfl,trivial⟩ ?_ (by decide) (by decide)
   exact sbl
  ·dsimp only [wF1]
   rw [show ((1:Nat):Int)=1 from rfl]
   have hn1:(freS false).n.length=1:=by rw [fre_n];rfl
   have hhd:=fre_hd
   have hw:CliW (newR ([107,101,121]++(freS false).n) 1000 (hdrX (freS false) 1)):=by
    rw [fre_n,fre_hx]
    exact cl_w true
   have hd0:DOk (cutS true).d:=minD_ok
   repeat' first|refine Zz ?_|intro _
   rw [show (1:Int) - 1=0 from rfl]
   repeat' first|refine Zz ?_|intro _
   apply obl_writeN [12];exact rfl;exact rfl;kernel_rfl
   ·intro _ _
    refine al_store ?_
    exact al_nil (ae_gotN rfl)
   ·exact rfl
   ·exact rfl
   repeat' first|refine Zz ?_|intro _
   apply obl_read [];exact rfl;exact rfl;kernel_rfl
   ·intro _ _
    refine al_ix0 ?_
    exact al_nil (ae_got rfl rfl)
   repeat' first|refine Zz ?_|intro _
   apply obl_read [12];exact rfl;exact rfl;kernel_rfl
   ·intro _ _
    refine al_load ?_
    exact al_nil (ae_got rfl rfl)
   repeat' first|refine Zz ?_|intro _
   rw [fre_n,fre_hx]
   refine ae_round 2 ⟨rfl,rfl,rfl,trivial⟩ ?_ (by decide) (by decide)
   exact sbl
  ·dsimp only [wF1]
   repeat' first|refine Zz ?_|intro _
   refine reK (tlS (idP z.p z.t)++tlS (idP z.q z.u)) ⟨_,_,_,_,rfl,rfl⟩ ?_
   exact sbl

def wO1:Nat->IdS->IdS->AV
 | 0,I,J=>wdA (freS false) (freS true) I J
 | 1,I,J=>wdA (opeS false) (freS true) I J
 | _,I,J=>wdA (opeS false) (opeS true) I J
theorem put_dokX {x:SideX}(h:DOk x.d)(k v:Bs):DOk (putX x k v).d:=by
 unfold putX
 split
 ·exact putR_dok h
 ·exact h
theorem fre_dok (i:Bool):DOk (freS i).d:=put_dokX minD_ok _ _
set_option maxRecDepth 100000 in
set_option maxHeartbeats 4000000 in
theorem fnWOpened:Av.Spec Tryz.prog GL 30 [] [] fun u m=>∃ p0 t0 p1 t1,u=wdA (opeS false) (opeS true) (idP p0 t0) (idP p1 t1)/\m=tlS (idP p0 t0)++tlS (idP p1 t1):=by
 refine qE Tryz.func30 rfl Tryz.ntmps30 rfl (fun _ hs=>?_)
 repeat' first|refine Zz ?_|intro _
 refine al_callK (args:=[]) [] _ (by rw [hs];exact fnWFresh) (fun u m1 hh=>?_) lpr
 obtain⟨p0,t0,p1,t1,rfl,rfl⟩:=hh
 refine al_rot _ _ ?_
 repeat' first|refine Zz ?_|intro _
 rename_i g0 g1
 refine ac_loop (α:=Nat) (fun q=>[(0,ptr g0),(1,ptr g1),(2,int q)]) (fun q=>[.var g1 33 (wO1 q (idP p0 t0) (idP p1 t1)),.var g0 33 (.agg 18 [.agg 18 [.agg 9 [str [],.lit (.slice none 0 0),int 0,int 0,.lit (.slice none 0 0),.lit (.slice none 0 0),.lit (.slice none 0 0),.lit (.slice none 0 0),.lit (.slice none 0 0)],.agg 9 [str [],.lit (.slice none 0 0),int 0,int 0,.lit (.slice none 0 0),.lit (.slice none 0 0),.lit (.slice none 0 0),.lit (.slice none 0 0),.lit (.slice none 0 0)]]])]++(tlS (idP p0 t0)++tlS (idP p1 t1))) (fun q=>q<=2) (fun q=>2 - q) 0 ⟨rfl,rfl,rfl,trivial⟩ slr (Nat.zero_le _) ?_
 intro i hi
 obtain rfl|rfl|rfl:i=0\/i=1\/i=2:=by omega
 ·dsimp only [wO1]
  rw [show ((0:Nat):Int)=0 from rfl]
  have hd0:=fre_dok false
  have hd1:DOk (putX (freS false) (kyO [75] (nmN false)) (enxB ⟨3,nmK false,nmK true,nmN true⟩)).d:=put_dokX hd0 _ _
  repeat' first|refine Zz ?_|intro _
  rw [show (1:Int) - 0=1 from rfl]
  repeat' first|refine Zz ?_|intro _
  refine ae_round 1 ⟨rfl,rfl,rfl,trivial⟩ ?_ (by decide) (by decide)
  exact sbl
 ·dsimp only [wO1]
  rw [show ((1:Nat):Int)=1 from rfl]
  have hd0:=fre_dok true
  have hd1:DOk (putX (freS true) (kyO [75] (nmN true)) (enxB ⟨3,nmK true,nmK false,nmN false⟩)).d:=put_dokX hd0 _ _
  repeat' first|refine Zz ?_|intro _
  rw [show (1:Int) - 1=0 from rfl]
  repeat' first|refine Zz ?_|intro _
  refine ae_round 2 ⟨rfl,rfl,rfl,trivial⟩ ?_ (by decide) (by decide)
  exact sbl
 ·dsimp only [wO1]
  repeat' first|refine Zz ?_|intro _
  refine reK (tlS (idP p0 t0)++tlS (idP p1 t1)) ⟨_,_,_,_,rfl,rfl⟩ ?_
  exact sbl

section
variable {P:Program} {N:Nat} {ops:Array Oper} {Q:Exit->Act->World->Prop} {s:Av.Base} {e:Av.Env} {m:List Av.Piece}
theorem al_up {l:List Oper}(A V r:List Av.Piece)(h:AL P N ops Q s l e (A++(V++r))):AL P N ops Q s l e (V++(A++r)):=al_prm _ h (List.perm_append_comm_assoc A V r)
end
set_option maxHeartbeats 4000000 in
theorem fnWAfter0 {a b:SideX}{I J:IdS}{s:StpX}{z:TxX}{d:List Ent}{r:Rep}{N:Nat}(hi:s.i % 2=0)(hN:N<=1000)(ha:SOk N a)(hd:DOk d)(_:PkB z.x):Av.Spec Tryz.prog GL 15 [wdA a b I J,stpA s,txA z,.sl 2 (d.map entA) none,repA r] (tlS I++tlS J) fun u m=>∃ I',u=wdA (aftX a s.t z d r) b I' J/\m=tlS I'++tlS J:=by
 have hh:0<=a.h/\a.h<=1000000:=by have:=ha.h;have:=ha.hN;omega
 have hpl:a.p.length<=1000000:=by have:=ha.hN;omega
 have htl:a.ts.length<=1000000:=by have:=ha.tl;omega
 have ht:0<=a.t/\a.t<=4000:=by have:=ha.t;omega
 have hm1:(a.s.map pktA).length=a.s.length:=llm _
 have hm2:(a.g.map pktA).length=a.g.length:=llm _
 have hm3:(a.a.map str).length=a.a.length:=llm _
 have hsl:a.s.length<=1000:=by have:=ha.sl;omega
 have hgl:a.g.length<=1000:=by have:=ha.gl;omega
 have hal:a.a.length<=1000:=by have:=ha.al;omega
 refine qE Tryz.func15 rfl Tryz.ntmps15 rfl (fun _ hs=>?_)
 repeat' first|refine Zz ?_|intro _
 rw [hi]
 unfold aftX
 by_cases c0:z.k=0
 ·rw [if_pos c0]
  repeat' first|refine Zz ?_|intro _
  refine al_up (tlS I) [_,_,_,_,_,_] _ ?_
  refine al_callK (args:=[sdA a I,int (a.t + s.t % 4)]) (tlS I) _ (by rw [hs];exact fnWCut hh hpl htl) (fun u m1 hu=>?_) lpr
  obtain⟨vp,vt,rfl,rfl⟩:=hu
  repeat' first|refine Zz ?_|intro _
  refine reK (tlS { I with p:=vp,t:=vt }++tlS J) ⟨_,rfl,rfl⟩ ?_
  exact sbl
 rw [if_neg c0]
 by_cases c1:r.e=0
 ·rw [if_neg (by simpa using c1)]
  have hE:DOk d/\([72]:Bs).length<=1000000000:=⟨hd,by decide⟩
  repeat' first|refine Zz ?_|intro _
  by_cases c2:z.k=13
  ·rw [if_pos c2]
   repeat' first|refine Zz ?_|intro _
   refine al_append (fun vs=>?_)
   repeat' first|refine Zz ?_|intro _
   refine reK (tlS { I with s:=vs }++tlS J) ⟨{ I with s:=vs },?_,rfl⟩ ?_
   ·show AV.agg 18 _=AV.agg 18 _
    dsimp only [sdA]
    rw [List.map_append]
    rfl
   ·exact sbl
  rw [if_neg c2]
  by_cases c3:z.k=14
  ·rw [if_pos c3]
   repeat' first|refine Zz ?_|intro _
   refine al_append (fun vg=>?_)
   repeat' first|refine Zz ?_|intro _
   refine al_append (fun va=>?_)
   repeat' first|refine Zz ?_|intro _
   refine reK (tlS { I with g:=vg,a:=va }++tlS J) ⟨{ I with g:=vg,a:=va },?_,rfl⟩ ?_
   ·show AV.agg 18 _=AV.agg 18 _
    dsimp only [sdA]
    rw [List.map_append,List.map_append]
    rfl
   ·exact sbl
  rw [if_neg c3]
  repeat' first|refine Zz ?_|intro _
  refine reK (tlS I++tlS J) ⟨I,rfl,rfl⟩ ?_
  exact sbl
 ·rw [if_pos c1]
  repeat' first|refine Zz ?_|intro _
  refine reK (tlS I++tlS J) ⟨I,rfl,rfl⟩ ?_
  exact sbl
set_option maxHeartbeats 4000000 in
theorem fnWAfter1 {a b:SideX}{I J:IdS}{s:StpX}{z:TxX}{d:List Ent}{r:Rep}{N:Nat}(hi:s.i % 2=1)(hN:N<=1000)(hb:SOk N b)(hd:DOk d)(_:PkB z.x):Av.Spec Tryz.prog GL 15 [wdA a b I J,stpA s,txA z,.sl 2 (d.map entA) none,repA r] (tlS I++tlS J) fun u m=>∃ J',u=wdA a (aftX b s.t z d r) I J'/\m=tlS I++tlS J':=by
 have hh:0<=b.h/\b.h<=1000000:=by have:=hb.h;have:=hb.hN;omega
 have hpl:b.p.length<=1000000:=by have:=hb.hN;omega
 have htl:b.ts.length<=1000000:=by have:=hb.tl;omega
 have ht:0<=b.t/\b.t<=4000:=by have:=hb.t;omega
 have hm1:(b.s.map pktA).length=b.s.length:=llm _
 have hm2:(b.g.map pktA).length=b.g.length:=llm _
 have hm3:(b.a.map str).length=b.a.length:=llm _
 have hsl:b.s.length<=1000:=by have:=hb.sl;omega
 have hgl:b.g.length<=1000:=by have:=hb.gl;omega
 have hal:b.a.length<=1000:=by have:=hb.al;omega
 refine qE Tryz.func15 rfl Tryz.ntmps15 rfl (fun _ hs=>?_)
 repeat' first|refine Zz ?_|intro _
 rw [hi]
 unfold aftX
 by_cases c0:z.k=0
 ·rw [if_pos c0]
  repeat' first|refine Zz ?_|intro _
  refine al_up (tlS J) ([_,_,_,_,_,_]++tlS I) [] ?_
  refine al_callK (args:=[sdA b J,int (b.t + s.t % 4)]) (tlS J) _ (by rw [hs];exact fnWCut hh hpl htl) (fun u m1 hu=>?_) lpr
  obtain⟨vp,vt,rfl,rfl⟩:=hu
  refine al_rot (tlS { J with p:=vp,t:=vt }) _ ?_
  repeat' first|refine Zz ?_|intro _
  refine reK (tlS I++tlS { J with p:=vp,t:=vt }) ⟨_,rfl,rfl⟩ ?_
  exact sbl
 rw [if_neg c0]
 by_cases c1:r.e=0
 ·rw [if_neg (by simpa using c1)]
  have hE:DOk d/\([72]:Bs).length<=1000000000:=⟨hd,by decide⟩
  repeat' first|refine Zz ?_|intro _
  by_cases c2:z.k=13
  ·rw [if_pos c2]
   repeat' first|refine Zz ?_|intro _
   refine al_append (fun vs=>?_)
   repeat' first|refine Zz ?_|intro _
   refine reK (tlS I++tlS { J with s:=vs }) ⟨{ J with s:=vs },?_,rfl⟩ ?_
   ·show AV.agg 18 _=AV.agg 18 _
    dsimp only [sdA]
    rw [List.map_append]
    rfl
   ·exact sbl
  rw [if_neg c2]
  by_cases c3:z.k=14
  ·rw [if_pos c3]
   repeat' first|refine Zz ?_|intro _
   refine al_append (fun vg=>?_)
   repeat' first|refine Zz ?_|intro _
   refine al_append (fun va=>?_)
   repeat' first|refine Zz ?_|intro _
   refine reK (tlS I++tlS { J with g:=vg,a:=va }) ⟨{ J with g:=vg,a:=va },?_,rfl⟩ ?_
   ·show AV.agg 18 _=AV.agg 18 _
    dsimp only [sdA]
    rw [List.map_append,List.map_append]
    rfl
   ·exact sbl
  rw [if_neg c3]
  repeat' first|refine Zz ?_|intro _
  refine reK (tlS I++tlS J) ⟨J,rfl,rfl⟩ ?_
  exact sbl
 ·rw [if_pos c1]
  repeat' first|refine Zz ?_|intro _
  refine reK (tlS I++tlS J) ⟨J,rfl,rfl⟩ ?_
  exact sbl
end Go.Proofs.YtlmcongmglfaeaaGreatDoor
