/- . -/
import Derived.Test.YtocpacdnjbjjmaaGreatDoorS37
set_option maxHeartbeats 64000000
namespace Go.Proofs.YtocpacdnjbjjmaaGreatDoor
open Go Go.RowKit Tw Av Go.Proofs.Tryz
attribute [local irreducible] V6 O0
structure TxB (x:TxX):Prop where
 i:x.i.length<=400000000
 o:x.o.length<=400000000
 p:x.p.length<=400000000
 q:x.q.length<=400000000
 y:x.y.length<=400000000
 a:x.a.length<=400000000
 s:x.x.s.length<=400000000
 k:x.x.k.length<=400000000
 d:x.x.d.length<=400000000
 f:x.x.f.length<=400000000
 g:x.x.g.length<=400000000
 hh:x.h.h<=9223372036854775807
 ht:x.h.t<=9223372036854775807
 fm:x.f.m<=9223372036854775807
 gm:x.g.a.m<=9223372036854775807/\x.g.b.m<=9223372036854775807
instance b7w {d:List Ent}{h t e:Int}{xs:List AV}[hx:Ents xs d]:Ans prog GL 184 [.agg 3 [.agg 1 [.sl 2 xs none],int h,int t],int e] True (.tup [dA (K8 d e).1,J6 (K8 d e).2]):=⟨fun _=>by
 have h':=hx.out;subst h';refine qE func184 rfl ntmps184 rfl (fun _ hs=>?_);repeat' first|refine Zz ?_|intro _
 refine d9 ?_;rfl⟩
instance b7r {d r:List Ent}{h t e a b:Int}{c:Bs}{xs ys:List AV}[hx:Ents xs d][hy:Ents ys r]:Ans prog GL 300 [.agg 3 [.agg 1 [.sl 2 xs none],int h,int t],.agg 1 [.sl 2 ys none],int e,.agg 3 [int a,int b,str c]] True (.tup [dA (oP d (r,e) ⟨a,b,c⟩).1,J6 (oP d (r,e) ⟨a,b,c⟩).2]):=⟨fun _=>by
 have h':=hx.out;subst h';have h':=hy.out;subst h';unfold oP;refine qE func300 rfl ntmps300 rfl (fun _ hs=>?_);repeat' first|refine Zz ?_|intro _
 by_cases he:e=0
 ·rw[if_pos he,dZ (nni he)];repeat' first|refine Zz ?_|intro _
  refine d9 ?_;rfl
 ·rw[if_neg he,dT he];repeat' first|refine Zz ?_|intro _
  refine d9 ?_;rfl⟩
instance b7v {d:List Ent}{h t:Int}{x:TxX}{xs:List AV}[hx:Ents xs d]:Ans prog GL 243 [.agg 3 [.agg 1 [.sl 2 xs none],int h,int t],U0 x] (DOk d/\TxB x) (.tup [dA (rF d x.x).1,J6 (rF d x.x).2]):=⟨fun hp=>by
 obtain⟨hd,hb⟩:=hp;have b1:=hb.d;have h':=hx.out;subst h';refine qE func243 rfl ntmps243 rfl (fun _ hs=>?_);repeat' first|refine Zz ?_|intro _
 unfold rF;cases h1:W9 x.x.d
 ·rw[if_pos (.inl rfl)];repeat' first|refine Zz ?_|intro _
  refine d9 ?_;rfl
 repeat' first|refine Zz ?_|intro _
 by_cases h2:0<iK x.x.d
 ·rw[if_pos (.inr (.inl h2)),dT (show (0:Int)<((iK x.x.d:Nat):Int) by omega)];repeat' first|refine Zz ?_|intro _
  refine d9 ?_;rfl
 rw[dZ (show ¬ (0:Int)<((iK x.x.d:Nat):Int) by omega)];repeat' first|refine Zz ?_|intro _
 cases h3:Y3 x.x.g
 ·rw[if_pos (.inr (.inr rfl))];repeat' first|refine Zz ?_|intro _
  refine d9 ?_;rfl
 rw[if_neg (show ¬ (true=false\/0<iK x.x.d\/true=false) by simp[h2])];repeat' first|refine Zz ?_|intro _
 refine d9 ?_;rfl⟩
instance b7u {d:List Ent}{h t:Int}{x:TxX}{xs:List AV}[hx:Ents xs d]:Ans prog GL 244 [.agg 3 [.agg 1 [.sl 2 xs none],int h,int t],U0 x] (DOk d/\TxB x) (.tup [dA (rD d x.x).1,J6 (rD d x.x).2]):=⟨fun hp=>by
 obtain⟨hd,hb⟩:=hp;have b1:=hb.d;have h':=hx.out;subst h';refine qE func244 rfl ntmps244 rfl (fun _ hs=>?_);repeat' first|refine Zz ?_|intro _
 unfold rD;cases h1:W9 x.x.d
 ·rw[if_pos (.inl rfl)];repeat' first|refine Zz ?_|intro _
  refine d9 ?_;rfl
 repeat' first|refine Zz ?_|intro _
 cases h2:Y3 x.x.f
 ·rw[if_pos (.inr (.inl rfl))];repeat' first|refine Zz ?_|intro _
  refine d9 ?_;rfl
 repeat' first|refine Zz ?_|intro _
 cases h3:Y3 x.x.g
 ·rw[if_pos (.inr (.inr rfl))];repeat' first|refine Zz ?_|intro _
  refine d9 ?_;rfl
 rw[if_neg (show ¬ (true=false\/true=false\/true=false) by decide)];repeat' first|refine Zz ?_|intro _
 refine d9 ?_;rfl⟩
theorem Wi {x:Cli}{h:Hdr}{m:Hsh}{t:Int}(hx:CliF x)(h1:h.h<=9223372036854775807)(h2:h.t<=9223372036854775807):CliW (jR x h m t):=by
 unfold jR;split
 ·unfold lH;split
  ·exact hx.w
  ·split
   ·exact⟨hx.w.n,hx.w.p,hx.w.s⟩
   ·have hn:=hx.n;refine⟨?_,hx.w.p,fun s hs=>?_⟩
    ·show (BQ x.l (kU h)).length<=_;unfold BQ;simp;omega
    ·have hs:s∈BQ x.l (kU h):=hs;unfold BQ at hs;rcases List.mem_append.1 (List.mem_of_mem_drop hs) with hs|hs
     ·exact hx.w.s s (List.mem_of_mem_take hs)
     ·rcases List.mem_cons.1 hs with rfl|hs
      ·exact⟨by show h.h<=_;omega,by show h.t<=_;omega⟩
      ·exact hx.w.s s (List.mem_of_mem_drop hs)
 ·exact PE.w
end Go.Proofs.YtocpacdnjbjjmaaGreatDoor

namespace Go.Proofs.YtocpacdnjbjjmaaGreatDoor
open Go Go.RowKit Tw Av
theorem a3M {c m:Int}{σ:RS}(h:0<=m):((gT c m σ).length:Int)<=m:=(uA c m σ.1.1 σ.1.2).2 h
theorem a0f {c m:Int}{s:Bs}{b:Bool}(h:0<=m):J8 c m s b<=m:=by
 unfold J8;split <;> omega
theorem Bc (s:Bs):(fF s).m<=2000:=by
 unfold fF;split
 ·exact a0f dc
 ·decide
theorem Ab (s:Bs)(b:Bool):(kV s b).m<=2000:=by
 unfold kV;split
 ·exact Bc _
 ·decide
theorem Bt (s:Bs):(kC s).a.m<=2000/\(kC s).b.m<=2000:=by
 unfold kC;split
 ·exact⟨Ab _ _,Ab _ _⟩
 ·decide
theorem Wy (σ:RS):TxB (DY σ):=by
 have ht:∀ (c:Int) (τ:RS),(gT c 4000 τ).length<=400000000:=fun c τ=>by
  have:=a3M (c:=c) (m:=4000) (σ:=τ) dc;omega
 have hi:∀ (c:Int) (τ:RS),gI c 1099511627776 τ<=9223372036854775807:=fun c τ=>Int.le_trans (a3Q dc).2 dc;exact⟨ht _ _,ht _ _,ht _ _,ht _ _,ht _ _,ht _ _,ht _ _,ht _ _,ht _ _,ht _ _,ht _ _,hi _ _,hi _ _,Int.le_trans (Bc _) dc,Int.le_trans (Bt _).1 dc,Int.le_trans (Bt _).2 dc⟩
theorem Ba (σ:RS):TxB (J5 σ):=by
 unfold J5;split
 ·exact Wy σ
 ·exact⟨dc,dc,dc,dc,dc,dc,dc,dc,dc,dc,dc,dc,dc,dc,dc⟩
theorem zR (c m:Int)(σ:RS):(sT c m σ).1.1.length<=σ.1.1.length:=(Q9 c m σ.1.1 σ.1.2).1
theorem KE (c m:Int)(σ:RS):(sI c m σ).1.1.length<=σ.1.1.length:=(Q9 c 8 σ.1.1 σ.1.2).1
theorem a3N (c m:Int)(σ:RS):(gT c m σ).length<=σ.1.1.length:=(Q9 c m σ.1.1 σ.1.2).2
theorem Sj (s:Bs):(F8 s).1.1.length<=s.length:=by
 unfold F8;split
 ·exact Nat.le_refl _
 ·exact Nat.zero_le _
theorem Zp {s:Bs}(h:s.length<32):U7 (F8 s)=10:=by
 have h0:=Sj s;generalize F8 s=σ at *;have h1:(eZ σ).1.1.length<=σ.1.1.length:=Nat.le_trans (KE _ _ _) (Nat.le_trans (KE _ _ _) (Nat.le_trans (zR _ _ _) (Nat.le_trans (KE _ _ _) (Nat.le_trans (zR _ _ _) (Nat.le_trans (zR _ _ _) (Nat.le_trans (zR _ _ _) (Nat.le_trans (zR _ _ _) (Nat.le_trans (zR _ _ _) (KE _ _ _)))))))));have h2:(wS σ).length<=(eZ σ).1.1.length:=a3N _ _ _;have h3:oM σ=false:=by
  unfold oM;rw[dZ (show ¬ (wS σ).length=32 by omega),Bool.false_and]
 unfold U7;rw[h3];rfl
theorem gY {c m:Int}{t r:Bs}{σ:RS}(hσ:σ.1=(o8 c t++r,false))(h0:0<=c)(h1:c<256){n:Nat}(h2:t.length<=n)(h3:(n:Int)<=m/\n<=16777215):gT c m σ=t/\(sT c m σ).1=(r,false):=by
 obtain⟨a,b,e⟩:=xI (c:=c) (most:=m) (s:=t) (r:=r) h0 h1 om om;unfold gT sT;dsimp only;rw[hσ];dsimp only;rw[a,b,e];exact⟨rfl,rfl⟩
theorem vJ {c m n:Int}{r:Bs}{σ:RS}(hσ:σ.1=(D8 c n++r,false))(h0:0<=c)(h1:c<256)(h2:0<=n)(h3:n<=m)(h4:m<=9223372036854775807):gI c m σ=n/\(sI c m σ).1=(r,false):=by
 obtain⟨a,b,e⟩:=xJ (c:=c) (most:=m) (n:=n) (r:=r) h0 h1 h2 h3 h4;unfold gI sI;dsimp only;rw[hσ];dsimp only;rw[a,b,e];exact⟨rfl,rfl⟩
structure TxG (x:TxX):Prop where
 k:0<=x.k/\x.k<=16
 i:x.i.length<=4000
 o:x.o.length<=4000
 p:x.p.length<=4000
 q:x.q.length<=4000
 y:x.y.length<=4000
 e:0<=x.e/\x.e<=1099511627776
 c:x.h.c.length<=4000
 hh:0<=x.h.h/\x.h.h<=1099511627776
 ht:0<=x.h.t/\x.h.t<=1099511627776
 xq:0<=x.x.q/\x.x.q<=1099511627776
 xh:0<=x.x.h/\x.x.h<=1099511627776
 xt:0<=x.x.t/\x.x.t<=1099511627776
 t:0<=x.t/\x.t<=1099511627776
 xs:x.x.s.length<=4000
 xk:x.x.k.length<=4000
 xd:x.x.d.length<=4000
 xf:x.x.f.length<=4000
 xg:x.x.g.length<=4000
 a:x.a.length<=4000
 f:PG x.f
 g:GG x.g
 gl:(jL x.g).length<=4000
theorem Zo {x:TxX}(h:TxG x)(hl:(gV x).length<=1000000000):J5 (F8 (gV x))=x/\U7 (F8 (gV x))=0:=by
 have hB:gV x=D8 75 x.k++(o8 73 x.i++(o8 79 x.o++(o8 81 x.p++(o8 82 x.q++(o8 89 x.y++(D8 69 x.e++(o8 99 x.h.c++(D8 104 x.h.h++(D8 116 x.h.t++(o8 114 x.h.r.l++(o8 77 x.m.l++(D8 113 x.x.q++(o8 115 x.x.s++(o8 107 x.x.k++(o8 100 x.x.d++(o8 97 (X9 x.x.a.n)++(o8 102 x.x.f++(o8 103 x.x.g++(D8 117 x.x.h++(D8 118 x.x.t++(o8 65 x.a++(D8 84 x.t++(o8 70 (Y2 x.f)++(o8 71 (jL x.g)++[])))))))))))))))))))))))):=by
  unfold gV;simp only[List.append_assoc,List.append_nil]
 have e0:(F8 (gV x)).1=(gV x,false):=by
  unfold F8;rw[dif_pos hl]
 generalize F8 (gV x)=σ at *;rw[hB] at e0;clear hB hl;obtain⟨g1,s1⟩:=vJ (c:=75) (m:=16) e0 dc dc h.k.1 h.k.2 dc;change (mE σ).1=_ at s1
 obtain⟨g2,s2⟩:=gY (c:=73) (m:=4000) s1 dc dc h.i dc;change (nY σ).1=_ at s2
 obtain⟨g3,s3⟩:=gY (c:=79) (m:=4000) s2 dc dc h.o dc;change (nT σ).1=_ at s3
 obtain⟨g4,s4⟩:=gY (c:=81) (m:=4000) s3 dc dc h.p dc;change (nS σ).1=_ at s4
 obtain⟨g5,s5⟩:=gY (c:=82) (m:=4000) s4 dc dc h.q dc;change (nR σ).1=_ at s5
 obtain⟨g6,s6⟩:=gY (c:=89) (m:=4000) s5 dc dc h.y dc;change (nQ σ).1=_ at s6
 obtain⟨g7,s7⟩:=vJ (c:=69) (m:=1099511627776) s6 dc dc h.e.1 h.e.2 dc;change (nP σ).1=_ at s7
 obtain⟨g8,s8⟩:=gY (c:=99) (m:=4000) s7 dc dc h.c dc;change (nO σ).1=_ at s8
 obtain⟨g9,s9⟩:=vJ (c:=104) (m:=1099511627776) s8 dc dc h.hh.1 h.hh.2 dc;change (nN σ).1=_ at s9
 obtain⟨g10,s10⟩:=vJ (c:=116) (m:=1099511627776) s9 dc dc h.ht.1 h.ht.2 dc;change (eZ σ).1=_ at s10
 obtain⟨g11,s11⟩:=gY (c:=114) (m:=32) s10 dc dc (Nat.le_of_eq x.h.r.len) dc;change (gU σ).1=_ at s11
 obtain⟨g12,s12⟩:=gY (c:=77) (m:=32) s11 dc dc (Nat.le_of_eq x.m.len) dc;change (oI σ).1=_ at s12
 obtain⟨g13,s13⟩:=vJ (c:=113) (m:=1099511627776) s12 dc dc h.xq.1 h.xq.2 dc;change (oH σ).1=_ at s13
 obtain⟨g14,s14⟩:=gY (c:=115) (m:=4000) s13 dc dc h.xs dc;change (oG σ).1=_ at s14
 obtain⟨g15,s15⟩:=gY (c:=107) (m:=4000) s14 dc dc h.xk dc;change (oF σ).1=_ at s15
 obtain⟨g16,s16⟩:=gY (c:=100) (m:=4000) s15 dc dc h.xd dc;change (gQ σ).1=_ at s16
 obtain⟨g17,s17⟩:=gY (c:=97) (m:=32) s16 dc dc (Nat.le_of_eq (yO _)) dc;change (oD σ).1=_ at s17
 obtain⟨g18,s18⟩:=gY (c:=102) (m:=4000) s17 dc dc h.xf dc;change (oC σ).1=_ at s18
 obtain⟨g19,s19⟩:=gY (c:=103) (m:=4000) s18 dc dc h.xg dc;change (nZ σ).1=_ at s19
 obtain⟨g20,s20⟩:=vJ (c:=117) (m:=1099511627776) s19 dc dc h.xh.1 h.xh.2 dc;change (nX σ).1=_ at s20
 obtain⟨g21,s21⟩:=vJ (c:=118) (m:=1099511627776) s20 dc dc h.xt.1 h.xt.2 dc;change (nW σ).1=_ at s21
 obtain⟨g22,s22⟩:=gY (c:=65) (m:=4000) s21 dc dc h.a dc;change (nV σ).1=_ at s22
 obtain⟨g23,s23⟩:=vJ (c:=84) (m:=1099511627776) s22 dc dc h.t.1 h.t.2 dc;change (gP σ).1=_ at s23
 obtain⟨g24,s24⟩:=gY (c:=70) (m:=4000) s23 dc dc (Dw h.f) dc;change (gN σ).1=_ at s24
 obtain⟨g25,s25⟩:=gY (c:=71) (m:=4000) s24 dc dc h.gl dc;change (nU σ).1=_ at s25
 have hE:gZ (nU σ)=0:=by
  unfold gZ;rw[s25];rfl
 have hk:oM σ=true:=by
  unfold oM wS DD DI DC DF;rw[g11,g12,g17,g24,g25,hE,x.h.r.len,x.m.len,yO,(QU h.f).2.1,(Bu h.g).2];rfl
 have hV:DY σ=x:=by
  show (⟨gI 75 16 σ,gT 73 4000 (mE σ),gT 79 4000 (nY σ),gT 81 4000 (nT σ),gT 82 4000 (nS σ),gT 89 4000 (nR σ),gI 69 1099511627776 (nQ σ),⟨gT 99 4000 (nP σ),gI 104 1099511627776 (nO σ),gI 116 1099511627776 (nN σ),R4 (gT 114 32 (eZ σ))⟩,R4 (gT 77 32 (gU σ)),⟨gI 113 1099511627776 (oI σ),gT 115 4000 (oH σ),gT 107 4000 (oG σ),gT 100 4000 (oF σ),wV (gT 97 32 (gQ σ)),gT 102 4000 (oD σ),gT 103 4000 (oC σ),gI 117 1099511627776 (nZ σ),gI 118 1099511627776 (nX σ)⟩,gT 65 4000 (nW σ),gI 84 1099511627776 (nV σ),fF (gT 70 4000 (gP σ)),kC (gT 71 4000 (gN σ))⟩:TxX)=x;rw[g1,g2,g3,g4,g5,g6,g7,g8,g9,g10,g11,g12,g13,g14,g15,g16,g17,g18,g19,g20,g21,g22,g23,g24,g25,UI,UI,(QU h.f).1,(Bu h.g).1,wV,if_pos (yO _),a6S,Vs]
 unfold J5 U7;rw[hk,if_pos rfl,if_pos rfl];exact⟨hV,rfl⟩

attribute [local irreducible] V6 O0
def MN (d:List Ent)(x:TxX)(i k pp:Bs)(th:EndX)(r:EndX × Int)(t:Int):Out18:=if bY d i x.t t (J3 k pp) (iL th) x.f≠0 then K8 d (bY d i x.t t (J3 k pp) (iL th) x.f) else if r.2≠0 then K8 d r.2 else xL d (J3 k x.i) (iL r.1)
theorem a2N {d:List Ent}{x:TxX}{own:EndX}{i k:Bs}{t:Int}:GA d x own i k true t=MN d x i k x.p ⟨2,own.q,own.o,x.i⟩ (IW own x.i x.p ⟨2,own.q,own.o,x.i⟩) t:=rfl
theorem a2O {d:List Ent}{x:TxX}{own:EndX}{i k:Bs}{t:Int}:GA d x own i k false t=MN d x i k own.p ⟨3,own.q,own.o,x.i⟩ (IJ own x.i ⟨3,own.q,own.o,x.i⟩) t:=rfl
end Go.Proofs.YtocpacdnjbjjmaaGreatDoor

namespace Go.Proofs.YtocpacdnjbjjmaaGreatDoor
open Go Go.RowKit Tw Av
attribute [local irreducible] V6 O0
theorem Eo {x:Pkt}(h:dJ x=true):x.q<=1099511627776/\x.h<=1099511627776/\x.t<=1099511627776/\1<=x.q:=by
 unfold dJ LU at h;rw[bet,decide_eq_true_iff] at h;obtain⟨⟨h0,h1,_,h2,_,h3,_⟩,_⟩:=h;exact⟨h1,h2,h3,h0⟩
end Go.Proofs.YtocpacdnjbjjmaaGreatDoor

namespace Go.Proofs.YtocpacdnjbjjmaaGreatDoor
open Go Go.RowKit Tw Av
attribute [local irreducible] V6 O0
def Eb (n:Int):Prop:=0<=n/\n<256
theorem e0:Eb 0:=⟨dc,dc⟩
theorem e1:Eb 1:=⟨dc,dc⟩
theorem uQ:Eb 11:=⟨dc,dc⟩
theorem uP:Eb 15:=⟨dc,dc⟩
theorem uO:Eb 16:=⟨dc,dc⟩
theorem uN:Eb 17:=⟨dc,dc⟩
theorem Dm {d:List Ent}{k v:Bs}:Eb (U2 d k v).2:=by
 unfold U2;split
 ·first|exact e0|exact e1|exact uQ|exact uP|exact uO|exact uN
 ·unfold K7;split <;> (try split) <;> (try split) <;> first|exact e0|exact e1|exact uQ|exact uP|exact uO|exact uN
theorem TJ {d:List Ent}{k:Bs}{n:Wd}:Eb (eT k n d).2:=by
 unfold eT;split
 ·exact Dm
 ·first|exact e0|exact e1|exact uQ|exact uP|exact uO|exact uN
theorem a2s {d:List Ent}{k:Bs}{n:Wd}:Eb (dU k n d).2:=by
 unfold dU;split
 ·first|exact e0|exact e1|exact uQ|exact uP|exact uO|exact uN
 ·split
  ·first|exact e0|exact e1|exact uQ|exact uP|exact uO|exact uN
  ·exact Dm
theorem YW {a b:List Ent->List Ent × Int}{d:List Ent}(ha:∀ d,Eb (a d).2)(hb:∀ d,Eb (b d).2):Eb (U6 a b d).2:=by
 unfold U6;split
 ·exact hb _
 ·exact ha _
theorem a2e {d:List Ent}{a c:Bs}{n:Wd}:Eb (iI d a c n).2:=by
 unfold iI;split
 ·first|exact e0|exact e1|exact uQ|exact uP|exact uO|exact uN
 ·split
  ·first|exact e0|exact e1|exact uQ|exact uP|exact uO|exact uN
  ·exact YW (fun _=>TJ) (fun _=>TJ)
theorem a1P {d:List Ent}{a b c:Bs}{n:Wd}:Eb (eQ d a b c n).2:=by
 unfold eQ;split
 ·first|exact e0|exact e1|exact uQ|exact uP|exact uO|exact uN
 ·split
  ·first|exact e0|exact e1|exact uQ|exact uP|exact uO|exact uN
  ·exact YW (fun _=>a2s) (fun _=>TJ)
theorem a0j {d:List Ent}{x:Pkt}:0<=(bV d x).2/\(bV d x).2<256:=by
 show Eb _;unfold bV;split
 ·exact⟨dc,dc⟩
 ·split
  ·exact a1P
  ·exact a2e
end Go.Proofs.YtocpacdnjbjjmaaGreatDoor

namespace Go.Proofs.YtocpacdnjbjjmaaGreatDoor
open Go Go.RowKit Tw Av
attribute [local irreducible] V6 O0
end Go.Proofs.YtocpacdnjbjjmaaGreatDoor

namespace Go.Proofs.YtocpacdnjbjjmaaGreatDoor
open Go Go.RowKit Tw Av
attribute [local irreducible] V6 O0 jH
end Go.Proofs.YtocpacdnjbjjmaaGreatDoor

namespace Go.Proofs.YtocpacdnjbjjmaaGreatDoor
open Go Go.RowKit Tw Av Go.Proofs.Tryz
def dY (k:Int):AV:=
 if k=1 then D6 243 [] else if k=2 then D6 244 [] else if k=3 then D6 245 [] else if k=4 then D6 246 [] else if k=5 then D6 247 [] else if k=6 then D6 247 [] else if k=7 then D6 248 [] else if k=8 then D6 248 [] else if k=9 then D6 249 [] else if k=10 then D6 249 [] else if k=11 then D6 250 [] else if k=12 then D6 250 [] else if k=13 then D6 251 [] else if k=14 then D6 252 [] else if k=15 then D6 253 [] else if k=16 then D6 254 [] else .lit .nilFunc
theorem Nt:dY 1=D6 243 []:=rfl
theorem VL {d:List Ent}{x:TxX}{h t:Int}(e:x.k=1):E5 d x h t=rF d x.x:=by
 unfold E5;rw[e];rfl
theorem Ns:dY 2=D6 244 []:=rfl
theorem VK {d:List Ent}{x:TxX}{h t:Int}(e:x.k=2):E5 d x h t=rD d x.x:=by
 unfold E5;rw[e];rfl
theorem a6y:dY 3=D6 245 []:=rfl
theorem do3 {d:List Ent}{x:TxX}{h t:Int}(e:x.k=3):E5 d x h t=CE d x:=by
 unfold E5;rw[e];rfl
theorem a6x:dY 4=D6 246 []:=rfl
theorem do4 {d:List Ent}{x:TxX}{h t:Int}(e:x.k=4):E5 d x h t=zJ d x t:=by
 unfold E5;rw[e];rfl
theorem a6w:dY 5=D6 247 []:=rfl
theorem do5 {d:List Ent}{x:TxX}{h t:Int}(e:x.k=5):E5 d x h t=CF d x t:=by
 unfold E5;rw[e];rfl
theorem a6v:dY 6=D6 247 []:=rfl
theorem do6 {d:List Ent}{x:TxX}{h t:Int}(e:x.k=6):E5 d x h t=CF d x t:=by
 unfold E5;rw[e];rfl
theorem a6u:dY 7=D6 248 []:=rfl
theorem do7 {d:List Ent}{x:TxX}{h t:Int}(e:x.k=7):E5 d x h t=CG d x t:=by
 unfold E5;rw[e];rfl
theorem a6t:dY 8=D6 248 []:=rfl
theorem do8 {d:List Ent}{x:TxX}{h t:Int}(e:x.k=8):E5 d x h t=CG d x t:=by
 unfold E5;rw[e];rfl
theorem a6s:dY 9=D6 249 []:=rfl
theorem do9 {d:List Ent}{x:TxX}{h t:Int}(e:x.k=9):E5 d x h t=AP d x t:=by
 unfold E5;rw[e];rfl
theorem a6F:dY 10=D6 249 []:=rfl
theorem a5P {d:List Ent}{x:TxX}{h t:Int}(e:x.k=10):E5 d x h t=AP d x t:=by
 unfold E5;rw[e];rfl
theorem a6E:dY 11=D6 250 []:=rfl
theorem a5O {d:List Ent}{x:TxX}{h t:Int}(e:x.k=11):E5 d x h t=AQ d x t:=by
 unfold E5;rw[e];rfl
theorem a6D:dY 12=D6 250 []:=rfl
theorem a5N {d:List Ent}{x:TxX}{h t:Int}(e:x.k=12):E5 d x h t=AQ d x t:=by
 unfold E5;rw[e];rfl
theorem a6C:dY 13=D6 251 []:=rfl
theorem a5M {d:List Ent}{x:TxX}{h t:Int}(e:x.k=13):E5 d x h t=zP d x.x:=by
 unfold E5;rw[e];rfl
theorem a6B:dY 14=D6 252 []:=rfl
theorem a5L {d:List Ent}{x:TxX}{h t:Int}(e:x.k=14):E5 d x h t=AB d x h t:=by
 unfold E5;rw[e];rfl
theorem a6A:dY 15=D6 253 []:=rfl
theorem a5K {d:List Ent}{x:TxX}{h t:Int}(e:x.k=15):E5 d x h t=IU d x t:=by
 unfold E5;rw[e];rfl
theorem a6z:dY 16=D6 254 []:=rfl
theorem a5J {d:List Ent}{x:TxX}{h t:Int}(e:x.k=16):E5 d x h t=EA d x t:=by
 unfold E5;rw[e];rfl
theorem a6r {k:Int}(h:¬ (1<=k/\k<=16)):dY k=.lit .nilFunc:=by
 unfold dY;repeat rw[if_neg om]
theorem doN {d:List Ent}{x:TxX}{h t:Int}(e:¬ (1<=x.k/\x.k<=16)):E5 d x h t=K8 d 1:=by
 unfold E5;repeat rw[if_neg om]
attribute [local irreducible] V6 O0 jH rF rD CE zJ CF CG AP AQ zP AB IU EA dY E5
section
variable {P:Program} {N:Nat} {ops:Array Oper} {Q:Exit->Act->World->Prop} {rest:List Oper} {s:Av.Base} {e:Av.Env} {m:List Av.Piece} {d:Nat} {ty:TypeId} {pos:String} {af:Array Edge}
def UC:Option TypeDesc->Bool
 | some (.func _ _ _)=>true
 | _=>false
theorem a2Q {o:Option TypeDesc}(h:UC o=true):∃ A B C,o=some (.func A B C):=by
 unfold UC at h;split at h
 ·exact⟨_,_,_,rfl⟩
 ·cases h
theorem Qm {op:BinOp}{T yT:TypeId}(hT:UC (P.underlying T)=true){x y:Operand}{f:FuncId}{cs:List Value}{c:Bool}(h:AL P N ops Q s rest ((d,j3 c)::e) m)(hx:Av.ev e x=some (D6 f cs):=by exact rfl)(hy:Av.ev e y=some (.lit .nilFunc):=by exact rfl)(hc:rM op false=some c:=by exact rfl)(hd:Nat.blt d N=true:=by exact rfl):AL P N ops Q s (⟨some d,.binOp op T x y yT,ty,pos,af,none⟩::rest) e m:=
 N9 rfl (fun ok w A hA=>by
  obtain⟨_,_,_,ht⟩:=a2Q hT;exact xC (hA.lit hx) (hA.lit hy) sm sm sm sm (by unfold eqGuard;cases op <;> rfl) (by
  have h:∀ d:Nat,(Op.equalIn (d+1) T (.func (.func f) #[] cs.toArray) .nilFunc).run P w=.ok false w:=fun d=>by simp[Op.equalIn,run_underlying ht]
  exact h 9999) hc) hd h
end
theorem kinds {k:Int}(h:1<=k/\k<=16):k=1\/k=2\/k=3\/k=4\/k=5\/k=6\/k=7\/k=8\/k=9\/k=10\/k=11\/k=12\/k=13\/k=14\/k=15\/k=16:=by omega
instance b8h {k:Int}:Ans prog GL 183 [int k] True (dY k):=⟨fun _=>by
 refine qE func183 rfl ntmps183 rfl (fun _ hs=>?_);by_cases h:1<=k/\k<=16
 ·rcases kinds h with rfl|rfl|rfl|rfl|rfl|rfl|rfl|rfl|rfl|rfl|rfl|rfl|rfl|rfl|rfl|rfl
  all_goals
   repeat' first|refine Zz ?_|intro _
   refine d9 ?_;first|exact Nt.symm|exact Ns.symm|exact a6y.symm|exact a6x.symm|exact a6w.symm|exact a6v.symm|exact a6u.symm|exact a6t.symm|exact a6s.symm|exact a6F.symm|exact a6E.symm|exact a6D.symm|exact a6C.symm|exact a6B.symm|exact a6A.symm|exact a6z.symm
 ·repeat' first|refine Zz ?_|intro _
  refine d9 ?_;exact(a6r h).symm⟩
end Go.Proofs.YtocpacdnjbjjmaaGreatDoor

namespace Go.Proofs.YtocpacdnjbjjmaaGreatDoor
open Go Go.RowKit Tw Av
theorem ED {d:List Ent}{r:List Ent × Int}{p:Rep}(h:DOk d)(hr:DOk r.1):DOk (oP d r p).1:=by
 unfold oP K8;split
 ·exact hr
 ·exact h
theorem FK {d:List Ent}{k v:Bs}(h:DOk d):DOk (xL d k v).1:=ED h (vP h)
theorem Oq {d:List Ent}{x:TxX}{i k:Bs}{b:Bool}{t:Int}(h:DOk d):DOk (NY d x i k b t).1:=by
 unfold NY;repeat' (first|exact h|exact FK h|split)
theorem Gs {d:List Ent}{x:TxX}{own:EndX}{i k:Bs}{b:Bool}{t:Int}(h:DOk d):DOk (GA d x own i k b t).1:=by
 cases b
 ·rw[a2O];unfold MN;split
  ·exact h
  ·split
   ·exact h
   ·exact FK h
 ·rw[a2N];unfold MN;split
  ·exact h
  ·split
   ·exact h
   ·exact FK h
theorem Ku {d:List Ent}{x:Pkt}{b:Bool}{e:Int}(h:DOk d):DOk (NF d x b e).1:=by
 unfold NF;split
 ·exact h
 split
 ·exact h
 split
 ·exact h
 split
 ·exact h
 refine DOk.drp ?_ _;split
 ·exact a7e h
 ·exact h
section
variable {d:List Ent} {x:TxX} {h t:Int} (hd:DOk d)
include hd
theorem a3R:DOk (rF d x.x).1:=by
 unfold rF;split
 ·exact hd
 ·exact ED hd (TN hd)
theorem a1Q:DOk (rD d x.x).1:=by
 unfold rD;split
 ·exact hd
 ·exact ED hd (LY hd)
theorem a5Y:DOk (CE d x).1:=by
 unfold CE;split
 ·exact hd
 ·split
  ·exact hd
  ·split
   ·exact hd
   ·exact FK hd
theorem Wh:DOk (zJ d x t).1:=by
 unfold zJ;split
 ·exact hd
 ·split
  ·exact hd
  ·exact FK hd
theorem Mr:DOk (CF d x t).1:=by
 unfold CF;split
 ·exact hd
 ·split
  ·exact hd
  ·split
   ·exact hd
   ·exact Oq hd
theorem Ms:DOk (CG d x t).1:=by
 unfold CG;split
 ·exact hd
 ·exact Gs hd
theorem Ef:DOk (AP d x t).1:=by
 unfold AP;split
 ·exact hd
 ·split
  ·exact hd
  ·split
   ·exact hd
   ·split
    ·exact hd
    ·exact Oq hd
theorem Eh:DOk (AQ d x t).1:=by
 unfold AQ;split
 ·exact hd
 ·exact Gs hd
theorem Yq:DOk (zP d x.x).1:=by
 unfold zP;split
 ·exact hd
 ·split
  ·exact hd
  ·split
   ·exact hd
   ·split
    ·exact hd
    ·exact ED hd (EB hd (fun d h=>ZY h) (fun d h=>EB h (fun d h=>vP h) (fun d h=>vP h)))
theorem a0u:DOk (AB d x h t).1:=by
 have h1:DOk (if (bV d x.x).2=0 then (bV d x.x).1 else d):=by
  split
  ·exact Cq hd
  ·exact hd
 unfold AB;generalize (if (bV d x.x).2=0 then (bV d x.x).1 else d)=D at *;split
 ·exact hd
 split
 ·exact hd
 split
 ·exact hd
 split
 ·exact hd
 split
 ·exact hd
 split
 ·exact hd
 exact ED hd (vP h1)
theorem a9b:DOk (IU d x t).1:=by
 unfold IU;split
 ·exact hd
 ·exact Ku hd
theorem Xp:DOk (EA d x t).1:=by
 unfold EA;split
 ·exact hd
 ·exact Ku hd
theorem VJ:DOk (E5 d x h t).1:=by
 by_cases hk:1<=x.k/\x.k<=16
 rotate_left
 ·rw[doN hk];exact hd
 rcases kinds hk with e|e|e|e|e|e|e|e|e|e|e|e|e|e|e|e
 ·rw[VL e];exact a3R hd
 ·rw[VK e];exact a1Q hd
 ·rw[do3 e];exact a5Y hd
 ·rw[do4 e];exact Wh hd
 ·rw[do5 e];exact Mr hd
 ·rw[do6 e];exact Mr hd
 ·rw[do7 e];exact Ms hd
 ·rw[do8 e];exact Ms hd
 ·rw[do9 e];exact Ef hd
 ·rw[a5P e];exact Ef hd
 ·rw[a5O e];exact Eh hd
 ·rw[a5N e];exact Eh hd
 ·rw[a5M e];exact Yq hd
 ·rw[a5L e];exact a0u hd
 ·rw[a5K e];exact a9b hd
 ·rw[a5J e];exact Xp hd
end

structure BlkX where
 h:Int
 t:Int
 x:List Bs
structure EvX where
 h:Int
 k:Int
 x:Pkt
 a:Bs
deriving DecidableEq
abbrev V9 (v:EvX):AV:=.agg 15 [int v.h,int v.k,Dz v.x,str v.a]
def pY (d:List Ent)(h:Int)(x:TxX)(r:Rep):EvX:=
 ⟨h,x.k,if x.k=13 then { x.x with q:=r.q,k:=(H5 d [72] x.x.s).p } else x.x,if x.k=14 then r.a else if x.k=15 then x.a else []⟩
abbrev Run3:=List Ent × List Rep × List EvX
def EQ (h t:Int)(q:Run3)(x:TxX):Run3:=
 ((E5 q.1 x h t).1,q.2.1++[(E5 q.1 x h t).2],if (E5 q.1 x h t).2.e=0/\13<=x.k then q.2.2++[pY (E5 q.1 x h t).1 h x (E5 q.1 x h t).2] else q.2.2)
def jX (h t:Int)(q:Run3)(s:Bs):Run3:=if U7 (F8 s)=0 then EQ h t q (J5 (F8 s)) else (q.1,q.2.1++[sJ 10],q.2.2)
def Q8 (h t:Int)(q:Run3)(l:List Bs):Run3:=l.foldl (jX h t) q
def M7 (d:List Ent)(b:BlkX):Run3:=Q8 b.h b.t (d,[],[]) b.x
theorem Ay (h t:Int)(q:Run3)(s:Bs)(l:List Bs):Q8 h t q (s::l)=Q8 h t (jX h t q s) l:=by
 unfold Q8;exact List.foldl_cons ..
theorem Zn (h t:Int)(q:Run3)(l r:List Bs):Q8 h t q (l++r)=Q8 h t (Q8 h t q l) r:=List.foldl_append
theorem Zm {h t:Int}{q:Run3}{s:Bs}(hd:DOk q.1):DOk (jX h t q s).1:=by
 unfold jX EQ;split
 ·exact VJ hd
 ·exact hd
theorem KI {h t:Int}:∀ {l:List Bs} {q:Run3},DOk q.1->DOk (Q8 h t q l).1
 | [],_,hd=>hd
 | s::l,q,hd=>by rw[Ay];exact KI (Zm hd)
theorem Zl {h t:Int}{q:Run3}{s:Bs}:(jX h t q s).2.1.length=q.2.1.length+1/\(jX h t q s).2.2.length<=q.2.2.length+1:=by
 unfold jX EQ;split
 ·refine⟨sm,?_⟩;dsimp only;split
  ·simp
  ·omega
 ·simp
theorem xD {h t:Int}:∀ {l:List Bs} {q:Run3},(Q8 h t q l).2.1.length=q.2.1.length+l.length/\(Q8 h t q l).2.2.length<=q.2.2.length+l.length
 | [],_=>⟨rfl,Nat.le_refl _⟩
 | s::l,q=>by
  have h1:=Zl (h:=h) (t:=t) (q:=q) (s:=s);have h2:=xD (h:=h) (t:=t) (l:=l) (q:=jX h t q s);rw[Ay,List.length_cons];omega
def ZM (k a:Int):TxX:=
 ⟨if k=2 then 2 else if k=3 then 3 else if k=5 then 13 else if k=6 then 4 else if k=7 then 14 else 1,
  [107],[],[],[],[107,101,121],9,⟨[98],1+a,0,J7⟩,J7,
  ⟨if k=7 then 1 else 0,if k=5\/k=7 then [99] else [],if k=7 then [99] else [],[120],X4 a.toNat,[97,110,110],if k=0\/k=1 then [97,110,110] else [98,111,98],if k=5\/k=7 then 100 else 0,0⟩,
  [],0,lZ,vC⟩
theorem Sa:GG vC:=⟨dc,⟨dc,by simp[vC],PH⟩,⟨dc,by simp[vC],PH⟩⟩
theorem Xc (x:TxX):(gV x).length<=1000000000:=by
 unfold gV;refine Nat.le_trans LenLe.out ?_;decide
end Go.Proofs.YtocpacdnjbjjmaaGreatDoor

namespace Go.Proofs.YtocpacdnjbjjmaaGreatDoor
open Go Go.RowKit Tw Av Go.Proofs.Tryz
instance RP {g:Nat}{σ:RS}{c most:Int}:AnsM prog GL 128 g [.lit (.int .u8 c),int most] 201 (y5 σ) True (str (gT c most σ)) (y5 (sT c most σ)):=⟨fun _=>(a0p (g:=g) (s:=σ.1.1) (b:=σ.1.2) (c:=c) (most:=most)).spec (by have:=σ.2;omega)⟩
instance a0r {g:Nat}{σ:RS}{c most:Int}:AnsM prog GL 72 g [.lit (.int .u8 c),int most] 201 (y5 σ) (0<=most/\most<=9223372036854775807) (int (gI c most σ)) (y5 (sI c most σ)):=⟨fun h=>(a0s (g:=g) (s:=σ.1.1) (b:=σ.1.2) (c:=c) (most:=most)).spec ⟨by have:=σ.2;omega,h⟩⟩
instance b3D {g:Nat}{σ:RS}:AnsM prog GL 74 g [] 201 (y5 σ) True (int (gZ σ)) (y5 σ):=⟨fun h=>(a0t (g:=g) (s:=σ.1.1) (b:=σ.1.2)).spec h⟩
instance iB {g:Nat}{σ:RS}{c most:Int}:AnsM prog GL 149 g [.lit (.int .u8 c),int most] 169 (y5 σ) True (str (gT c most σ)) (y5 (sT c most σ)):=⟨fun _=>(Zr (g:=g) (s:=σ.1.1) (b:=σ.1.2) (c:=c) (most:=most)).spec (by have:=σ.2;omega)⟩
instance vK {g:Nat}{σ:RS}{c most:Int}:AnsM prog GL 83 g [.lit (.int .u8 c),int most] 169 (y5 σ) (0<=most/\most<=9223372036854775807) (int (gI c most σ)) (y5 (sI c most σ)):=⟨fun h=>(Zt (g:=g) (s:=σ.1.1) (b:=σ.1.2) (c:=c) (most:=most)).spec ⟨by have:=σ.2;omega,h⟩⟩
instance b3w {g:Nat}{σ:RS}:AnsM prog GL 85 g [] 169 (y5 σ) True (int (gZ σ)) (y5 σ):=⟨fun h=>(Zu (g:=g) (s:=σ.1.1) (b:=σ.1.2)).spec h⟩
end Go.Proofs.YtocpacdnjbjjmaaGreatDoor
