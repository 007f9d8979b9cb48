/- . -/
import Derived.Test.YtjhnaegpchadiaaGreatDoorN29
set_option maxHeartbeats 64000000
namespace Go.Proofs.YtjhnaegpchadiaaGreatDoor
open Go Go.RowKit Tw Av Go.Proofs.Tryz
attribute [local irreducible] M8 P7
structure TxB (x:TxX):Prop where
 i:x.i.length<=400000000
 o:x.o.length<=400000000
 p:x.p.length<=400000000
 q:x.q.length<=400000000
 y:x.y.length<=400000000
 a:x.a.length<=400000000
 s:x.x.s.length<=400000000
 k:x.x.k.length<=400000000
 d:x.x.d.length<=400000000
 f:x.x.f.length<=400000000
 g:x.x.g.length<=400000000
 hh:x.h.h<=9223372036854775807
 ht:x.h.t<=9223372036854775807
 fm:x.f.m<=9223372036854775807
 gm:x.g.a.m<=9223372036854775807/\x.g.b.m<=9223372036854775807
instance b4x {d:List Ent}{h t e:Int}{xs:List AV}[hx:Ents xs d]:Ans prog GL 33 [.agg 3 [.agg 1 [.sl 2 xs none],int h,int t],int e] True (.tup [dA (M4 d e).1,N8 (M4 d e).2]):=⟨fun _=>by
 have h':=hx.out;subst h';refine qF func33 ntmps33 fun _ hs=>?_;repeat' first|refine Zz ?_|intro _
 exact d9 rfl⟩
instance b4t {d r:List Ent}{h t e a b:Int}{c:Bs}{xs ys:List AV}[hx:Ents xs d][hy:Ents ys r]:Ans prog GL 165 [.agg 3 [.agg 1 [.sl 2 xs none],int h,int t],.agg 1 [.sl 2 ys none],int e,.agg 3 [int a,int b,str c]] True (.tup [dA (mR d (r,e) ⟨a,b,c⟩).1,N8 (mR d (r,e) ⟨a,b,c⟩).2]):=⟨fun _=>by
 have h':=hx.out;subst h';have h':=hy.out;subst h';unfold mR;refine qF func165 ntmps165 fun _ hs=>?_;repeat' first|refine Zz ?_|intro _
 by_cases he:e=0
 ·rw[if_pos he,dZ (nni he)];repeat' first|refine Zz ?_|intro _
  exact d9 rfl
 ·rw[if_neg he,dT he];repeat' first|refine Zz ?_|intro _
  exact d9 rfl⟩
instance b4v {d:List Ent}{h t:Int}{k v:Bs}{xs:List AV}[hx:Ents xs d]:Ans prog GL 169 [.agg 3 [.agg 1 [.sl 2 xs none],int h,int t],str k,str v] (DOk d) (.tup [dA (lT d k v).1,N8 (lT d k v).2]):=⟨fun hd=>by
 have h':=hx.out;subst h';refine qF func169 ntmps169 fun _ hs=>?_;repeat' first|refine Zz ?_|intro _
 exact d9 rfl⟩
instance b4y {d:List Ent}{h t:Int}{x:TxX}{xs:List AV}[hx:Ents xs d]:Ans prog GL 75 [.agg 3 [.agg 1 [.sl 2 xs none],int h,int t],N7 x] (DOk d/\TxB x) (.tup [dA (qI d x).1,N8 (qI d x).2]):=⟨fun hp=>by
 obtain⟨hd,hb⟩:=hp;have b1:=hb.i;have h':=hx.out;subst h';have hw:CliW (pY x.y x.e x.h):=by
  unfold pY;split
  ·rename_i h;exact(RI h).w
  ·exact GY.w
 refine qF func75 ntmps75 fun _ hs=>?_;repeat' first|refine Zz ?_|intro _
 unfold qI;cases h1:I5 x.i
 ·rw[if_pos rfl];repeat' first|refine Zz ?_|intro _
  exact d9 rfl
 rw[if_neg (show ¬ true=false by decide)];repeat' first|refine Zz ?_|intro _
 cases h2:M8 d x.i;rotate_left
 ·rw[if_pos rfl];repeat' first|refine Zz ?_|intro _
  exact d9 rfl
 rw[if_neg (show ¬ false=true by decide)];repeat' first|refine Zz ?_|intro _
 by_cases h3:qB x.y x.e x.h=0
 rotate_left
 ·rw[if_pos h3,dT h3];repeat' first|refine Zz ?_|intro _
  exact d9 rfl
 rw[if_neg (nni h3),dZ (nni h3)];repeat' first|refine Zz ?_|intro _
 exact d9 rfl⟩
theorem WI {x:Cli}{h:Hdr}{m:Hsh}{t:Int}(hx:CliF x)(h1:h.h<=9223372036854775807)(h2:h.t<=9223372036854775807):CliW (gL x h m t):=by
 unfold gL;split
 ·unfold gW;split
  ·exact hx.w
  ·split
   ·exact⟨hx.w.n,hx.w.p,hx.w.s⟩
   ·have hn:=hx.n;refine⟨?_,hx.w.p,fun s hs=>?_⟩
    ·show (uS x.l (R7 h)).length<=_;unfold uS;simp;omega
    ·have hs:s∈uS x.l (R7 h):=hs;unfold uS at hs;rcases List.mem_append.1 (List.mem_of_mem_drop hs) with hs|hs
     ·exact hx.w.s s (List.mem_of_mem_take hs)
     ·rcases List.mem_cons.1 hs with rfl|hs
      ·exact⟨by show h.h<=_;omega,by show h.t<=_;omega⟩
      ·exact hx.w.s s (List.mem_of_mem_drop hs)
 ·exact GY.w
instance b4s {d:List Ent}{h t:Int}{x:TxX}{xs:List AV}[hx:Ents xs d]:Ans prog GL 76 [.agg 3 [.agg 1 [.sl 2 xs none],int h,int t],N7 x] (DOk d/\TxB x) (.tup [dA (mP d x t).1,N8 (mP d x t).2]):=⟨fun hp=>by
 obtain⟨hd,hb⟩:=hp;have b1:=hb.i;have b2:=hb.hh;have b3:=hb.ht;have h':=hx.out;subst h';have hC:CliOk (P8 d x.i)/\x.h.h<=9223372036854775807/\x.h.t<=9223372036854775807:=⟨(FU d x.i).ok,om,om⟩;refine qF func76 ntmps76 fun _ hs=>?_;repeat' first|refine Zz ?_|intro _
 unfold mP;cases h1:M8 d x.i
 ·rw[if_pos rfl];repeat' first|refine Zz ?_|intro _
  exact d9 rfl
 rw[if_neg (show ¬ true=false by decide)];repeat' first|refine Zz ?_|intro _
 by_cases h3:bM (P8 d x.i) x.h x.m t=0
 rotate_left
 ·rw[if_pos h3,dT h3];repeat' first|refine Zz ?_|intro _
  exact d9 rfl
 rw[if_neg (nni h3),dZ (nni h3)];have hw:CliW (gL (P8 d x.i) x.h x.m t):=WI (FU d x.i) b2 b3;repeat' first|refine Zz ?_|intro _
 exact d9 rfl⟩
end Go.Proofs.YtjhnaegpchadiaaGreatDoor

namespace Go.Proofs.YtjhnaegpchadiaaGreatDoor
open Go Go.RowKit Tw Av
theorem a0N {c m:Int}{σ:RS}(h:0<=m):((gT c m σ).length:Int)<=m:=(uI c m σ.1.1 σ.1.2).2 h
theorem Ti {c m:Int}{s:Bs}{b:Bool}(h:0<=m):K3 c m s b<=m:=by
 unfold K3;split <;> omega
theorem YV (s:Bs):(fK s).m<=2000:=by
 unfold fK;split
 ·exact Ti dc
 ·decide
theorem YB (s:Bs)(b:Bool):(lL s b).m<=2000:=by
 unfold lL;split
 ·exact YV _
 ·decide
theorem ZL (s:Bs):(kT s).a.m<=2000/\(kT s).b.m<=2000:=by
 unfold kT;split
 ·exact⟨YB _ _,YB _ _⟩
 ·decide
theorem Py (σ:RS):TxB (CY σ):=by
 have ht:∀ (c:Int) (τ:RS),(gT c 4000 τ).length<=400000000:=fun c τ=>by
  have:=a0N (c:=c) (m:=4000) (σ:=τ) dc;omega
 have hi:∀ (c:Int) (τ:RS),gI c 1099511627776 τ<=9223372036854775807:=fun c τ=>Int.le_trans (a0Q dc).2 dc;exact⟨ht _ _,ht _ _,ht _ _,ht _ _,ht _ _,ht _ _,ht _ _,ht _ _,ht _ _,ht _ _,ht _ _,hi _ _,hi _ _,Int.le_trans (YV _) dc,Int.le_trans (ZL _).1 dc,Int.le_trans (ZL _).2 dc⟩
theorem YT (σ:RS):TxB (J9 σ):=by
 unfold J9;split
 ·exact Py σ
 ·exact⟨dc,dc,dc,dc,dc,dc,dc,dc,dc,dc,dc,dc,dc,dc,dc⟩
theorem iP {c m:Int}{t r:Bs}{σ:RS}(hσ:σ.1=(j6 c t++r,false))(h0:0<=c)(h1:c<256){n:Nat}(h2:t.length<=n)(h3:(n:Int)<=m/\n<=16777215):gT c m σ=t/\(sT c m σ).1=(r,false):=by
 obtain⟨a,b,e⟩:=rH (c:=c) (most:=m) (s:=t) (r:=r) h0 h1 om om;unfold gT sT;dsimp only;rw[hσ];dsimp only;rw[a,b,e];exact⟨rfl,rfl⟩
theorem vU {c m n:Int}{r:Bs}{σ:RS}(hσ:σ.1=(p9 c n++r,false))(h0:0<=c)(h1:c<256)(h2:0<=n)(h3:n<=m)(h4:m<=9223372036854775807):gI c m σ=n/\(sI c m σ).1=(r,false):=by
 obtain⟨a,b,e⟩:=rJ (c:=c) (most:=m) (n:=n) (r:=r) h0 h1 h2 h3 h4;unfold gI sI;dsimp only;rw[hσ];dsimp only;rw[a,b,e];exact⟨rfl,rfl⟩
structure TxG (x:TxX):Prop where
 k:0<=x.k/\x.k<=16
 i:x.i.length<=4000
 o:x.o.length<=4000
 p:x.p.length<=4000
 q:x.q.length<=4000
 y:x.y.length<=4000
 e:0<=x.e/\x.e<=1099511627776
 c:x.h.c.length<=4000
 hh:0<=x.h.h/\x.h.h<=1099511627776
 ht:0<=x.h.t/\x.h.t<=1099511627776
 xq:0<=x.x.q/\x.x.q<=1099511627776
 xh:0<=x.x.h/\x.x.h<=1099511627776
 xt:0<=x.x.t/\x.x.t<=1099511627776
 t:0<=x.t/\x.t<=1099511627776
 xs:x.x.s.length<=4000
 xk:x.x.k.length<=4000
 xd:x.x.d.length<=4000
 xf:x.x.f.length<=4000
 xg:x.x.g.length<=4000
 a:x.a.length<=4000
 f:PG x.f
 g:GG x.g
 gl:(jF x.g).length<=4000
theorem JI {x:TxX}(h:TxG x)(hl:(G5 x).length<=1000000000):J9 (I4 (G5 x))=x/\Y1 (I4 (G5 x))=0:=by
 have hB:G5 x=p9 75 x.k++(j6 73 x.i++(j6 79 x.o++(j6 81 x.p++(j6 82 x.q++(j6 89 x.y++(p9 69 x.e++(j6 99 x.h.c++(p9 104 x.h.h++(p9 116 x.h.t++(j6 114 x.h.r.l++(j6 77 x.m.l++(p9 113 x.x.q++(j6 115 x.x.s++(j6 107 x.x.k++(j6 100 x.x.d++(j6 97 (eT x.x.a.n)++(j6 102 x.x.f++(j6 103 x.x.g++(p9 117 x.x.h++(p9 118 x.x.t++(j6 65 x.a++(p9 84 x.t++(j6 70 (Y7 x.f)++(j6 71 (jF x.g)++[])))))))))))))))))))))))):=by
  unfold G5;simp only[List.append_assoc,List.append_nil]
 have e0:(I4 (G5 x)).1=(G5 x,false):=by
  unfold I4;rw[dif_pos hl]
 generalize I4 (G5 x)=σ at *;rw[hB] at e0;clear hB hl;obtain⟨g1,s1⟩:=vU (c:=75) (m:=16) e0 dc dc h.k.1 h.k.2 dc;change (mO σ).1=_ at s1
 obtain⟨g2,s2⟩:=iP (c:=73) (m:=4000) s1 dc dc h.i dc;change (oJ σ).1=_ at s2
 obtain⟨g3,s3⟩:=iP (c:=79) (m:=4000) s2 dc dc h.o dc;change (oD σ).1=_ at s3
 obtain⟨g4,s4⟩:=iP (c:=81) (m:=4000) s3 dc dc h.p dc;change (oC σ).1=_ at s4
 obtain⟨g5,s5⟩:=iP (c:=82) (m:=4000) s4 dc dc h.q dc;change (nZ σ).1=_ at s5
 obtain⟨g6,s6⟩:=iP (c:=89) (m:=4000) s5 dc dc h.y dc;change (nY σ).1=_ at s6
 obtain⟨g7,s7⟩:=vU (c:=69) (m:=1099511627776) s6 dc dc h.e.1 h.e.2 dc;change (nX σ).1=_ at s7
 obtain⟨g8,s8⟩:=iP (c:=99) (m:=4000) s7 dc dc h.c dc;change (nW σ).1=_ at s8
 obtain⟨g9,s9⟩:=vU (c:=104) (m:=1099511627776) s8 dc dc h.hh.1 h.hh.2 dc;change (nV σ).1=_ at s9
 obtain⟨g10,s10⟩:=vU (c:=116) (m:=1099511627776) s9 dc dc h.ht.1 h.ht.2 dc;change (iK σ).1=_ at s10
 obtain⟨g11,s11⟩:=iP (c:=114) (m:=32) s10 dc dc (Nat.le_of_eq x.h.r.len) dc;change (iJ σ).1=_ at s11
 obtain⟨g12,s12⟩:=iP (c:=77) (m:=32) s11 dc dc (Nat.le_of_eq x.m.len) dc;change (oQ σ).1=_ at s12
 obtain⟨g13,s13⟩:=vU (c:=113) (m:=1099511627776) s12 dc dc h.xq.1 h.xq.2 dc;change (oP σ).1=_ at s13
 obtain⟨g14,s14⟩:=iP (c:=115) (m:=4000) s13 dc dc h.xs dc;change (oO σ).1=_ at s14
 obtain⟨g15,s15⟩:=iP (c:=107) (m:=4000) s14 dc dc h.xk dc;change (oN σ).1=_ at s15
 obtain⟨g16,s16⟩:=iP (c:=100) (m:=4000) s15 dc dc h.xd dc;change (iI σ).1=_ at s16
 obtain⟨g17,s17⟩:=iP (c:=97) (m:=32) s16 dc dc (Nat.le_of_eq (BO _)) dc;change (oM σ).1=_ at s17
 obtain⟨g18,s18⟩:=iP (c:=102) (m:=4000) s17 dc dc h.xf dc;change (oL σ).1=_ at s18
 obtain⟨g19,s19⟩:=iP (c:=103) (m:=4000) s18 dc dc h.xg dc;change (oK σ).1=_ at s19
 obtain⟨g20,s20⟩:=vU (c:=117) (m:=1099511627776) s19 dc dc h.xh.1 h.xh.2 dc;change (oI σ).1=_ at s20
 obtain⟨g21,s21⟩:=vU (c:=118) (m:=1099511627776) s20 dc dc h.xt.1 h.xt.2 dc;change (oH σ).1=_ at s21
 obtain⟨g22,s22⟩:=iP (c:=65) (m:=4000) s21 dc dc h.a dc;change (oG σ).1=_ at s22
 obtain⟨g23,s23⟩:=vU (c:=84) (m:=1099511627776) s22 dc dc h.t.1 h.t.2 dc;change (iH σ).1=_ at s23
 obtain⟨g24,s24⟩:=iP (c:=70) (m:=4000) s23 dc dc (Bl h.f) dc;change (iG σ).1=_ at s24
 obtain⟨g25,s25⟩:=iP (c:=71) (m:=4000) s24 dc dc h.gl dc;change (oF σ).1=_ at s25
 have hE:gZ (oF σ)=0:=by
  unfold gZ;rw[s25];rfl
 have hk:sM σ=true:=by
  unfold sM CL CP CR CO CQ;rw[g11,g12,g17,g24,g25,hE,x.h.r.len,x.m.len,BO,(OT h.f).2.1,(ZM h.g).2];rfl
 have hV:CY σ=x:=by
  show (⟨gI 75 16 σ,gT 73 4000 (mO σ),gT 79 4000 (oJ σ),gT 81 4000 (oD σ),gT 82 4000 (oC σ),gT 89 4000 (nZ σ),gI 69 1099511627776 (nY σ),⟨gT 99 4000 (nX σ),gI 104 1099511627776 (nW σ),gI 116 1099511627776 (nV σ),R9 (gT 114 32 (iK σ))⟩,R9 (gT 77 32 (iJ σ)),⟨gI 113 1099511627776 (oQ σ),gT 115 4000 (oP σ),gT 107 4000 (oO σ),gT 100 4000 (oN σ),wV (gT 97 32 (iI σ)),gT 102 4000 (oM σ),gT 103 4000 (oL σ),gI 117 1099511627776 (oK σ),gI 118 1099511627776 (oI σ)⟩,gT 65 4000 (oH σ),gI 84 1099511627776 (oG σ),fK (gT 70 4000 (iH σ)),kT (gT 71 4000 (iG σ))⟩:TxX)=x;rw[g1,g2,g3,g4,g5,g6,g7,g8,g9,g10,g11,g12,g13,g14,g15,g16,g17,g18,g19,g20,g21,g22,g23,g24,g25,SK,SK,(OT h.f).1,(ZM h.g).1,wV,if_pos (BO _),a3T,Pb]
 unfold J9 Y1;rw[hk,if_pos rfl,if_pos rfl];exact⟨hV,rfl⟩

attribute [local irreducible] M8 P7
def KY (d:List Ent)(x:TxX)(i k pp:Bs)(th:EndX)(r:EndX × Int)(t:Int):Out18:=if dB d i x.t t (H6 k pp) (jG th) x.f≠0 then M4 d (dB d i x.t t (H6 k pp) (jG th) x.f) else if r.2≠0 then M4 d r.2 else lT d (H6 k x.i) (jG r.1)
theorem Zo {d:List Ent}{x:TxX}{own:EndX}{i k:Bs}{t:Int}:FC d x own i k true t=KY d x i k x.p ⟨2,own.q,own.o,x.i⟩ (GR own x.i x.p ⟨2,own.q,own.o,x.i⟩) t:=rfl
theorem Zp {d:List Ent}{x:TxX}{own:EndX}{i k:Bs}{t:Int}:FC d x own i k false t=KY d x i k own.p ⟨3,own.q,own.o,x.i⟩ (FT own x.i ⟨3,own.q,own.o,x.i⟩) t:=rfl
end Go.Proofs.YtjhnaegpchadiaaGreatDoor

namespace Go.Proofs.YtjhnaegpchadiaaGreatDoor
open Go Go.RowKit Tw Av
attribute [local irreducible] M8 P7
theorem Ch {x:Pkt}(h:dO x=true):x.q<=1099511627776/\x.h<=1099511627776/\x.t<=1099511627776/\1<=x.q:=by
 unfold dO KJ at h;rw[bet,decide_eq_true_iff] at h;obtain⟨⟨h0,h1,_,h2,_,h3,_⟩,_⟩:=h;exact⟨h1,h2,h3,h0⟩
end Go.Proofs.YtjhnaegpchadiaaGreatDoor

namespace Go.Proofs.YtjhnaegpchadiaaGreatDoor
open Go Go.RowKit Tw Av
attribute [local irreducible] M8 P7
def Eb (n:Int):Prop:=0<=n/\n<256
theorem e0:Eb 0:=⟨dc,dc⟩
theorem e1:Eb 1:=⟨dc,dc⟩
theorem uY:Eb 11:=⟨dc,dc⟩
theorem uX:Eb 15:=⟨dc,dc⟩
theorem uW:Eb 16:=⟨dc,dc⟩
theorem uV:Eb 17:=⟨dc,dc⟩
theorem Bd {d:List Ent}{k v:Bs}:Eb (R4 d k v).2:=by
 unfold R4;split
 ·first|exact e0|exact e1|exact uY|exact uX|exact uW|exact uV
 ·unfold J5;split <;> (try split) <;> (try split) <;> first|exact e0|exact e1|exact uY|exact uX|exact uW|exact uV
theorem RD {d:List Ent}{k:Bs}{n:Wd}:Eb (jD k n d).2:=by
 unfold jD;split
 ·exact Bd
 ·first|exact e0|exact e1|exact uY|exact uX|exact uW|exact uV
theorem Yp {d:List Ent}{k:Bs}{n:Wd}:Eb (gY k n d).2:=by
 unfold gY;split
 ·first|exact e0|exact e1|exact uY|exact uX|exact uW|exact uV
 ·split
  ·first|exact e0|exact e1|exact uY|exact uX|exact uW|exact uV
  ·exact Bd
theorem WZ {a b:List Ent->List Ent × Int}{d:List Ent}(ha:∀ d,Eb (a d).2)(hb:∀ d,Eb (b d).2):Eb (bN a b d).2:=by
 unfold bN;split
 ·exact hb _
 ·exact ha _
theorem Xy {d:List Ent}{a c:Bs}{n:Wd}:Eb (eF d a c n).2:=by
 unfold eF;split
 ·first|exact e0|exact e1|exact uY|exact uX|exact uW|exact uV
 ·split
  ·first|exact e0|exact e1|exact uY|exact uX|exact uW|exact uV
  ·exact WZ (fun _=>RD) (fun _=>RD)
theorem Xk {d:List Ent}{a b c:Bs}{n:Wd}:Eb (jC d a b c n).2:=by
 unfold jC;split
 ·first|exact e0|exact e1|exact uY|exact uX|exact uW|exact uV
 ·split
  ·first|exact e0|exact e1|exact uY|exact uX|exact uW|exact uV
  ·exact WZ (fun _=>Yp) (fun _=>RD)
theorem Tp {d:List Ent}{x:Pkt}:0<=(cO d x).2/\(cO d x).2<256:=by
 show Eb _;unfold cO;split
 ·exact⟨dc,dc⟩
 ·split
  ·exact Xk
  ·exact Xy
end Go.Proofs.YtjhnaegpchadiaaGreatDoor

namespace Go.Proofs.YtjhnaegpchadiaaGreatDoor
open Go Go.RowKit Tw Av
attribute [local irreducible] M8 P7
end Go.Proofs.YtjhnaegpchadiaaGreatDoor

namespace Go.Proofs.YtjhnaegpchadiaaGreatDoor
open Go Go.RowKit Tw Av
attribute [local irreducible] M8 P7 kI
end Go.Proofs.YtjhnaegpchadiaaGreatDoor

namespace Go.Proofs.YtjhnaegpchadiaaGreatDoor
open Go Go.RowKit Tw Av Go.Proofs.Tryz
def eQ (k:Int):AV:=
 if k=1 then F4 73 [] else if k=2 then F4 74 [] else if k=3 then F4 75 [] else if k=4 then F4 76 [] else if k=5 then F4 77 [] else if k=6 then F4 77 [] else if k=7 then F4 78 [] else if k=8 then F4 78 [] else if k=9 then F4 79 [] else if k=10 then F4 79 [] else if k=11 then F4 80 [] else if k=12 then F4 80 [] else if k=13 then F4 81 [] else if k=14 then F4 82 [] else if k=15 then F4 83 [] else if k=16 then F4 84 [] else .lit .nilFunc
theorem a3H:eQ 1=F4 73 []:=rfl
theorem do1 {d:List Ent}{x:TxX}{h t:Int}(e:x.k=1):E8 d x h t=AR d x.x:=by
 unfold E8;rw[e];rfl
theorem a3z:eQ 2=F4 74 []:=rfl
theorem do2 {d:List Ent}{x:TxX}{h t:Int}(e:x.k=2):E8 d x h t=zW d x.x:=by
 unfold E8;rw[e];rfl
theorem Km:eQ 3=F4 75 []:=rfl
theorem LX {d:List Ent}{x:TxX}{h t:Int}(e:x.k=3):E8 d x h t=qI d x:=by
 unfold E8;rw[e];rfl
theorem Kl:eQ 4=F4 76 []:=rfl
theorem LW {d:List Ent}{x:TxX}{h t:Int}(e:x.k=4):E8 d x h t=mP d x t:=by
 unfold E8;rw[e];rfl
theorem a3y:eQ 5=F4 77 []:=rfl
theorem do5 {d:List Ent}{x:TxX}{h t:Int}(e:x.k=5):E8 d x h t=BH d x t:=by
 unfold E8;rw[e];rfl
theorem a3x:eQ 6=F4 77 []:=rfl
theorem do6 {d:List Ent}{x:TxX}{h t:Int}(e:x.k=6):E8 d x h t=BH d x t:=by
 unfold E8;rw[e];rfl
theorem a3w:eQ 7=F4 78 []:=rfl
theorem do7 {d:List Ent}{x:TxX}{h t:Int}(e:x.k=7):E8 d x h t=BJ d x t:=by
 unfold E8;rw[e];rfl
theorem a3v:eQ 8=F4 78 []:=rfl
theorem do8 {d:List Ent}{x:TxX}{h t:Int}(e:x.k=8):E8 d x h t=BJ d x t:=by
 unfold E8;rw[e];rfl
theorem a3u:eQ 9=F4 79 []:=rfl
theorem do9 {d:List Ent}{x:TxX}{h t:Int}(e:x.k=9):E8 d x h t=zR d x t:=by
 unfold E8;rw[e];rfl
theorem a3G:eQ 10=F4 79 []:=rfl
theorem a2O {d:List Ent}{x:TxX}{h t:Int}(e:x.k=10):E8 d x h t=zR d x t:=by
 unfold E8;rw[e];rfl
theorem a3F:eQ 11=F4 80 []:=rfl
theorem a2N {d:List Ent}{x:TxX}{h t:Int}(e:x.k=11):E8 d x h t=zS d x t:=by
 unfold E8;rw[e];rfl
theorem a3E:eQ 12=F4 80 []:=rfl
theorem a2M {d:List Ent}{x:TxX}{h t:Int}(e:x.k=12):E8 d x h t=zS d x t:=by
 unfold E8;rw[e];rfl
theorem a3D:eQ 13=F4 81 []:=rfl
theorem a2L {d:List Ent}{x:TxX}{h t:Int}(e:x.k=13):E8 d x h t=zG d x.x:=by
 unfold E8;rw[e];rfl
theorem a3C:eQ 14=F4 82 []:=rfl
theorem a2K {d:List Ent}{x:TxX}{h t:Int}(e:x.k=14):E8 d x h t=zO d x h t:=by
 unfold E8;rw[e];rfl
theorem a3B:eQ 15=F4 83 []:=rfl
theorem a2J {d:List Ent}{x:TxX}{h t:Int}(e:x.k=15):E8 d x h t=GN d x t:=by
 unfold E8;rw[e];rfl
theorem a3A:eQ 16=F4 84 []:=rfl
theorem a2I {d:List Ent}{x:TxX}{h t:Int}(e:x.k=16):E8 d x h t=DD d x t:=by
 unfold E8;rw[e];rfl
theorem a3t {k:Int}(h:¬ (1<=k/\k<=16)):eQ k=.lit .nilFunc:=by
 unfold eQ;repeat rw[if_neg om]
theorem doN {d:List Ent}{x:TxX}{h t:Int}(e:¬ (1<=x.k/\x.k<=16)):E8 d x h t=M4 d 1:=by
 unfold E8;repeat rw[if_neg om]
attribute [local irreducible] M8 P7 kI AR zW qI mP BH BJ zR zS zG zO GN DD eQ E8
section
variable {P:Program} {N:Nat} {ops:Array Oper} {Q:Exit->Act->World->Prop} {rest:List Oper} {s:Av.Base} {e:Av.Env} {m:List Av.Piece} {d:Nat} {ty:TypeId} {pos:String} {af:Array Edge}
def SC:Option TypeDesc->Bool
 | some (.func _ _ _)=>true
 | _=>false
theorem Zr {o:Option TypeDesc}(h:SC o=true):∃ A B C,o=some (.func A B C):=by
 unfold SC at h;split at h
 ·exact⟨_,_,_,rfl⟩
 ·cases h
theorem Nb {op:BinOp}{T yT:TypeId}(hT:SC (P.underlying T)=true){x y:Operand}{f:FuncId}{cs:List Value}{c:Bool}(h:AL P N ops Q s rest ((d,j3 c)::e) m)(hx:Av.ev e x=some (F4 f cs):=by exact rfl)(hy:Av.ev e y=some (.lit .nilFunc):=by exact rfl)(hc:wO op false=some c:=by exact rfl)(hd:Nat.blt d N=true:=by exact rfl):AL P N ops Q s (⟨some d,.binOp op T x y yT,ty,pos,af,none⟩::rest) e m:=
 Q5 rfl (fun ok w A hA=>by
  obtain⟨_,_,_,ht⟩:=Zr hT;exact JD (hA.lit hx) (hA.lit hy) sm sm sm sm (by unfold eqGuard;cases op <;> rfl) (by
  have h:∀ d:Nat,(Op.equalIn (d+1) T (.func (.func f) #[] cs.toArray) .nilFunc).run P w=.ok false w:=fun d=>by simp[Op.equalIn,run_underlying ht]
  exact h 9999) hc) hd h
end
theorem kinds {k:Int}(h:1<=k/\k<=16):k=1\/k=2\/k=3\/k=4\/k=5\/k=6\/k=7\/k=8\/k=9\/k=10\/k=11\/k=12\/k=13\/k=14\/k=15\/k=16:=by omega
instance b5l {k:Int}:Ans prog GL 32 [int k] True (eQ k):=⟨fun _=>by
 refine qF func32 ntmps32 fun _ hs=>?_;by_cases h:1<=k/\k<=16
 ·rcases kinds h with rfl|rfl|rfl|rfl|rfl|rfl|rfl|rfl|rfl|rfl|rfl|rfl|rfl|rfl|rfl|rfl
  all_goals
   repeat' first|refine Zz ?_|intro _
   refine d9 ?_;first|exact a3H.symm|exact a3z.symm|exact Km.symm|exact Kl.symm|exact a3y.symm|exact a3x.symm|exact a3w.symm|exact a3v.symm|exact a3u.symm|exact a3G.symm|exact a3F.symm|exact a3E.symm|exact a3D.symm|exact a3C.symm|exact a3B.symm|exact a3A.symm
 ·repeat' first|refine Zz ?_|intro _
  refine d9 ?_;exact(a3t h).symm⟩
end Go.Proofs.YtjhnaegpchadiaaGreatDoor

namespace Go.Proofs.YtjhnaegpchadiaaGreatDoor
open Go Go.RowKit Tw Av
theorem DJ {d:List Ent}{r:List Ent × Int}{p:Rep}(h:DOk d)(hr:DOk r.1):DOk (mR d r p).1:=by
 unfold mR M4;split
 ·exact hr
 ·exact h
theorem EL {d:List Ent}{k v:Bs}(h:DOk d):DOk (lT d k v).1:=DJ h (wD h)
theorem Lj {d:List Ent}{x:TxX}{i k:Bs}{b:Bool}{t:Int}(h:DOk d):DOk (MH d x i k b t).1:=by
 unfold MH;repeat' (first|exact h|exact EL h|split)
theorem Dy {d:List Ent}{x:TxX}{own:EndX}{i k:Bs}{b:Bool}{t:Int}(h:DOk d):DOk (FC d x own i k b t).1:=by
 cases b
 ·rw[Zp];unfold KY;split
  ·exact h
  ·split
   ·exact h
   ·exact EL h
 ·rw[Zo];unfold KY;split
  ·exact h
  ·split
   ·exact h
   ·exact EL h
theorem Hz {d:List Ent}{x:Pkt}{b:Bool}{e:Int}(h:DOk d):DOk (LM d x b e).1:=by
 unfold LM;split
 ·exact h
 split
 ·exact h
 split
 ·exact h
 split
 ·exact h
 refine DOk.drp ?_ _;split
 ·exact a4i h
 ·exact h
section
variable {d:List Ent} {x:TxX} {h t:Int} (hd:DOk d)
include hd
theorem a0R:DOk (AR d x.x).1:=by
 unfold AR;split
 ·exact hd
 ·exact DJ hd (uP hd)
theorem Xl:DOk (zW d x.x).1:=by
 unfold zW;split
 ·exact hd
 ·exact DJ hd (KN hd)
theorem a2Y:DOk (qI d x).1:=by
 unfold qI;split
 ·exact hd
 ·split
  ·exact hd
  ·split
   ·exact hd
   ·exact EL hd
theorem Pp:DOk (mP d x t).1:=by
 unfold mP;split
 ·exact hd
 ·split
  ·exact hd
  ·exact EL hd
theorem Ji:DOk (BH d x t).1:=by
 unfold BH;split
 ·exact hd
 ·split
  ·exact hd
  ·split
   ·exact hd
   ·exact Lj hd
theorem Jk:DOk (BJ d x t).1:=by
 unfold BJ;split
 ·exact hd
 ·exact Dy hd
theorem Bu:DOk (zR d x t).1:=by
 unfold zR;split
 ·exact hd
 ·split
  ·exact hd
  ·split
   ·exact hd
   ·split
    ·exact hd
    ·exact Lj hd
theorem Bw:DOk (zS d x t).1:=by
 unfold zS;split
 ·exact hd
 ·exact Dy hd
theorem Rm:DOk (zG d x.x).1:=by
 unfold zG;split
 ·exact hd
 ·split
  ·exact hd
  ·split
   ·exact hd
   ·split
    ·exact hd
    ·exact DJ hd (DF hd (fun d h=>XZ h) (fun d h=>DF h (fun d h=>wD h) (fun d h=>wD h)))
theorem Ue:DOk (zO d x h t).1:=by
 have h1:DOk (if (cO d x.x).2=0 then (cO d x.x).1 else d):=by
  split
  ·exact Ae hd
  ·exact hd
 unfold zO;generalize (if (cO d x.x).2=0 then (cO d x.x).1 else d)=D at *;split
 ·exact hd
 split
 ·exact hd
 split
 ·exact hd
 split
 ·exact hd
 split
 ·exact hd
 split
 ·exact hd
 exact DJ hd (wD h1)
theorem a6g:DOk (GN d x t).1:=by
 unfold GN;split
 ·exact hd
 ·exact Hz hd
theorem Qn:DOk (DD d x t).1:=by
 unfold DD;split
 ·exact hd
 ·exact Hz hd
theorem TP:DOk (E8 d x h t).1:=by
 by_cases hk:1<=x.k/\x.k<=16
 rotate_left
 ·rw[doN hk];exact hd
 rcases kinds hk with e|e|e|e|e|e|e|e|e|e|e|e|e|e|e|e
 ·rw[do1 e];exact a0R hd
 ·rw[do2 e];exact Xl hd
 ·rw[LX e];exact a2Y hd
 ·rw[LW e];exact Pp hd
 ·rw[do5 e];exact Ji hd
 ·rw[do6 e];exact Ji hd
 ·rw[do7 e];exact Jk hd
 ·rw[do8 e];exact Jk hd
 ·rw[do9 e];exact Bu hd
 ·rw[a2O e];exact Bu hd
 ·rw[a2N e];exact Bw hd
 ·rw[a2M e];exact Bw hd
 ·rw[a2L e];exact Rm hd
 ·rw[a2K e];exact Ue hd
 ·rw[a2J e];exact a6g hd
 ·rw[a2I e];exact Qn hd
end

structure BlkX where
 h:Int
 t:Int
 x:List Bs
structure EvX where
 h:Int
 k:Int
 x:Pkt
 a:Bs
deriving DecidableEq
abbrev U3 (v:EvX):AV:=.agg 15 [int v.h,int v.k,KA v.x,str v.a]
def qH (d:List Ent)(h:Int)(x:TxX)(r:Rep):EvX:=
 ⟨h,x.k,if x.k=13 then { x.x with q:=r.q,k:=(H9 d [72] x.x.s).p } else x.x,if x.k=14 then r.a else if x.k=15 then x.a else []⟩
abbrev Run3:=List Ent × List Rep × List EvX
def xF (h t:Int)(q:Run3)(x:TxX):Run3:=
 ((E8 q.1 x h t).1,q.2.1++[(E8 q.1 x h t).2],if (E8 q.1 x h t).2.e=0/\13<=x.k then q.2.2++[qH (E8 q.1 x h t).1 h x (E8 q.1 x h t).2] else q.2.2)
def fJ (h t:Int)(q:Run3)(s:Bs):Run3:=if Y1 (I4 s)=0 then xF h t q (J9 (I4 s)) else (q.1,q.2.1++[vY 10],q.2.2)
def U4 (h t:Int)(q:Run3)(l:List Bs):Run3:=l.foldl (fJ h t) q
def L8 (d:List Ent)(b:BlkX):Run3:=U4 b.h b.t (d,[],[]) b.x
theorem YQ (h t:Int)(q:Run3)(s:Bs)(l:List Bs):U4 h t q (s::l)=U4 h t (fJ h t q s) l:=by
 unfold U4;exact List.foldl_cons ..
theorem Sr (h t:Int)(q:Run3)(l r:List Bs):U4 h t q (l++r)=U4 h t (U4 h t q l) r:=List.foldl_append
theorem Sq {h t:Int}{q:Run3}{s:Bs}(hd:DOk q.1):DOk (fJ h t q s).1:=by
 unfold fJ xF;split
 ·exact TP hd
 ·exact hd
theorem JH {h t:Int}:∀ {l:List Bs} {q:Run3},DOk q.1->DOk (U4 h t q l).1
 | [],_,hd=>hd
 | s::l,q,hd=>by rw[YQ];exact JH (Sq hd)
theorem Sn {h t:Int}{q:Run3}{s:Bs}:(fJ h t q s).2.1.length=q.2.1.length+1/\(fJ h t q s).2.2.length<=q.2.2.length+1:=by
 unfold fJ xF;split
 ·refine⟨sm,?_⟩;dsimp only;split
  ·simp
  ·omega
 ·simp
theorem zK {h t:Int}:∀ {l:List Bs} {q:Run3},(U4 h t q l).2.1.length=q.2.1.length+l.length/\(U4 h t q l).2.2.length<=q.2.2.length+l.length
 | [],_=>⟨rfl,Nat.le_refl _⟩
 | s::l,q=>by
  have h1:=Sn (h:=h) (t:=t) (q:=q) (s:=s);have h2:=zK (h:=h) (t:=t) (l:=l) (q:=fJ h t q s);rw[YQ,List.length_cons];omega
def XK (k a:Int):TxX:=
 ⟨if k=2 then 2 else if k=3 then 3 else if k=5 then 13 else if k=6 then 4 else if k=7 then 14 else 1,
  [107],[],[],[],[107,101,121],9,⟨[98],1+a,0,F3⟩,F3,
  ⟨if k=7 then 1 else 0,if k=5\/k=7 then [99] else [],if k=7 then [99] else [],[120],Z6 a.toNat,[97,110,110],if k=0\/k=1 then [97,110,110] else [98,111,98],if k=5\/k=7 then 100 else 0,0⟩,
  [],0,mK,qQ⟩
theorem VW:GG qQ:=⟨dc,⟨dc,by simp[qQ],GZ⟩,⟨dc,by simp[qQ],GZ⟩⟩
end Go.Proofs.YtjhnaegpchadiaaGreatDoor

namespace Go.Proofs.YtjhnaegpchadiaaGreatDoor
open Go Go.RowKit Tw Av Go.Proofs.Tryz
instance PQ {g:Nat}{σ:RS}{c most:Int}:AnsM prog GL 157 g [.lit (.int .u8 c),int most] 286 (r9 σ) True (str (gT c most σ)) (r9 (sT c most σ)):=⟨fun _=>(Ua (g:=g) (s:=σ.1.1) (b:=σ.1.2) (c:=c) (most:=most)).spec (by have:=σ.2;omega)⟩
instance Ub {g:Nat}{σ:RS}{c most:Int}:AnsM prog GL 109 g [.lit (.int .u8 c),int most] 286 (r9 σ) (0<=most/\most<=9223372036854775807) (int (gI c most σ)) (r9 (sI c most σ)):=⟨fun h=>(Uc (g:=g) (s:=σ.1.1) (b:=σ.1.2) (c:=c) (most:=most)).spec ⟨by have:=σ.2;omega,h⟩⟩
instance b0x {g:Nat}{σ:RS}:AnsM prog GL 111 g [] 286 (r9 σ) True (int (gZ σ)) (r9 σ):=⟨fun h=>(Ud (g:=g) (s:=σ.1.1) (b:=σ.1.2)).spec h⟩
instance iR {g:Nat}{σ:RS}{c most:Int}:AnsM prog GL 227 g [.lit (.int .u8 c),int most] 220 (r9 σ) True (str (gT c most σ)) (r9 (sT c most σ)):=⟨fun _=>(Sw (g:=g) (s:=σ.1.1) (b:=σ.1.2) (c:=c) (most:=most)).spec (by have:=σ.2;omega)⟩
instance vW {g:Nat}{σ:RS}{c most:Int}:AnsM prog GL 127 g [.lit (.int .u8 c),int most] 220 (r9 σ) (0<=most/\most<=9223372036854775807) (int (gI c most σ)) (r9 (sI c most σ)):=⟨fun h=>(Sy (g:=g) (s:=σ.1.1) (b:=σ.1.2) (c:=c) (most:=most)).spec ⟨by have:=σ.2;omega,h⟩⟩
instance b0q {g:Nat}{σ:RS}:AnsM prog GL 129 g [] 220 (r9 σ) True (int (gZ σ)) (r9 σ):=⟨fun h=>(Sz (g:=g) (s:=σ.1.1) (b:=σ.1.2)).spec h⟩
end Go.Proofs.YtjhnaegpchadiaaGreatDoor
