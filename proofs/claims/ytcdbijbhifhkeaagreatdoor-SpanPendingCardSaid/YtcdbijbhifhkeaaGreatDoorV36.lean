/- . -/
import Derived.Test.YtcdbijbhifhkeaaGreatDoorV35
set_option maxHeartbeats 64000000
namespace Av
open Go Go.RowKit Tw
section
variable {P:Program} {F:Fence} {ops:Array Oper} {Q Q':Exit->Act->World->Prop}
theorem a5k (hf:∀ f,F.fn f)(hd:F.depth=none)(hc:∀ {f:FuncId} {args:Array Value} {w:World} {R:Ending->World->Prop},Calls P f args w R->CallsIn F 0 P f args w R)
  (hr:∀ {row:String} {args:Array Value} {w:World} {R:Value->World->Prop},Rows P row args w R->RowsIn F 0 P row args w R) (hQ:∀ chain a w,Q (.panic chain) a w->Q' (.panic chain) a w) (hO:¬ LetsOut Q) {i:Nat} {K K':Act->World->Prop}
  (hK:∀ a w,K a w->K' a w) (ho:∀ o,ops[i]?=some o->BB o=true) {a:Act} {w:World} (h:Go.wpOp P ops Q i K a w):Go.wpOpIn F 0 P ops Q' i K' a w:=by
 unfold Go.wpOp at h;unfold Go.wpOpIn;cases hi:ops[i]? with
 | none=>
  rw[hi] at h;exact hK _ _ h
 | some o=>
  rw[hi] at h;simp only at h ⊢;by_cases hw:Region.wanted o (yielded ops a.tmps)=true
  ·rw[if_pos hw] at h ⊢;rcases h with h|⟨_,h⟩
   ·refine⟨λf _=>hf f,?_⟩;rw[Oper.semAt_eq _ _ _ (Oy (ho o hi))];exact Gj hd hc hr hQ (λe=>absurd e hO) (Oper.wp_mono hK h)
   exact absurd h hO
  rw[if_neg hw] at h ⊢;exact⟨λf _=>hf f,hK _ _ h⟩
theorem a0d {md:Region.Mode}(hf:∀ f,F.fn f)(hd:F.depth=none)(hc:∀ {f:FuncId} {args:Array Value} {w:World} {R:Ending->World->Prop},Calls P f args w R->CallsIn F 0 P f args w R)
  (hr:∀ {row:String} {args:Array Value} {w:World} {R:Value->World->Prop},Rows P row args w R->RowsIn F 0 P row args w R) (hQ:∀ chain a w,Q (.panic chain) a w->Q' (.panic chain) a w) (hO:¬ LetsOut Q)
  (ho:∀ (i:Nat) (o:Oper),ops[i]?=some o->BB o=true) (hN:∀ a w,Q .normal a w->Q' .normal a w):∀ (fuel:Nat) (listed:Array Bool) (a:Act) (w:World),wpAny P md ops Q fuel listed a w->wpAnyIn F 0 P md ops Q' fuel listed a w
 | 0,_,_,_,h=>⟨h.1,hN _ _ h.2⟩
 | fuel+1,_,_,_,h=>⟨λe=>hN _ _ (h.1 e),λi hi=>a5k hf hd hc hr hQ hO (a0d hf hd hc hr hQ hO ho hN fuel _) (ho i) (h.2 i hi)⟩
end
section
variable {P:Program} {N:Nat} {Q:Exit->Act->World->Prop} {l:List Oper} {s:Base} {e:Env} {m:List Piece} {gl:List (Nat × AV)} {L:Nat}
theorem PN {id:Nat}[hm:Mixed P][hQ:NoOut Q](hg:s.gl=gl)(ho:Obl P N Q s gl l l 0 m e [])(hc:GY N l=true:=by kernel_rfl)(hn:l.all BB=true:=by exact rfl):BC P N L (.region id l.toArray true) Q s e m:=λok w a hS ha=>by
 refine wpIn_region_any hm.out ?_;refine a0d (F:=Ro L) (Q:=Q) (λ_=>trivial) rfl Yd Jt (λ_ _ _ h=>h) hQ.out (λi o h=>?_) (λ_ _ h=>h) _ _ _ _ (Ej hg hc ho hS ha);rw[List.getElem?_toArray] at h;exact List.all_eq_true.1 hn o (List.mem_of_getElem? h)
theorem b3w {ops:Array Oper}{rest:List Oper}{ty:TypeId}{pos:String}{af:Array Edge}{op:Op}{dst:Option Tmp}{g:Nat}{b:Bool}{t:Nat}(h:AI P N ops Q s (⟨dst,op,ty,pos,af,none⟩::rest) e m)(ht:(ops[g]?).bind (·.dst)=some t:=by exact rfl)(hb:lk e t=some (.lit (.bool b)):=by exact rfl) :
  AI P N ops Q s (⟨dst,op,ty,pos,af,some (g,b)⟩::rest) e m:=λok w a hS ha=>by
 have hy:=VU ht (RV.lit (ha.env t _ hb));have:=h ok w a hS ha;unfold wpListIn at this ⊢;simp only[Region.wanted,if_true,hy,beq_self_eq_true] at this ⊢;exact this
end
end Av

namespace Go.Proofs.Z
open Go Go.RowKit Tw Av Go.Proofs.Tryz
instance d0r {xs:List AV}{id:Option Value}:Ans prog GL 46 [.sl 15 xs id] (xs.length<=1073741824) (.sl 15 xs none):=⟨λhx=>by
 refine zc func46 ntmps46 λ_ hs=>?_;repeat' first|refine Wz ?_|intro
 refine Eo (λq c hq hc=>?_);repeat' first|refine Wz ?_|intro
 injection hc with hc
 subst hc;refine xF (λh=>?_) (λh=>?_)
 ·have e:=hq h;subst e;repeat' first|refine Wz ?_|intro
  refine P8 ?_;exact Imp.nilN
 repeat' first|refine Wz ?_|intro
 refine Ev (λg=>?_);repeat' first|refine Wz ?_|intro
 refine IG (λg' c' hc'=>?_);refine yH 7 ?_;refine eH 7 Imp.sl ?_;exact jY⟩
instance c2W {g gs:Nat}{vm vh ve vt:Value}{c:ChX}:AnsM prog GL 19 g [] 111 (z8 gs vm vh ve vt c) (c.ev.length<=1000000) (.sl 15 (c.ev.map O0) none) (z8 gs vm vh ve vt c):=⟨λhl=>by
 have hm:(c.ev.map O0).length=c.ev.length:=llm _;refine zc func19 ntmps19 λ_ hs=>?_;repeat' first|refine O ?_|intro
 apply aH [];exact rfl;exact rfl;kernel_rfl;kernel_rfl;intro _ _;refine b2c 0 c.ev.length (λA=>?_);refine j5 (W9 [] [_] rfl rfl lpr rfl ?_);rw[List.drop_zero,List.take_of_length_le om];repeat' first|refine O ?_|intro
 refine j4 _ ⟨rfl,rfl⟩ ?_;exact zb⟩

def CK (k:Int)(v:EvX):Bool:=decide (v.k=13)&&decide (v.h<=k)
def V6 (evs:List EvX)(k:Int):List Pkt:=(evs.filter (CK k)).map (·.x)
theorem a2x {evs:List EvX}{k:Int}{i:Nat}(h:i<evs.length):V6 (evs.take (i+1)) k=V6 (evs.take i) k++(if CK k evs[i]=true then [evs[i].x] else []):=by
 unfold V6;rw[<- List.take_append_getElem h,List.filter_append,List.map_append];congr 1
 by_cases hb:CK k evs[i]=true
 ·rw[if_pos hb];simp[hb]
 rw[if_neg hb];simp[hb]
theorem a2y {evs:List EvX}{k:Int}{i:Nat}:V6 (evs.take i) k <+: V6 evs k:=by
 unfold V6;exact((List.take_prefix i evs).filter _).map _
abbrev fJ (g1 g2:Nat)(p:AV)(k:Int):List Av.Piece:=[.var g2 3 (int k),.var g1 33 p]
theorem Im {p:AV}{k:Int}{v:Value}(hp:p=.lit v)(_:v.oneCell'=true):Av.Spec prog GL 168 [p,int k] [] λu m=>∃ g1 g2,u=F3 216 [.pointer (some ⟨g1,0,none⟩),.pointer (some ⟨g2,0,none⟩)]/\m=fJ g1 g2 p k:=by
 subst hp;refine zc func168 ntmps168 λ_ hs=>?_;repeat' first|refine O ?_|intro
 rename_i g1 g2;refine Z0 (vs:=[.pointer (some ⟨g1,0,none⟩),.pointer (some ⟨g2,0,none⟩)]) ?_;repeat' first|refine O ?_|intro
 refine j4 _ ⟨g1,g2,rfl,rfl⟩ ?_;exact List.Sublist.refl _
theorem Io {ok0:Ok}{w0:World}{L g1 g2 gc gs:Nat}{vm vh ve vt:Value}{c:ChX}{k:Int}{A:Type}{z0:A}{X Y:List Av.Piece}(hXY:Y++X=[.var gc 111 (z8 gs vm vh ve vt c)]){J:A->List Av.Piece}{G:List Pkt->A->Prop}
  (hY:∀ pre x z,G pre z->pre++[x] <+: V6 c.ev k->Yld prog GL ok0 w0 L [eZ x] (J z++X) λv m'=>v=d9 true/\∃ z',G (pre++[x]) z'/\m'=J z'++X) (hG:G [] z0) (hl:c.ev.length<=1000000) {ok:Ok} {w:World} (hw:Stp ok0 w0 ok w)
  (hS:St (X3 GL (fJ g1 g2 (ptr gc) k++(.var gc 111 (z8 gs vm vh ve vt c)::J z0)) ok w) ok (fJ g1 g2 (ptr gc) k++(.var gc 111 (z8 gs vm vh ve vt c)::J z0)) w) :
  Calls prog 216 #[.func (.yield L) #[] #[],.pointer (some ⟨g1,0,none⟩),.pointer (some ⟨g2,0,none⟩)] w (Back (X3 GL (fJ g1 g2 (ptr gc) k++(.var gc 111 (z8 gs vm vh ve vt c)::J z0)) ok w) λ_ m'=>∃ z,G (V6 c.ev k) z/\m'=fJ g1 g2 (ptr gc) k++(.var gc 111 (z8 gs vm vh ve vt c)::J z)):=by
 refine Ye (gl:=GL) (m:=fJ g1 g2 (ptr gc) k++(.var gc 111 (z8 gs vm vh ve vt c)::J z0)) (args:=[yv L,ptr g1,ptr g2]) (cargs:=[.func (.yield L) #[] #[],.pointer (some ⟨g1,0,none⟩),.pointer (some ⟨g2,0,none⟩)]) func216 rfl ntmps216 rfl hS ⟨_,_,rfl,RV0.of_lit rfl,_,_,rfl,RV0.of_lit rfl,_,_,rfl,RV0.of_lit rfl,rfl⟩ ?_;have hsw:Stp ok0 w0 (X3 GL (fJ g1 g2 (ptr gc) k++(.var gc 111 (z8 gs vm vh ve vt c)::J z0)) ok w).ok (X3 GL (fJ g1 g2 (ptr gc) k++(.var gc 111 (z8 gs vm vh ve vt c)::J z0)) ok w).w:=hw;have hs:(X3 GL (fJ g1 g2 (ptr gc) k++(.var gc 111 (z8 gs vm vh ve vt c)::J z0)) ok w).gl=GL:=rfl;generalize X3 GL (fJ g1 g2 (ptr gc) k++(.var gc 111 (z8 gs vm vh ve vt c)::J z0)) ok w=sB at hsw hs ⊢;clear hS;have hm:(c.ev.map O0).length=c.ev.length:=llm _;repeat' first|refine O ?_|intro
 rw[hm];refine H7 (α:=Nat × A) (λq=>[(0,yv L),(1,ptr g1),(2,ptr g2),(7,.sl 15 (c.ev.map O0) none),(8,int c.ev.length),(9,int q.1)]) (λq=>fJ g1 g2 (ptr gc) k++(.var gc 111 (z8 gs vm vh ve vt c)::J q.2))
  (λq=>q.1<=c.ev.length/\G (V6 (c.ev.take q.1) k) q.2) (λq=>c.ev.length-q.1) (0,z0) za slr ⟨Nat.zero_le _,hG⟩ ?_
 rintro⟨i,z⟩ ⟨hi,hGi⟩;dsimp only at hi hGi ⊢;by_cases hil:i<c.ev.length
 rotate_left
 ·obtain rfl:i=c.ev.length:=by omega
  rw[List.take_length] at hGi;repeat' first|refine O ?_|intro
  exact iV _ ⟨z,hGi,rfl⟩ slr
 have hst:=a2x (k:=k) hil;by_cases hb:CK k c.ev[i]=true
 rotate_left
 ·rw[if_neg hb,List.append_nil] at hst;by_cases h13:c.ev[i].k=13
  ·have hk:¬ c.ev[i].h<=k:=λh=>hb (by unfold CK;rw[dT h13,dT h];rfl);repeat' first|refine O ?_|intro
   exact y7 (i+1,z) za (List.sublist_cons_self _ _) ⟨hil,by rw[hst];exact hGi⟩ (by dsimp only;omega)
  repeat' first|refine O ?_|intro
  exact y7 (i+1,z) za (List.sublist_cons_self _ _) ⟨hil,by rw[hst];exact hGi⟩ (by dsimp only;omega)
 rw[if_pos hb] at hst;have hp:V6 (c.ev.take i) k++[c.ev[i].x] <+: V6 c.ev k:=by rw[<- hst];exact a2y
 unfold CK at hb;rw[bet,decide_eq_true_iff,decide_eq_true_iff] at hb;obtain⟨h13,hk⟩:=hb;repeat refine yK ?_
 refine LW ?_;repeat' (first|refine M8 ?_|refine L8 ?_|refine Q4 ?_|intro _|simp only[List.set]|fail)
 refine j5 (BS ?_);repeat refine yK ?_
 rw[dT (show (i:Int)<c.ev.length by omega)];refine a0V ?_;refine Fh ?_;refine BS ?_;repeat refine yK ?_
 refine Fu ?_;repeat refine yK ?_
 refine LW ?_;repeat' (first|refine M8 ?_|refine L8 ?_|refine Q4 ?_|intro _|simp only[List.set]|fail)
 refine j5 (BS ?_);repeat refine yK ?_
 rename_i g5;refine Fj ?_;refine Fa (α:=Unit) (λ_=>[(23,yv L),(25,eZ (c.ev[i]'hil).x),(22,d9 true),(0,yv L),(1,ptr g1),(2,ptr g2),(7,.sl 15 (c.ev.map O0) none),(8,int c.ev.length),(9,int i)]) (λ_=>Piece.var g5 53 (O0 (c.ev[i]'hil))::(fJ g1 g2 (ptr gc) k++(Piece.var gc 111 (z8 gs vm vh ve vt c)::J z))) ?_ (λ_=>?_) (pre:=[_,_,_,_,_,_,_,_,_,_,_,_,_])
 ·repeat' first|refine O ?_|intro
  exact(P9 () (by exact za) slr)
 refine b3w ?_;have e:∀ l:List Av.Piece,(Piece.var g5 53 (O0 (c.ev[i]'hil))::(fJ g1 g2 (ptr gc) k++(Piece.var gc 111 (z8 gs vm vh ve vt c)::l))).Perm ((l++X)++(Piece.var g5 53 (O0 (c.ev[i]'hil))::(fJ g1 g2 (ptr gc) k++Y))):=λl=>by
  show (Piece.var g5 53 (O0 (c.ev[i]'hil))::(fJ g1 g2 (ptr gc) k++([Piece.var gc 111 (z8 gs vm vh ve vt c)]++l))).Perm _;rw[<- hXY];have h1:Piece.var g5 53 (O0 (c.ev[i]'hil))::(fJ g1 g2 (ptr gc) k++(Y++X++l))=(Piece.var g5 53 (O0 (c.ev[i]'hil))::(fJ g1 g2 (ptr gc) k++Y))++(X++l):=by simp only[List.append_assoc,List.cons_append]
  rw[h1];exact List.perm_append_comm.trans (List.Perm.append_right _ List.perm_append_comm)
 refine Ez (J z++X) (Piece.var g5 53 (O0 (c.ev[i]'hil))::(fJ g1 g2 (ptr gc) k++Y)) (by rw[hs];exact hY _ _ z hGi hp) hsw (λv m1' hv=>?_) (e (J z));obtain⟨rfl,z',h4,rfl⟩:=hv;refine a0T ?_;refine lC (λok w hS=>hS.perm (m':=Piece.var g5 53 (O0 (c.ev[i]'hil))::(fJ g1 g2 (ptr gc) k++(Piece.var gc 111 (z8 gs vm vh ve vt c)::J z'))) (e (J z'))) ?_;repeat' first|refine O ?_|intro
 exact y7 (i+1,z') za (List.sublist_cons_self _ _) ⟨hil,by rw[hst];exact h4⟩ (by dsimp only;omega)
end Go.Proofs.Z

namespace Go.Proofs.Z
open Go Go.RowKit Tw Av
def WR (x:DvX):List Bs:=(List.range x.n.toNat).map λ(i:Nat)=>M0 x (i:Int)

section
attribute [local irreducible] WR
end


section
attribute [local irreducible] pU
attribute [local irreducible] I8 yN jM bC
end

section
attribute [local irreducible] V7
attribute [local irreducible] bI oV
end

section
attribute [local irreducible] bI oV V7
attribute [local irreducible] WR
end


section
attribute [local irreducible] u7 jI rQ wC rW lL eX rA
end

section
attribute [local irreducible] U7 M5
theorem YO {s:Bs}(h:I4 s=true):s.length<=32:=by
 unfold I4 at h;rw[bet,decide_eq_true_iff] at h;exact h.2.2
theorem a3L (s:Bs):(lS s).o.length<=32/\(lS s).q.length<=32/\(lS s).p.length<=32/\(lS s).s<=4:=by
 unfold lS;split
 ·rename_i h;unfold FK at h;rw[bet] at h;have h:=h.2;unfold kY at h;simp only[Bool.and_eq_true,decide_eq_true_eq] at h;obtain⟨h1,h2,h3,h4⟩:=h;refine⟨YO h2,YO h3,?_,h1.2⟩;split at h4
  ·rw[of_decide_eq_true h4];simp
  exact YO h4
 decide
theorem a9s (d:List Ent)(k i:Bs):(I1 d k i).o.length<=32/\(I1 d k i).q.length<=32/\(I1 d k i).p.length<=32/\(I1 d k i).s<=4:=a3L _
end

def WO (d:List Ent)(x:Pkt):Out18:=pQ (Z6 d (goes d x)).1 (G9 [80] x.s (goes d x).q) (M9 (goes d x))
def MX (d:List Ent)(x:Pkt):Out18:=pQ (WO d x).1 (E5 [78] x.s) (y9 110 ((goes d x).q+1))
def WP (d:List Ent)(x:Pkt):Out18:=
 if M5 d [72] x.s=false then fQ 12 else if (I1 d [72] x.s).s≠3 then fQ 13 else if aN (goes d x)=false then fQ 1
 else if sG d x.s=false\/U7 d (aO d x.s)=false then fQ 12
 else if aV (goes d x) (dW (U2 d (aO d x.s)).l).h (dW (U2 d (aO d x.s)).l).t=true then fQ 21
 else if (Z6 d (goes d x)).2≠0 then fQ (Z6 d (goes d x)).2
 else if (WO d x).2.e≠0 then WO d x else if (MX d x).2.e≠0 then MX d x else ((MX d x).1,⟨(MX d x).2.e,(goes d x).q,(MX d x).2.a⟩)
def XW (d:List Ent)(x:TxX):Out18:=pQ (if (Y7 d x.x).2=0 then (Y7 d x.x).1 else d) (G9 [71] x.x.k x.x.q) (Z9 (zS d x.x))
def XV (d:List Ent)(x:TxX)(h t:Int):Out18:=
 if aN x.x=false then fQ 1 else if M5 d [72] x.x.k=false then fQ 12 else if (I1 d [72] x.x.k).s≠3\/(I1 d [72] x.x.k).p≠x.x.s then fQ 13
 else if aV x.x h t=true then fQ 21 else if (gO d (G9 [71] x.x.k x.x.q)).isSome=true then fQ 20 else if sG d x.x.k=false then fQ 12
 else if Q3 d (aO d x.x.k) x.t t (G9 [80] x.x.s x.x.q) (M9 x.x) x.f≠0 then fQ (Q3 d (aO d x.x.k) x.t t (G9 [80] x.x.s x.x.q) (M9 x.x) x.f)
 else ((XW d x).1,⟨(XW d x).2.e,(XW d x).2.q,zS d x.x⟩)
def a9r (d:List Ent)(x:Pkt)(b:Bool)(e:Int):Out18:=
 if M5 d [72] x.s=false then fQ 12 else if (I1 d [72] x.s).s≠3\/(I1 d [72] x.s).p≠x.k then fQ 13
 else if gO d (G9 [80] x.s x.q)≠some (M9 x) then fQ 12 else if sG d x.s=false then fQ 12
 else if e≠0 then fQ e else if b=true/\(nT d x).2≠0 then fQ (nT d x).2
 else (iM (if b=true then (nT d x).1 else d) (G9 [80] x.s x.q),oG)
def edB (x:TxX):Bool:=if x.k=15 then decide (ET x.a≠0) else true
def edE (d:List Ent)(x:TxX)(t:Int):Int:=if x.k=15 then Q3 d (aO d x.x.s) x.t t (G9 [71] x.x.k x.x.q) (Z9 x.a) x.f else QJ d x t
def Bt (d:List Ent)(x:TxX)(t:Int):Out18:=if aN x.x=false\/(x.k=15/\IM x.a=false) then fQ 1 else a9r d x.x (edB x) (edE d x t)
def Uz (d:List Ent)(x:TxX)(h t:Int):Out18:=
 if x.k=1\/x.k=2 then UM d x else if x.k=3\/x.k=4 then UO d x t else if x.k=5\/x.k=6 then Dx d x (decide (x.k=6)) t else if x.k=9\/x.k=10 then Dy d x (decide (x.k=10)) t
 else if x.k=7\/x.k=8 then YR d x (decide (x.k=7)) t else if x.k=11\/x.k=12 then YS d x (decide (x.k=11)) t else if x.k=13 then WP d x.x else if x.k=14 then XV d x h t else if x.k=15\/x.k=16 then Bt d x t else fQ 1

section
attribute [local irreducible] U7 M5 aV
end

section
attribute [local irreducible] U7 M5 aV UM UO Dx Dy YR YS WP XV Bt
attribute [local irreducible] Uz
end

section
attribute [local irreducible] U7 M5 aV UM UO Dx Dy YR YS WP XV Bt
attribute [local irreducible] Uz
instance b9c {k:Nat}:ImpT (.lit (.slice none 0 0)) (.sl k [] (some (.slice none 0 0))):=⟨ImpC.nilT⟩
attribute [local irreducible] u7 J9 Y0 I9 I1
end

section
variable {g gl:Nat} {vm vb ve vt:Value} {c:ChX}
end
attribute [local irreducible] X4 WR M4
attribute [local irreducible] u7
end Go.Proofs.Z

namespace Go.Proofs.Z
open Go Go.RowKit Tw Av Go.Proofs.Tryz
def eT (i:Bs)(h:Hdr)(m:Hsh):TxX:={ X0 with k:=4,i:=i,h:=h,m:=m }
theorem a7g {i:Bs}{h:Hdr}{m:Hsh}:Imp (L6 [.agg 100 [int 4,str i,str [],str [],str [],str [],int 0,R4 h,hA m,.agg 12 [int 0,str [],str [],.agg 7 [str [],.agg 4 [.lit (.int .u64 0),.lit (.int .u64 0),.lit (.int .u64 0),.lit (.int .u64 0)],str [],str []],int 0,int 0],str [],int 0,.agg 3 [int 0,int 0,K5],.agg 9 [int 0,K5,K5,.agg 3 [int 0,int 0,K5],.agg 3 [int 0,int 0,K5]]],d9 true]) (.tup [D8 (eT i h m),d9 true]):=by
 have e0:G6 wZ=.agg 4 [.lit (.int .u64 0),.lit (.int .u64 0),.lit (.int .u64 0),.lit (.int .u64 0)]:=kr
 have e:D8 (eT i h m)=.agg 100 [int 4,str i,str [],str [],str [],str [],int 0,R4 h,hA m,.agg 12 [int 0,str [],str [],.agg 7 [str [],G6 wZ,str [],str []],int 0,int 0],str [],int 0,.agg 3 [int 0,int 0,.sl 32 [] none],.agg 9 [int 0,.sl 2 [] none,.sl 2 [] none,.agg 3 [int 0,int 0,.sl 32 [] none],.agg 3 [int 0,int 0,.sl 32 [] none]]]:=rfl;rw[e,e0];show Imp (.tup _) (.tup [.agg 100 [int 4,str i,str [],str [],str [],str [],int 0,R4 h,hA m,.agg 12 [int 0,str [],str [],.agg 7 [str [],.agg 4 [.lit (.int .u64 0),.lit (.int .u64 0),.lit (.int .u64 0),.lit (.int .u64 0)],str [],str []],int 0,int 0],str [],int 0,.agg 3 [int 0,int 0,.sl 32 [] none],.agg 9 [int 0,.sl 2 [] none,.sl 2 [] none,.agg 3 [int 0,int 0,.sl 32 [] none],.agg 3 [int 0,int 0,.sl 32 [] none]]],d9 true]);exact ImpR.imp
def A9 (d:List Ent)(i:Bs):Int:=if U7 d i=true then (dW (U2 d i).l).h else 0
section
variable {g gs:Nat} {vm vh vb ve vt:Value} {c:ChX} {i:Bs}
def eU (c:ChX):Hdr:=c.hs.getD (c.hs.length-1) ⟨[],0,0,G8⟩
instance b9Y:AnsM prog GL 76 g [str i] 111 (z8 gs vm vh ve vt c) (((c.hs.length<=1000000/\c.ky.length<=1000000)/\∀ y∈c.hs,y.h<=9223372036854775807/\y.t<=9223372036854775807)/\1<=c.hs.length) (.tup [D8 (eT i (eU c) (O7 c.ky (eU c))),d9 true]) (z8 gs vm vh ve vt c):=⟨λhp=>by
 obtain⟨hh,h1⟩:=hp;have q:1<=(c.hs.length:Int)/\(c.hs.length:Int)<=c.hs.length:=by omega
 have e:c.hs.getD ((c.hs.length:Int)-1).toNat ⟨[],0,0,G8⟩=eU c:=by
  unfold eU;rw[show ((c.hs.length:Int)-1).toNat=c.hs.length-1 by omega]
 refine zc func76 ntmps76 λ_ hs=>?_;repeat' first|refine O ?_|intro
 rw[if_pos q,e];repeat' first|refine O ?_|intro
 refine Y1 (.tup [D8 (eT i (eU c) (O7 c.ky (eU c))),d9 true]) [.var g 111 (z8 gs vm vh ve vt c)] a7g ⟨rfl,rfl⟩ ?_;exact zb⟩
instance b9Z:AnsM prog GL 104 g [str i] 111 (z8 gs vm vh ve vt c) ((c.hs.length<c.ms.length/\c.ms.length<=1000000)/\DOk (j3 c)) (int (A9 (j3 c) i)) (z8 gs vm vh ve vt c):=⟨λhp=>by
 obtain⟨hl,hd⟩:=hp;refine zc func104 ntmps104 λ_ hs=>?_;repeat' first|refine O ?_|intro
 unfold A9;cases hb:U7 (j3 c) i
 ·repeat' first|refine O ?_|intro
  have hb':¬ nD (P7 (j3 c) (E5 [67] i))=0:=of_decide_eq_false hb;refine zO ?_ (by exact rfl) hb';repeat' first|refine O ?_|intro
  refine j4 [.var g 111 (z8 gs vm vh ve vt c)] ⟨rfl,rfl⟩ ?_;exact A8
 repeat' first|refine O ?_|intro
 have hb':nD (P7 (j3 c) (E5 [67] i))=0:=of_decide_eq_true hb;refine EN (p:=¬ nD (P7 (j3 c) (E5 [67] i))=0) ?_ (by exact rfl) (λh=>h hb');repeat' first|refine O ?_|intro
 refine j4 [.var g 111 (z8 gs vm vh ve vt c)] ⟨rfl,rfl⟩ ?_;exact zb⟩
def xI (c:ChX):Hdr:=⟨c.nm,c.bl.length,X4 c.bl,N9 (j3 c)⟩
end
end Go.Proofs.Z

namespace Go.Proofs.Z
open Go Go.RowKit Tw Av
abbrev rH:AV:=.lit (.pointer none)

theorem vW {α:Type _}(l:List α)(d:α)(b:List Nat){n:Nat}(hn:l.length=n:=by exact rfl)(h:(List.range n).isPerm b=true:=by kernel_rfl):l.Perm (b.map λi=>l.getD i d):=by
 subst hn;have h1:=(List.isPerm_iff.1 h).map λi=>l.getD i d;have h2:(List.range l.length).map (λi=>l.getD i d)=l:=by
  apply List.ext_getElem
  ·simp
  intro i h3 h4;simp[h4]
 rw[h2] at h1;exact h1
abbrev vZ:Av.Piece:=.tail 0 0 (.bool true)
section
variable {P:Program} {N:Nat} {ops:Array Oper} {Q:Exit->Act->World->Prop} {rest:List Oper} {s:Av.Base} {e:Av.Env} {m:List Av.Piece} {d:Nat} {ty:TypeId} {pos:String} {af:Array Edge}
theorem b2D {T:TypeId}(h:∀ g,AL P N ops Q s rest ((d,aK g)::e) (.obj g (dV [] 0)::m))(hd:Nat.blt d N=true:=by exact rfl):AL P N ops Q s (⟨some d,.makeMap T none,ty,pos,af,none⟩::rest) e m:=
 mK (λok w A hS hA=>by
  obtain⟨ok',g1,g2⟩:=hS.newObj (o:=dV [] 0) rfl;exact⟨_,.map (some w.heap.size),w.alloc (dV [] 0),ok',_,by simp[execOp,Instr.makeMap,newObj,Sem.run];rfl,RVl rfl,g1,g2,h w.heap.size⟩) hd
end
end Go.Proofs.Z

namespace Go.Proofs.Z
open Go Go.RowKit Tw Av Go.Proofs.Tryz
def OT (d:List Ent)(p:Pkt):Bool:=(gO d (G9 [71] p.k p.q)).isSome
def qD (d:List Ent)(k:Int)(p:Pkt):TxX:={ X0 with k:=14,x:=p,t:=k,f:=fV d (G5 d (G9 [80] p.s p.q)) (K8 d (G9 [80] p.s p.q)) }
def wQ (e:List Ent)(d:List Ent)(h t k:Int)(p:Pkt):List TxX:=if OT e p=true\/aV p h t=true then [] else [qD d k p]
def eD (e d:List Ent)(h t k:Int)(ps:List Pkt):List TxX:=ps.flatMap (wQ e d h t k)
def Q7 (c:ChX)(k:Int):List Ent:=if 0<=k/\k<(c.ms.length:Int) then c.ms.getD k.toNat [] else []
theorem Px {c:ChX}{k:Int}(h:∀ d∈c.ms,d.length<=1000000):(Q7 c k).length<=1000000:=by
 unfold Q7;split
 ·have h2:k.toNat<c.ms.length:=om
  rw[List.getD_eq_getElem?_getD,List.getElem?_eq_getElem h2];exact h _ (List.getElem_mem _)
 exact Nat.zero_le _
theorem Cu {e d:List Ent}{h t k:Int}{ps:List Pkt}{p:Pkt}:eD e d h t k (ps++[p])=eD e d h t k ps++wQ e d h t k p:=by
 unfold eD;rw[List.flatMap_append,List.flatMap_singleton]
theorem UL {e d:List Ent}{h t k:Int}:∀ ps:List Pkt,(eD e d h t k ps).length<=ps.length
 | []=>Nat.le_refl _
 | p::ps=>by
  have:=UL (e:=e) (d:=d) (h:=h) (t:=t) (k:=k) ps;unfold eD at this ⊢;rw[List.flatMap_cons,lla];have h2:(wQ e d h t k p).length<=1:=by
   unfold wQ;split
   ·exact Nat.zero_le _
   exact Nat.le_refl 1
  simp only[List.length_cons];omega
theorem IZ (evs:List EvX)(k:Int):(V6 evs k).length<=evs.length:=by
 unfold V6;rw[llm];exact List.length_filter_le _ _
theorem a7m {p:Pkt}{k:Int}{f:Prf}:ImpC (.agg 100 [int 14,str [],str [],str [],str [],str [],int 0,.agg 35 [str [],int 0,int 0,hA G8],hA G8,eZ p,str [],int k,bK f,.agg 9 [int 0,K5,K5,.agg 3 [int 0,int 0,K5],.agg 3 [int 0,int 0,K5]]]) (D8 { X0 with k:=14,x:=p,t:=k,f:=f }):=by
 exact(inferInstance:ImpT _ (.agg 100 [int 14,str [],str [],str [],str [],str [],int 0,.agg 35 [str [],int 0,int 0,hA G8],hA G8,eZ p,str [],int k,bK f,.agg 9 [int 0,.sl 2 [] none,.sl 2 [] none,.agg 3 [int 0,int 0,.sl 32 [] none],.agg 3 [int 0,int 0,.sl 32 [] none]]])).imp
section
variable {ga gb gs0 gs1:Nat} {a1 a2 a3 a4 b1 b2 b3 b4:Value} {c0 c1:ChX} {i:Bs}
theorem a8R (hk0:(c0.hs.length<c0.ms.length/\c0.ms.length<=1000000)/\DOk (j3 c0))(hm1:c1.ms.length<=1000000)(U9:∀ d∈c1.ms,d.length<=1000000)(hv1:c1.ev.length<=1000000)(hq1:∀ v∈c1.ev,v.x.q<=9223372036854775807) :
  Av.Spec prog GL 112 [ptr ga,ptr gb,str i] [.var ga 111 (z8 gs0 a1 a2 a3 a4 c0),.var gb 111 (z8 gs1 b1 b2 b3 b4 c1)] λu m=>
   ∃ v,u=.sl 100 ((eD (j3 c0) (Q7 c1 (A9 (j3 c0) i)) (c0.hs.length+1) (M6 c0) (A9 (j3 c0) i) (V6 c1.ev (A9 (j3 c0) i))).map D8) (some v) /\
   m=[.tail 100 100 v,.var ga 111 (z8 gs0 a1 a2 a3 a4 c0),.var gb 111 (z8 gs1 b1 b2 b3 b4 c1)]:=by
 have hh0:c0.hs.length<=1000000:=om
 have hst:=hk0.1;have hdk:=hk0.2;refine WM func112 rfl ntmps112 rfl (λsB hs=>?_);repeat' first|refine O ?_|intro
 rename_i gto gk gd go;have hdl:=Px (k:=A9 (j3 c0) i) U9;rw[show (if 0<=A9 (j3 c0) i/\A9 (j3 c0) i<c1.ms.length then c1.ms.getD (A9 (j3 c0) i).toNat [] else [])=Q7 c1 (A9 (j3 c0) i) from rfl];generalize Q7 c1 (A9 (j3 c0) i)=d at hdl ⊢;generalize A9 (j3 c0) i=k at *;refine J6 (args:=[ptr gb,int k]) [] _ (by rw[hs];exact Im rfl rfl) (λu m1 hh=>?_) lpr;obtain⟨g1,g2,rfl,rfl⟩:=hh;repeat' first|refine O ?_|intro
 refine jK (g:=go) (v':=.sl 100 ((eD (j3 c0) d (c0.hs.length+1) (M6 c0) k []).map D8) (some (.slice none 0 0))) ImpC.nilT ?_;refine eO (λok w h=>h.full 100 100 none 0) ?_;refine Fp (gf:=216) (lb:=[.pointer (some ⟨g1,0,none⟩),.pointer (some ⟨g2,0,none⟩)]) (by simp[Value.oneCell']) (λok w a fn hS ha ok1 w1 st1 hS1 ha1=>?_);generalize hr0:DU fn a _ _ _ w=r0 at hS1 ⊢;have e1:r0.state=.ready:=by rw[<- hr0]
 have e2:r0.pending=none:=by rw[<- hr0]
 have e3:r0.tmps=a.tmps:=by rw[<- hr0]
 have e4:r0.params=#[27]:=by rw[<- hr0]
 have e5:{ { r0 with state:=.busy } with state:=.ready,pending:=none }=r0:=by rw[<- hr0]
 generalize hD:w.heap.size=D at hS1 ⊢;have hS2:=hS1.perm (m':=(fJ g1 g2 (ptr gb) k++(.var gb 111 (z8 gs1 b1 b2 b3 b4 c1)::[.obj (D+1) (.loop r0),.var gto 33 (ptr ga),.var ga 111 (z8 gs0 a1 a2 a3 a4 c0),.var gk 3 (int k),.var gd 32 (dA d),.var go 141 (.sl 100 ((eD (j3 c0) d (c0.hs.length+1) (M6 c0) k []).map D8) (some (.slice none 0 0))),.tail 100 100 (.slice none 0 0),.obj D (.deferred (some []))]))++[]) (List.Perm.symm (vW _ vZ [3,4,10,0,8,9,7,6,5,2,1]));have hIt:=Io (ok0:=ok1) (w0:=w1) (L:=D+1) (g1:=g1) (g2:=g2) (k:=k) (A:=Value × List TxX) (z0:=(.slice none 0 0,eD (j3 c0) d (c0.hs.length+1) (M6 c0) k [])) (X:=[]) (Y:=[.var gb 111 (z8 gs1 b1 b2 b3 b4 c1)]) rfl (J:=λz=>[.obj (D+1) (.loop r0),.var gto 33 (ptr ga),.var ga 111 (z8 gs0 a1 a2 a3 a4 c0),.var gk 3 (int k),.var gd 32 (dA d),.var go 141 (.sl 100 (z.2.map D8) (some z.1)),.tail 100 100 z.1,.obj D (.deferred (some []))])
  (G:=λpre z=>z.2=eD (j3 c0) d (c0.hs.length+1) (M6 c0) k pre) (λpre x z hG hp=>?_) rfl hv1 (Stp.refl _ _) (by rw[<- hs];exact hS2.lend)
 rotate_left
 ·have hxq:x.q<=9223372036854775807:=by
   have h1:x∈V6 c1.ev k:=hp.sublist.subset (List.mem_append_right _ List.mem_cons_self);unfold V6 at h1;obtain⟨y,hy,rfl⟩:=List.mem_map.1 h1;exact hq1 y (List.mem_filter.1 hy).1
  have e6:=congrArg Loop.assign hr0.symm;have e7:=congrArg Loop.body hr0.symm;dsimp only at e6 e7;obtain⟨v,l⟩:=z;dsimp only[List.append_nil] at hG ⊢;refine VT (N:=68) (p:=27) ha1 e3 e4 rfl (λs2 hs2=>?_);rw[e6,e7];refine sH ?_;repeat' (first|refine M8 ?_|refine L8 ?_|refine Q4 ?_|intro _|simp only[List.set]|fail)
  rename_i gp;refine j5 (Dz (m1:=[.var gp 51 (eZ x),.var gto 33 (ptr ga),.var ga 111 (z8 gs0 a1 a2 a3 a4 c0),.var gk 3 (int k),.var gd 32 (dA d),.var go 141 (.sl 100 (l.map D8) (some v)),.tail 100 100 v,.obj D (.deferred (some []))]) (List.Perm.swap _ _ _) e1 ?_);refine UV (qO (PN hs2 ?_));repeat' first|refine O ?_|intro
  generalize hgb:(gO (j3 c0) (G9 [71] x.k x.q)).isSome=bg;refine jX (qO (qO (PN hs2 ?_)));cases bg
  ·repeat' first|refine O ?_|intro
   cases hl:aV x (c0.hs.length+1) (M6 c0)
   ·refine jX (LF ?_);refine PM ?_;refine jX (qO (sH ?_));repeat' (first|refine M8 ?_|refine L8 ?_|refine Q4 ?_|intro _|simp only[List.set]|fail)
    refine j5 (jX (qO (PN hs2 ?_)));repeat' first|refine O ?_|intro
    rename_i gx;refine IL (g:=gx) (v':=D8 (qD d k x)) a7m ?_;refine jX (sH ?_);have hll:l.length<=1000000:=by
     have h1:=UL (e:=j3 c0) (d:=d) (h:=c0.hs.length+1) (t:=M6 c0) (k:=k) pre;have h2:=hp.length_le;have h3:=IZ c1.ev k;rw[hG];simp only[List.length_append,List.length_singleton] at h2;omega
    repeat' (first|refine M8 ?_|refine L8 ?_|refine Q4 ?_|intro _|simp only[List.set]|fail)
    refine aP (λv'=>?_);repeat' (first|refine M8 ?_|refine L8 ?_|refine Q4 ?_|intro _|simp only[List.set]|fail)
    refine j5 (yI (bG (.obj (D+1) (.loop { r0 with state:=.busy })::[.var gto 33 (ptr ga),.var ga 111 (z8 gs0 a1 a2 a3 a4 c0),.var gk 3 (int k),.var gd 32 (dA d),.var go 141 (.sl 100 ((l++[qD d k x]).map D8) (some v')),.tail 100 100 v',.obj D (.deferred (some []))]) _ ?_ lpr ?_))
    ·refine BU (r:={ r0 with state:=.busy }) (m1:=[.var gto 33 (ptr ga),.var ga 111 (z8 gs0 a1 a2 a3 a4 c0),.var gk 3 (int k),.var gd 32 (dA d),.var go 141 (.sl 100 ((l++[qD d k x]).map D8) (some v')),.tail 100 100 v',.obj D (.deferred (some []))]) lpr ⟨rfl,(v',l++[qD d k x]),?_,by rw[e5];rfl⟩;show l++[qD d k x]=_;rw[Cu,hG,wQ,if_neg];rintro (h|h)
     ·rw[show OT (j3 c0) x=false from hgb] at h;cases h
     rw[hl] at h;cases h
    rw[List.map_append];exact List.Sublist.cons _ (List.Sublist.cons_cons _ (List.Sublist.cons _ slr))
   refine jX (LD ?_);refine Ec ?_;refine VL (VM (bG (.obj (D+1) (.loop { r0 with state:=.busy })::[.var gto 33 (ptr ga),.var ga 111 (z8 gs0 a1 a2 a3 a4 c0),.var gk 3 (int k),.var gd 32 (dA d),.var go 141 (.sl 100 (l.map D8) (some v)),.tail 100 100 v,.obj D (.deferred (some []))]) _ ?_ lpr (List.Sublist.cons_cons _ (List.Sublist.cons _ slr))));refine BU (r:={ r0 with state:=.busy }) (m1:=[.var gto 33 (ptr ga),.var ga 111 (z8 gs0 a1 a2 a3 a4 c0),.var gk 3 (int k),.var gd 32 (dA d),.var go 141 (.sl 100 (l.map D8) (some v)),.tail 100 100 v,.obj D (.deferred (some []))]) lpr ⟨rfl,(v,l),?_,by rw[e5];rfl⟩;show l=_;rw[Cu,hG,wQ,if_pos (.inr hl),List.append_nil]
  repeat' first|refine O ?_|intro
  refine jX (LD ?_);refine Ec ?_;refine VL (VM (bG (.obj (D+1) (.loop { r0 with state:=.busy })::[.var gto 33 (ptr ga),.var ga 111 (z8 gs0 a1 a2 a3 a4 c0),.var gk 3 (int k),.var gd 32 (dA d),.var go 141 (.sl 100 (l.map D8) (some v)),.tail 100 100 v,.obj D (.deferred (some []))]) _ ?_ lpr (List.Sublist.cons_cons _ (List.Sublist.cons _ slr))));refine BU (r:={ r0 with state:=.busy }) (m1:=[.var gto 33 (ptr ga),.var ga 111 (z8 gs0 a1 a2 a3 a4 c0),.var gk 3 (int k),.var gd 32 (dA d),.var go 141 (.sl 100 (l.map D8) (some v)),.tail 100 100 v,.obj D (.deferred (some []))]) lpr ⟨rfl,(v,l),?_,by rw[e5];rfl⟩;show l=_;rw[Cu,hG,wQ,if_pos (.inl hgb),List.append_nil]
 refine Calls.mono hIt λx w2 hx=>?_;obtain⟨u,m',ok',cv,hK,rfl,hv,hSt⟩:=hx;have hSt':=hS2.back (fr:=[]) (by rw[hs];exact hSt);rw[List.append_nil] at hSt';have hmk:zC w=[{ target:=.collected D,args:=#[] }]:=by rw[<- hD]
 obtain⟨v,l,hl,rfl⟩:∃ v l,l=eD (j3 c0) d (c0.hs.length+1) (M6 c0) k (V6 c1.ev k)/\m'=fJ g1 g2 (ptr gb) k++(.var gb 111 (z8 gs1 b1 b2 b3 b4 c1)::[.obj (D+1) (.loop r0),.var gto 33 (ptr ga),.var ga 111 (z8 gs0 a1 a2 a3 a4 c0),.var gk 3 (int k),.var gd 32 (dA d),.var go 141 (.sl 100 (l.map D8) (some v)),.tail 100 100 v,.obj D (.deferred (some []))]):=by
  obtain⟨z,h1,h2⟩:=hK;exact⟨z.1,z.2,h1,h2⟩
 refine⟨cv,ok',r0,[.obj D (.deferred (some [])),.tail 100 100 v,.var g2 3 (int k),.var g1 33 (ptr gb),.var go 141 (.sl 100 (l.map D8) (some v)),.var gd 32 (dA d),.var gk 3 (int k),.var gto 33 (ptr ga),.var ga 111 (z8 gs0 a1 a2 a3 a4 c0),.var gb 111 (z8 gs1 b1 b2 b3 b4 c1)],rfl,by rw[e1];decide,hSt'.perm (List.Perm.symm (vW _ vZ [3,10,9,0,1,8,7,6,4,5,2])),hSt.stp,λok3 w3 hS3 st3=>?_⟩;rw[e2,hmk];dsimp only;refine(?_:AED 68 [{ target:=.collected D,args:=#[] }] .normal _ sB _ _) ok3 w3 a hS3 (((ha.stp st1).stp hSt.stp).stp st3);refine Fe ?_;refine ES (VN (VP (α:=Unit) (λ_=>[(6,.sl 100 (l.map D8) (some v))]) (λ_=>.obj (D+1) (.loop { r0 with state:=.exhausted })::[.obj D (.deferred (some [])),.tail 100 100 v,.var g2 3 (int k),.var g1 33 (ptr gb),.var go 141 (.sl 100 (l.map D8) (some v)),.var gd 32 (dA d),.var gk 3 (int k),.var gto 33 (ptr ga),.var ga 111 (z8 gs0 a1 a2 a3 a4 c0),.var gb 111 (z8 gs1 b1 b2 b3 b4 c1)]) ?_ (λ_=>?_)))
 ·repeat' (first|refine M8 ?_|refine L8 ?_|refine Q4 ?_|intro _|simp only[List.set]|fail)
  exact j5 (P9 () za slr)
 refine ES (VO (Fb ?_));refine VK (D:=D) (m1:=.obj (D+1) (.loop { r0 with state:=.exhausted })::[.tail 100 100 v,.var g2 3 (int k),.var g1 33 (ptr gb),.var go 141 (.sl 100 (l.map D8) (some v)),.var gd 32 (dA d),.var gk 3 (int k),.var gto 33 (ptr ga),.var ga 111 (z8 gs0 a1 a2 a3 a4 c0),.var gb 111 (z8 gs1 b1 b2 b3 b4 c1)]) rfl (List.Perm.swap _ _ _) (CU (CV rfl rfl) xQ) (.inl rfl) ⟨v,by rw[hl];rfl,rfl⟩ ?_;exact A8
end
end Go.Proofs.Z
