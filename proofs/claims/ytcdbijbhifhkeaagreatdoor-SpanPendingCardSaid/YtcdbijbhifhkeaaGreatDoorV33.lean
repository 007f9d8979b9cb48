/- . -/
import Derived.Test.YtcdbijbhifhkeaaGreatDoorV32
set_option maxHeartbeats 64000000
namespace Go.Proofs.Z
open Go Go.RowKit Tw Av Go.Proofs.Tryz
section
attribute [local irreducible] U7 M5
def Shows (f:FuncId)(cs:List Value)(m:List Av.Piece)(i k:Bs)(b:Bool)(e:Int):Prop:=Av.Spec prog GL f (str i::str k::cs.map .lit) m λu m'=>u=.tup [d9 b,int e]/\m'=m
theorem Ug {f:FuncId}[FnB prog f]{cs:List Value}{m:List Av.Piece}{d:List Ent}{h t:Int}{x:Pkt}{b:Bool}{e:Int}(ha:Shows f cs m (aO d x.s) (G9 [71] x.k x.q) b e)(hc:∀ v∈cs,v.oneCell'=true)(hd:DOk d)(hk:aN x=true)(hb1:x.s.length<=400000000)(hb2:x.d.length<=400000000) :
  Av.Spec prog GL 304 [.agg 3 [dA d,int h,int t],eZ x,F3 f cs] m λu m'=>u=.tup [dA (jU d x b e).1,K3 (jU d x b e).2]/\m'=m:=by
 obtain⟨q1,q2,q3,q4⟩:=YY hk;unfold jU;refine zc func304 ntmps304 λ_ hs=>?_;repeat' first|refine O ?_|intro
 rename_i g1 g2 g3 g4;refine Z0 (vs:=[.pointer (some ⟨g2,0,none⟩)]) ?_;refine J6 (args:=[.agg 3 [dA d,int h,int t],str x.s,F3 338 [.pointer (some ⟨g2,0,none⟩)]]) [.var g2 51 (eZ x)] (.var g4 115 (.agg 3 [.lit (.int .i64 0),.lit (.int .i64 0),str []])::.var g3 32 (.agg 1 [.lit (.slice none 0 0)])::.var g1 310 (.agg 3 [dA d,int h,int t])::m) (by rw[hs];exact Dh a9n (by simp[Value.oneCell']) hd) (λu m' hh=>?_) (List.perm_middle (l₁:=[Av.Piece.var g4 115 (.agg 3 [.lit (.int .i64 0),.lit (.int .i64 0),str []]),Av.Piece.var g3 32 (.agg 1 [.lit (.slice none 0 0)])]) (l₂:=Av.Piece.var g1 310 (.agg 3 [dA d,int h,int t])::m));obtain⟨rfl,rfl⟩:=hh;unfold PD;repeat' first|refine O ?_|intro
 by_cases h2:nO d x.s (λc=>decide (c.p=x.k))=0
 rotate_left
 ·rw[if_pos h2,dT h2];repeat' first|refine O ?_|intro
  refine j4 m ⟨rfl,rfl⟩ ?_;exact A8
 rw[if_neg (nni h2),dZ (nni h2),dT h2,if_pos h2,Bool.true_and];repeat' first|refine O ?_|intro
 cases hg:gO d (G9 [80] x.s x.q) with
 | none=>
  rw[if_pos (.inl sm)];repeat' first|refine O ?_|intro
  refine j4 m ⟨rfl,rfl⟩ ?_;exact A8
 | some v=>
 have hv:P7 d (G9 [80] x.s x.q)=v:=by
  unfold P7;rw[hg];rfl
 rw[hv];repeat' first|refine O ?_|intro
 by_cases h3:v=M9 x
 rotate_left
 ·rw[if_pos (.inl (λe=>h3 (Option.some.inj e))),dT h3];repeat' first|refine O ?_|intro
  refine j4 m ⟨rfl,rfl⟩ ?_;exact A8
 rw[dZ (nni h3)];repeat' first|refine O ?_|intro
 cases h4:sG d x.s
 ·rw[if_pos (.inr rfl)];repeat' first|refine O ?_|intro
  refine j4 m ⟨rfl,rfl⟩ ?_;exact A8
 rw[if_neg (show ¬ (some v≠some (M9 x)\/true=false) by rw[h3];simp)];repeat' first|refine O ?_|intro
 rename_i g5;refine gX (args:=[str (aO d x.s),str (G9 [71] x.k x.q)]) (cs:=cs) m [Av.Piece.var g5 67 (kT (I1 d [72] x.s)),.var g2 51 (eZ x),.var g4 115 (.agg 3 [.lit (.int .i64 0),.lit (.int .i64 0),str []]),.var g3 32 (.agg 1 [.lit (.slice none 0 0)]),.var g1 310 (.agg 3 [dA d,int h,int t])] (by rw[hs];exact ha) (λu m' hh=>?_) (List.perm_append_comm (l₁:=[Av.Piece.var g5 67 (kT (I1 d [72] x.s)),.var g2 51 (eZ x),.var g4 115 (.agg 3 [.lit (.int .i64 0),.lit (.int .i64 0),str []]),.var g3 32 (.agg 1 [.lit (.slice none 0 0)]),.var g1 310 (.agg 3 [dA d,int h,int t])]) (l₂:=m)) (hcs:=hc);obtain⟨rfl,rfl⟩:=hh;refine lC (λok w hS=>hS.perm (m':=[Av.Piece.var g5 67 (kT (I1 d [72] x.s)),.var g2 51 (eZ x),.var g4 115 (.agg 3 [.lit (.int .i64 0),.lit (.int .i64 0),str []]),.var g3 32 (.agg 1 [.lit (.slice none 0 0)]),.var g1 310 (.agg 3 [dA d,int h,int t])]++m') List.perm_append_comm) ?_;repeat' first|refine O ?_|intro
 by_cases h5:e=0
 rotate_left
 ·rw[if_pos h5,dT h5];repeat' first|refine O ?_|intro
  refine j4 m' ⟨rfl,rfl⟩ ?_;exact A8
 rw[if_neg (nni h5),dZ (nni h5)];repeat' first|refine O ?_|intro
 have q5:DOk d/\x.s.length<=1000000000/\x.d.length<=1000000000:=⟨hd,om,om⟩;have q6:DOk (nT d x).1:=Zx hd;cases b
 ·rw[if_neg (λe=>by cases e.1),if_neg (show ¬ false=true by decide)];repeat' first|refine O ?_|intro
  rw[dZ (nni h5)];repeat' first|refine O ?_|intro
  refine j4 m' ⟨rfl,rfl⟩ ?_;exact A8
 by_cases h6:(nT d x).2=0
 rotate_left
 ·rw[if_pos ⟨rfl,h6⟩];repeat' first|refine O ?_|intro
  rw[dT h6];repeat' first|refine O ?_|intro
  refine j4 m' ⟨rfl,rfl⟩ ?_;exact A8
 rw[if_neg (λe=>e.2 h6),if_pos rfl];repeat' first|refine O ?_|intro
 rw[dZ (nni h6)];repeat' first|refine O ?_|intro
 refine j4 m' ⟨rfl,rfl⟩ ?_;exact A8
end

section
variable {x:TxX}{h t:Int}{d:List Ent}
attribute [local irreducible] U7 M5 aV
abbrev lA (d:List Ent)(h t:Int):AV:=.agg 3 [dA d,int h,int t]
theorem b3I {n:Int}{i k:Bs}{g1 g2 g3:Nat}(hp:DOk d/\TxB x):Shows 305 [.pointer (some ⟨g3,0,none⟩),.pointer (some ⟨g1,0,none⟩),.pointer (some ⟨g2,0,none⟩)] [.var g3 101 (int n),.var g2 100 (D8 x),.var g1 310 (lA d h t)] i k (decide (n≠0)) (Q3 d i x.t t k (Z9 x.a) x.f):=by
 have b1:=hp.2.a;show Av.Spec _ _ _ [str i,str k,ptr g3,ptr g1,ptr g2] _ _;refine zc func305 ntmps305 λ_ hs=>?_;repeat' first|refine O ?_|intro
 refine j4 _ ⟨rfl,rfl⟩ ?_;exact A8
theorem a2a {g1 g2:Nat}(hp:DOk d/\TxB x):Shows 306 [.pointer (some ⟨g1,0,none⟩),.pointer (some ⟨g2,0,none⟩)] [.var g2 100 (D8 x),.var g1 310 (lA d h t)] (aO d x.x.s) (G9 [71] x.x.k x.x.q) true (QJ d x t):=by
 obtain⟨hd,hb⟩:=hp;have q1:DOk d/\x.g.a.m<=9223372036854775807/\x.g.b.m<=9223372036854775807:=⟨hd,hb.gm⟩;show Av.Spec _ _ _ [str (aO d x.x.s),str (G9 [71] x.x.k x.x.q),ptr g1,ptr g2] _ _;unfold QJ;refine zc func306 ntmps306 λ_ hs=>?_;repeat' first|refine O ?_|intro
 by_cases h1:zJ d (aO d x.x.s) x.t t (G9 [71] x.x.k x.x.q) x.g=0
 rotate_left
 ·rw[if_neg (λe=>h1 e.1),dZ h1];repeat' first|refine O ?_|intro
  refine j4 _ ⟨rfl,rfl⟩ ?_;exact A8
 rw[dT h1];repeat' first|refine O ?_|intro
 cases h2:aV x.x (EG d (aO d x.x.s) x.t t (G9 [71] x.x.k x.x.q) x.g).h (EG d (aO d x.x.s) x.t t (G9 [71] x.x.k x.x.q) x.g).t
 ·rw[if_pos ⟨h1,rfl⟩];repeat' first|refine O ?_|intro
  refine j4 _ ⟨rfl,rfl⟩ ?_;exact A8
 rw[if_neg (λe=>by cases e.2)];repeat' first|refine O ?_|intro
 refine j4 _ ⟨rfl,rfl⟩ ?_;exact A8
instance c1i {xs:List AV}[hx:Ents xs d]:Ans prog GL 263 [.agg 3 [.agg 1 [.sl 2 xs none],int h,int t],D8 x] (DOk d/\TxB x) (.tup [dA (uA d x t).1,K3 (uA d x t).2]):=⟨λhp=>by
 have hp':=hp;obtain⟨hd,hb⟩:=hp;have h':=hx.out;subst h';have b1:=hb.d;have b2:=hb.s;refine zc func263 ntmps263 λ_ hs=>?_;repeat' first|refine O ?_|intro
 rename_i g1 g2 g3 g4;unfold uA sF;cases h1:aN x.x
 ·rw[if_pos rfl,if_neg (show ¬ false=true by decide),dT (show (1:Int)≠0 by decide)];exact o8
 rw[if_neg (show ¬ true=false by decide),if_pos rfl,dZ (show ¬ (0:Int)≠0 by decide)];repeat' first|refine O ?_|intro
 refine Z0 (vs:=[.pointer (some ⟨g1,0,none⟩),.pointer (some ⟨g2,0,none⟩)]) ?_;refine J6 (args:=[lA d h t,eZ x.x,F3 306 [.pointer (some ⟨g1,0,none⟩),.pointer (some ⟨g2,0,none⟩)]]) [.var g2 100 (D8 x),.var g1 310 (lA d h t)] [Av.Piece.var g4 115 (.agg 3 [.lit (.int .i64 0),.lit (.int .i64 0),str []]),Av.Piece.var g3 32 (.agg 1 [.lit (.slice none 0 0)])] (by rw[hs];exact Ug (a2a hp') (by simp[Value.oneCell']) hd h1 b2 b1) (λu m' hh=>?_) (List.perm_append_comm (l₁:=[Av.Piece.var g4 115 (.agg 3 [.lit (.int .i64 0),.lit (.int .i64 0),str []]),Av.Piece.var g3 32 (.agg 1 [.lit (.slice none 0 0)])]) (l₂:=[Av.Piece.var g2 100 (D8 x),.var g1 310 (lA d h t)]));obtain⟨rfl,rfl⟩:=hh;exact o8⟩
instance c1F {xs:List AV}[hx:Ents xs d]:Ans prog GL 262 [.agg 3 [.agg 1 [.sl 2 xs none],int h,int t],D8 x] (DOk d/\TxB x) (.tup [dA (qR d x t).1,K3 (qR d x t).2]):=⟨λhp=>by
 have hp':=hp;obtain⟨hd,hb⟩:=hp;have h':=hx.out;subst h';have b1:=hb.d;have b2:=hb.s;refine zc func262 ntmps262 λ_ hs=>?_;repeat' first|refine O ?_|intro
 rename_i g1 g2 g3 g4 g5;unfold qR sF;cases h1:aN x.x
 ·rw[if_pos (.inl rfl),if_neg (show ¬ false=true by decide),dT (show (1:Int)≠0 by decide)];exact o8
 rw[if_pos rfl,dZ (show ¬ (0:Int)≠0 by decide)];cases h2:IM x.a
 ·rw[if_pos (.inr rfl)];exact o8
 rw[if_neg (show ¬ (true=false\/true=false) by decide)];repeat' first|refine O ?_|intro
 refine Z0 (vs:=[.pointer (some ⟨g5,0,none⟩),.pointer (some ⟨g1,0,none⟩),.pointer (some ⟨g2,0,none⟩)]) ?_;refine J6 (args:=[lA d h t,eZ x.x,F3 305 [.pointer (some ⟨g5,0,none⟩),.pointer (some ⟨g1,0,none⟩),.pointer (some ⟨g2,0,none⟩)]]) [Av.Piece.var g5 101 (int (ET x.a)),.var g2 100 (D8 x),.var g1 310 (lA d h t)] [Av.Piece.var g4 115 (.agg 3 [.lit (.int .i64 0),.lit (.int .i64 0),str []]),Av.Piece.var g3 32 (.agg 1 [.lit (.slice none 0 0)])] (by rw[hs];exact Ug (b3I hp') (by simp[Value.oneCell']) hd h1 b2 b1) (λu m' hh=>?_) (List.Perm.cons _ (List.perm_append_comm (l₁:=[Av.Piece.var g4 115 (.agg 3 [.lit (.int .i64 0),.lit (.int .i64 0),str []]),Av.Piece.var g3 32 (.agg 1 [.lit (.slice none 0 0)])]) (l₂:=[Av.Piece.var g2 100 (D8 x),.var g1 310 (lA d h t)])));obtain⟨rfl,rfl⟩:=hh;exact o8⟩
end

section
variable {h k t:Int}{x:TxX}{d:List Ent}
def jI (k:Int):AV:=
 if k=1 then F3 252 [] else if k=2 then F3 253 [] else if k=3 then F3 254 [] else if k=4 then F3 255 [] else if k=5 then F3 256 [] else if k=6 then F3 256 [] else if k=7 then F3 257 [] else if k=8 then F3 257 [] else if k=9 then F3 258 [] else if k=10 then F3 258 [] else if k=11 then F3 259 [] else if k=12 then F3 259 [] else if k=13 then F3 260 [] else if k=14 then F3 261 [] else if k=15 then F3 262 [] else if k=16 then F3 263 [] else .lit .nilFunc
theorem Yw:jI 1=F3 252 []:=rfl
theorem Vs (e:x.k=1):u7 d x h t=rQ d x.x:=by
 unfold u7;rw[e];rfl
theorem Yn:jI 2=F3 253 []:=rfl
theorem Vk (e:x.k=2):u7 d x h t=wC d x.x:=by
 unfold u7;rw[e];rfl
theorem Ym:jI 3=F3 254 []:=rfl
theorem Vj (e:x.k=3):u7 d x h t=rW d x:=by
 unfold u7;rw[e];rfl
theorem Yl:jI 4=F3 255 []:=rfl
theorem Vi (e:x.k=4):u7 d x h t=lL d x t:=by
 unfold u7;rw[e];rfl
theorem Yk:jI 5=F3 256 []:=rfl
theorem Vh (e:x.k=5):u7 d x h t=qK d x t:=by
 unfold u7;rw[e];rfl
theorem Yj:jI 6=F3 256 []:=rfl
theorem Vg (e:x.k=6):u7 d x h t=qK d x t:=by
 unfold u7;rw[e];rfl
theorem Yi:jI 7=F3 257 []:=rfl
theorem Vf (e:x.k=7):u7 d x h t=rY d x t:=by
 unfold u7;rw[e];rfl
theorem Yh:jI 8=F3 257 []:=rfl
theorem Ve (e:x.k=8):u7 d x h t=rY d x t:=by
 unfold u7;rw[e];rfl
theorem Yg:jI 9=F3 258 []:=rfl
theorem Vd (e:x.k=9):u7 d x h t=qG d x t:=by
 unfold u7;rw[e];rfl
theorem Yv:jI 10=F3 258 []:=rfl
theorem Vr (e:x.k=10):u7 d x h t=qG d x t:=by
 unfold u7;rw[e];rfl
theorem Yu:jI 11=F3 259 []:=rfl
theorem Vq (e:x.k=11):u7 d x h t=rF d x t:=by
 unfold u7;rw[e];rfl
theorem Yt:jI 12=F3 259 []:=rfl
theorem Vp (e:x.k=12):u7 d x h t=rF d x t:=by
 unfold u7;rw[e];rfl
theorem Yr:jI 13=F3 260 []:=rfl
theorem Vo (e:x.k=13):u7 d x h t=eX d x.x:=by
 unfold u7;rw[e];rfl
theorem Yq:jI 14=F3 261 []:=rfl
theorem Vn (e:x.k=14):u7 d x h t=rA d x h t:=by
 unfold u7;rw[e];rfl
theorem Yp:jI 15=F3 262 []:=rfl
theorem Vm (e:x.k=15):u7 d x h t=qR d x t:=by
 unfold u7;rw[e];rfl
theorem Yo:jI 16=F3 263 []:=rfl
theorem Vl (e:x.k=16):u7 d x h t=uA d x t:=by
 unfold u7;rw[e];rfl
theorem Yf (h:¬ (1<=k/\k<=16)):jI k=.lit .nilFunc:=by
 unfold jI;repeat rw[if_neg om]
theorem Vb (e:¬ (1<=x.k/\x.k<=16)):u7 d x h t=K6 d 1:=by
 unfold u7;repeat rw[if_neg om]
attribute [local irreducible] U7 M5 aV rQ wC rW lL qK rY qG rF eX rA qR uA jI u7
section
variable {P:Program} {N:Nat} {ops:Array Oper} {Q:Exit->Act->World->Prop} {rest:List Oper} {s:Av.Base} {e:Av.Env} {m:List Av.Piece} {d:Nat} {ty:TypeId} {pos:String} {af:Array Edge}
def OL:Option TypeDesc->Bool
 | some (.func _ _ _)=>true
 | _=>false
theorem Ap {o:Option TypeDesc}(h:OL o=true):∃ A B C,o=some (.func A B C):=by
 unfold OL at h;split at h
 ·exact⟨_,_,_,rfl⟩
 cases h
theorem Es {op:BinOp}{T yT:TypeId}(hT:OL (P.underlying T)=true){x y:Operand}{c:Bool}(h:AL P N ops Q s rest ((d,d9 c)::e) m)(hx:Av.ev e x=some (.lit .nilFunc):=by exact rfl)(hy:Av.ev e y=some (.lit .nilFunc):=by exact rfl)(hc:yC op true=some c:=by exact rfl)(hd:Nat.blt d N=true:=by exact rfl):AL P N ops Q s (⟨some d,.binOp op T x y yT,ty,pos,af,none⟩::rest) e m:=
 R8 rfl (λok w A hA=>by
  obtain⟨_,_,_,ht⟩:=Ap hT;exact FD (hA.lit hx) (hA.lit hy) sm sm sm sm (by unfold eqGuard;cases op <;> rfl) (by
  have h:∀ d:Nat,(Op.equalIn (d+1) T .nilFunc .nilFunc).run P w=.ok true w:=λd=>by simp[Op.equalIn,run_underlying ht]
  exact h 9999) hc) hd h
theorem pI {op:BinOp}{T yT:TypeId}(hT:OL (P.underlying T)=true){x y:Operand}{f:FuncId}{cs:List Value}{c:Bool}(h:AL P N ops Q s rest ((d,d9 c)::e) m)(hx:Av.ev e x=some (F3 f cs):=by exact rfl)(hy:Av.ev e y=some (.lit .nilFunc):=by exact rfl)(hc:yC op false=some c:=by exact rfl)(hd:Nat.blt d N=true:=by exact rfl):AL P N ops Q s (⟨some d,.binOp op T x y yT,ty,pos,af,none⟩::rest) e m:=
 R8 rfl (λok w A hA=>by
  obtain⟨_,_,_,ht⟩:=Ap hT;exact FD (hA.lit hx) (hA.lit hy) sm sm sm sm (by unfold eqGuard;cases op <;> rfl) (by
  have h:∀ d:Nat,(Op.equalIn (d+1) T (.func (.func f) #[] cs.toArray) .nilFunc).run P w=.ok false w:=λd=>by simp[Op.equalIn,run_underlying ht]
  exact h 9999) hc) hd h
end
theorem kinds (h:1<=k/\k<=16):k=1\/k=2\/k=3\/k=4\/k=5\/k=6\/k=7\/k=8\/k=9\/k=10\/k=11\/k=12\/k=13\/k=14\/k=15\/k=16:=by omega
instance c2I :Ans prog GL 232 [int k] True (jI k):=⟨λ_=>by
 refine zc func232 ntmps232 λ_ hs=>?_;by_cases h:1<=k/\k<=16
 ·rcases kinds h with rfl|rfl|rfl|rfl|rfl|rfl|rfl|rfl|rfl|rfl|rfl|rfl|rfl|rfl|rfl|rfl
  all_goals
   repeat' first|refine O ?_|intro
   refine x9 ?_;first|exact Yw.symm|exact Yn.symm|exact Ym.symm|exact Yl.symm|exact Yk.symm|exact Yj.symm|exact Yi.symm|exact Yh.symm|exact Yg.symm|exact Yv.symm|exact Yu.symm|exact Yt.symm|exact Yr.symm|exact Yq.symm|exact Yp.symm|exact Yo.symm
 repeat' first|refine O ?_|intro
 refine x9 ?_;exact(Yf h).symm⟩
instance a8S {xs:List AV}[hx:Ents xs d]:Ans prog GL 193 [.agg 1 [.sl 2 xs none],D8 x,int h,int t] (DOk d/\TxB x) (.tup [dA (u7 d x h t).1,K3 (u7 d x h t).2]):=⟨λhp=>by
 have h':=hx.out;subst h';refine zc func193 ntmps193 λ_ hs=>?_;repeat' first|refine O ?_|intro
 by_cases hk:1<=x.k/\x.k<=16
 rotate_left
 ·rw[Yf hk,Vb hk];repeat' first|refine O ?_|intro
  refine Es kr ?_;exact o8
 rcases kinds hk with h|h|h|h|h|h|h|h|h|h|h|h|h|h|h|h
 ·rw[h,Yw,Vs h];repeat' first|refine O ?_|intro
  refine pI kr ?_;exact o8
 ·rw[h,Yn,Vk h];repeat' first|refine O ?_|intro
  refine pI kr ?_;exact o8
 ·rw[h,Ym,Vj h];repeat' first|refine O ?_|intro
  refine pI kr ?_;exact o8
 ·rw[h,Yl,Vi h];repeat' first|refine O ?_|intro
  refine pI kr ?_;exact o8
 ·rw[h,Yk,Vh h];repeat' first|refine O ?_|intro
  refine pI kr ?_;exact o8
 ·rw[h,Yj,Vg h];repeat' first|refine O ?_|intro
  refine pI kr ?_;exact o8
 ·rw[h,Yi,Vf h];repeat' first|refine O ?_|intro
  refine pI kr ?_;exact o8
 ·rw[h,Yh,Ve h];repeat' first|refine O ?_|intro
  refine pI kr ?_;exact o8
 ·rw[h,Yg,Vd h];repeat' first|refine O ?_|intro
  refine pI kr ?_;exact o8
 ·rw[h,Yv,Vr h];repeat' first|refine O ?_|intro
  refine pI kr ?_;exact o8
 ·rw[h,Yu,Vq h];repeat' first|refine O ?_|intro
  refine pI kr ?_;exact o8
 ·rw[h,Yt,Vp h];repeat' first|refine O ?_|intro
  refine pI kr ?_;exact o8
 ·rw[h,Yr,Vo h];repeat' first|refine O ?_|intro
  refine pI kr ?_;exact o8
 ·rw[h,Yq,Vn h];repeat' first|refine O ?_|intro
  refine pI kr ?_;exact o8
 ·rw[h,Yp,Vm h];repeat' first|refine O ?_|intro
  refine pI kr ?_;exact o8
 rw[h,Yo,Vl h];repeat' first|refine O ?_|intro
 refine pI kr ?_;exact o8⟩
end
end Go.Proofs.Z

namespace Go.Proofs.Z
open Go Go.RowKit Tw Av
section
variable {d:List Ent}{k:Bs}
theorem MR {r:List Ent × Int}{p:Rep}(h:DOk d)(hr:DOk r.1):DOk (jN d r p).1:=by
 unfold jN K6;split
 ·exact hr
 exact h
theorem NM {v:Bs}(h:DOk d):DOk (kQ d k v).1:=MR h (FP h)
theorem Zq {x:TxX}{i:Bs}{b:Bool}{t:Int}(h:DOk d):DOk (nS d x i k b t).1:=by
 unfold nS;repeat' (first|exact h|exact NM h|split)
theorem Qr {x:TxX}{own:EndX}{i:Bs}{b:Bool}{t:Int}(h:DOk d):DOk (rM d x own i k b t).1:=by
 cases b
 ·rw[OJ];unfold wF;split
  ·exact h
  split
  ·exact h
  exact NM h
 rw[OI];unfold wF;split
 ·exact h
 split
 ·exact h
 exact NM h
theorem Uj {x:Pkt}{b:Bool}{e:Int}(h:DOk d):DOk (jU d x b e).1:=by
 unfold jU;split
 ·exact h
 split
 ·exact h
 split
 ·exact h
 split
 ·exact h
 refine DOk.drp ?_ _;split
 ·exact Zx h
 exact h
section
variable {d:List Ent} {x:TxX} {h t:Int} (hd:DOk d)
include hd
theorem a7R:DOk (rQ d x.x).1:=by
 unfold rQ;split
 ·exact hd
 exact MR hd (OB hd)
theorem a5I:DOk (wC d x.x).1:=by
 unfold wC;split
 ·exact hd
 exact MR hd (NZ hd)
theorem b0i:DOk (rW d x).1:=by
 unfold rW;split
 ·exact hd
 split
 ·exact hd
 split
 ·exact hd
 exact NM hd
theorem a1x:DOk (lL d x t).1:=by
 unfold lL;split
 ·exact hd
 split
 ·exact hd
 exact NM hd
theorem Xc:DOk (qK d x t).1:=by
 unfold qK;split
 ·exact hd
 split
 ·exact hd
 split
 ·exact hd
 exact Zq hd
theorem Xg:DOk (rY d x t).1:=by
 unfold rY;split
 ·exact hd
 exact Qr hd
theorem Oa:DOk (qG d x t).1:=by
 unfold qG;split
 ·exact hd
 split
 ·exact hd
 split
 ·exact hd
 split
 ·exact hd
 exact Zq hd
theorem Oc:DOk (rF d x t).1:=by
 unfold rF;split
 ·exact hd
 exact Qr hd
theorem a2D:DOk (eX d x.x).1:=by
 unfold eX;split
 ·exact hd
 split
 ·exact hd
 split
 ·exact hd
 split
 ·exact hd
 exact MR hd (MN hd (λd h=>Ir h) (λd h=>MN h (λd h=>FP h) (λd h=>FP h)))
theorem a4d:DOk (rA d x h t).1:=by
 have h1:DOk (if (Y7 d x.x).2=0 then (Y7 d x.x).1 else d):=by
  split
  ·exact Ll hd
  exact hd
 unfold rA;generalize (if (Y7 d x.x).2=0 then (Y7 d x.x).1 else d)=D at *;split
 ·exact hd
 split
 ·exact hd
 split
 ·exact hd
 split
 ·exact hd
 split
 ·exact hd
 split
 ·exact hd
 exact MR hd (FP h1)
theorem b3H:DOk (qR d x t).1:=by
 unfold qR;split
 ·exact hd
 exact Uj hd
theorem a2b:DOk (uA d x t).1:=by
 unfold uA;split
 ·exact hd
 exact Uj hd
theorem Uy:DOk (u7 d x h t).1:=by
 by_cases hk:1<=x.k/\x.k<=16
 rotate_left
 ·rw[Vb hk];exact hd
 rcases kinds hk with e|e|e|e|e|e|e|e|e|e|e|e|e|e|e|e
 ·rw[Vs e];exact a7R hd
 ·rw[Vk e];exact a5I hd
 ·rw[Vj e];exact b0i hd
 ·rw[Vi e];exact a1x hd
 ·rw[Vh e];exact Xc hd
 ·rw[Vg e];exact Xc hd
 ·rw[Vf e];exact Xg hd
 ·rw[Ve e];exact Xg hd
 ·rw[Vd e];exact Oa hd
 ·rw[Vr e];exact Oa hd
 ·rw[Vq e];exact Oc hd
 ·rw[Vp e];exact Oc hd
 ·rw[Vo e];exact a2D hd
 ·rw[Vn e];exact a4d hd
 ·rw[Vm e];exact b3H hd
 rw[Vl e];exact a2b hd
end
end

structure BlkX where
 h:Int
 t:Int
 x:List Bs
structure EvX where
 h:Int
 k:Int
 x:Pkt
 a:Bs
deriving DecidableEq
abbrev O0 (v:EvX):AV:=.agg 15 [int v.h,int v.k,eZ v.x,str v.a]
def jF (d:List Ent)(h:Int)(x:TxX)(r:Rep):EvX:=
 ⟨h,x.k,if x.k=13 then { x.x with q:=r.q,k:=(I1 d [72] x.x.s).p } else x.x,if x.k=14 then r.a else if x.k=15 then x.a else []⟩
abbrev Run3:=List Ent × List Rep × List EvX
def xN (h t:Int)(q:Run3)(x:TxX):Run3:=
 ((u7 q.1 x h t).1,q.2.1++[(u7 q.1 x h t).2],if (u7 q.1 x h t).2.e=0/\13<=x.k then q.2.2++[jF (u7 q.1 x h t).1 h x (u7 q.1 x h t).2] else q.2.2)
def bP (h t:Int)(q:Run3)(s:Bs):Run3:=if Y0 (I9 s)=0 then xN h t q (J9 (I9 s)) else (q.1,q.2.1++[yS 10],q.2.2)
def Z7 (h t:Int)(q:Run3)(l:List Bs):Run3:=l.foldl (bP h t) q
def M4 (d:List Ent)(b:BlkX):Run3:=Z7 b.h b.t (d,[],[]) b.x
theorem CO (h t:Int)(q:Run3)(s:Bs)(l:List Bs):Z7 h t q (s::l)=Z7 h t (bP h t q s) l:=by
 unfold Z7;exact List.foldl_cons ..
theorem a3r (h t:Int)(q:Run3)(l r:List Bs):Z7 h t q (l++r)=Z7 h t (Z7 h t q l) r:=List.foldl_append
theorem a3o {h t:Int}{q:Run3}{s:Bs}(hd:DOk q.1):DOk (bP h t q s).1:=by
 unfold bP xN;split
 ·exact Uy hd
 exact hd
theorem XA {h t:Int}:∀ {l:List Bs} {q:Run3},DOk q.1->DOk (Z7 h t q l).1
 | [],_,hd=>hd
 | s::l,q,hd=>by rw[CO];exact XA (a3o hd)
theorem Jk {h t:Int}{q:Run3}{s:Bs}:(bP h t q s).2.1.length=q.2.1.length+1/\(bP h t q s).2.2.length<=q.2.2.length+1:=by
 unfold bP xN;split
 ·refine⟨sm,?_⟩;dsimp only;split
  ·simp
  omega
 simp
theorem yR {h t:Int}:∀ {l:List Bs} {q:Run3},(Z7 h t q l).2.1.length=q.2.1.length+l.length/\(Z7 h t q l).2.2.length<=q.2.2.length+l.length
 | [],_=>⟨rfl,Nat.le_refl _⟩
 | s::l,q=>by
  have h1:=Jk (h:=h) (t:=t) (q:=q) (s:=s);have h2:=yR (h:=h) (t:=t) (l:=l) (q:=bP h t q s);rw[CO,List.length_cons];omega
def Hy (k a:Int):TxX:=
 ⟨if k=2 then 2 else if k=3 then 3 else if k=5 then 13 else if k=6 then 4 else if k=7 then 14 else 1,
  [107],[],[],[],[107,101,121],9,⟨[98],1+a,0,G8⟩,G8,
  ⟨if k=7 then 1 else 0,if k=5\/k=7 then [99] else [],if k=7 then [99] else [],[120],H9 a.toNat,[97,110,110],if k=0\/k=1 then [97,110,110] else [98,111,98],if k=5\/k=7 then 100 else 0,0⟩,
  [],0,P6,lD⟩
theorem zV:GG lD:=⟨dc,⟨dc,by simp[lD],zU⟩,⟨dc,by simp[lD],zU⟩⟩
theorem QC (x:TxX):(j6 x).length<=1000000000:=by
 unfold j6;refine Nat.le_trans LenLe.out ?_;decide
end Go.Proofs.Z

namespace Go.Proofs.Z
open Go Go.RowKit Tw Av Go.Proofs.Tryz
section
variable {most:Int}{σ:RS}
instance XU {g:Nat}{c:Int}:AnsM prog GL 187 g [.lit (.int .u8 c),int most] 267 (C9 σ) True (str (gT c most σ)) (C9 (sT c most σ)):=⟨λ_=>(a3X (g:=g) (s:=σ.1.1) (b:=σ.1.2) (c:=c) (most:=most)).spec (by have:=σ.2;omega)⟩
instance a3Y {g:Nat}{c:Int}:AnsM prog GL 137 g [.lit (.int .u8 c),int most] 267 (C9 σ) (0<=most/\most<=9223372036854775807) (int (gI c most σ)) (C9 (sI c most σ)):=⟨λh=>(a3Z (g:=g) (s:=σ.1.1) (b:=σ.1.2) (c:=c) (most:=most)).spec ⟨by have:=σ.2;omega,h⟩⟩
instance b8g {g:Nat}:AnsM prog GL 139 g [] 267 (C9 σ) True (int (gZ σ)) (C9 σ):=⟨λh=>(a4a (g:=g) (s:=σ.1.1) (b:=σ.1.2)).spec h⟩
instance mW {g:Nat}{c:Int}:AnsM prog GL 82 g [.lit (.int .u8 c),int most] 148 (C9 σ) True (str (gT c most σ)) (C9 (sT c most σ)):=⟨λ_=>(a3w (g:=g) (s:=σ.1.1) (b:=σ.1.2) (c:=c) (most:=most)).spec (by have:=σ.2;omega)⟩
instance CQ {g:Nat}{c:Int}:AnsM prog GL 81 g [.lit (.int .u8 c),int most] 148 (C9 σ) (0<=most/\most<=9223372036854775807) (int (gI c most σ)) (C9 (sI c most σ)):=⟨λh=>(a3x (g:=g) (s:=σ.1.1) (b:=σ.1.2) (c:=c) (most:=most)).spec ⟨by have:=σ.2;omega,h⟩⟩
instance b8a {g:Nat}:AnsM prog GL 86 g [] 148 (C9 σ) True (int (gZ σ)) (C9 σ):=⟨λh=>(a3y (g:=g) (s:=σ.1.1) (b:=σ.1.2)).spec h⟩
end

section
variable {σ:RS}{m:Int}
section
variable {P:Program} {N:Nat} {ops:Array Oper} {Q:Exit->Act->World->Prop} {rest:List Oper} {s:Av.Base} {e:Av.Env} {m:List Av.Piece} {d:Nat} {ty:TypeId} {pos:String} {af:Array Edge} {gl:List (Nat × AV)}
class AnsL (P:Program)(gl:List (Nat × AV))(f:FuncId)(args:List AV)(g:Nat)(T:TypeId)(v:AV)(pre:outParam Prop)(out:outParam AV)(v':outParam AV):Prop where
 spec:pre->Av.Spec P gl f (args++[ptr g]) [.var g T v] λu m=>u=out/\m=[.var g T v']
class AnsL2 (P:Program)(gl:List (Nat × AV))(f:FuncId)(args:List AV)(g:Nat)(T:TypeId)(r:Nat)(R:TypeId)(v:AV)(pre:outParam Prop)(out:outParam AV)(v':outParam AV):Prop where
 spec:pre->Av.Spec P gl f (args++[ptr g]) [.var r R v,.var g T (ptr r)] λu m=>u=out/\m=[.var r R v',.var g T (ptr r)]
theorem b3e {f:FuncId}[hf:FnB P f]{x:Operand}{xs:List Operand}{ts:Array TypeId}{args:List AV}{g:Nat}{T:TypeId}{v v' out:AV}{pre:Prop}{m':List Av.Piece}(h:AL P N ops Q s rest ((d,out)::e) m')(h0:Av.ev e x=some (F3 f [.pointer (some ⟨g,0,none⟩)]):=by exact rfl)(hx:Av.evs e xs=some args:=by exact rfl)
  (hu:Av.Upd m (.var g T v) (.var g T v') m':=by (repeat (first|apply Av.Upd.here|apply Av.Upd.there))) (hg:s.gl=gl:=by assumption) (hc:AnsL P gl f args g T v pre out v':=by infer_instance) (hp:pre:=by first|exact True.intro|assumption|omega) (hn:args.all U8=true:=by exact rfl) (hd:Nat.blt d N=true:=by exact rfl) :
  AL P N ops Q s (⟨some d,.call ⟨.value x,xs.toArray,ts⟩,ty,pos,af,none⟩::rest) e m:=by
 obtain⟨fr,h1,h2⟩:=hu.perm;refine gX (args:=args) (cs:=[.pointer (some ⟨g,0,none⟩)]) [.var g T v] fr (K:=λu m=>u=out/\m=[.var g T v']) (by rw[hg];exact hc.spec hp) (λu m1 hh=>?_) h1 h0 hx hn (by simp[Value.oneCell']) hd;obtain⟨rfl,rfl⟩:=hh;exact lC (λok w hS=>hS.perm h2) h
theorem b3d {f:FuncId}[hf:FnB P f]{x:Operand}{xs:List Operand}{ts:Array TypeId}{args:List AV}{g r:Nat}{T R:TypeId}{v v' out:AV}{pre:Prop}{m':List Av.Piece}(h:AL P N ops Q s rest ((d,out)::e) m')(h0:Av.ev e x=some (F3 f [.pointer (some ⟨g,0,none⟩)]):=by exact rfl)(hx:Av.evs e xs=some args:=by exact rfl)
  (hq:Av.Has m (.var g T (ptr r)):=by (repeat (first|exact Av.Has.here|apply Av.Has.there))) (hu:Av.Upd m (.var r R v) (.var r R v') m':=by (repeat (first|apply Av.Upd.here|apply Av.Upd.there))) (hg:s.gl=gl:=by assumption) (hc:AnsL2 P gl f args g T r R v pre out v':=by infer_instance)
  (hp:pre:=by first|exact True.intro|assumption|omega) (hne:Nat.beq T R=false:=by exact rfl) (hn:args.all U8=true:=by exact rfl) (hd:Nat.blt d N=true:=by exact rfl) :
  AL P N ops Q s (⟨some d,.call ⟨.value x,xs.toArray,ts⟩,ty,pos,af,none⟩::rest) e m:=by
 obtain⟨fr,h1,h2⟩:=hu.perm;have hTR:T≠R:=λe=>by rw[e,Nat.beq_refl] at hne;cases hne
 have hq':Av.Piece.var g T (ptr r)∈fr:=by
  have:=h1.mem_iff.1 hq.mem;rcases List.mem_cons.1 this with h|h
  ·injection h with _ h
   exact absurd h hTR
  exact h
 obtain⟨fr2,hf2⟩:∃ fr2,fr.Perm (.var g T (ptr r)::fr2):=by
  obtain⟨a,b,rfl⟩:=List.append_of_mem hq';exact⟨a++b,List.perm_middle⟩
 refine gX (args:=args) (cs:=[.pointer (some ⟨g,0,none⟩)]) [.var r R v,.var g T (ptr r)] fr2 (K:=λu m=>u=out/\m=[.var r R v',.var g T (ptr r)]) (by rw[hg];exact hc.spec hp) (λu m1 hh=>?_) (h1.trans (hf2.cons _)) h0 hx hn (by simp[Value.oneCell']) hd;obtain⟨rfl,rfl⟩:=hh;exact lC (λok w hS=>hS.perm (h2.trans (hf2.cons _))) h
end
instance rX {g r:Nat}{c:Int}:AnsL2 prog GL 225 [.lit (.int .u8 c)] g 221 r 267 (C9 σ) True (str (gT c 4000 σ)) (C9 (sT c 4000 σ)):=⟨λ_=>by
 show Av.Spec _ _ _ [.lit (.int .u8 c),ptr g] _ _;refine zc func225 ntmps225 λ_ hs=>?_;repeat' first|refine O ?_|intro
 refine j4 _ ⟨rfl,rfl⟩ ?_;exact zb⟩
instance GX {g r:Nat}{c:Int}:AnsL2 prog GL 226 [.lit (.int .u8 c)] g 221 r 267 (C9 σ) True (int (gI c 1099511627776 σ)) (C9 (sI c 1099511627776 σ)):=⟨λ_=>by
 show Av.Spec _ _ _ [.lit (.int .u8 c),ptr g] _ _;refine zc func226 ntmps226 λ_ hs=>?_;repeat' first|refine O ?_|intro
 refine j4 _ ⟨rfl,rfl⟩ ?_;exact zb⟩
instance d0q {g:Nat}{b:Bool}{c:Int}:AnsL prog GL 227 [int c] g 4 (d9 b) True (.tup []) (d9 (b&&decide (c=0))):=⟨λ_=>by
 show Av.Spec _ _ _ [int c,ptr g] _ _;refine zc func227 ntmps227 λ_ hs=>?_;repeat' first|refine O ?_|intro
 cases b
 ·repeat' first|refine O ?_|intro
  refine iV _ ⟨rfl,rfl⟩ ?_;exact A8
 repeat' first|refine O ?_|intro
 refine iV _ ⟨rfl,rfl⟩ ?_;exact zb⟩
instance b9h {c:Int}:Ans prog GL 229 [str (gT c m σ)] True (.tup [G6 (wV (gT c m σ)),int (if (gT c m σ).length=32 then 0 else 10)]):=⟨λ_=>a8b.spec (KL _ _ _)⟩
instance c0I {c:Int}:Ans prog GL 230 [str (gT c m σ)] True (.tup [bK (kI (gT c m σ)),int (iD (gT c m σ))]):=⟨λ_=>a8x.spec (KL _ _ _)⟩
instance c0f {c:Int}:Ans prog GL 231 [str (gT c m σ)] True (.tup [jS (qC (gT c m σ)),int (oF (gT c m σ))]):=⟨λ_=>a8p.spec (KL _ _ _)⟩
/- each reading by its place: the reader's states have names,so that the terms stay small -/
instance mS1 {g:Nat}:AnsM prog GL 137 g [.lit (.int .u8 75),int 16] 267 (C9 σ) True (int (gI 75 16 σ)) (C9 (qV σ)):=⟨λ_=>(a3Y (c:=75) (most:=16)).spec dc⟩
instance cS2 {g r:Nat}:AnsL2 prog GL 225 [.lit (.int .u8 73)] g 221 r 267 (C9 (qV σ)) True (str (gT 73 4000 (qV σ))) (C9 (tN σ)):=⟨λ_=>(rX (c:=73)).spec True.intro⟩
instance cS3 {g r:Nat}:AnsL2 prog GL 225 [.lit (.int .u8 79)] g 221 r 267 (C9 (tN σ)) True (str (gT 79 4000 (tN σ))) (C9 (tH σ)):=⟨λ_=>(rX (c:=79)).spec True.intro⟩
instance cS4 {g r:Nat}:AnsL2 prog GL 225 [.lit (.int .u8 81)] g 221 r 267 (C9 (tH σ)) True (str (gT 81 4000 (tH σ))) (C9 (tF σ)):=⟨λ_=>(rX (c:=81)).spec True.intro⟩
instance cS5 {g r:Nat}:AnsL2 prog GL 225 [.lit (.int .u8 82)] g 221 r 267 (C9 (tF σ)) True (str (gT 82 4000 (tF σ))) (C9 (tC σ)):=⟨λ_=>(rX (c:=82)).spec True.intro⟩
instance cS6 {g r:Nat}:AnsL2 prog GL 225 [.lit (.int .u8 89)] g 221 r 267 (C9 (tC σ)) True (str (gT 89 4000 (tC σ))) (C9 (sZ σ)):=⟨λ_=>(rX (c:=89)).spec True.intro⟩
instance cS7 {g r:Nat}:AnsL2 prog GL 226 [.lit (.int .u8 69)] g 221 r 267 (C9 (sZ σ)) True (int (gI 69 1099511627776 (sZ σ))) (C9 (sW σ)):=⟨λ_=>(GX (c:=69)).spec True.intro⟩
instance cS8 {g r:Nat}:AnsL2 prog GL 225 [.lit (.int .u8 99)] g 221 r 267 (C9 (sW σ)) True (str (gT 99 4000 (sW σ))) (C9 (sV σ)):=⟨λ_=>(rX (c:=99)).spec True.intro⟩
instance cS9 {g r:Nat}:AnsL2 prog GL 226 [.lit (.int .u8 104)] g 221 r 267 (C9 (sV σ)) True (int (gI 104 1099511627776 (sV σ))) (C9 (sU σ)):=⟨λ_=>(GX (c:=104)).spec True.intro⟩
instance d0M {g r:Nat}:AnsL2 prog GL 226 [.lit (.int .u8 116)] g 221 r 267 (C9 (sU σ)) True (int (gI 116 1099511627776 (sU σ))) (C9 (lJ σ)):=⟨λ_=>(GX (c:=116)).spec True.intro⟩
instance b8X {g:Nat}:AnsM prog GL 187 g [.lit (.int .u8 114),int 32] 267 (C9 (lJ σ)) True (str (gT 114 32 (lJ σ))) (C9 (lI σ)):=⟨λ_=>(XU (c:=114) (most:=32)).spec True.intro⟩
instance b8W {g:Nat}:AnsM prog GL 187 g [.lit (.int .u8 77),int 32] 267 (C9 (lI σ)) True (str (gT 77 32 (lI σ))) (C9 (tZ σ)):=⟨λ_=>(XU (c:=77) (most:=32)).spec True.intro⟩
instance d0L {g r:Nat}:AnsL2 prog GL 226 [.lit (.int .u8 113)] g 221 r 267 (C9 (tZ σ)) True (int (gI 113 1099511627776 (tZ σ))) (C9 (tY σ)):=⟨λ_=>(GX (c:=113)).spec True.intro⟩
instance d0K {g r:Nat}:AnsL2 prog GL 225 [.lit (.int .u8 115)] g 221 r 267 (C9 (tY σ)) True (str (gT 115 4000 (tY σ))) (C9 (tX σ)):=⟨λ_=>(rX (c:=115)).spec True.intro⟩
instance d0J {g r:Nat}:AnsL2 prog GL 225 [.lit (.int .u8 107)] g 221 r 267 (C9 (tX σ)) True (str (gT 107 4000 (tX σ))) (C9 (tV σ)):=⟨λ_=>(rX (c:=107)).spec True.intro⟩
instance d0I {g r:Nat}:AnsL2 prog GL 225 [.lit (.int .u8 100)] g 221 r 267 (C9 (tV σ)) True (str (gT 100 4000 (tV σ))) (C9 (lH σ)):=⟨λ_=>(rX (c:=100)).spec True.intro⟩
instance b8V {g:Nat}:AnsM prog GL 187 g [.lit (.int .u8 97),int 32] 267 (C9 (lH σ)) True (str (gT 97 32 (lH σ))) (C9 (tQ σ)):=⟨λ_=>(XU (c:=97) (most:=32)).spec True.intro⟩
instance d0H {g r:Nat}:AnsL2 prog GL 225 [.lit (.int .u8 102)] g 221 r 267 (C9 (tQ σ)) True (str (gT 102 4000 (tQ σ))) (C9 (tO σ)):=⟨λ_=>(rX (c:=102)).spec True.intro⟩
instance d0G {g r:Nat}:AnsL2 prog GL 225 [.lit (.int .u8 103)] g 221 r 267 (C9 (tO σ)) True (str (gT 103 4000 (tO σ))) (C9 (pJ σ)):=⟨λ_=>(rX (c:=103)).spec True.intro⟩
instance d0E {g r:Nat}:AnsL2 prog GL 226 [.lit (.int .u8 117)] g 221 r 267 (C9 (pJ σ)) True (int (gI 117 1099511627776 (pJ σ))) (C9 (tL σ)):=⟨λ_=>(GX (c:=117)).spec True.intro⟩
instance d0D {g r:Nat}:AnsL2 prog GL 226 [.lit (.int .u8 118)] g 221 r 267 (C9 (tL σ)) True (int (gI 118 1099511627776 (tL σ))) (C9 (tK σ)):=⟨λ_=>(GX (c:=118)).spec True.intro⟩
instance d0C {g r:Nat}:AnsL2 prog GL 225 [.lit (.int .u8 65)] g 221 r 267 (C9 (tK σ)) True (str (gT 65 4000 (tK σ))) (C9 (tJ σ)):=⟨λ_=>(rX (c:=65)).spec True.intro⟩
instance d0B {g r:Nat}:AnsL2 prog GL 226 [.lit (.int .u8 84)] g 221 r 267 (C9 (tJ σ)) True (int (gI 84 1099511627776 (tJ σ))) (C9 (lG σ)):=⟨λ_=>(GX (c:=84)).spec True.intro⟩
instance d0A {g r:Nat}:AnsL2 prog GL 225 [.lit (.int .u8 70)] g 221 r 267 (C9 (lG σ)) True (str (gT 70 4000 (lG σ))) (C9 (lF σ)):=⟨λ_=>(rX (c:=70)).spec True.intro⟩
instance d0z {g r:Nat}:AnsL2 prog GL 225 [.lit (.int .u8 71)] g 221 r 267 (C9 (lF σ)) True (str (gT 71 4000 (lF σ))) (C9 (qU σ)):=⟨λ_=>(rX (c:=71)).spec True.intro⟩
end
theorem a7s (n:Nat):decide ((if n=32 then (0:Int) else 10)=0)=decide (n=32):=by by_cases h:n=32 <;> simp[h]
theorem a1L (σ:RS):vN σ=((true&&decide ((if (gT 114 32 (lJ σ)).length=32 then (0:Int) else 10)=0)&&decide ((if (gT 77 32 (lI σ)).length=32 then (0:Int) else 10)=0)&&decide ((if (gT 97 32 (lH σ)).length=32 then (0:Int) else 10)=0)&&decide (iD (gT 70 4000 (lG σ))=0)&&decide (oF (gT 71 4000 (lF σ))=0))&&decide (gZ (qU σ)=0)):=by
 simp only[a7s,Bool.true_and,Bool.and_assoc];rfl
theorem CB:Imp (.tup [.agg 100 [int 0,str [],str [],str [],str [],str [],int 0,.agg 35 [str [],int 0,int 0,hA G8],hA G8,.agg 12 [int 0,str [],str [],.agg 7 [str [],.agg 4 [.lit (.int .u64 0),.lit (.int .u64 0),.lit (.int .u64 0),.lit (.int .u64 0)],str [],str []],int 0,int 0],str [],int 0,.agg 3 [int 0,int 0,.lit (.slice none 0 0)],.agg 9 [int 0,.lit (.slice none 0 0),.lit (.slice none 0 0),.agg 3 [int 0,int 0,.lit (.slice none 0 0)],.agg 3 [int 0,int 0,.lit (.slice none 0 0)]]],int 10]) (.tup [D8 X0,int 10]):=by
 show Imp _ (.tup [.agg 100 [int 0,str [],str [],str [],str [],str [],int 0,.agg 35 [str [],int 0,int 0,hA G8],hA G8,.agg 12 [int 0,str [],str [],.agg 7 [str [],.agg 4 [.lit (.int .u64 0),.lit (.int .u64 0),.lit (.int .u64 0),.lit (.int .u64 0)],str [],str []],int 0,int 0],str [],int 0,.agg 3 [int 0,int 0,.sl 32 [] none],.agg 9 [int 0,.sl 2 [] none,.sl 2 [] none,.agg 3 [int 0,int 0,.sl 32 [] none],.agg 3 [int 0,int 0,.sl 32 [] none]]],int 10]);exact ImpR.imp
attribute [local irreducible] wV gT gI gZ sT sI Y2 kI qC iD oF C9 qV tN tH tF tC sZ sW sV sU lJ lI tZ tY tX tV lH tQ tO pJ tL tK tJ lG lF qU
theorem Xa {G G':Prop}(h:G')(i:Wr G'->G:=by intro h;first|exact Av.W h.o|exact L8 h.o|exact qH h.o|exact b3d h.o|exact b3e h.o|exact KI h.o|exact KJ h.o|exact zO h.o|exact EN h.o):G:=i ⟨h⟩
set_option maxRecDepth 100000 in
instance b9l {s:Bs}:Ans prog GL 192 [str s] (s.length<=1000000000) (.tup [D8 (J9 (I9 s)),int (Y0 (I9 s))]):=⟨λhl=>by
 refine zc func192 ntmps192 λ_ hs=>?_;repeat' (first|refine Xa ?_|refine p9 (λ_=>?_)|intro _|simp only[List.set]|fail)
 refine J6 (args:=[str s]) [] _ (by rw[hs];exact yM) (λu m1 hh=>?_) lpr;obtain⟨gr,rfl,rfl⟩:=hh;rw[Fz hl];generalize I9 s=σ;repeat' (first|refine Xa ?_|refine p9 (λ_=>?_)|intro _|simp only[List.set]|fail)
 rename_i g4 g5;refine Z0 (vs:=[.pointer (some ⟨g4,0,none⟩)]) ?_;repeat' (first|refine Xa ?_|refine p9 (λ_=>?_)|intro _|simp only[List.set]|fail)
 refine Z0 (vs:=[.pointer (some ⟨g4,0,none⟩)]) ?_;repeat' (first|refine Xa ?_|refine p9 (λ_=>?_)|intro _|simp only[List.set]|fail)
 refine Z0 (vs:=[.pointer (some ⟨g5,0,none⟩)]) ?_
 iterate 20 ((iterate 20 (try first|refine Xa ?_|refine p9 (λ_=>?_)|intro _));try simp only[List.set])
 have hk:=a1L σ;generalize (true&&decide ((if (gT 114 32 (lJ σ)).length=32 then (0:Int) else 10)=0)&&decide ((if (gT 77 32 (lI σ)).length=32 then (0:Int) else 10)=0)&&decide ((if (gT 97 32 (lH σ)).length=32 then (0:Int) else 10)=0)&&decide (iD (gT 70 4000 (lG σ))=0)&&decide (oF (gT 71 4000 (lF σ))=0))=b at hk ⊢;cases b
 ·repeat' (first|refine Xa ?_|refine p9 (λ_=>?_)|intro _|simp only[List.set]|fail)
  have h0:J9 σ=X0/\Y0 σ=10:=by unfold J9 Y0;rw[hk];exact⟨rfl,rfl⟩
  rw[h0.1,h0.2]
  (refine Y1 (.tup [D8 X0,int 10]) [] ?_ ⟨rfl,rfl⟩ (List.nil_sublist _);exact CB)
 repeat' (first|refine Xa ?_|refine p9 (λ_=>?_)|intro _|simp only[List.set]|fail)
 by_cases hq:gZ (qU σ)=0
 ·have h0:J9 σ=IX σ/\Y0 σ=0:=by unfold J9 Y0;rw[hk,dT hq];exact⟨rfl,rfl⟩
  rw[h0.1,h0.2];repeat' (first|refine Xa ?_|refine p9 (λ_=>?_)|intro _|simp only[List.set]|fail)
  refine j4 _ ⟨rfl,rfl⟩ ?_;exact A8
 have h0:J9 σ=X0/\Y0 σ=10:=by unfold J9 Y0;rw[hk,dZ hq];exact⟨rfl,rfl⟩
 rw[h0.1,h0.2];repeat' (first|refine Xa ?_|refine p9 (λ_=>?_)|intro _|simp only[List.set]|fail)
 (refine Y1 (.tup [D8 X0,int 10]) [] ?_ ⟨rfl,rfl⟩ (List.nil_sublist _);exact CB)⟩
end Go.Proofs.Z
