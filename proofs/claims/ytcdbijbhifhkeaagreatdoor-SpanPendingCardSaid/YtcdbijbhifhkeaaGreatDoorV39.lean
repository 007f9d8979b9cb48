/- . -/
import Derived.Test.YtcdbijbhifhkeaaGreatDoorV38
set_option maxHeartbeats 64000000
namespace Go.Proofs.Z
open Go Go.RowKit Tw Av
section
variable {x:Operand}{f:FuncId}
section
variable {P:Program} {N:Nat} {ops:Array Oper} {Q:Exit->Act->World->Prop} {rest:List Oper} {s:Av.Base} {e:Av.Env} {m:List Av.Piece} {d:Nat} {ty:TypeId} {pos:String} {af:Array Edge}
abbrev rR (f:FuncId)(bs:List Value):AV:=.lit (.func (.func f) bs.toArray #[])
theorem b0X [hf:FnB P f]{xs:List Operand}{ts:Array TypeId}{args:List AV}{bs:List Value}{dst:Option Nat}(h0:Av.ev e x=some (rR f bs))(hx:Av.evs e xs=some args)(hn:args.all U8=true)(hc:∀ v∈bs,v.oneCell'=true):∀ ok w a,Sat N ok w e a->∃ cs',RVs ok w (bs.map .lit++args) cs'/\(execOp a.eval ⟨dst,.call ⟨.value x,xs.toArray,ts⟩,ty,pos,af,none⟩).run P w=.ok (.enter f cs'.toArray) w:=λok w a ha=>by
 have happ:∀ {bs:List Value} {vs:List Value},(∀ v∈bs,v.oneCell'=true)->RVs ok w args vs->RVs ok w (bs.map .lit++args) (bs++vs):=by
  intro bs
  induction bs with
  | nil=>exact λ_ h=>h
  | cons b bs ih=>
   intro vs hc h;exact⟨b,bs++vs,rfl,RV0.of_lit (hc b sm),ih (λv hv=>hc v (by simp[hv])) h⟩
 refine⟨_,happ hc (ha.evals hx hn),?_⟩;simp[execOp,resolve,ha.lit h0,Deferred.ofValue,invoke,hf.run]
theorem a0J [hf:FnB P f]{xs:List Operand}{ts:Array TypeId}{args:List AV}{bs:List Value}(m1 fr:List Av.Piece){K:AV->List Av.Piece->Prop}(hc:Av.Spec P s.gl f (bs.map .lit++args) m1 K)(h:∀ v m1',K v m1'->AL P N ops Q s rest ((d,v)::e) (m1'++fr))(hp:m.Perm (m1++fr))
  (h0:Av.ev e x=some (rR f bs):=by exact rfl) (hx:Av.evs e xs=some args:=by exact rfl) (hn:args.all U8=true:=by exact rfl) (hcs:∀ v∈bs,v.oneCell'=true:=by simp[Go.Value.oneCell']) (hd:Nat.blt d N=true:=by exact rfl):AL P N ops Q s (⟨some d,.call ⟨.value x,xs.toArray,ts⟩,ty,pos,af,none⟩::rest) e m:=
 Eu hc hp (b0X h0 hx hn hcs) λv m1' g ok w _a _u g2 g3 g4=>(h v m1' g).run ok w _ g3 (g4.put g2 hd)
theorem b2F {cs:List Operand}{vs:List Value}(h:AL P N ops Q s rest ((d,rR f vs)::e) m)(hx:Av.evs e cs=some (vs.map .lit):=by exact rfl)(_hn:vs.all (·.oneCell')=true:=by exact rfl)(hd:Nat.blt d N=true:=by exact rfl):AL P N ops Q s (⟨some d,.makeFunc (.func f) cs.toArray #[],ty,pos,af,none⟩::rest) e m:=
 R8 rfl (λok w a ha=>by
  have h1:=ha.evals hx (by simp[U8]);have h2:∀ {vs us:List Value},RVs ok w (vs.map .lit) us->us=vs:=by
   intro vs
   induction vs with
   | nil=>intro us h;exact h
   | cons v vs ih=>
    rintro us ⟨u,us',rfl,h2,h3⟩;rw[RV0.lit h2,ih h3]
  have h3:=h2 h1;have h4:Array.map a.eval cs.toArray=vs.toArray:=by rw[<- h3];simp
  simp[execOp,Instr.makeFunc,h3]) hd h
theorem a0A {op:BinOp}{T yT:TypeId}(hT:OL (P.underlying T)=true){y:Operand}{cs:List Value}{c:Bool}(h:AL P N ops Q s rest ((d,d9 c)::e) m)(hx:Av.ev e x=some (rR f cs):=by exact rfl)(hy:Av.ev e y=some (.lit .nilFunc):=by exact rfl)(hc:yC op false=some c:=by exact rfl)(hd:Nat.blt d N=true:=by exact rfl):AL P N ops Q s (⟨some d,.binOp op T x y yT,ty,pos,af,none⟩::rest) e m:=
 R8 rfl (λok w A hA=>by
  obtain⟨_,_,_,ht⟩:=Ap hT;exact FD (hA.lit hx) (hA.lit hy) sm sm sm sm (by unfold eqGuard;cases op <;> rfl) (by
  have h:∀ d:Nat,(Op.equalIn (d+1) T (.func (.func f) cs.toArray #[]) .nilFunc).run P w=.ok false w:=λd=>by simp[Op.equalIn,run_underlying ht]
  exact h 9999) hc) hd h
end
end
end Go.Proofs.Z

namespace Go.Proofs.Z
open Go Go.RowKit Tw Av Go.Proofs.Tryz
section
structure PlX where
 k:Int
 s:Int
 n:Int
 torn:Int
 cut:Int
 keep:List Bool
 tx:Bs
abbrev K9 (p:PlX)(id:Option Value):AV:=.agg 7 [int p.k,int p.s,int p.n,int p.torn,int p.cut,.sl 1 (p.keep.map d9) id,str p.tx]
def U1 (d f g:Bs)(n k:Int):TxX:={ X0 with k:=13,x:=⟨0,[99],[],d,H9 (O5 n),f,g,k+20,0⟩ }
def uY (n:Int):TxX:={ X0 with k:=1,x:=⟨0,[],[],[120],H9 (O5 n),[],[97,110,110],0,0⟩ }
theorem Fx:G6 wZ=.agg 4 [.lit (.int .u64 0),.lit (.int .u64 0),.lit (.int .u64 0),.lit (.int .u64 0)]:=by kernel_rfl
attribute [local irreducible] H9 O5 j6 R6 A9
theorem a2B {d f g:Bs}{n k:Int}:Imp (.agg 100 [int 13,str [],str [],str [],str [],str [],int 0,.agg 35 [str [],int 0,int 0,hA G8],hA G8,.agg 12 [int 0,str [99],str [],.agg 7 [str d,G6 (H9 (O5 n)),str f,str g],int (k+20),int 0],str [],int 0,.agg 3 [int 0,int 0,K5],.agg 9 [int 0,K5,K5,.agg 3 [int 0,int 0,K5],.agg 3 [int 0,int 0,K5]]]) (D8 (U1 d f g n k)):=by
 show Imp _ (.agg 100 [int 13,str [],str [],str [],str [],str [],int 0,.agg 35 [str [],int 0,int 0,hA G8],hA G8,.agg 12 [int 0,str [99],str [],.agg 7 [str d,G6 (H9 (O5 n)),str f,str g],int (k+20),int 0],str [],int 0,.agg 3 [int 0,int 0,.sl 32 [] none],.agg 9 [int 0,.sl 2 [] none,.sl 2 [] none,.agg 3 [int 0,int 0,.sl 32 [] none],.agg 3 [int 0,int 0,.sl 32 [] none]]]);exact ImpR.imp
theorem a7Y {n:Int}:Imp (.agg 100 [int 1,str [],str [],str [],str [],str [],int 0,.agg 35 [str [],int 0,int 0,hA G8],hA G8,.agg 12 [int 0,str [],str [],.agg 7 [str [120],G6 (H9 (O5 n)),str [],str [97,110,110]],int 0,int 0],str [],int 0,.agg 3 [int 0,int 0,K5],.agg 9 [int 0,K5,K5,.agg 3 [int 0,int 0,K5],.agg 3 [int 0,int 0,K5]]]) (D8 (uY n)):=by
 show Imp _ (.agg 100 [int 1,str [],str [],str [],str [],str [],int 0,.agg 35 [str [],int 0,int 0,hA G8],hA G8,.agg 12 [int 0,str [],str [],.agg 7 [str [120],G6 (H9 (O5 n)),str [],str [97,110,110]],int 0,int 0],str [],int 0,.agg 3 [int 0,int 0,.sl 32 [] none],.agg 9 [int 0,.sl 2 [] none,.sl 2 [] none,.agg 3 [int 0,int 0,.sl 32 [] none],.agg 3 [int 0,int 0,.sl 32 [] none]]]);exact ImpR.imp
theorem Z5:(0:Int)<=9223372036854775807:=by decide
theorem a2A {d f g:Bs}{n k:Int}(h:k<=1099511627776):TxW (U1 d f g n k):=⟨by show (13:Int)<=_;decide,Z5,Z5,Z5,Z5,by show k+20<=_;omega,Z5,Z5,LX,BZ⟩
theorem a7W {n:Int}:TxW (uY n):=⟨by show (1:Int)<=_;decide,Z5,Z5,Z5,Z5,Z5,Z5,Z5,LX,BZ⟩
structure SpC (z:SpX):Prop where
 g:CG z.c
 w:z.c.ws.length<=16
 o:z.c.dd=false->ChOk z.x z.s z.c
 r:z.rp.length<=10000
 d:DvOk z.x
 a:∀ w∈z.x.ws,0<=w.1/\w.1<z.x.n
 l:z.x.ws.length<=1000000
 n:z.x.n≠0
section
variable {nz no:Bs} {q qo:SpI} {z o:SpX} {gx:Nat} {p:PlX} {id:Option Value}
theorem Sw {d f g:Bs}{n:Int}(h:SpC z) :
  Av.Spec prog GL 106 [ptr q.g,Xf d f g n] (D6 nz q z) λu m=>∃ v,u=d9 (decide (R6 z.c (j6 (U1 d f g n (A9 (j3 z.c) [107])))=0))/\m=D6 nz { q with v:=v } (K7 z (j6 (U1 d f g n (A9 (j3 z.c) [107])))):=by
 have hk:=h.g.k;have hkr:=KD (j3 z.c) [107];have hw:=a2A (d:=d) (f:=f) (g:=g) (n:=n) hkr.2;have hwl:=h.w;refine zc func106 ntmps106 λ_ hs=>?_;repeat' first|refine O ?_|intro
 generalize A9 (j3 z.c) [107]=k at *;repeat' first|refine O ?_|intro
 apply aH [1,2,3,4,5,6,7,8,9,10,11];exact rfl;exact rfl;exact rfl;kernel_rfl;intro sQ hQ;refine eH 14 (v':=D8 (U1 d f g n k)) a2B ?_;refine T9 (KM (nm:=nz) (q:=q) (z:=z) hw om) (λu m1 hu=>?_);obtain⟨v,rfl,rfl⟩:=hu;refine j5 (W9 (D6 nz { q with v:=v } (K7 z (j6 (U1 d f g n k)))) [] rfl rfl lpr rfl ?_);repeat' first|refine O ?_|intro
 exact j4 _ ⟨v,rfl,rfl⟩ (List.sublist_cons_self _ _)
theorem Tc (h:SpC z):Av.Spec prog GL 63 [ptr gx,ptr q.g,ptr qo.g,K9 p id] (D6 nz q z) λu m=>∃ v,u=d9 (decide (R6 z.c (j6 (U1 [120] [97,110,110] [98,111,98] p.n (A9 (j3 z.c) [107])))=0))/\m=D6 nz { q with v:=v } (K7 z (j6 (U1 [120] [97,110,110] [98,111,98] p.n (A9 (j3 z.c) [107])))):=by
 refine zc func63 ntmps63 λ_ hs=>?_;repeat' first|refine O ?_|intro
 refine J5 [_] _ (Sw (nz:=nz) (q:=q) (z:=z) (d:=[120]) (f:=[97,110,110]) (g:=[98,111,98]) (n:=p.n) h) (λu m1 hu=>?_);obtain⟨v,rfl,rfl⟩:=hu;repeat' first|refine O ?_|intro
 exact j4 _ ⟨v,rfl,rfl⟩ (List.sublist_cons_self _ _)
theorem Td (h:SpC z):Av.Spec prog GL 64 [ptr gx,ptr q.g,ptr qo.g,K9 p id] (D6 nz q z) λu m=>∃ v,u=d9 (decide (R6 z.c (j6 (U1 [99,47,120] [98,111,98] [97,110,110] p.n (A9 (j3 z.c) [107])))=0))/\m=D6 nz { q with v:=v } (K7 z (j6 (U1 [99,47,120] [98,111,98] [97,110,110] p.n (A9 (j3 z.c) [107])))):=by
 refine zc func64 ntmps64 λ_ hs=>?_;repeat' first|refine O ?_|intro
 refine J5 [_] _ (Sw (nz:=nz) (q:=q) (z:=z) (d:=[99,47,120]) (f:=[98,111,98]) (g:=[97,110,110]) (n:=p.n) h) (λu m1 hu=>?_);obtain⟨v,rfl,rfl⟩:=hu;repeat' first|refine O ?_|intro
 exact j4 _ ⟨v,rfl,rfl⟩ (List.sublist_cons_self _ _)
theorem a8G (h:SpC z):Av.Spec prog GL 71 [ptr gx,ptr q.g,ptr qo.g,K9 p id] (D6 nz q z) λu m=>∃ v,u=d9 (decide (R6 z.c (j6 (uY p.n))=0))/\m=D6 nz { q with v:=v } (K7 z (j6 (uY p.n))):=by
 have hwl:=h.w;refine zc func71 ntmps71 λ_ hs=>?_;repeat' first|refine O ?_|intro
 refine eH 14 (v':=D8 (uY p.n)) a7Y ?_;refine J5 [_] _ (KM (nm:=nz) (q:=q) (z:=z) a7W om) (λu m1 hu=>?_);obtain⟨v,rfl,rfl⟩:=hu;repeat' first|refine O ?_|intro
 exact j4 _ ⟨v,rfl,rfl⟩ (List.sublist_cons_self _ _)
theorem Te (h:SpC z):Av.Spec prog GL 65 [ptr gx,ptr q.g,ptr qo.g,K9 p id] (D6 nz q z) λu m=>∃ v r,u=d9 (O4 z (M6 z.c+aT p.n 4)).2/\m=D6 nz { q with v:=v,r:=r } (O4 z (M6 z.c+aT p.n 4)).1:=by
 have hq:=h.g.q;have hrs:=JE p.n (m:=4) dc;have htm:0<=M6 z.c/\M6 z.c<=1099511627776:=by rw[h.g.t];exact h.g.tm
 have hrr:=h.r;refine zc func65 ntmps65 λ_ hs=>?_;repeat' first|refine O ?_|intro
 apply aH [1,2,3,4,5,6,7,8,9,10,11];exact rfl;exact rfl;exact rfl;kernel_rfl;intro sQ hQ;refine T9 (KN (nm:=nz) (q:=q) (z:=z) h.o om) (λu m1 hu=>?_);obtain⟨v,r,rfl,rfl⟩:=hu;refine j5 (W9 (D6 nz { q with v:=v,r:=r } (O4 z (M6 z.c+aT p.n 4)).1) [] rfl rfl lpr rfl ?_);repeat' first|refine O ?_|intro
 exact j4 _ ⟨v,r,rfl,rfl⟩ (List.sublist_cons_self _ _)
theorem a8D (h:SpC z):Av.Spec prog GL 68 [ptr gx,ptr q.g,ptr qo.g,K9 p id] (D6 nz q z) λu m=>∃ v,u=d9 (decide (R6 z.c p.tx=0))/\m=D6 nz { q with v:=v } (K7 z p.tx):=by
 have hwl:=h.w;obtain⟨g,gd,gm,gs,gc,⟨v1,v2,v3,v4,v5⟩,r⟩:=q;dsimp only;refine zc func68 ntmps68 λ_ hs=>?_;repeat' first|refine O ?_|intro
 apply aH [3,4,5,6,7,8,9,10,11];exact rfl;exact rfl;exact rfl;kernel_rfl;intro _ _;refine T9 (Tt (I:=⟨⟨⟨gd,gm,v1⟩,gs⟩,gc,v2,v3,v4,v5⟩) (x:=z.x) (s:=z.s) (c:=z.c) (t:=p.tx) om) (λu m1 hu=>?_);obtain⟨rfl,v,rfl⟩:=hu;refine j5 (W9 (Cq gd gm gs gc (v1,v2,v3,v4,v) z.x z.s (pY z.c p.tx)) [] rfl rfl lpr rfl ?_);repeat' first|refine O ?_|intro
 exact j4 _ ⟨(v1,v2,v3,v4,v),rfl,rfl⟩ (List.sublist_cons_self _ _)
def Eh (z:SpX)(n:Int):SpX:={ z with x:=wM z.x n,am:=true }
theorem a8H:Av.Spec prog GL 69 [ptr gx,ptr q.g,ptr qo.g,K9 p id] (D6 nz q z) λu m=>u=d9 true/\m=D6 nz q (Eh z (aT p.n 64)):=by
 obtain⟨g,gd,gm,gs,gc,⟨v1,v2,v3,v4,v5⟩,r⟩:=q;dsimp only;refine zc func69 ntmps69 λ_ hs=>?_;repeat' first|refine O ?_|intro
 apply aH [9,10,11];exact rfl;exact rfl;exact rfl;kernel_rfl;intro _ _;refine T9 (a8O (I:=⟨gd,gm,v1⟩) (x:=z.x) (k:=aT p.n 64)) (λu m1 hu=>?_);obtain⟨rfl,rfl⟩:=hu;refine j5 (W9 (I6 ⟨gd,gm,v1⟩ (wM z.x (aT p.n 64))) [] rfl rfl lpr rfl ?_);repeat' first|refine O ?_|intro
 exact j4 _ ⟨rfl,rfl⟩ (List.sublist_cons_self _ _)
end
end

section
def O3 (o:ChX):TxX:=eT [107] (eU o) (O7 o.ky (eU o))
theorem Az {o:ChX}(h:CG o):TxW (O3 o):=by
 unfold O3;rw[h.top];have h1:=h.tb;have h2:=h.tm;exact⟨by show (4:Int)<=_;decide,Z5,by show (xI o).h<=_;omega,by show (xI o).t<=_;omega,Z5,Z5,Z5,Z5,LX,BZ⟩
theorem OP {o:ChX}(h:CG o):((o.hs.length<=1000000/\o.ky.length<=1000000)/\∀ y∈o.hs,y.h<=9223372036854775807/\y.t<=9223372036854775807)/\1<=o.hs.length:=by
 refine⟨h.q,?_⟩;have h1:=h.tb.2.1;have h2:(xI o).h=(o.bl.length:Int):=by unfold xI;rfl
 have h3:=h.b;omega
attribute [local irreducible] H9 O5 j6 R6 A9 eU O7 lU eD iQ
section
variable {nz no:Bs} {q qo:SpI} {z o:SpX} {gx:Nat} {p:PlX} {id:Option Value}
theorem a8F (h:SpC z)(ho:SpC o):Av.Spec prog GL 66 [ptr gx,ptr q.g,ptr qo.g,K9 p id] (D6 nz q z++D6 no qo o) λu m=>∃ v,u=d9 (decide (R6 z.c (j6 (O3 o.c))=0))/\m=D6 nz { q with v:=v } (K7 z (j6 (O3 o.c)))++D6 no qo o:=by
 have hwl:=h.w;have hw:=Az ho.g;have hu:=OP ho.g;refine zc func66 ntmps66 λ_ hs=>?_;repeat' first|refine O ?_|intro
 rename_i g1 g2;rw[show eT [107] (eU o.c) (O7 o.c.ky (eU o.c))=O3 o.c from rfl];refine aI [_,_] (D6 nz q z) (D6 no qo o) (KM (nm:=nz) (q:=q) (z:=z) hw om) (λu m1 hu=>?_);obtain⟨v,rfl,rfl⟩:=hu;repeat' first|refine O ?_|intro
 exact j4 _ ⟨v,rfl,rfl⟩ (List.Sublist.cons _ (List.sublist_cons_self _ _))
theorem Nl (h:SpC z)(ho:SpC o):Av.Spec prog GL 77 [ptr q.gc,ptr qo.gc,str [107]] [.var q.gc 111 (z8 q.gs q.v.2.1 q.v.2.2.1 q.v.2.2.2.1 q.v.2.2.2.2 z.c),.var qo.gc 111 (z8 qo.gs qo.v.2.1 qo.v.2.2.1 qo.v.2.2.2.1 qo.v.2.2.2.2 o.c)] λu m=>
   u=.sl 100 ((lU z.c o.c [107]).map D8) none/\m=[.var q.gc 111 (z8 q.gs q.v.2.1 q.v.2.2.1 q.v.2.2.2.1 q.v.2.2.2.2 z.c),.var qo.gc 111 (z8 qo.gs qo.v.2.1 qo.v.2.2.1 qo.v.2.2.2.1 qo.v.2.2.2.2 o.c)]:=by
 have gz:=h.g;have go:=ho.g;have:=a8v (ga:=q.gc) (gb:=qo.gc) (gs0:=q.gs) (gs1:=qo.gs) (a1:=q.v.2.1) (a2:=q.v.2.2.1) (a3:=q.v.2.2.2.1) (a4:=q.v.2.2.2.2) (b1:=qo.v.2.1) (b2:=qo.v.2.2.1) (b3:=qo.v.2.2.2.1) (b4:=qo.v.2.2.2.2) (i:=[107]) gz.k gz.v (λv hv=>(gz.g v hv).x.n) go.q go.k.1.2 (λd hd=>Nat.le_trans (go.m d hd).l dc) go.v (λv hv=>(go.g v hv).x.n) (λv hv=>by have:=(go.g v hv).x.q;omega);refine this.mono ?_;rintro u m ⟨rfl,rfl⟩;refine⟨?_,rfl⟩;unfold lU;rfl
theorem Nk (h:SpC z)(ho:SpC o):(lU z.c o.c [107]).length<=2000000:=by
 have hl1:=Nat.le_trans (UL (e:=j3 z.c) (d:=Q7 o.c (A9 (j3 z.c) [107])) (h:=z.c.hs.length+1) (t:=M6 z.c) (k:=A9 (j3 z.c) [107]) (V6 o.c.ev (A9 (j3 z.c) [107]))) (Nat.le_trans (IZ _ _) ho.g.v);have hl2:=Nat.le_trans (UX (e:=j3 z.c) (d:=Q7 o.c (A9 (j3 z.c) [107])) (A:=gV o.c.ev) (k:=A9 (j3 z.c) [107]) (o:=qW o.c (A9 (j3 z.c) [107])) (V6 z.c.ev z.c.hs.length)) (Nat.le_trans (IZ _ _) h.g.v);unfold lU;rw[lla];omega
def JF (z o:ChX)(n:Int):Option TxX:=if (lU z o [107]).length=0 then none else (lU z o [107])[(aT n (lU z o [107]).length).toNat]?
theorem a8E (h:SpC z)(ho:SpC o):Av.Spec prog GL 67 [ptr gx,ptr q.g,ptr qo.g,K9 p id] (D6 nz q z++D6 no qo o) λu m=>
  match JF z.c o.c p.n with
  | none=>u=d9 false/\m=D6 nz q z++D6 no qo o
  | some x=>∃ v,u=d9 (decide (R6 z.c (j6 x)=0))/\m=D6 nz { q with v:=v } (K7 z (j6 x))++D6 no qo o:=by
 have hwl:=h.w;have hP:=Nl (q:=q) (qo:=qo) h ho;have hpz:=YK h.g ho.g (i:=[107]);have hpl:=Nk h ho;unfold JF;generalize lU z.c o.c [107]=L at *;have hll:(L.map D8).length=L.length:=llm _;refine zc func67 ntmps67 λ_ hs=>?_;repeat' first|refine O ?_|intro
 apply zd [12];exact zg
 ·intro _ _;refine bV ?_;exact j5 (A7 rfl rfl)
 apply zd [3,14];exact zg
 ·intro _ _;refine T9 hP (λu m1 hu=>?_);obtain⟨rfl,rfl⟩:=hu;exact j5 (A7 rfl rfl)
 by_cases hnil:L.length=0
 ·rw[if_pos hnil];repeat' first|refine O ?_|intro
  exact j4 _ ⟨rfl,rfl⟩ (List.sublist_cons_self _ _)
 have hr:=JE p.n (m:=L.length) om;obtain⟨j,hje,hjl⟩:∃ j:Nat,aT p.n L.length=(j:Int)/\j<L.length:=⟨(aT p.n L.length).toNat,om,om⟩;rw[if_neg hnil];repeat' first|refine O ?_|intro
 rw[hll,hje,Int.toNat_natCast,List.getElem?_eq_getElem hjl];repeat' first|refine O ?_|intro
 have hxw:=(hpz _ (List.getElem_mem hjl)).1.w;generalize L[j]=x at hxw ⊢;rename_i gB;refine aI [_] (D6 nz q z) (D6 no qo o) (KM (nm:=nz) (q:=q) (z:=z) hxw om) (λu m1 hu=>?_);obtain⟨v,rfl,rfl⟩:=hu;repeat' first|refine O ?_|intro
 exact j4 _ ⟨v,rfl,rfl⟩ (List.sublist_cons_self _ _)
theorem Tf {bs:List BlkX}(h:SpC z)(hn:1<=nz.length/\nz.length<=32)(hr:Ro (Y3 z.x p.keep p.torn p.cut) bs):Av.Spec prog GL 70 [ptr gx,ptr q.g,ptr qo.g,K9 p id] (D6 nz q z) λu m=>∃ q':SpI,q'.g=q.g/\u=d9 true/\m=D6 nz q' (mR (Y3 z.x p.keep p.torn p.cut) nz bs z.rp):=by
 have hd:=h.d;obtain⟨g,gd,gm,gs,gc,⟨v1,v2,v3,v4,v5⟩,r⟩:=q;dsimp only;refine zc func70 ntmps70 λ_ hs=>?_;repeat' first|refine O ?_|intro
 apply aH [9,10,11];exact rfl;exact rfl;exact rfl;kernel_rfl;intro _ _;refine T9 (a8N (I:=⟨gd,gm,v1⟩) (x:=z.x) (k:=p.keep) (torn:=p.torn) (cut:=p.cut) (id:=id) h.d h.a h.n h.l rfl) (λu m1 hu=>?_);obtain⟨rfl,w,rfl⟩:=hu;refine j5 (W9 (I6 ⟨gd,gm,w⟩ (Y3 z.x p.keep p.torn p.cut)) [] rfl rfl lpr rfl ?_);repeat' first|refine O ?_|intro
 rename_i g28;generalize Y3 z.x p.keep p.torn p.cut=y at *;refine qQ (.var g 78 (AF nz gd (ptr gc) z.am z.rp r)::.tail 115 3 r::I6 ⟨gd,gm,w⟩ y) (.var g 78 (AF nz gd (ptr gc) z.am z.rp r)::.tail 115 3 r::I6 ⟨gd,gm,w⟩ y) ?_ lpr ?_;rotate_left
 ·exact A8
 refine T9 (Bi (nm:=nz) (g:=g) (am:=z.am) (rp:=z.rp) (r:=r) (I:=⟨gd,gm,w⟩) (x:=y) hn hr) (λu m1 hu=>?_);obtain⟨gs',gc',v',rfl,rfl⟩:=hu;repeat' first|refine O ?_|intro
 exact j4 _ ⟨⟨g,gd,gm,gs',gc',v',r⟩,rfl,rfl,rfl⟩ slr
end
end

abbrev xA (a b:Nat):AV:=.agg 2 [.agg 2 [ptr a,ptr b]]
def JM (gx:Nat)(k:Int):AV:=
 if k=1 then rR 63 [.pointer (some ⟨gx,0,none⟩)] else if k=2 then rR 64 [.pointer (some ⟨gx,0,none⟩)] else if k=3 then rR 65 [.pointer (some ⟨gx,0,none⟩)]
 else if k=4 then rR 66 [.pointer (some ⟨gx,0,none⟩)] else if k=5 then rR 67 [.pointer (some ⟨gx,0,none⟩)] else if k=6 then rR 68 [.pointer (some ⟨gx,0,none⟩)]
 else if k=7 then rR 69 [.pointer (some ⟨gx,0,none⟩)] else if k=8 then rR 70 [.pointer (some ⟨gx,0,none⟩)] else if k=9 then rR 71 [.pointer (some ⟨gx,0,none⟩)] else .lit .nilFunc
instance b9B {gx:Nat}{k:Int}:Ans prog GL 36 [ptr gx,int k] True (JM gx k):=⟨λ_=>by
 unfold JM;by_cases h:1<=k/\k<=9
 ·obtain rfl|rfl|rfl|rfl|rfl|rfl|rfl|rfl|rfl:k=1\/k=2\/k=3\/k=4\/k=5\/k=6\/k=7\/k=8\/k=9:=by omega
  all_goals
   refine zc func36 ntmps36 λ_ hs=>?_;repeat' first|refine O ?_|intro
   refine b2F (vs:=[.pointer (some ⟨gx,0,none⟩)]) ?_;exact o8
 rw[if_neg om,if_neg om,if_neg om,if_neg om,if_neg om,if_neg om,if_neg om,if_neg om,if_neg om];refine zc func36 ntmps36 λ_ hs=>?_;exact o8⟩
instance b9H {g a b:Nat}:AnsM prog GL 35 g [int 0] 75 (xA a b) True (ptr a) (xA a b):=⟨λ_=>by
 refine zc func35 ntmps35 λ_ hs=>?_;repeat' first|refine O ?_|intro
 exact j4 _ ⟨rfl,rfl⟩ slr⟩
instance b9G {g a b:Nat}:AnsM prog GL 35 g [int 1] 75 (xA a b) True (ptr b) (xA a b):=⟨λ_=>by
 refine zc func35 ntmps35 λ_ hs=>?_;repeat' first|refine O ?_|intro
 exact j4 _ ⟨rfl,rfl⟩ slr⟩
section
variable {nz no:Bs} {q qo:SpI} {z o z':SpX} {gx ga gb:Nat} {p:PlX} {id:Option Value} {b:Bool}
abbrev C8 (gx ga gb:Nat)(nz no:Bs)(q qo:SpI)(z o:SpX):List Av.Piece:=.var gx 75 (xA ga gb)::(D6 nz q z++D6 no qo o)
set_option maxRecDepth 100000 in
theorem rT {f:FuncId}[hf:FnB prog f](m1 fr:List Av.Piece)(hi:p.s=0/\ga=q.g/\gb=qo.g\/p.s=1/\ga=qo.g/\gb=q.g)(hk:JM gx p.k=rR f [.pointer (some ⟨gx,0,none⟩)])(hp:(D6 nz q z++D6 no qo o).Perm (m1++fr))
  (hK:Av.Spec prog GL f [ptr gx,ptr q.g,ptr qo.g,K9 p id] m1 λu m=>∃ q':SpI,q'.g=q.g/\u=d9 b/\m++fr=D6 nz q' z'++D6 no qo o) :
  Av.Spec prog GL 11 [ptr gx,K9 p id] (C8 gx ga gb nz no q qo z o) λu m=>∃ q':SpI,q'.g=q.g/\u=d9 b/\m=C8 gx ga gb nz no q' qo z' o:=by
 rcases hi with⟨hs0,rfl,rfl⟩|⟨hs1,rfl,rfl⟩
 ·refine zc func11 ntmps11 λ_ hs=>?_;repeat' first|refine O ?_|intro
  rw[hs0];repeat' first|refine O ?_|intro
  rw[hk];repeat' first|refine O ?_|intro
  apply zd [];exact zg;intro _ _;refine a0A kr ?_;exact j5 (A7 rfl rfl);repeat' first|refine O ?_|intro
  rw[hs0];repeat' first|refine O ?_|intro
  apply aH [2,3,4,5,6,7,8,9,10,11,12,13,14,15,16,17,18,19,20,21,22,23];exact rfl;exact rfl;exact rfl;kernel_rfl;intro sQ hQ;refine D5 ?_;refine a0J (bs:=[.pointer (some ⟨gx,0,none⟩)]) m1 fr (by rw[hQ];exact hK) (λu m2 hu=>?_) hp;obtain⟨q',hqg,rfl,hm⟩:=hu;rw[hm];refine j5 (W9 (D6 nz q' z'++D6 no qo o) [] rfl rfl lpr rfl ?_);rename_i gB;refine DJ (.var gB 28 (K9 p id)::C8 gx q.g qo.g nz no q' qo z' o) ?_ kr;repeat' first|refine O ?_|intro
  exact j4 _ ⟨q',hqg,rfl,rfl⟩ (List.sublist_cons_self _ _)
 refine zc func11 ntmps11 λ_ hs=>?_;repeat' first|refine O ?_|intro
 rw[hs1];repeat' first|refine O ?_|intro
 rw[hk];repeat' first|refine O ?_|intro
 apply zd [];exact zg;intro _ _;refine a0A kr ?_;exact j5 (A7 rfl rfl);repeat' first|refine O ?_|intro
 rw[hs1];repeat' first|refine O ?_|intro
 apply aH [2,3,4,5,6,7,8,9,10,11,12,13,14,15,16,17,18,19,20,21,22,23];exact rfl;exact rfl;exact rfl;kernel_rfl;intro sQ hQ;refine D5 ?_;refine a0J (bs:=[.pointer (some ⟨gx,0,none⟩)]) m1 fr (by rw[hQ];exact hK) (λu m2 hu=>?_) hp;obtain⟨q',hqg,rfl,hm⟩:=hu;rw[hm];refine j5 (W9 (D6 nz q' z'++D6 no qo o) [] rfl rfl lpr rfl ?_);rename_i gB;refine DJ (.var gB 28 (K9 p id)::C8 gx qo.g q.g nz no q' qo z' o) ?_ kr;repeat' first|refine O ?_|intro
 exact j4 _ ⟨q',hqg,rfl,rfl⟩ (List.sublist_cons_self _ _)
end
end Go.Proofs.Z

namespace Go.Proofs.Z
open Go Go.RowKit Tw Av
structure SpG (N:Nat)(nm:Bs)(z:SpX)(bs:List BlkX)(ws:List Bs)(dd:Bool):Prop where
 l:LvI N z.x bs ws dd
 s:z.s=brS bs dd
 c:z.c=F5 nm (x8 nm) w9 bs ws dd
 b:1<=bs.length
 r:z.rp.length<=16*N
 n:3<=z.x.n
theorem b0V {c:ChX}(h:CG c):CG { c with dd:=true }:=⟨h.k,h.r,h.q,h.m,h.v,h.g,h.h,h.b,h.t,h.tk,h.tm,h.top,h.tb⟩
theorem TL {nm:Bs}(hn:nm.length<=32):(x8 nm).length<=36:=by
 unfold x8;rw[lla];show 4+nm.length<=36;omega
theorem a1N (t:Bs):Tx20 t\/6000<t.length:=by
 by_cases h:t.length<=6000
 ·exact .inl ⟨h,λ_=>trivial⟩
 exact .inr om
section
variable {N:Nat} {nm:Bs} {z:SpX} {bs:List BlkX} {ws:List Bs} {dd:Bool} {t:Int}
theorem SpG.cg (h:SpG N nm z bs ws dd)(hn:nm.length<=32):CG z.c:=by
 have hk:=TL hn;have h0:CG (F5 nm (x8 nm) w9 bs ws false):=Xu bD h.l.g h.b om;rw[h.c];cases dd
 ·exact h0
 exact b0V h0
theorem SpG.sc (h:SpG N nm z bs ws dd)(hn:nm.length<=32)(hN:N<=180):SpC z:=by
 have hbi:=h.l.bi;have hr:=h.r;refine⟨h.cg hn,by rw[h.c];exact h.l.ws.l,λhd=>?_,om,h.l.dv,h.l.r.a,h.l.r.l,by have:=h.n;omega⟩;rw[h.c] at hd;obtain rfl:dd=false:=hd;rw[h.s,h.c];exact Di bD (h.l.al rfl) om h.l.ws
theorem LvI.up {x:DvX}(h:LvI N x bs ws dd):LvI (N+1) x bs ws dd:=⟨h.dv,h.r,h.g,h.al,h.cr,Nat.le_succ_of_le h.bi,h.ws⟩
theorem SpG.up (h:SpG N nm z bs ws dd):SpG (N+1) nm z bs ws dd:=⟨h.l.up,h.s,h.c,h.b,by have:=h.r;omega,h.n⟩
theorem SpG.sub (h:SpG N nm z bs ws dd)(s:Bs):∃ ws',SpG (N+1) nm (K7 z s) bs ws' dd:=by
 obtain⟨ws',h1,h2⟩:=a2Y (nm:=nm) (ky:=x8 nm) (d:=w9) (bs:=bs) (ws:=ws) (t:=s) (dd:=dd) h.l.ws (a1N s);exact⟨ws',h.l.sub h2,h.s,by rw[<- h1,<- h.c];rfl,h.b,by have:=h.r;exact Nat.le_trans this om,h.n⟩
theorem SpG.arm (h:SpG N nm z bs ws dd){n:Int}(hn:n<=1000):SpG (N+1) nm (Eh z n) bs ws dd:=by
 have h3:=h.n;have e:(wM z.x n).n=z.x.n:=rfl;exact⟨h.l.arm om hn,h.s,h.c,h.b,by have:=h.r;exact Nat.le_trans this om,by show 3<=(wM z.x n).n;rw[e];exact h3⟩
theorem MG:WsG []:=⟨dc,sm⟩
theorem SpG.live {x:DvX}{rp:List Rep}(h:Ro x bs)(hb:1<=bs.length/\bs.length<=N)(hr:rp.length<=16*N):SpG N nm (mR x nm bs rp) bs [] false:=
 ⟨TD h hb.2 MG,rfl,rfl,hb.1,hr,h.n⟩
theorem SpG.cut (h:SpG N nm z bs ws dd)(hN:N<=180):∃ bs' ws' dd',SpG (N+1) nm (O4 z t).1 bs' ws' dd' /\
  ((O4 z t).2=true->dd=false/\bs'=bs++[J7 bs ws t]/\ws'=[]/\dd'=false/\(O4 z t).1.rp=z.rp++(M4 (j3 (opC nm (x8 nm) w9 bs)) (J7 bs ws t)).2.1) /\
  ((O4 z t).2=false->bs'=bs/\ws'=ws/\(O4 z t).1.rp=z.rp):=by
 have hbi:=h.l.bi;have hr:=h.r;cases dd;rotate_left
 ·have e:O4 z t=(z,false):=by
   unfold O4;rw[if_pos (by rw[h.c];rfl)]
  rw[e];exact⟨bs,ws,true,h.up,λh=>(by cases h),λ_=>⟨rfl,rfl,rfl⟩⟩
 have hR:=h.l.al rfl;have hl:bs.length<189:=by omega
 have hc:=UK (nm:=nm) (ky:=x8 nm) bD hR hl h.l.ws t;have hin:=Re (nm:=nm) (ky:=x8 nm) (t:=t) bD hR hl h.l.ws;have hs:z.s=J3 bs:=h.s;have hrl:(fG z.x (J3 bs) (F5 nm (x8 nm) w9 bs ws false) t).length<=16:=by
  have h1:=(yR (h:=(dP (F5 nm (x8 nm) w9 bs ws false) t).h) (t:=(dP (F5 nm (x8 nm) w9 bs ws false) t).t) (l:=(dP (F5 nm (x8 nm) w9 bs ws false) t).x) (q:=(j3 (F5 nm (x8 nm) w9 bs ws false),[],[]))).1;have h2:(dP (F5 nm (x8 nm) w9 bs ws false) t).x.length<=16:=h.l.ws.l;have h3:(M4 (j3 (F5 nm (x8 nm) w9 bs ws false)) (dP (F5 nm (x8 nm) w9 bs ws false) t)).2.1.length=(dP (F5 nm (x8 nm) w9 bs ws false) t).x.length:=h1.trans (Nat.zero_add _);unfold fG;split
  ·omega
  exact Nat.zero_le _
 have e:O4 z t=({ z with x:=(R5 z.x (J3 bs) (F5 nm (x8 nm) w9 bs ws false) t).1,s:=(R5 z.x (J3 bs) (F5 nm (x8 nm) w9 bs ws false) t).2.1,c:=wO z.x (J3 bs) (F5 nm (x8 nm) w9 bs ws false) t,rp:=z.rp++fG z.x (J3 bs) (F5 nm (x8 nm) w9 bs ws false) t },decide ((R5 z.x (J3 bs) (F5 nm (x8 nm) w9 bs ws false) t).2.2=0)):=by
  unfold O4;rw[if_neg (by rw[h.c];show ¬ (false=true);decide),hs,h.c]
 rw[e];dsimp only;have hR':(z.rp++fG z.x (J3 bs) (F5 nm (x8 nm) w9 bs ws false) t).length<=16*(N+1):=by
  rw[lla];omega
 generalize hA:(R5 z.x (J3 bs) (F5 nm (x8 nm) w9 bs ws false) t).1=A at *;generalize hB:(R5 z.x (J3 bs) (F5 nm (x8 nm) w9 bs ws false) t).2.1=B at *;generalize hE:(R5 z.x (J3 bs) (F5 nm (x8 nm) w9 bs ws false) t).2.2=E at *;generalize wO z.x (J3 bs) (F5 nm (x8 nm) w9 bs ws false) t=C at *;generalize fG z.x (J3 bs) (F5 nm (x8 nm) w9 bs ws false) t=R at *;cases hc with
 | full hf=>exact⟨bs,ws,false,⟨h.l.up,rfl,rfl,h.b,hR',h.n⟩,λh=>absurd (of_decide_eq_true h) dc,λ_=>⟨rfl,rfl,List.append_nil _⟩⟩
 | lost y hy ha ho hrm=>exact⟨bs,ws,true,⟨Qa hR hl h.l.ws hy ho hrm hin (by have h5:=hbi;show bs.length+1<=N+1;exact Nat.succ_le_succ (Nat.le_trans (Nat.le_add_right _ _) h5)),rfl,rfl,h.b,hR',by show 3<=A.n;rw[hy];exact h.n⟩,λh=>absurd (of_decide_eq_true h) dc,λ_=>⟨rfl,rfl,List.append_nil _⟩⟩
 | yes y hy ha hRo=>exact⟨_,[],false,⟨TD hRo (by rw[lla,List.length_singleton];exact Nat.succ_le_succ (Nat.le_trans (Nat.le_add_right _ _) hbi)) MG,rfl,rfl,by rw[lla,List.length_singleton];omega,hR',by show 3<=A.n;rw[hy];exact h.n⟩,λ_=>⟨rfl,rfl,rfl,rfl,rfl⟩,λh=>absurd h dc⟩
end
end Go.Proofs.Z

namespace Go.Proofs.Z
open Go Go.RowKit Tw Av Go.Proofs.Tryz
instance : FnB prog 63 := ⟨kr⟩
instance : FnB prog 64 := ⟨kr⟩
instance : FnB prog 65 := ⟨kr⟩
instance : FnB prog 66 := ⟨kr⟩
instance : FnB prog 67 := ⟨kr⟩
instance : FnB prog 68 := ⟨kr⟩
instance : FnB prog 69 := ⟨kr⟩
instance : FnB prog 70 := ⟨kr⟩
instance : FnB prog 71 := ⟨kr⟩
inductive SubT (z o:SpX)(p:PlX):Bs->Prop
 | send (h:p.k=1):SubT z o p (j6 (U1 [120] [97,110,110] [98,111,98] p.n (A9 (j3 z.c) [107])))
 | home (h:p.k=2):SubT z o p (j6 (U1 [99,47,120] [98,111,98] [97,110,110] p.n (A9 (j3 z.c) [107])))
 | header (h:p.k=4):SubT z o p (j6 (O3 o.c))
 | relay (x:TxX) (h:p.k=5) (hx:JF z.c o.c p.n=some x):SubT z o p (j6 x)
 | tx (h:p.k=6):SubT z o p p.tx
 | fund (h:p.k=9):SubT z o p (j6 (uY p.n))
inductive PlS (nz:Bs)(z o:SpX)(bs:List BlkX)(ws:List Bs)(dd:Bool)(p:PlX):Bool->SpX->List BlkX->List Bs->Bool->Prop
 | sub (s:Bs) (h:SubT z o p s) (ws':List Bs):PlS nz z o bs ws dd p (decide (R6 z.c s=0)) (K7 z s) bs ws' dd
 | none (h:p.k≠3/\p.k≠8):PlS nz z o bs ws dd p false z bs ws dd
 | cut (h:p.k=3) (bs':List BlkX) (ws':List Bs) (dd':Bool) (h1:(O4 z (M6 z.c+aT p.n 4)).2=true->dd=false/\bs'=bs++[J7 bs ws (M6 z.c+aT p.n 4)]/\ws'=[]/\dd'=false/\(O4 z (M6 z.c+aT p.n 4)).1.rp=z.rp++(M4 (j3 (opC nz (x8 nz) w9 bs)) (J7 bs ws (M6 z.c+aT p.n 4))).2.1)
   (h2:(O4 z (M6 z.c+aT p.n 4)).2=false->bs'=bs/\ws'=ws/\(O4 z (M6 z.c+aT p.n 4)).1.rp=z.rp):PlS nz z o bs ws dd p (O4 z (M6 z.c+aT p.n 4)).2 (O4 z (M6 z.c+aT p.n 4)).1 bs' ws' dd'
 | arm (h:p.k=7):PlS nz z o bs ws dd p true (Eh z (aT p.n 64)) bs ws dd
 | crash (h:p.k=8) (l:List BlkX) (h1:Ro (Y3 z.x p.keep p.torn p.cut) (bs++l)) (h2:l.length<=OY dd):PlS nz z o bs ws dd p true (mR (Y3 z.x p.keep p.torn p.cut) nz (bs++l) z.rp) (bs++l) [] false
section
variable {nz no:Bs} {q qo:SpI} {z o:SpX} {gx ga gb:Nat} {p:PlX} {id:Option Value}
set_option maxRecDepth 100000 in
theorem a8Q (hi:p.s=0/\ga=q.g/\gb=qo.g\/p.s=1/\ga=qo.g/\gb=q.g)(hk:JM gx p.k=.lit .nilFunc) :
  Av.Spec prog GL 11 [ptr gx,K9 p id] (C8 gx ga gb nz no q qo z o) λu m=>∃ q':SpI,q'.g=q.g/\u=d9 false/\m=C8 gx ga gb nz no q' qo z o:=by
 rcases hi with⟨hs0,rfl,rfl⟩|⟨hs1,rfl,rfl⟩
 ·refine zc func11 ntmps11 λ_ hs=>?_;repeat' first|refine O ?_|intro
  rw[hs0];repeat' first|refine O ?_|intro
  rw[hk];repeat' first|refine O ?_|intro
  apply zd [];exact zg;intro _ _;refine Es kr ?_;exact j5 (A7 rfl rfl);repeat' first|refine O ?_|intro
  exact j4 _ ⟨q,rfl,rfl,rfl⟩ (List.sublist_cons_self _ _)
 refine zc func11 ntmps11 λ_ hs=>?_;repeat' first|refine O ?_|intro
 rw[hs1];repeat' first|refine O ?_|intro
 rw[hk];repeat' first|refine O ?_|intro
 apply zd [];exact zg;intro _ _;refine Es kr ?_;exact j5 (A7 rfl rfl);repeat' first|refine O ?_|intro
 exact j4 _ ⟨q,rfl,rfl,rfl⟩ (List.sublist_cons_self _ _)
end
theorem a4I {gx:Nat}{k:Int}(h:¬ (1<=k/\k<=9)):JM gx k=.lit .nilFunc:=by
 unfold JM;rw[if_neg om,if_neg om,if_neg om,if_neg om,if_neg om,if_neg om,if_neg om,if_neg om,if_neg om]
section
variable {N M:Nat} {nz no:Bs} {z o:SpX} {bs bo:List BlkX} {ws wo:List Bs} {dd d2:Bool} {p:PlX}
theorem JN (hz:SpG N nz z bs ws dd)(ho:SpG M no o bo wo d2)(hnz:1<=nz.length/\nz.length<=32)(hno:no.length<=32)(hN:N<=180)(hM:M<=180) :
  ∃ b z' bs' ws' dd',PlS nz z o bs ws dd p b z' bs' ws' dd'/\SpG (N+1) nz z' bs' ws' dd'/\∀ (q qo:SpI) (gx ga gb:Nat) (id:Option Value),(p.s=0/\ga=q.g/\gb=qo.g\/p.s=1/\ga=qo.g/\gb=q.g) ->
   Av.Spec prog GL 11 [ptr gx,K9 p id] (C8 gx ga gb nz no q qo z o) λu m=>∃ q':SpI,q'.g=q.g/\u=d9 b/\m=C8 gx ga gb nz no q' qo z' o:=by
 have hC:=hz.sc hnz.2 hN;have hD:=ho.sc hno hM;by_cases hk:1<=p.k/\p.k<=9
 rotate_left
 ·exact⟨_,_,_,_,_,.none om,hz.up,λq qo gx ga gb id hi=>a8Q hi (a4I hk)⟩
 obtain hk|hk|hk|hk|hk|hk|hk|hk|hk:p.k=1\/p.k=2\/p.k=3\/p.k=4\/p.k=5\/p.k=6\/p.k=7\/p.k=8\/p.k=9:=by omega
 ·obtain⟨ws',hg⟩:=hz.sub (j6 (U1 [120] [97,110,110] [98,111,98] p.n (A9 (j3 z.c) [107])));refine⟨_,_,bs,ws',dd,.sub _ (.send hk) ws',hg,λq qo gx ga gb id hi=>rT (D6 nz q z) (D6 no qo o) hi (by rw[hk];rfl) lpr ((Tc (qo:=qo) hC).mono ?_)⟩;rintro u m ⟨v,hu,rfl⟩;exact⟨{ q with v:=v },rfl,hu,rfl⟩
 ·obtain⟨ws',hg⟩:=hz.sub (j6 (U1 [99,47,120] [98,111,98] [97,110,110] p.n (A9 (j3 z.c) [107])));refine⟨_,_,bs,ws',dd,.sub _ (.home hk) ws',hg,λq qo gx ga gb id hi=>rT (D6 nz q z) (D6 no qo o) hi (by rw[hk];rfl) lpr ((Td (qo:=qo) hC).mono ?_)⟩;rintro u m ⟨v,hu,rfl⟩;exact⟨{ q with v:=v },rfl,hu,rfl⟩
 ·obtain⟨bs',ws',dd',hg,h1,h2⟩:=hz.cut (t:=M6 z.c+aT p.n 4) hN;refine⟨_,_,bs',ws',dd',.cut hk bs' ws' dd' h1 h2,hg,λq qo gx ga gb id hi=>rT (D6 nz q z) (D6 no qo o) hi (by rw[hk];rfl) lpr ((Te (qo:=qo) hC).mono ?_)⟩;rintro u m ⟨v,r,hu,rfl⟩;exact⟨{ q with v:=v,r:=r },rfl,hu,rfl⟩
 ·obtain⟨ws',hg⟩:=hz.sub (j6 (O3 o.c));refine⟨_,_,bs,ws',dd,.sub _ (.header hk) ws',hg,λq qo gx ga gb id hi=>rT (D6 nz q z++D6 no qo o) [] hi (by rw[hk];rfl) (by rw[List.append_nil]) ((a8F (qo:=qo) hC hD).mono ?_)⟩;rintro u m ⟨v,hu,rfl⟩;exact⟨{ q with v:=v },rfl,hu,List.append_nil _⟩
 ·have hS:=λ(q qo:SpI) (gx:Nat) (id:Option Value)=>a8E (nz:=nz) (no:=no) (q:=q) (qo:=qo) (gx:=gx) (p:=p) (id:=id) hC hD;cases hr:JF z.c o.c p.n with
  | none=>
   simp only[hr] at hS;refine⟨_,_,_,_,_,.none om,hz.up,λq qo gx ga gb id hi=>rT (D6 nz q z++D6 no qo o) [] hi (by rw[hk];rfl) (by rw[List.append_nil]) ((hS q qo gx id).mono ?_)⟩;rintro u m ⟨hu,rfl⟩;exact⟨q,rfl,hu,List.append_nil _⟩
  | some x=>
   simp only[hr] at hS;obtain⟨ws',hg⟩:=hz.sub (j6 x);refine⟨_,_,bs,ws',dd,.sub _ (.relay x hk hr) ws',hg,λq qo gx ga gb id hi=>rT (D6 nz q z++D6 no qo o) [] hi (by rw[hk];rfl) (by rw[List.append_nil]) ((hS q qo gx id).mono ?_)⟩;rintro u m ⟨v,hu,rfl⟩;exact⟨{ q with v:=v },rfl,hu,List.append_nil _⟩
 ·obtain⟨ws',hg⟩:=hz.sub p.tx;refine⟨_,_,bs,ws',dd,.sub _ (.tx hk) ws',hg,λq qo gx ga gb id hi=>rT (D6 nz q z) (D6 no qo o) hi (by rw[hk];rfl) lpr ((a8D (qo:=qo) hC).mono ?_)⟩;rintro u m ⟨v,hu,rfl⟩;exact⟨{ q with v:=v },rfl,hu,rfl⟩
 ·have hrs:=JE p.n (m:=64) dc;refine⟨_,_,bs,ws,dd,.arm hk,hz.arm om,λq qo gx ga gb id hi=>rT (D6 nz q z) (D6 no qo o) hi (by rw[hk];rfl) lpr ((a8H (qo:=qo)).mono ?_)⟩;rintro u m ⟨hu,rfl⟩;exact⟨q,rfl,hu,rfl⟩
 ·obtain⟨l,h1,h2⟩:=hz.l.cr p.keep p.torn p.cut;have hbi:=hz.l.bi;have hb:=hz.b;have hr:=hz.r;refine⟨_,_,bs++l,[],false,.crash hk l h1 h2,SpG.live h1 (by rw[lla];omega) om,λq qo gx ga gb id hi=>rT (D6 nz q z) (D6 no qo o) hi (by rw[hk];rfl) lpr ((Tf (qo:=qo) hC hnz h1).mono ?_)⟩;rintro u m ⟨q',hg,hu,rfl⟩;exact⟨q',hg,hu,rfl⟩
 obtain⟨ws',hg⟩:=hz.sub (j6 (uY p.n));refine⟨_,_,bs,ws',dd,.sub _ (.fund hk) ws',hg,λq qo gx ga gb id hi=>rT (D6 nz q z) (D6 no qo o) hi (by rw[hk];rfl) lpr ((a8G (qo:=qo) hC).mono ?_)⟩;rintro u m ⟨v,hu,rfl⟩;exact⟨{ q with v:=v },rfl,hu,rfl⟩
end
end Go.Proofs.Z
