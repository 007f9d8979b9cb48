/- . -/
import Derived.Test.YtjhnaegpchadiaaGreatDoorN39
set_option maxHeartbeats 64000000
namespace Go.Proofs.YtjhnaegpchadiaaGreatDoor
open Go Go.RowKit Tw Av Go.Proofs.Tryz
theorem pO {α:Type _}(l:List α)(d:α)(b:List Nat){n:Nat}(hn:l.length=n:=by exact rfl)(h:(List.range n).isPerm b=true:=by kernel_rfl):l.Perm (b.map fun i=>l.getD i d):=by
 subst hn;have h1:=(List.isPerm_iff.1 h).map fun i=>l.getD i d;have h2:(List.range l.length).map (fun i=>l.getD i d)=l:=by
  apply List.ext_getElem
  ·simp
  ·intro i h3 h4;simp[h4]
 rw[h2] at h1;exact h1
abbrev pR:Av.Piece:=.tail 0 0 (.bool true)
section
variable {P:Program} {N:Nat} {ops:Array Oper} {Q:Exit->Act->World->Prop} {rest:List Oper} {s:Av.Base} {e:Av.Env} {m:List Av.Piece} {d:Nat} {ty:TypeId} {pos:String} {af:Array Edge}
theorem Mt {T:TypeId}(h:∀ g,AL P N ops Q s rest ((d,aA g)::e) (.obj g (O6 [] 0)::m))(hd:Nat.blt d N=true:=by exact rfl):AL P N ops Q s (⟨some d,.makeMap T none,ty,pos,af,none⟩::rest) e m:=
 iD (fun ok w A hS hA=>by
  obtain⟨ok',g1,g2⟩:=hS.newObj (o:=O6 [] 0) rfl;exact⟨_,.map (some w.heap.size),w.alloc (O6 [] 0),ok',_,by simp[execOp,Instr.makeMap,newObj,Sem.run];rfl,RVl rfl,g1,g2,h w.heap.size⟩) hd
end
theorem XL {k:Int}{J:List Av.Piece}{L g1 g2:Nat}{ok:Ok}{w:World}(hS:St (Q0 GL (U5 g1 g2 K5 k++J) ok w) ok (U5 g1 g2 K5 k++J) w) :
  Calls prog 91 #[.func (.yield L) #[] #[],.pointer (some ⟨g1,0,none⟩),.pointer (some ⟨g2,0,none⟩)] w (Back (Q0 GL (U5 g1 g2 K5 k++J) ok w) fun _ m'=>m'=U5 g1 g2 K5 k++J):=by
 refine UK (gl:=GL) (m:=U5 g1 g2 K5 k++J) (args:=[yv L,ptr g1,ptr g2]) (cargs:=[.func (.yield L) #[] #[],.pointer (some ⟨g1,0,none⟩),.pointer (some ⟨g2,0,none⟩)]) func91 rfl ntmps91 rfl hS ⟨_,_,rfl,RV0.of_lit rfl,_,_,rfl,RV0.of_lit rfl,_,_,rfl,RV0.of_lit rfl,rfl⟩ ?_;have hs:(Q0 GL (U5 g1 g2 K5 k++J) ok w).gl=GL:=rfl;generalize Q0 GL (U5 g1 g2 K5 k++J) ok w=sB at hs ⊢;clear hS;repeat' first|refine Zz ?_|intro _
 refine y5 (α:=Unit) (fun _=>[(0,yv L),(1,ptr g1),(2,ptr g2),(7,A7),(8,int 0),(9,int 0)]) (fun _=>U5 g1 g2 K5 k++J) (fun _=>True) (fun _=>0) () ⟨rfl,rfl,rfl,rfl,rfl,rfl,trivial⟩ slr trivial ?_;rintro⟨⟩ _;repeat' first|refine Zz ?_|intro _
 exact iW _ rfl slr
instance b1g {i:Bs}:Ans prog GL 9 [K5,str i] True (int 0):=⟨fun _=>by
 have hd:DOk ([]:List Ent):=.nil;refine qF func9 ntmps9 fun _ hs=>?_;repeat' first|refine Zz ?_|intro _
 refine jL 9 (v':=dA []) (show Imp (.agg 1 [.lit (.slice none 0 0)]) (.agg 1 [.sl 2 [] none]) from ImpR.imp) ?_;repeat' first|refine Zz ?_|intro _
 exact d9 rfl⟩
theorem a3c {ga gb gs0 gs1:Nat}{a1 a2 a3 a4 b1 b2 b3 b4:Value}{c0 c1:ChX}{i:Bs}(hk0:(c0.hs.length<c0.ms.length/\c0.ms.length<=1000000)/\DOk (o7 c0))(_:c0.ev=[])(_:((c1.hs.length<=1000000/\c1.ky.length<=1000000)/\∀ y∈c1.hs,y.h<=9223372036854775807/\y.t<=9223372036854775807))(hm1:c1.ms.length<=1000000)(hv1:c1.ev=[]):Av.Spec prog GL 16 [ptr ga,ptr gb,str i] [.var ga 108 (A9 gs0 a1 a2 a3 a4 c0),.var gb 108 (A9 gs1 b1 b2 b3 b4 c1)] fun u m=>u=A7/\m=[.var ga 108 (A9 gs0 a1 a2 a3 a4 c0),.var gb 108 (A9 gs1 b1 b2 b3 b4 c1)]:=by
 refine DT func16 rfl ntmps16 rfl (fun sB hs=>?_);repeat' first|refine Zz ?_|intro _
 rename_i gto gk gd go;refine I8 (args:=[ptr gb,int (E9 (o7 c0) i)]) [] _ (by rw[hs];exact JA rfl rfl) (fun u m1 hh=>?_) lpr;obtain⟨g1,g2,rfl,rfl⟩:=hh;repeat' first|refine Zz ?_|intro _
 refine GU (gf:=91) (lb:=[.pointer (some ⟨g1,0,none⟩),.pointer (some ⟨g2,0,none⟩)]) (by simp[Value.oneCell']) (fun ok w a fn hS ha ok1 w1 st1 hS1 ha1=>?_);generalize hr0:tN fn a _ _ _ w=r0 at hS1 ⊢;have e1:r0.state=.ready:=by rw[<- hr0]
 have e2:r0.pending=none:=by rw[<- hr0]
 generalize hD:w.heap.size=D at hS1 ⊢;have hS2:=hS1.perm (m':=(U5 g1 g2 (ptr gb) (E9 (o7 c0) i)++(.var gb 108 (A9 gs1 b1 b2 b3 b4 c1)::[.obj (D+1) (.loop r0),.obj D (.deferred (some [])),.var go 67 A7,.var gd 56 (dA (if 0<=E9 (o7 c0) i/\E9 (o7 c0) i<c1.ms.length then c1.ms.getD (E9 (o7 c0) i).toNat [] else [])),.var gk 3 (int (E9 (o7 c0) i)),.var gto 24 (ptr ga),.var ga 108 (A9 gs0 a1 a2 a3 a4 c0)]))++[]) (List.Perm.symm (pO _ pR [2,3,9,0,1,4,5,6,7,8]));have hIt:=XY (ok0:=ok1) (w0:=w1) (L:=D+1) (g1:=g1) (g2:=g2) (k:=E9 (o7 c0) i) (A:=Unit) (z0:=()) (J:=fun _=>[.obj (D+1) (.loop r0),.obj D (.deferred (some [])),.var go 67 A7,.var gd 56 (dA (if 0<=E9 (o7 c0) i/\E9 (o7 c0) i<c1.ms.length then c1.ms.getD (E9 (o7 c0) i).toNat [] else [])),.var gk 3 (int (E9 (o7 c0) i)),.var gto 24 (ptr ga),.var ga 108 (A9 gs0 a1 a2 a3 a4 c0)]) (G:=fun pre _=>pre=[]) (B:=fun _ _=>False) (fun pre x _ _ hp=>by
  have h0:lJ c1.ev (E9 (o7 c0) i)=[]:=by rw[hv1];rfl
  rw[h0] at hp;have:=hp.length_le;simp at this) rfl (by rw[hv1];exact Nat.zero_le _) (Stp.refl _ _) (by rw[<- hs];exact hS2.lend)
 refine Calls.mono hIt fun x w2 hx=>?_;obtain⟨v,m',ok',cv,hK,rfl,hv,hSt⟩:=hx;have hSt':=hS2.back (fr:=[]) (by rw[hs];exact hSt);rw[List.append_nil] at hSt';have hmk:qC w=[{ target:=.collected D,args:=#[] }]:=by rw[<- hD]
 obtain⟨_,rfl⟩:([]:List Pkt)=[]/\m'=U5 g1 g2 (ptr gb) (E9 (o7 c0) i)++(.var gb 108 (A9 gs1 b1 b2 b3 b4 c1)::[.obj (D+1) (.loop r0),.obj D (.deferred (some [])),.var go 67 A7,.var gd 56 (dA (if 0<=E9 (o7 c0) i/\E9 (o7 c0) i<c1.ms.length then c1.ms.getD (E9 (o7 c0) i).toNat [] else [])),.var gk 3 (int (E9 (o7 c0) i)),.var gto 24 (ptr ga),.var ga 108 (A9 gs0 a1 a2 a3 a4 c0)]):=by
  rcases hK with⟨_,_,h⟩|⟨_,_,_,h,_⟩
  ·exact⟨rfl,h⟩
  ·exact h.elim
 refine⟨cv,ok',r0,[.obj D (.deferred (some [])),.var g2 3 (int (E9 (o7 c0) i)),.var g1 24 (ptr gb),.var go 67 A7,.var gd 56 (dA (if 0<=E9 (o7 c0) i/\E9 (o7 c0) i<c1.ms.length then c1.ms.getD (E9 (o7 c0) i).toNat [] else [])),.var gk 3 (int (E9 (o7 c0) i)),.var gto 24 (ptr ga),.var ga 108 (A9 gs0 a1 a2 a3 a4 c0),.var gb 108 (A9 gs1 b1 b2 b3 b4 c1)],rfl,by rw[e1];decide,hSt'.perm (List.Perm.symm (pO _ pR [3,4,0,1,5,6,7,8,9,2])),hSt.stp,fun ok3 w3 hS3 st3=>?_⟩;rw[e2,hmk];dsimp only;refine(?_:AED 68 [{ target:=.collected D,args:=#[] }] .normal _ sB _ _) ok3 w3 a hS3 (((ha.stp st1).stp hSt.stp).stp st3);refine GK ?_;refine qO (CE (CG (α:=Unit) (fun _=>[(6,A7)]) (fun _=>.obj (D+1) (.loop { r0 with state:=.exhausted })::[.obj D (.deferred (some [])),.var g2 3 (int (E9 (o7 c0) i)),.var g1 24 (ptr gb),.var go 67 A7,.var gd 56 (dA (if 0<=E9 (o7 c0) i/\E9 (o7 c0) i<c1.ms.length then c1.ms.getD (E9 (o7 c0) i).toNat [] else [])),.var gk 3 (int (E9 (o7 c0) i)),.var gto 24 (ptr ga),.var ga 108 (A9 gs0 a1 a2 a3 a4 c0),.var gb 108 (A9 gs1 b1 b2 b3 b4 c1)]) ?_ (fun _=>?_)))
 ·repeat' (first|refine O3 ?_|refine M7 ?_|refine U0 ?_|intro _|simp only[List.set]|fail)
  exact j4 (X7 () ⟨rfl,trivial⟩ slr)
 refine qO (CF (MZ ?_));refine BZ (D:=D) (m1:=.obj (D+1) (.loop { r0 with state:=.exhausted })::[.var g2 3 (int (E9 (o7 c0) i)),.var g1 24 (ptr gb),.var go 67 A7,.var gd 56 (dA (if 0<=E9 (o7 c0) i/\E9 (o7 c0) i<c1.ms.length then c1.ms.getD (E9 (o7 c0) i).toNat [] else [])),.var gk 3 (int (E9 (o7 c0) i)),.var gto 24 (ptr ga),.var ga 108 (A9 gs0 a1 a2 a3 a4 c0),.var gb 108 (A9 gs1 b1 b2 b3 b4 c1)]) rfl (List.Perm.swap _ _ _) (sW (sZ rfl rfl) lM) (.inl rfl) ⟨rfl,rfl⟩ ?_;exact x9
theorem a4t {gb gs1:Nat}{b1 b2 b3 b4:Value}{c1:ChX}(hv1:c1.ev=[]):Av.Spec prog GL 47 [ptr gb] [.var gb 108 (A9 gs1 b1 b2 b3 b4 c1)] fun u m=>∃ g,u=aA g/\m=.obj g (O6 [] 0)::[.var gb 108 (A9 gs1 b1 b2 b3 b4 c1)]:=by
 refine qF func47 ntmps47 fun _ hs=>?_;have hl1:c1.ev.length<=1000000:=by rw[hv1];exact Nat.zero_le _
 repeat' first|refine Zz ?_|intro _
 refine Mt (fun gA=>?_);repeat' first|refine Zz ?_|intro _
 rw[show (c1.ev.map U3).length=0 by rw[hv1];rfl];refine y5 (α:=Unit) (fun _=>[(3,aA gA),(8,.sl 15 (c1.ev.map U3) none),(9,int 0),(10,int 0)]) (fun _=>.obj gA (O6 [] 0)::[.var gb 108 (A9 gs1 b1 b2 b3 b4 c1)]) (fun _=>True) (fun _=>0) () ⟨rfl,rfl,rfl,rfl,trivial⟩ slr trivial ?_;rintro⟨⟩ _;repeat' first|refine Zz ?_|intro _
 exact l9 _ ⟨gA,rfl,rfl⟩ slr
theorem a4j {ga gb gs0 gs1:Nat}{a1 a2 a3 a4 b1 b2 b3 b4:Value}{c0 c1:ChX}{i:Bs}(hk0:(c0.hs.length<c0.ms.length/\c0.ms.length<=1000000)/\DOk (o7 c0))(hv0:c0.ev=[])(hq1:((c1.hs.length<=1000000/\c1.ky.length<=1000000)/\∀ y∈c1.hs,y.h<=9223372036854775807/\y.t<=9223372036854775807))(hm1:c1.ms.length<=1000000)(hv1:c1.ev=[]):Av.Spec prog GL 17 [ptr ga,ptr gb,str i] [.var ga 108 (A9 gs0 a1 a2 a3 a4 c0),.var gb 108 (A9 gs1 b1 b2 b3 b4 c1)] fun u m=>u=A7/\m=[.var ga 108 (A9 gs0 a1 a2 a3 a4 c0),.var gb 108 (A9 gs1 b1 b2 b3 b4 c1)]:=by
 refine DT func17 rfl ntmps17 rfl (fun sB hs=>?_);repeat' first|refine Zz ?_|intro _
 obtain⟨hX,mX,bX,hif⟩:∃ hX mX bX,(if 1<=E9 (o7 c0) i/\E9 (o7 c0) i<=(c1.hs.length:Int) then AV.tup [V8 (c1.hs.getD (E9 (o7 c0) i-1).toNat ⟨[],0,0,F3⟩),hA (J8 c1.ky (c1.hs.getD (E9 (o7 c0) i-1).toNat ⟨[],0,0,F3⟩)),j3 true] else .tup [V8 ⟨[],0,0,F3⟩,hA F3,j3 false])=.tup [V8 hX,hA mX,j3 bX]:=by
  split
  ·exact⟨_,_,_,rfl⟩
  ·exact⟨_,_,_,rfl⟩
 rw[hif];repeat' first|refine Zz ?_|intro _
 rename_i gto gk gd ghd gma gbo;refine I8 (args:=[ptr gb]) [.var gb 108 (A9 gs1 b1 b2 b3 b4 c1)] [.var gbo 4 (j3 bX),.var gma 34 (hA mX),.var ghd 36 (V8 hX),.var gd 56 (dA (if 0<=E9 (o7 c0) i/\E9 (o7 c0) i<c1.ms.length then c1.ms.getD (E9 (o7 c0) i).toNat [] else [])),.var gk 3 (int (E9 (o7 c0) i)),.var gto 24 (ptr ga),.var ga 108 (A9 gs0 a1 a2 a3 a4 c0)] (by rw[hs];exact a4t hv1) (fun u m1 hh=>?_) (pO _ pR [7,0,1,2,3,4,5,6]);obtain⟨gA,rfl,rfl⟩:=hh;repeat' (first|refine bK ?_|refine O3 ?_|refine U0 ?_|refine M7 ?_|intro _)
 rename_i gva go;refine yX [.var gto 24 (ptr ga),.var ga 108 (A9 gs0 a1 a2 a3 a4 c0),.var go 67 A7,.var gva 122 (aA gA),.obj gA (O6 [] 0),.var gb 108 (A9 gs1 b1 b2 b3 b4 c1),.var gbo 4 (j3 bX),.var gma 34 (hA mX),.var ghd 36 (V8 hX),.var gd 56 (dA (if 0<=E9 (o7 c0) i/\E9 (o7 c0) i<c1.ms.length then c1.ms.getD (E9 (o7 c0) i).toNat [] else [])),.var gk 3 (int (E9 (o7 c0) i))] _ ?_ (List.Perm.symm (pO _ pR [9,10,0,1,2,3,4,5,6,7,8])) slr;repeat' first|refine Zz ?_|intro _
 apply Y8 [];exact rfl;exact rfl;kernel_rfl;kernel_rfl;intro sQ hQ;refine I8 (args:=[ptr ga,int c0.hs.length]) [] [] (by rw[hQ];exact JA rfl rfl) (fun u m1 hh=>?_) lpr;obtain⟨g1,g2,rfl,rfl⟩:=hh;refine j4 (R6 [] (U5 g1 g2 (ptr ga) (c0.hs.length)) rfl rfl lpr rfl ?_);repeat' first|refine Zz ?_|intro _
 refine GU (gf:=91) (lb:=[.pointer (some ⟨g1,0,none⟩),.pointer (some ⟨g2,0,none⟩)]) (by simp[Value.oneCell']) (fun ok w a fn hS ha ok1 w1 st1 hS1 ha1=>?_);generalize hr0:tN fn a _ _ _ w=r0 at hS1 ⊢;have e1:r0.state=.ready:=by rw[<- hr0]
 have e2:r0.pending=none:=by rw[<- hr0]
 generalize hD:w.heap.size=D at hS1 ⊢;have hS2:=hS1.perm (m':=(U5 g1 g2 (ptr ga) (((c0.hs.length:Nat):Int))++(.var ga 108 (A9 gs0 a1 a2 a3 a4 c0)::[.obj (D+1) (.loop r0),.obj D (.deferred (some [])),.var gto 24 (ptr ga),.var go 67 A7,.var gva 122 (aA gA),.obj gA (O6 [] 0),.var gb 108 (A9 gs1 b1 b2 b3 b4 c1),.var gbo 4 (j3 bX),.var gma 34 (hA mX),.var ghd 36 (V8 hX),.var gd 56 (dA (if 0<=E9 (o7 c0) i/\E9 (o7 c0) i<c1.ms.length then c1.ms.getD (E9 (o7 c0) i).toNat [] else [])),.var gk 3 (int (E9 (o7 c0) i))]))++[]) (List.Perm.symm (pO _ pR [13,14,3,0,1,2,4,5,6,7,8,9,10,11,12]));have hIt:=XY (ok0:=ok1) (w0:=w1) (L:=D+1) (g1:=g1) (g2:=g2) (k:=((c0.hs.length:Nat):Int)) (A:=Unit) (z0:=()) (J:=fun _=>[.obj (D+1) (.loop r0),.obj D (.deferred (some [])),.var gto 24 (ptr ga),.var go 67 A7,.var gva 122 (aA gA),.obj gA (O6 [] 0),.var gb 108 (A9 gs1 b1 b2 b3 b4 c1),.var gbo 4 (j3 bX),.var gma 34 (hA mX),.var ghd 36 (V8 hX),.var gd 56 (dA (if 0<=E9 (o7 c0) i/\E9 (o7 c0) i<c1.ms.length then c1.ms.getD (E9 (o7 c0) i).toNat [] else [])),.var gk 3 (int (E9 (o7 c0) i))]) (G:=fun pre _=>pre=[]) (B:=fun _ _=>False) (fun pre x _ _ hp=>by
  have h0:lJ c0.ev (((c0.hs.length:Nat):Int))=[]:=by rw[hv0];rfl
  rw[h0] at hp;have:=hp.length_le;simp at this) rfl (by rw[hv0];exact Nat.zero_le _) (Stp.refl _ _) (by rw[<- hs];exact hS2.lend)
 refine Calls.mono hIt fun x w2 hx=>?_;obtain⟨v,m',ok',cv,hK,rfl,hv,hSt⟩:=hx;have hSt':=hS2.back (fr:=[]) (by rw[hs];exact hSt);rw[List.append_nil] at hSt';have hmk:qC w=[{ target:=.collected D,args:=#[] }]:=by rw[<- hD]
 obtain⟨_,rfl⟩:([]:List Pkt)=[]/\m'=U5 g1 g2 (ptr ga) (((c0.hs.length:Nat):Int))++(.var ga 108 (A9 gs0 a1 a2 a3 a4 c0)::[.obj (D+1) (.loop r0),.obj D (.deferred (some [])),.var gto 24 (ptr ga),.var go 67 A7,.var gva 122 (aA gA),.obj gA (O6 [] 0),.var gb 108 (A9 gs1 b1 b2 b3 b4 c1),.var gbo 4 (j3 bX),.var gma 34 (hA mX),.var ghd 36 (V8 hX),.var gd 56 (dA (if 0<=E9 (o7 c0) i/\E9 (o7 c0) i<c1.ms.length then c1.ms.getD (E9 (o7 c0) i).toNat [] else [])),.var gk 3 (int (E9 (o7 c0) i))]):=by
  rcases hK with⟨_,_,h⟩|⟨_,_,_,h,_⟩
  ·exact⟨rfl,h⟩
  ·exact h.elim
 refine⟨cv,ok',r0,[.obj D (.deferred (some [])),.var gto 24 (ptr ga),.var ga 108 (A9 gs0 a1 a2 a3 a4 c0),.var go 67 A7,.var gva 122 (aA gA),.obj gA (O6 [] 0),.var gb 108 (A9 gs1 b1 b2 b3 b4 c1),.var gbo 4 (j3 bX),.var gma 34 (hA mX),.var ghd 36 (V8 hX),.var gd 56 (dA (if 0<=E9 (o7 c0) i/\E9 (o7 c0) i<c1.ms.length then c1.ms.getD (E9 (o7 c0) i).toNat [] else [])),.var gk 3 (int (E9 (o7 c0) i)),.var g2 3 (int (((c0.hs.length:Nat):Int))),.var g1 24 (ptr ga)],rfl,by rw[e1];decide,hSt'.perm (List.Perm.symm (pO _ pR [3,4,5,2,6,7,8,9,10,11,12,13,14,0,1])),hSt.stp,fun ok3 w3 hS3 st3=>?_⟩;rw[e2,hmk];dsimp only;refine(?_:AED 106 [{ target:=.collected D,args:=#[] }] .normal _ sB _ _) ok3 w3 a hS3 (((ha.stp st1).stp hSt.stp).stp st3);refine GK ?_;refine qO (CE (CG (α:=Unit) (fun _=>[(6,A7)]) (fun _=>.obj (D+1) (.loop { r0 with state:=.exhausted })::[.obj D (.deferred (some [])),.var gto 24 (ptr ga),.var ga 108 (A9 gs0 a1 a2 a3 a4 c0),.var go 67 A7,.var gva 122 (aA gA),.obj gA (O6 [] 0),.var gb 108 (A9 gs1 b1 b2 b3 b4 c1),.var gbo 4 (j3 bX),.var gma 34 (hA mX),.var ghd 36 (V8 hX),.var gd 56 (dA (if 0<=E9 (o7 c0) i/\E9 (o7 c0) i<c1.ms.length then c1.ms.getD (E9 (o7 c0) i).toNat [] else [])),.var gk 3 (int (E9 (o7 c0) i)),.var g2 3 (int (((c0.hs.length:Nat):Int))),.var g1 24 (ptr ga)]) ?_ (fun _=>?_)))
 ·repeat' (first|refine O3 ?_|refine M7 ?_|refine U0 ?_|intro _|simp only[List.set]|fail)
  exact j4 (X7 () ⟨rfl,trivial⟩ slr)
 refine qO (CF ?_);refine BZ (D:=D) (m1:=.obj (D+1) (.loop { r0 with state:=.exhausted })::[.var gto 24 (ptr ga),.var ga 108 (A9 gs0 a1 a2 a3 a4 c0),.var go 67 A7,.var gva 122 (aA gA),.obj gA (O6 [] 0),.var gb 108 (A9 gs1 b1 b2 b3 b4 c1),.var gbo 4 (j3 bX),.var gma 34 (hA mX),.var ghd 36 (V8 hX),.var gd 56 (dA (if 0<=E9 (o7 c0) i/\E9 (o7 c0) i<c1.ms.length then c1.ms.getD (E9 (o7 c0) i).toNat [] else [])),.var gk 3 (int (E9 (o7 c0) i)),.var g2 3 (int (((c0.hs.length:Nat):Int))),.var g1 24 (ptr ga)]) rfl (List.Perm.swap _ _ _) (sW (sZ rfl rfl) lM) (.inl rfl) ⟨rfl,rfl⟩ ?_;exact x9
theorem Vl {ga gb gs0 gs1:Nat}{a1 a2 a3 a4 b1 b2 b3 b4:Value}{c0 c1:ChX}{i:Bs}(hk0:(c0.hs.length<c0.ms.length/\c0.ms.length<=1000000)/\DOk (o7 c0))(hv0:c0.ev=[])(hq1:((c1.hs.length<=1000000/\c1.ky.length<=1000000)/\∀ y∈c1.hs,y.h<=9223372036854775807/\y.t<=9223372036854775807))(hm1:c1.ms.length<=1000000)(hv1:c1.ev=[]):Av.Spec prog GL 15 [ptr ga,ptr gb,str i] [.var ga 108 (A9 gs0 a1 a2 a3 a4 c0),.var gb 108 (A9 gs1 b1 b2 b3 b4 c1)] fun u m=>u=.sl 100 [] none/\m=[.var ga 108 (A9 gs0 a1 a2 a3 a4 c0),.var gb 108 (A9 gs1 b1 b2 b3 b4 c1)]:=by
 refine qF func15 ntmps15 fun _ hs=>?_;repeat' first|refine Zz ?_|intro _
 refine X4 (a3c hk0 hv0 hq1 hm1 hv1) (fun u m1 hh=>?_);obtain⟨rfl,rfl⟩:=hh;repeat' first|refine Zz ?_|intro _
 refine X4 (a4j hk0 hv0 hq1 hm1 hv1) (fun u m1 hh=>?_);obtain⟨rfl,rfl⟩:=hh;refine jL 10 (Imp.nil (k:=100)) ?_;refine jL 14 (Imp.nilN (k:=100)) ?_;refine gG (fun ok w h=>h.full 51 100 none 0) ?_;refine I1 (fun v'=>?_) (hb:=by simp) (hl:=by simp[maxLen]);repeat' first|refine Zz ?_|intro _
 refine Y6 (.sl 100 [] none) [.var ga 108 (A9 gs0 a1 a2 a3 a4 c0),.var gb 108 (A9 gs1 b1 b2 b3 b4 c1)] ?_ ⟨rfl,rfl⟩ ?_
 ·exact(Imp.sl:Imp (.sl 100 [] (some v')) (.sl 100 [] none))
 exact x9
theorem Jj {i:Bs} :Av.Spec prog GL 16 [K5,K5,str i] [] fun u m=>u=A7/\m=[]:=by
 refine DT func16 rfl ntmps16 rfl (fun sB hs=>?_);repeat' first|refine Zz ?_|intro _
 rename_i gto gk gd go;refine I8 (args:=[K5,int (0)]) [] _ (by rw[hs];exact JA rfl rfl) (fun u m1 hh=>?_) lpr;obtain⟨g1,g2,rfl,rfl⟩:=hh;repeat' first|refine Zz ?_|intro _
 refine GU (gf:=91) (lb:=[.pointer (some ⟨g1,0,none⟩),.pointer (some ⟨g2,0,none⟩)]) (by simp[Value.oneCell']) (fun ok w a fn hS ha ok1 w1 st1 hS1 ha1=>?_);generalize hr0:tN fn a _ _ _ w=r0 at hS1 ⊢;have e1:r0.state=.ready:=by rw[<- hr0]
 have e2:r0.pending=none:=by rw[<- hr0]
 generalize hD:w.heap.size=D at hS1 ⊢;have hS2:=hS1.perm (m':=(U5 g1 g2 (K5) (0)++[.obj (D+1) (.loop r0),.obj D (.deferred (some [])),.var go 67 A7,.var gd 56 (.agg 1 [A7]),.var gk 3 (int (0)),.var gto 24 (K5)])++[]) (List.Perm.symm (pO _ pR [2,3,0,1,4,5,6,7]));have hIt:=XL (L:=D+1) (g1:=g1) (g2:=g2) (k:=0) (J:=[.obj (D+1) (.loop r0),.obj D (.deferred (some [])),.var go 67 A7,.var gd 56 (.agg 1 [A7]),.var gk 3 (int (0)),.var gto 24 (K5)]) (by rw[<- hs];exact hS2.lend);refine Calls.mono hIt fun x w2 hx=>?_;obtain⟨v,m',ok',cv,hK,rfl,hv,hSt⟩:=hx;have hSt':=hS2.back (fr:=[]) (by rw[hs];exact hSt);rw[List.append_nil] at hSt';have hmk:qC w=[{ target:=.collected D,args:=#[] }]:=by rw[<- hD]
 subst hK;refine⟨cv,ok',r0,[.obj D (.deferred (some [])),.var g2 3 (int (0)),.var g1 24 (K5),.var go 67 A7,.var gd 56 (.agg 1 [A7]),.var gk 3 (int (0)),.var gto 24 (K5)],rfl,by rw[e1];decide,hSt'.perm (List.Perm.symm (pO _ pR [2,3,0,1,4,5,6,7])),hSt.stp,fun ok3 w3 hS3 st3=>?_⟩;rw[e2,hmk];dsimp only;refine(?_:AED 68 [{ target:=.collected D,args:=#[] }] .normal _ sB _ _) ok3 w3 a hS3 (((ha.stp st1).stp hSt.stp).stp st3);refine GK ?_;refine qO (CE (CG (α:=Unit) (fun _=>[(6,A7)]) (fun _=>.obj (D+1) (.loop { r0 with state:=.exhausted })::[.obj D (.deferred (some [])),.var g2 3 (int (0)),.var g1 24 (K5),.var go 67 A7,.var gd 56 (.agg 1 [A7]),.var gk 3 (int (0)),.var gto 24 (K5)]) ?_ (fun _=>?_)))
 ·repeat' (first|refine O3 ?_|refine M7 ?_|refine U0 ?_|intro _|simp only[List.set]|fail)
  exact j4 (X7 () ⟨rfl,trivial⟩ slr)
 refine qO (CF (MZ ?_));refine BZ (D:=D) (m1:=.obj (D+1) (.loop { r0 with state:=.exhausted })::[.var g2 3 (int (0)),.var g1 24 (K5),.var go 67 A7,.var gd 56 (.agg 1 [A7]),.var gk 3 (int (0)),.var gto 24 (K5)]) rfl (List.Perm.swap _ _ _) (sW (sZ rfl rfl) lM) (.inl rfl) ⟨rfl,rfl⟩ ?_;exact x9
theorem a4s  :Av.Spec prog GL 47 [K5] [] fun u m=>∃ g,u=aA g/\m=.obj g (O6 [] 0)::[]:=by
 refine qF func47 ntmps47 fun _ hs=>?_;repeat' first|refine Zz ?_|intro _
 refine Mt (fun gA=>?_);repeat' first|refine Zz ?_|intro _
 refine y5 (α:=Unit) (fun _=>[(3,aA gA),(8,A7),(9,int 0),(10,int 0)]) (fun _=>.obj gA (O6 [] 0)::[]) (fun _=>True) (fun _=>0) () ⟨rfl,rfl,rfl,rfl,trivial⟩ slr trivial ?_;rintro⟨⟩ _;repeat' first|refine Zz ?_|intro _
 exact l9 _ ⟨gA,rfl,rfl⟩ slr
theorem Lu {i:Bs} :Av.Spec prog GL 17 [K5,K5,str i] [] fun u m=>u=A7/\m=[]:=by
 refine DT func17 rfl ntmps17 rfl (fun sB hs=>?_);repeat' first|refine Zz ?_|intro _
 rename_i gto gk gd ghd gma gbo;refine I8 (args:=[K5]) [] _ (by rw[hs];exact a4s) (fun u m1 hh=>?_) lpr;obtain⟨gA,rfl,rfl⟩:=hh;repeat' (first|refine bK ?_|refine O3 ?_|refine U0 ?_|refine M7 ?_|intro _)
 rename_i gva go;refine yX [.var gto 24 (K5),.var go 67 A7,.var gva 122 (aA gA),.obj gA (O6 [] 0),.var gbo 4 (j3 false),.var gma 34 (hA F3),.var ghd 36 (.agg 35 [str [],int 0,int 0,hA F3]),.var gd 56 (.agg 1 [A7]),.var gk 3 (int (0))] _ ?_ (List.Perm.symm (pO _ pR [8,0,1,2,3,4,5,6,7])) slr;repeat' first|refine Zz ?_|intro _
 apply Y8 [];exact rfl;exact rfl;kernel_rfl;kernel_rfl;intro sQ hQ;refine I8 (args:=[K5,int 0]) [] [] (by rw[hQ];exact JA rfl rfl) (fun u m1 hh=>?_) lpr;obtain⟨g1,g2,rfl,rfl⟩:=hh;refine j4 (R6 [] (U5 g1 g2 (K5) (0)) rfl rfl lpr rfl ?_);repeat' first|refine Zz ?_|intro _
 refine GU (gf:=91) (lb:=[.pointer (some ⟨g1,0,none⟩),.pointer (some ⟨g2,0,none⟩)]) (by simp[Value.oneCell']) (fun ok w a fn hS ha ok1 w1 st1 hS1 ha1=>?_);generalize hr0:tN fn a _ _ _ w=r0 at hS1 ⊢;have e1:r0.state=.ready:=by rw[<- hr0]
 have e2:r0.pending=none:=by rw[<- hr0]
 generalize hD:w.heap.size=D at hS1 ⊢;have hS2:=hS1.perm (m':=(U5 g1 g2 (K5) (0)++[.obj (D+1) (.loop r0),.obj D (.deferred (some [])),.var gto 24 (K5),.var go 67 A7,.var gva 122 (aA gA),.obj gA (O6 [] 0),.var gbo 4 (j3 false),.var gma 34 (hA F3),.var ghd 36 (.agg 35 [str [],int 0,int 0,hA F3]),.var gd 56 (.agg 1 [A7]),.var gk 3 (int (0))])++[]) (List.Perm.symm (pO _ pR [11,12,0,1,2,3,4,5,6,7,8,9,10]));have hIt:=XL (L:=D+1) (g1:=g1) (g2:=g2) (k:=0) (J:=[.obj (D+1) (.loop r0),.obj D (.deferred (some [])),.var gto 24 (K5),.var go 67 A7,.var gva 122 (aA gA),.obj gA (O6 [] 0),.var gbo 4 (j3 false),.var gma 34 (hA F3),.var ghd 36 (.agg 35 [str [],int 0,int 0,hA F3]),.var gd 56 (.agg 1 [A7]),.var gk 3 (int (0))]) (by rw[<- hs];exact hS2.lend);refine Calls.mono hIt fun x w2 hx=>?_;obtain⟨v,m',ok',cv,hK,rfl,hv,hSt⟩:=hx;have hSt':=hS2.back (fr:=[]) (by rw[hs];exact hSt);rw[List.append_nil] at hSt';have hmk:qC w=[{ target:=.collected D,args:=#[] }]:=by rw[<- hD]
 subst hK;refine⟨cv,ok',r0,[.obj D (.deferred (some [])),.var gto 24 (K5),.var go 67 A7,.var gva 122 (aA gA),.obj gA (O6 [] 0),.var gbo 4 (j3 false),.var gma 34 (hA F3),.var ghd 36 (.agg 35 [str [],int 0,int 0,hA F3]),.var gd 56 (.agg 1 [A7]),.var gk 3 (int (0)),.var g2 3 (int (0)),.var g1 24 (K5)],rfl,by rw[e1];decide,hSt'.perm (List.Perm.symm (pO _ pR [2,3,4,5,6,7,8,9,10,11,12,0,1])),hSt.stp,fun ok3 w3 hS3 st3=>?_⟩;rw[e2,hmk];dsimp only;refine(?_:AED 106 [{ target:=.collected D,args:=#[] }] .normal _ sB _ _) ok3 w3 a hS3 (((ha.stp st1).stp hSt.stp).stp st3);refine GK ?_;refine qO (CE (CG (α:=Unit) (fun _=>[(6,A7)]) (fun _=>.obj (D+1) (.loop { r0 with state:=.exhausted })::[.obj D (.deferred (some [])),.var gto 24 (K5),.var go 67 A7,.var gva 122 (aA gA),.obj gA (O6 [] 0),.var gbo 4 (j3 false),.var gma 34 (hA F3),.var ghd 36 (.agg 35 [str [],int 0,int 0,hA F3]),.var gd 56 (.agg 1 [A7]),.var gk 3 (int (0)),.var g2 3 (int (0)),.var g1 24 (K5)]) ?_ (fun _=>?_)))
 ·repeat' (first|refine O3 ?_|refine M7 ?_|refine U0 ?_|intro _|simp only[List.set]|fail)
  exact j4 (X7 () ⟨rfl,trivial⟩ slr)
 refine qO (CF ?_);refine BZ (D:=D) (m1:=.obj (D+1) (.loop { r0 with state:=.exhausted })::[.var gto 24 (K5),.var go 67 A7,.var gva 122 (aA gA),.obj gA (O6 [] 0),.var gbo 4 (j3 false),.var gma 34 (hA F3),.var ghd 36 (.agg 35 [str [],int 0,int 0,hA F3]),.var gd 56 (.agg 1 [A7]),.var gk 3 (int (0)),.var g2 3 (int (0)),.var g1 24 (K5)]) rfl (List.Perm.swap _ _ _) (sW (sZ rfl rfl) lM) (.inl rfl) ⟨rfl,rfl⟩ ?_;exact x9
theorem Vk {i:Bs} :Av.Spec prog GL 15 [K5,K5,str i] [] fun u m=>u=.sl 100 [] none/\m=[]:=by
 refine qF func15 ntmps15 fun _ hs=>?_;repeat' first|refine Zz ?_|intro _
 refine X4 (Jj) (fun u m1 hh=>?_);obtain⟨rfl,rfl⟩:=hh;repeat' first|refine Zz ?_|intro _
 refine X4 (Lu) (fun u m1 hh=>?_);obtain⟨rfl,rfl⟩:=hh;refine jL 10 (Imp.nil (k:=100)) ?_;refine jL 14 (Imp.nilN (k:=100)) ?_;refine gG (fun ok w h=>h.full 51 100 none 0) ?_;refine I1 (fun v'=>?_) (hb:=by simp) (hl:=by simp[maxLen]);repeat' first|refine Zz ?_|intro _
 refine Y6 (.sl 100 [] none) [] ?_ ⟨rfl,rfl⟩ ?_
 ·exact(Imp.sl:Imp (.sl 100 [] (some v')) (.sl 100 [] none))
 exact x9
end Go.Proofs.YtjhnaegpchadiaaGreatDoor

namespace Go.Proofs.YtjhnaegpchadiaaGreatDoor
open Go Go.RowKit Tw Av
attribute [local irreducible] G5 Z6
end Go.Proofs.YtjhnaegpchadiaaGreatDoor



namespace Go.Proofs.YtjhnaegpchadiaaGreatDoor
open Go Go.RowKit Tw Av Go.Proofs.Tryz
section
variable {nm ky:Bs} {d:List Ent} {bs:List BlkX} {ws:List Bs} {x:DvX}
theorem a1D {I:DvI}{gen:List Ent}{xs:List AV}{id:Option Value}(hxs:xs=gen.map D5)(hn:1<=nm.length/\nm.length<=32/\ky.length<=64)(h:Ro x bs)(hg:gen.length<=1000)(hd:DOk (aY gen))(he:aY gen=d) :
  Av.Spec prog GL 18 [ptr I.gd,str nm,str ky,.sl 2 xs id] (F5 I x) fun u m=>∃ J:ChI,J.gd=I.gd/\J.gm=I.gm/\u=.tup [ptr J.gc,int 0]/\m=bD J x (D6 bs) (C9 nm ky d bs [] false):=by
 subst he;obtain⟨h0,h1,h2⟩:=ZA h;have:=a1L (I:=I) (id:=id) hxs hn h.dv (by rw[h.ws];decide) h0 h2 h.bg hg hd;rw[h1,<- UI hd h.bg] at this;exact this
theorem a0X {I:ChI}{s:SlX}{t:Bs}(hw:ws.length<=16)(ht:t.length<=6000) :
  Av.Spec prog GL 38 [ptr I.gc,str t] (bD I x s (C9 nm ky d bs ws false)) fun u m=>(ws.length<16/\u=int 0/\∃ v,m=bD { I with vt:=v } x s (C9 nm ky d bs (ws++[t]) false))\/(ws.length=16/\u=int 15/\∃ v,m=bD { I with vt:=v } x s (C9 nm ky d bs ws false)):=by
 refine(a1K (I:=I) (x:=x) (s:=s) (c:=C9 nm ky d bs ws false) (t:=t) (by show ws.length<=1000000;omega)).mono ?_;rintro u m ⟨rfl,v,rfl⟩;have e:iO (C9 nm ky d bs ws false) t=if 16<=ws.length then 15 else 0:=by
  unfold iO;rw[if_neg (show ¬ (C9 nm ky d bs ws false).dd=true from by show ¬ (false=true);decide),if_neg om];rfl
 unfold zI;rw[e];by_cases hl:16<=ws.length
 ·rw[if_pos hl,if_neg dc];exact .inr ⟨om,rfl,v,rfl⟩
 ·rw[if_neg hl,if_pos rfl];exact .inl ⟨om,rfl,v,rfl⟩
theorem Yn {t:Int}(h:∀ s∈ws,s.length<=1000):(U2 (bs++[G7 bs ws t])).length<=(U2 bs).length+1004*ws.length+44:=by
 rw[xQ,lla];have h1:=PP (K6 (G7 bs ws t));have h2:=MF (G7 bs ws t);have h3:=NV h;have h4:(G7 bs ws t).x=ws:=rfl;rw[h4] at h2;omega
theorem a2T {t:Int}{y:DvX}{s:SlX}{c:ChX}{e:Int}{r:List Rep}(hc:CuS nm ky d x bs ws t y s c e r)(ha:x.ar=false)(hr:((U2 bs).length:Int)+1004*ws.length+44<=J4 x.n)(hw:∀ s∈ws,s.length<=1000) :
  y.n=x.n/\y.ar=false/\Ro y (bs++[G7 bs ws t])/\s=D6 (bs++[G7 bs ws t])/\c=C9 nm ky d (bs++[G7 bs ws t]) [] false/\e=0/\r=(L8 (o7 (opC nm ky d bs)) (G7 bs ws t)).2.1:=by
 have hn:=Yn (bs:=bs) (t:=t) hw;rw[xQ,lla] at hn;cases hc with
 | full h=>omega
 | lost y hy hb=>rw[hb] at ha;cases ha
 | yes y hy hb hR=>exact⟨hy,by rw[hb];exact ha,hR,rfl,rfl,rfl,rfl⟩
theorem a3q {dd:Bool}(hd:DOk d)(hb:BsG bs):(C9 nm ky d bs ws dd).hs.length=bs.length:=(nP (nm:=nm) (ky:=ky) hd hb).hs
end
end Go.Proofs.YtjhnaegpchadiaaGreatDoor

namespace Go.Proofs.YtjhnaegpchadiaaGreatDoor
open Go Go.RowKit Tw Av
section
variable {nm ky:Bs} {d:List Ent} {bs:List BlkX}
theorem a0v (hb:BsG bs):∀ y∈(opC nm ky d bs).hs,y.h<=9223372036854775807/\y.t<=9223372036854775807:=by
 have key:∀ l:List BlkX,(∀ b∈l,BkG b)->∀ c:ChX,(∀ y∈c.hs,y.h<=9223372036854775807/\y.t<=9223372036854775807)->∀ y∈(l.foldl fV c).hs,y.h<=9223372036854775807/\y.t<=9223372036854775807:=by
  intro l
  induction l with
  | nil=>exact fun _ c h=>h
  | cons b l ih=>
   intro hl c h;rw[List.foldl_cons];refine ih (fun x hx=>hl x (by simp[hx])) _ ?_;intro y hy;rcases List.mem_append.1 (show y∈c.hs++[xW c b] from hy) with hy|hy
   ·exact h y hy
   ·obtain rfl:=List.mem_singleton.1 hy;have g:=hl b sm;have g1:=g.h;have g2:=g.t;show b.h<=9223372036854775807/\b.t<=9223372036854775807;omega
 exact key bs (fun b h=>(hb.g b h).1) _ (by simp[FD])
end

abbrev UC (gd gm gs gc:Nat)(v:Value × Value × Value × Value × Value)(x:DvX)(s:SlX)(c:ChX):List Av.Piece:=bD ⟨⟨⟨gd,gm,v.1⟩,gs⟩,gc,v.2.1,v.2.2.1,v.2.2.2.1,v.2.2.2.2⟩ x s c

abbrev V5:=Value × Value × Value × Value × Value
end Go.Proofs.YtjhnaegpchadiaaGreatDoor

namespace Go.Proofs.YtjhnaegpchadiaaGreatDoor
open Go Go.RowKit Tw Av Go.Proofs.Tryz
section
variable {nm ky:Bs} {d:List Ent} {bs:List BlkX} {ws:List Bs} {x:DvX}
theorem UH {dd:Bool}(hd:DOk d)(hb:BsG bs):R20Ok (C9 nm ky d bs ws dd):=by
 have h:=Wp (nP (nm:=nm) (ky:=ky) hd hb) KG (by have:=hb.l;omega);exact⟨h.bl,h.ms,h.tm,h.ml⟩
theorem Kb {dd:Bool}:(C9 nm ky d bs ws dd).bl=bs:=KG
theorem a1o {I:R6I}{gen:List Ent}{xs:List AV}{id:Option Value}(hxs:xs=gen.map D5)(hn:1<=nm.length/\nm.length<=32/\ky.length<=64)(h:Ro x bs)(hg:gen.length<=1000)(hd:DOk (aY gen))(he:aY gen=d) :
  Av.Spec prog GL 21 [ptr I.gd,str nm,str ky,.sl 2 xs id] (K9 I x) fun u m=>∃ J:R20I,J.gd=I.gd/\J.gs=I.gs/\J.c=I.c/\u=.tup [ptr J.gc,int 0]/\m=aN J x (D6 bs) (C9 nm ky d bs [] false):=by
 subst he;obtain⟨h0,h1,h2⟩:=ZA h;have hr:U1 x (H5 x).b=J7 (bs.map K6):=congrArg SlX.l h1;have:=a1w (I:=I) (id:=id) hxs hn h.dv (by rw[h.ws];decide) h0 hr h.bg hg hd;rw[h1,<- UI hd h.bg] at this;exact this
theorem a1q {I:R20I}{t:Int}(hd:DOk d)(h:Ro x bs)(hl:bs.length<189)(hw:WsG ws) :
  Av.Spec prog GL 25 [ptr I.gc,int t] (aN I x (D6 bs) (C9 nm ky d bs ws false)) fun u m=>u=.tup [.sl 3 ((wQ x (D6 bs) (C9 nm ky d bs ws false) t).map N8) none,int (M9 x (D6 bs) (C9 nm ky d bs ws false) t).2.2]/\∃ v vm vb ve vt,m=aN { I with vw:=v,vm:=vm,vb:=vb,ve:=ve,vt:=vt } (M9 x (D6 bs) (C9 nm ky d bs ws false) t).1 (M9 x (D6 bs) (C9 nm ky d bs ws false) t).2.1 (wR x (D6 bs) (C9 nm ky d bs ws false) t):=
 a1x (Ka hd h om hw) (UH hd h.bg) (by intro w hw;rw[h.ws] at hw;cases hw) rfl rfl
theorem a1k {I:R20I}{s:SlX}{t:Bs}(hw:ws.length<=16)(ht:t.length<=6000) :
  Av.Spec prog GL 39 [ptr I.gc,str t] (aN I x s (C9 nm ky d bs ws false)) fun u m=>(ws.length<16/\u=int 0/\∃ v,m=aN { I with vt:=v } x s (C9 nm ky d bs (ws++[t]) false))\/(ws.length=16/\u=int 15/\∃ v,m=aN { I with vt:=v } x s (C9 nm ky d bs ws false)):=by
 refine(a1v (I:=I) (x:=x) (s:=s) (c:=C9 nm ky d bs ws false) (t:=t) (by show ws.length<=1000000;omega)).mono ?_;rintro u m ⟨rfl,v,rfl⟩;have e:iO (C9 nm ky d bs ws false) t=if 16<=ws.length then 15 else 0:=by
  unfold iO;rw[if_neg (show ¬ (C9 nm ky d bs ws false).dd=true from by show ¬ (false=true);decide),if_neg om];rfl
 unfold zI;rw[e];by_cases hl:16<=ws.length
 ·rw[if_pos hl,if_neg dc];exact .inr ⟨om,rfl,v,rfl⟩
 ·rw[if_neg hl,if_pos rfl];exact .inl ⟨om,rfl,v,rfl⟩
theorem a1C {I:ChI}{t:Int}(hd:DOk d)(h:Ro x bs)(hl:bs.length<189)(hw:WsG ws) :
  Av.Spec prog GL 24 [ptr I.gc,int t] (bD I x (D6 bs) (C9 nm ky d bs ws false)) fun u m=>u=.tup [.sl 3 ((wQ x (D6 bs) (C9 nm ky d bs ws false) t).map N8) none,int (M9 x (D6 bs) (C9 nm ky d bs ws false) t).2.2]/\∃ v vm vh ve vt,m=bD { I with vw:=v,vm:=vm,vh:=vh,ve:=ve,vt:=vt } (M9 x (D6 bs) (C9 nm ky d bs ws false) t).1 (M9 x (D6 bs) (C9 nm ky d bs ws false) t).2.1 (wR x (D6 bs) (C9 nm ky d bs ws false) t):=
 a1M (Ka hd h om hw) rfl
end
abbrev JJ (gd gs cc gl gc:Nat)(v:V5)(x:DvX)(s:SlX)(c:ChX):List Av.Piece:=aN ⟨⟨⟨gd,gs,cc,v.1⟩,gl⟩,gc,v.2.1,v.2.2.1,v.2.2.2.1,v.2.2.2.2⟩ x s c

section
variable {P:Program} {N:Nat} {Q:Exit->Act->World->Prop} {s:Av.Base} {e:Av.Env} {T:List Av.Piece} {gl:List (Nat × AV)} {l os:List Oper} {i:Nat} {rs:List Rec}
theorem zT (T':List Av.Piece)(h:Obl P N Q s gl l os i T' e rs)(hT:T'=T):Obl P N Q s gl l os i T e rs:=hT ▸ h
end
structure SdI where
 gd:Nat
 gm:Nat
 gs:Nat
 gc:Nat
 gd2:Nat
 gs2:Nat
 cc2:Nat
 gl:Nat
 gr:Nat
 v:V5
 w:V5
abbrev bO (q:SdI)(x:DvX)(s:SlX)(c:ChX):List Av.Piece:=JJ q.gd2 q.gs2 q.cc2 q.gl q.gr q.w x s c++UC q.gd q.gm q.gs q.gc q.v x s c
abbrev X9 (c0 c1 r0 r1:Option Addr):AV:=.agg 4 [.agg 2 [.lit (.pointer c0),.lit (.pointer c1)],.agg 2 [.lit (.pointer r0),.lit (.pointer r1)]]
abbrev D9 (g:Nat):Option Addr:=some ⟨g,0,none⟩
abbrev pU (a b:SdI):AV:=X9 (D9 a.gc) (D9 b.gc) (D9 a.gr) (D9 b.gr)
section
variable {nm ky:Bs} {d:List Ent} {bs:List BlkX} {ws:List Bs} {x:DvX} {c0 c1 r0 r1:Option Addr} {i t:Int}
theorem AU (q:SdI)(hq:i=0/\c0=D9 q.gc/\r0=D9 q.gr\/i=1/\c1=D9 q.gc/\r1=D9 q.gr)(hd:DOk d)(h:Ro x bs)(hl:bs.length<188)(hw:WsG ws)(ha:x.ar=false)(hr:((U2 bs).length:Int)+1004*ws.length+44<=J4 x.n)(hwl:∀ s∈ws,s.length<=1000) :
  Av.Spec prog GL 7 [X9 c0 c1 r0 r1,int i,int t] (bO q x (D6 bs) (C9 nm ky d bs ws false)) fun u m=>∃ v w y,(y.n=x.n/\y.ar=false/\Ro y (bs++[G7 bs ws t]))/\u=j3 true/\m=bO { q with v:=v,w:=w } y (D6 (bs++[G7 bs ws t])) (C9 nm ky d (bs++[G7 bs ws t]) [] false):=by
 obtain⟨gd,gm,gs,gc,gd2,gs2,cc2,gl,gr,⟨v1,v2,v3,v4,v5⟩,⟨w1,w2,w3,w4,w5⟩⟩:=q;dsimp only at hq;have hc:=a2V (nm:=nm) (ky:=ky) hd h om hw t;obtain⟨hxn,hxa,hRx,k1,k2,k3,k4⟩:=a2T hc ha hr hwl;have o:=nP (nm:=nm) (ky:=ky) hd hRx.bg;have hr2:=UH (nm:=nm) (ky:=ky) (ws:=[]) (dd:=false) hd hRx.bg;have e1:=a3q (nm:=nm) (ky:=ky) (ws:=[]) (dd:=false) hd hRx.bg;have e0:(C9 nm ky d (bs++[G7 bs ws t]) [] false).ms.length=(bs++[G7 bs ws t]).length+1:=o.ms;have hst:DOk (o7 (C9 nm ky d (bs++[G7 bs ws t]) [] false)):=o.st;have hll:(bs++[G7 bs ws t]).length=bs.length+1:=by rw[lla];rfl
 clear hc o;rcases hq with⟨rfl,rfl,rfl⟩|⟨rfl,rfl,rfl⟩
 all_goals
  refine qF func7 ntmps7 fun _ hs=>?_;repeat' first|refine Zz ?_|intro _
  refine Ni (_::JJ gd2 gs2 cc2 gl _ (w1,w2,w3,w4,w5) x (D6 bs) (C9 nm ky d bs ws false)) _ (a1C (I:=⟨⟨⟨gd,gm,v1⟩,gs⟩,_,v2,v3,v4,v5⟩) (t:=t) hd h om hw) (fun u m1 hu=>?_);obtain⟨rfl,a1,a2,a3,a4,a5,rfl⟩:=hu;repeat' first|refine Zz ?_|intro _
  refine gJ [_] _ _ (a1q (I:=⟨⟨⟨gd2,gs2,cc2,w1⟩,gl⟩,_,w2,w3,w4,w5⟩) (t:=t) hd h om hw) (fun u m1 hu=>?_);obtain⟨rfl,b1,b2,b3,b4,b5,rfl⟩:=hu;rw[k1,k2,k3];clear k1 k2 k3 k4;generalize (M9 x (D6 bs) (C9 nm ky d bs ws false) t).1=y at *;generalize bs++[G7 bs ws t]=bs' at *;generalize hcc:C9 nm ky d bs' [] false=c at *;have q1:c.hs.length<c.ms.length/\c.ms.length<=1000000:=by omega
  have q2:c.ms.length=c.hs.length+1/\c.ms.length<=1000000:=om
  have q3:=hst.l;repeat' first|refine Zz ?_|intro _
  rename_i gP;refine zT (.var gP 29 _::(aN { gd:=gd2,gs:=gs2,c:=cc2,vw:=b1,gl:=gl,gc:=_,vm:=b2,vb:=b3,ve:=b4,vt:=b5 } y (D6 bs') c++bD { gd:=gd,gm:=gm,vw:=a1,gs:=gs,gc:=_,vm:=a2,vh:=a3,ve:=a4,vt:=a5 } y (D6 bs') c)) ?_ rfl;apply x8 [10];exact rfl;exact rfl;kernel_rfl
  ·intro _ _;refine Y4 ?_;exact j4 (o9 rfl rfl)
  repeat' first|refine Zz ?_|intro _
  refine l9 _ ⟨(a1,a2,a3,a4,a5),(b1,b2,b3,b4,b5),y,⟨hxn,hxa,hRx⟩,rfl,rfl⟩ (List.sublist_cons_self _ _)
attribute [local irreducible] G5 iO
theorem TB (q:SdI)(hq:i=0/\c0=D9 q.gc/\r0=D9 q.gr\/i=1/\c1=D9 q.gc/\r1=D9 q.gr){z:TxX}{s:SlX}(hz:TxW z)(hl:(G5 z).length<=6000)(hw:ws.length<16) :
  Av.Spec prog GL 14 [X9 c0 c1 r0 r1,int i,N7 z] (bO q x s (C9 nm ky d bs ws false)) fun u m=>∃ v w,u=j3 true/\m=bO { q with v:=v,w:=w } x s (C9 nm ky d bs (ws++[G5 z]) false):=by
 obtain⟨gd,gm,gs,gc,gd2,gs2,cc2,gl,gr,⟨v1,v2,v3,v4,v5⟩,⟨w1,w2,w3,w4,w5⟩⟩:=q;dsimp only at hq;rcases hq with⟨rfl,rfl,rfl⟩|⟨rfl,rfl,rfl⟩
 all_goals
  refine qF func14 ntmps14 fun _ hs=>?_;repeat' (first|refine bK ?_|refine O3 ?_|refine U0 ?_|refine M7 ?_|intro _)
  refine xB [0,1,2,3,4,6,7,8,9,10,5,11,12,13] kr rfl hs kr ?_;repeat' first|refine Zz ?_|intro _
  rename_i gP gx;apply Y8 [11,12,13,14,15,16,17,18,19];exact rfl;exact rfl;exact rfl;kernel_rfl;intro _ _;refine X4 (a0X (nm:=nm) (ky:=ky) (d:=d) (bs:=bs) (ws:=ws) (x:=x) (I:=⟨⟨⟨gd,gm,v1⟩,gs⟩,_,v2,v3,v4,v5⟩) (s:=s) om hl) (fun u m1 hu=>?_);rcases hu with⟨_,rfl,a5,rfl⟩|⟨hu,_⟩
  rotate_left
  ·omega
  refine j4 (R6 (bD ⟨⟨⟨gd,gm,v1⟩,gs⟩,_,v2,v3,v4,a5⟩ x s (C9 nm ky d bs (ws++[G5 z]) false)) [] rfl rfl lpr rfl ?_);refine zT (.var gx 51 (N7 z)::.var gP 29 _::(JJ gd2 gs2 cc2 gl _ (w1,w2,w3,w4,w5) x s (C9 nm ky d bs ws false)++UC gd gm gs _ (v1,v2,v3,v4,a5) x s (C9 nm ky d bs (ws++[G5 z]) false))) ?_ rfl;repeat' first|refine Zz ?_|intro _
  apply Y8 [2,3,4,5,6,7,8,9,10];exact rfl;exact rfl;exact rfl;kernel_rfl;intro _ _;refine X4 (a1k (nm:=nm) (ky:=ky) (d:=d) (bs:=bs) (ws:=ws) (x:=x) (I:=⟨⟨⟨gd2,gs2,cc2,w1⟩,gl⟩,_,w2,w3,w4,w5⟩) (s:=s) om hl) (fun u m1 hu=>?_);rcases hu with⟨_,rfl,b5,rfl⟩|⟨hu,_⟩
  rotate_left
  ·omega
  refine j4 (R6 (aN ⟨⟨⟨gd2,gs2,cc2,w1⟩,gl⟩,_,w2,w3,w4,b5⟩ x s (C9 nm ky d bs (ws++[G5 z]) false)) [] rfl rfl lpr rfl ?_);repeat' first|refine Zz ?_|intro _
  refine l9 _ ⟨(v1,v2,v3,v4,a5),(w1,w2,w3,w4,b5),rfl,rfl⟩ ?_;exact x9
end
end Go.Proofs.YtjhnaegpchadiaaGreatDoor
