/- . -/
import Derived.Test.YtocpacdnjbjjmaaGreatDoorS26
set_option maxHeartbeats 64000000
namespace Go.Proofs.YtocpacdnjbjjmaaGreatDoor
open Go Go.RowKit Tw Av Go.Proofs.Tryz
theorem Jh {I:DvI}{x:DvX}{gd gb:Nat}{T1:TypeId}{l:Bs}{m0:List Av.Piece}{a:Int}(hx:DvOk x)(hon:x.on=true)(ha:0<=a/\a<x.n)(hw:x.ws.length<=1000000)(hl:l.length<=1000000)(hB:Bld gb l m0) :
  Av.Spec prog GL 65 [int a,ptr gd,ptr gb] ((.var gd T1 (ptr I.gd)::F4 I x)++m0) fun u m=>u=j3 true/\∃ m1,Bld gb (l++Z8 x a) m1/\m=(.var gd T1 (ptr I.gd)::F4 I x)++m1:=by
 have hh:aQ x a=true:=dT ha;refine qE func65 rfl ntmps65 rfl (fun _ hs=>?_);repeat' first|refine Zz ?_|intro _
 refine X0 [_] (F4 I x) m0 (UX hon hh hw) (fun u m1 hu=>?_);obtain⟨rfl,rfl⟩:=hu;have h64:=NG hx a;repeat' first|refine Zz ?_|intro _
 refine aC (.var gd T1 (ptr I.gd)::F4 I x) m0 (Nz (a:=Z8 x a) hB om) (fun u m1 hu=>?_);obtain⟨rfl,hB1⟩:=hu;repeat' first|refine Zz ?_|intro _
 exact o5 _ ⟨rfl,m1,hB1,rfl⟩ slr
theorem Oh {g:Nat}{l:Bs}{m:List Av.Piece}(hb:Bld g l m):Av.Spec prog GL 67 [ptr g] m fun u m'=>u=int l.length/\m'=m:=by
 obtain⟨p,hp,⟨rfl,rfl⟩|⟨g',c,h0,hc,rfl⟩⟩:=hb
 ·refine qE func67 rfl ntmps67 rfl (fun _ hs=>?_);repeat' first|refine Zz ?_|intro _
  exact o5 _ ⟨rfl,rfl⟩ slr
 ·refine qE func67 rfl ntmps67 rfl (fun _ hs=>?_);repeat' first|refine Zz ?_|intro _
  trace_state
  exact o5 _ ⟨rfl,rfl⟩ slr
theorem YK {s:Bs}:0<=((Q4 s).getD iH).e/\0<=((Q4 s).getD iH).b/\0<=((Q4 s).getD iH).c:=by
 unfold Q4;split
 ·exact⟨Int.natCast_nonneg _,Int.natCast_nonneg _,Int.natCast_nonneg _⟩
 ·exact⟨Int.le_refl _,Int.le_refl _,Int.le_refl _⟩
theorem SV {a b:Bs}:0<=(rC a b).b:=by
 unfold rC;split
 ·exact YK.2.1
 ·exact YK.2.1
theorem VF {x:DvX}(hx:DvOk x){b:Int}{k:Nat}(hk:b<=64*k):(dE x k).take b.toNat=Q6 x b:=by
 unfold Q6 TD;have key:∀ (k j:Nat),j<=k->(dE x k).take (64*j)=dE x j:=by
  intro k j hj
  induction k with
  | zero=>
   obtain rfl:j=0:=by omega
   rfl
  | succ k ih=>
   rw[yF];by_cases h:j<=k
   ·rw[List.take_append_of_le_length (by rw[yG hx];omega),ih h]
   ·obtain rfl:j=k+1:=by omega
    rw[List.take_of_length_le (by rw[lla,yG hx,NG hx];omega),yF]
 by_cases hb:0<=b
 ·rw[<- key k ((b+63) / 64).toNat om,List.take_take,Nat.min_eq_left om]
 ·rw[show b.toNat=0 by omega];rfl
theorem a3Z {I:DvI}{x:DvX}(hx:DvOk x)(hw:x.ws.length<=1000000)(h0:kI x=0):Av.Spec prog GL 31 [ptr I.gd] (F4 I x) fun u m=>∃ gs,u=.tup [ptr gs,.sl 1 ((FP x).map str) none,int 0]/\m=N7 ⟨I,gs⟩ x (dO x):=by
 have hn:=hx.n;have h2:¬ x.n<=2:=fun h=>by unfold kI at h0;rw[if_pos h] at h0;cases h0
 have hon:x.on=true:=by
  cases h:x.on with
  | true=>rfl
  | false=>unfold kI at h0;rw[if_neg h2,if_pos h] at h0;cases h0
 have hr:¬ M0 x.n<(G6 x).b:=fun h=>by unfold kI at h0;rw[if_neg h2,if_neg (by rw[hon];decide),if_pos h] at h0;cases h0
 have hA:wQ (Q6 x (G6 x).b)=[]/\((lV (Q6 x (G6 x).b)).length:Int)=(G6 x).c:=by
  unfold kI at h0;rw[if_neg h2,if_neg (by rw[hon];decide),if_neg hr] at h0;by_cases h:wQ (Q6 x (G6 x).b)=[]/\((lV (Q6 x (G6 x).b)).length:Int)=(G6 x).c
  ·exact h
  ·rw[if_neg h] at h0;cases h0
 have hh0:aQ x 0=true:=dT ⟨om,om⟩;have hh1:aQ x 1=true:=dT ⟨om,om⟩;have hrm:M0 x.n<=262016:=by unfold M0;omega
 have hrn:M0 x.n=(x.n-2)*64:=rfl;have hbn:0<=(G6 x).b:=SV;refine qE func31 rfl ntmps31 rfl (fun _ hs=>?_);repeat' first|refine Zz ?_|intro _
 refine X0 [_] (F4 I x) [] (UX hon hh0 hw) (fun u m1 hu=>?_);obtain⟨rfl,rfl⟩:=hu;repeat' first|refine Zz ?_|intro _
 refine X0 [_] (F4 I x) [] (UX hon hh1 hw) (fun u m1 hu=>?_);obtain⟨rfl,rfl⟩:=hu;repeat' first|refine Zz ?_|intro _
 rw[show rC (Z8 x 0) (Z8 x 1)=G6 x from rfl];repeat' first|refine Zz ?_|intro _
 rename_i g1 g8 g9;have hcs:∀ v∈[Value.pointer (some ⟨g1,0,none⟩),.pointer (some ⟨g9,0,none⟩)],v.oneCell'=true:=by simp[Value.oneCell']
 refine eY (vs:=[.pointer (some ⟨g1,0,none⟩),.pointer (some ⟨g9,0,none⟩)]) ?_;repeat' first|refine Zz ?_|intro _
 refine PD ([.var g9 139 (.agg 2 [.lit (.pointer none),P9])]++([.var g8 134 (cZ (G6 x))]++(.var g1 28 (ptr I.gd)::F4 I x))) _ ?_ lpr slr;refine z8 (α:=Nat × List Av.Piece) (fun z=>[(1,ptr g1),(8,ptr g8),(9,ptr g9),(10,D6 65 [.pointer (some ⟨g1,0,none⟩),.pointer (some ⟨g9,0,none⟩)]),(11,int (2+z.1))]) (fun z=>z.2++([.var g8 134 (cZ (G6 x))]++(.var g1 28 (ptr I.gd)::F4 I x)))
  (fun z=>(z.1:Int)*64<(G6 x).b+64/\Bld g9 (dE x z.1) z.2) (fun z=>5000-z.1) (0,[.var g9 139 (.agg 2 [.lit (.pointer none),P9])]) ⟨rfl,rfl,rfl,rfl,rfl,trivial⟩ slr ⟨by have:=(SV (a:=Z8 x 0) (b:=Z8 x 1));unfold G6;dsimp only;omega,none,.inl rfl,.inl ⟨rfl,rfl⟩⟩ ?_
 rintro⟨k,m0⟩ ⟨hk,hB⟩;dsimp only at hk hB ⊢;have hsl:=yG hx k;obtain⟨p,hp,⟨hl0,rfl⟩|⟨g',c,hl0,hc,rfl⟩⟩:=id hB
 ·repeat' first|refine Zz ?_|intro _
  apply u7 [0];exact rfl;exact rfl;kernel_rfl
  ·intro _ _;refine R6 (Oh hB) (fun u m1 hu=>?_);obtain⟨rfl,rfl⟩:=hu;exact j4 (o7 rfl rfl)
  by_cases hlt:((dE x k).length:Int)<(G6 x).b
  ·repeat' first|refine Zz ?_|intro _
   refine kP (args:=[int (2+k)]) ((.var g1 28 (ptr I.gd)::F4 I x)++_) [.var g8 134 (cZ (G6 x))] (by rw[hs];exact Jh (T1:=28) (l:=dE x k) (a:=2+(k:Int)) hx hon ⟨om,om⟩ hw om hB) (fun u m1 hu=>?_) ?_ (hcs:=hcs);rotate_left
   ·exact List.perm_append_comm.trans (by rw[laa];exact List.perm_append_comm)
   obtain⟨rfl,m2,hB2,rfl⟩:=hu;rw[<- yF] at hB2;repeat' first|refine Zz ?_|intro _
   refine jO (m2++([.var g8 134 (cZ (G6 x))]++(.var g1 28 (ptr I.gd)::F4 I x))) _ ?_ ?_ slr
   ·exact o6 (k+1,m2) ⟨rfl,rfl,rfl,rfl,rfl,trivial⟩ slr ⟨by dsimp only;omega,hB2⟩ (by dsimp only;omega)
   ·exact List.perm_append_comm.trans (by rw[laa];exact List.perm_append_comm)
  ·have hlg:(dE x k).take (G6 x).b.toNat=Q6 x (G6 x).b:=VF hx om;have hll:(Q6 x (G6 x).b).length<=1000000:=by
    rw[<- hlg,List.length_take];omega
   have hrc:((lV (Q6 x (G6 x).b)).map str).length=(lV (Q6 x (G6 x).b)).length:=llm _;have hc2:=hA.2;have hl1:(([]:Bs)).length=0:=rfl;repeat' first|refine Zz ?_|intro _
   apply jE [0];exact rfl;exact rfl;kernel_rfl
   ·intro _ _;refine R6 (WI (l:=dE x k) hB om) (fun u m1 hu=>?_);subst hu;refine j4 (jO [] [] ?_ lpr (List.nil_sublist _));refine nM (fun ok w h=>h.full 0 1 none 0) ?_;exact o7 rfl rfl
   ·exact rfl
   ·exact rfl
   repeat' first|refine Zz ?_|intro _
   apply u7 [];exact rfl;exact rfl;kernel_rfl
   ·intro _ _;refine Q7 0 (G6 x).b.toNat ?_;rw[List.drop_zero,hlg];exact j4 (o7 rfl rfl)
   repeat' first|refine Zz ?_|intro _
   rw[hA.1];repeat' (first|refine iN ?_|refine V7 ?_|refine R9 ?_|intro _|simp only[List.set]|refine yA ?_|refine yB ?_|refine tH ?_|refine wJ ?_|fail)
   refine wR [0,1,2,3,4,5,6,7,8,9,10,12,11,13,14,15] kr rfl hs kr ?_;repeat' first|refine Zz ?_|intro _
   apply u7 [];exact rfl;exact rfl;kernel_rfl
   ·intro _ _;refine Q7 ((Q6 x (G6 x).b).length-(Q6 x (G6 x).b).length%64) (Q6 x (G6 x).b).length ?_ (h4:=Nat.le_refl _);rw[List.take_length];exact j4 (o7 rfl rfl)
   repeat' first|refine Zz ?_|intro _
   rename_i gs;refine jO (N7 ⟨I,gs⟩ x (dO x)) (F4 I x++[.var gs 148 (EJ I.gd (dO x))]) ?_ (List.perm_append_comm (l₁:=[_])) ?_
   ·exact o5 _ ⟨gs,rfl,rfl⟩ slr
   ·exact r9
 ·repeat' first|refine Zz ?_|intro _
  apply u7 [0,1];exact rfl;exact rfl;kernel_rfl
  ·intro _ _;refine R6 (Oh hB) (fun u m1 hu=>?_);obtain⟨rfl,rfl⟩:=hu;exact j4 (o7 rfl rfl)
  by_cases hlt:((dE x k).length:Int)<(G6 x).b
  ·repeat' first|refine Zz ?_|intro _
   refine kP (args:=[int (2+k)]) ((.var g1 28 (ptr I.gd)::F4 I x)++_) [.var g8 134 (cZ (G6 x))] (by rw[hs];exact Jh (T1:=28) (l:=dE x k) (a:=2+(k:Int)) hx hon ⟨om,om⟩ hw om hB) (fun u m1 hu=>?_) ?_ (hcs:=hcs);rotate_left
   ·exact List.perm_append_comm.trans (by rw[laa];exact List.perm_append_comm)
   obtain⟨rfl,m2,hB2,rfl⟩:=hu;rw[<- yF] at hB2;repeat' first|refine Zz ?_|intro _
   refine jO (m2++([.var g8 134 (cZ (G6 x))]++(.var g1 28 (ptr I.gd)::F4 I x))) _ ?_ ?_ slr
   ·exact o6 (k+1,m2) ⟨rfl,rfl,rfl,rfl,rfl,trivial⟩ slr ⟨by dsimp only;omega,hB2⟩ (by dsimp only;omega)
   ·exact List.perm_append_comm.trans (by rw[laa];exact List.perm_append_comm)
  ·have hlg:(dE x k).take (G6 x).b.toNat=Q6 x (G6 x).b:=VF hx om;have hll:(Q6 x (G6 x).b).length<=1000000:=by
    rw[<- hlg,List.length_take];omega
   have hrc:((lV (Q6 x (G6 x).b)).map str).length=(lV (Q6 x (G6 x).b)).length:=llm _;have hc2:=hA.2;have hl1:(([]:Bs)).length=0:=rfl;repeat' first|refine Zz ?_|intro _
   apply jE [0,1];exact rfl;exact rfl;kernel_rfl
   ·intro _ _;refine R6 (WI (l:=dE x k) hB om) (fun u m1 hu=>?_);subst hu;refine j4 (jO [] [] ?_ lpr (List.nil_sublist _));refine nM (fun ok w h=>h.full 0 1 none 0) ?_;refine nM (fun ok w h=>h.full 0 1 none 0) ?_;exact o7 rfl rfl
   ·exact rfl
   ·exact rfl
   repeat' first|refine Zz ?_|intro _
   apply u7 [];exact rfl;exact rfl;kernel_rfl
   ·intro _ _;refine Q7 0 (G6 x).b.toNat ?_;rw[List.drop_zero,hlg];exact j4 (o7 rfl rfl)
   repeat' first|refine Zz ?_|intro _
   rw[hA.1];repeat' (first|refine iN ?_|refine V7 ?_|refine R9 ?_|intro _|simp only[List.set]|refine yA ?_|refine yB ?_|refine tH ?_|refine wJ ?_|fail)
   refine wR [0,1,2,3,4,5,6,7,8,9,10,12,11,13,14,15] kr rfl hs kr ?_;repeat' first|refine Zz ?_|intro _
   apply u7 [];exact rfl;exact rfl;kernel_rfl
   ·intro _ _;refine Q7 ((Q6 x (G6 x).b).length-(Q6 x (G6 x).b).length%64) (Q6 x (G6 x).b).length ?_ (h4:=Nat.le_refl _);rw[List.take_length];exact j4 (o7 rfl rfl)
   repeat' first|refine Zz ?_|intro _
   rename_i gs;refine jO (N7 ⟨I,gs⟩ x (dO x)) (F4 I x++[.var gs 148 (EJ I.gd (dO x))]) ?_ (List.perm_append_comm (l₁:=[_])) ?_
   ·exact o5 _ ⟨gs,rfl,rfl⟩ slr
   ·exact r9
end Go.Proofs.YtocpacdnjbjjmaaGreatDoor

namespace Go.Proofs.YtocpacdnjbjjmaaGreatDoor
open Go Go.RowKit Tw Av
def tn (c:Nat)(a b:Bs):Bs:=a.take c++b.drop c
theorem Xg {c:Nat}{a b:Bs}(h:a.length=b.length):(tn c a b).length=b.length:=by
 unfold tn;rw[lla,List.length_take,List.length_drop];omega
theorem Xf {c k:Nat}{a b:Bs}(h:a.length=b.length)(he:a.take k=b.take k):(tn c a b).take k=a.take k:=by
 unfold tn;by_cases hk:k<=c
 ·by_cases hc:k<=a.length
  ·rw[List.take_append_of_le_length (by rw[List.length_take];omega),List.take_take,Nat.min_eq_left hk]
  ·rw[List.drop_of_length_le om,List.append_nil,List.take_take,Nat.min_eq_left hk]
 ·have h1:a.take c=b.take c:=by
   have:=congrArg (List.take c) he
   rwa [List.take_take,List.take_take,Nat.min_eq_left om] at this
  rw[h1,List.take_append_drop,he]
def aD (f:Int->Bs)(a:Int)(s:Bs):Int->Bs:=fun b=>if b=a then s else f b
theorem a5p {x:DvX}{w:Int × Bs}(h:MpN x.es):D9 (Y6 x w)=aD (D9 x) w.1 w.2:=funext fun b=>VH h b
theorem a6b {x:DvX}{k:List Bool}{torn cut:Int}{i:Nat}{w:Int × Bs}(h:DvOk x)(hw:w.2.length=64) :
  D9 (bD x k torn cut i w)=D9 x\/∃ c,D9 (bD x k torn cut i w)=aD (D9 x) w.1 (tn c w.2 (D9 x w.1)):=by
 unfold bD;split
 ·right
  rw[a5p h.mn];dsimp only;split
  ·exact⟨_,rfl⟩
  ·refine⟨64,?_⟩;unfold tn;rw[List.take_of_length_le om,List.drop_of_length_le (by rw[vZ h];omega),List.append_nil]
 ·exact .inl rfl
theorem Mm {k:List Bool}{torn cut:Int}(P:(Int->Bs)->Prop):∀ {ws:List (Int × Bs)} {i:Nat} {x:DvX},DvOk x->(∀ w∈ws,w.2.length=64) ->
  (∀ w∈ws,∀ f c,(∀ a,(f a).length=64)->P f->P (aD f w.1 (tn c w.2 (f w.1))))->P (D9 x)->P (D9 (iO k torn cut i x ws))
 | [],_,_,_,_,_,h=>h
 | w::ws,i,x,hx,hw,hP,h=>by
  refine Mm P (ws:=ws) (Mh hx (hw w sm)) (fun v hv=>hw v (by simp[hv])) (fun v hv=>hP v (by simp[hv])) ?_;rcases a6b (k:=k) (torn:=torn) (cut:=cut) (i:=i) hx (hw w sm) with e|⟨c,e⟩
  ·rw[e];exact h
  ·rw[e];exact hP w sm _ c (vZ hx) h
theorem Lf {x:DvX}{k:List Bool}{torn cut:Int}(P:(Int->Bs)->Prop)(hx:DvOk x)(hP:∀ w∈x.ws,∀ f c,(∀ a,(f a).length=64)->P f->P (aD f w.1 (tn c w.2 (f w.1))))(h:P (D9 x)):P (D9 (S9 x k torn cut)):=by
 unfold S9;split
 ·exact h
 ·exact Mm P hx hx.wl hP h
theorem PL (w:Int × Bs)(ws:List (Int × Bs))(b:Int):bH (w::ws) b=match bH ws b with|some s=>some s|none=>if w.1=b then some w.2 else none:=by
 unfold bH;rw[List.reverse_cons,List.find?_append];cases ws.reverse.find? fun w=>decide (w.1=b) with
 | some v=>rfl
 | none=>
  by_cases h:w.1=b <;> simp[h]
theorem Je:∀ {ws:List (Int × Bs)} {x:DvX},MpN x.es->∀ b,D9 (ws.foldl Y6 x) b=(bH ws b).getD (D9 x b)
 | [],_,_,_=>rfl
 | w::ws,x,h,b=>by
  rw[List.foldl_cons,Je (ws:=ws) (show MpN (Y6 x w).es from Gn h),PL,VH h];cases bH ws b with
  | some s=>rfl
  | none=>
   by_cases e:b=w.1
   ·rw[if_pos e];simp[e]
   ·rw[if_neg e];have:¬ w.1=b:=fun h=>e h.symm;simp[this]
theorem Ld {x:DvX}(h:MpN x.es)(b:Int):D9 (U9 x) b=Z8 x b:=Je h b
theorem Nc:∀ {f:Nat} {a:Int} {s:Bs} {w:Int × Bs},w∈qD f a s->∃ j:Nat,w=(a+j,K9 (s.drop (64*j)))/\64*j<s.length
 | 0,_,_,_,h=>by simp[qD] at h
 | f+1,a,s,w,h=>by
  unfold qD at h;split at h
  ·simp at h
  ·rename_i hs;have hl:0<s.length:=List.length_pos_iff.2 hs;rcases List.mem_cons.1 h with rfl|h
   ·exact⟨0,sm,om⟩
   ·obtain⟨j,rfl,hj⟩:=Nc h;rw[List.length_drop] at hj;refine⟨j+1,?_,om⟩;rw[List.drop_drop,show 64+64*j=64*(j+1) by omega,show a+1+(j:Int)=a+((j+1:Nat):Int) by omega]
theorem Nf:∀ {f:Nat} {a:Int} {s:Bs} (b:Int),s.length<=f->bH (qD f a s) b=if a<=b/\64*(b-a)<s.length then some (K9 (s.drop (64*(b-a).toNat))) else none
 | 0,a,s,b,h=>by
  obtain rfl:=List.length_eq_zero_iff.1 (Nat.le_zero.1 h);rw[if_neg (by simp;omega)];rfl
 | f+1,a,s,b,h=>by
  unfold qD;by_cases hs:s=[]
  ·subst hs;rw[if_pos rfl,if_neg (by simp;omega)];rfl
  ·have hl:0<s.length:=List.length_pos_iff.2 hs;rw[if_neg hs,PL,Nf (f:=f) b (by rw[List.length_drop];omega),List.length_drop];by_cases h1:a=b
   ·subst h1;rw[if_neg (show ¬ (a+1<=a/\64*(a-(a+1))<((s.length-64:Nat):Int)) by omega)];dsimp only;rw[if_pos rfl,if_pos (show a<=a/\64*(a-a)<(s.length:Int) by omega),Int.sub_self];rfl
   ·by_cases h2:a<=b/\64*(b-a)<s.length
    ·rw[if_pos ⟨om,om⟩,if_pos h2];dsimp only;rw[List.drop_drop];congr 3
     omega
    ·rw[if_neg om,if_neg h2];dsimp only;rw[if_neg h1]
theorem Kw {x:DvX}{a:Int}{s:Bs}(hon:x.on=true)(ha:0<=a/\a<x.n)(hs:s.length=64) :
  K4 x a s=if bL x=false then (bK (dF x) (a,s),14) else (bK (I9 x) (a,s),0):=by
 unfold K4;rw[if_neg (by rw[hon];decide),if_neg];rintro (h|h)
 ·unfold aQ at h;rw[dT ha] at h;cases h
 ·exact h hs
theorem NH {x:DvX}(h:bL x=false):x.ar=true:=by
 unfold bL at h;cases e:x.ar with
 | true=>rfl
 | false=>rw[e] at h;simp at h
theorem Dq:∀ {f:Nat} {x:DvX} {a:Int} {s:Bs},s.length<=f->x.on=true->0<=a->a*64+s.length<=x.n*64 ->
  (∃ y,iD f x a s=(y,0)/\y.on=true/\y.es=x.es/\y.n=x.n/\y.ar=x.ar/\y.ws=x.ws++qD f a s) \/
  (∃ y p,iD f x a s=(y,14)/\x.ar=true/\y.on=false/\y.es=x.es/\y.n=x.n/\y.ws=x.ws++p/\∀ w∈p,w∈qD f a s)
 | 0,x,a,s,_,hon,_,_=>.inl ⟨x,rfl,hon,rfl,rfl,rfl,by simp[qD]⟩
 | f+1,x,a,s,hl,hon,ha,hr=>by
  unfold iD qD;by_cases hs:s=[]
  ·rw[if_pos hs,if_pos hs];exact .inl ⟨x,rfl,hon,rfl,rfl,rfl,sm⟩
  ·have hp:0<s.length:=List.length_pos_iff.2 hs;have hw:=Kw hon ⟨ha,om⟩ (LC s);rw[if_neg hs,if_neg hs];cases hm:bL x with
   | false=>
    rw[hm,if_pos rfl] at hw;rw[hw,if_neg (show ¬ ((14:Int)=0) by decide)];exact .inr ⟨_,[(a,K9 s)],rfl,NH hm,rfl,rfl,rfl,rfl,sm⟩
   | true=>
    rw[hm,if_neg dc] at hw;rw[hw,if_pos rfl];rcases Dq (f:=f) (x:=bK (I9 x) (a,K9 s)) (a:=a+1) (s:=s.drop 64) (by rw[List.length_drop];omega) hon om (by
      rw[List.length_drop];show (a+1)*64+((s.length-64:Nat):Int)<=x.n*64;by_cases h:64<=s.length
      ·omega
      ·rw[show s.length-64=0 by omega];omega) with⟨y,h1,h2,h3,h4,h5,h6⟩|⟨y,p,h1,h2,h0,h3,h4,h5,h6⟩
    ·exact .inl ⟨y,h1,h2,h3,h4,h5,by rw[h6];simp[bK,I9]⟩
    ·refine .inr ⟨y,(a,K9 s)::p,h1,h2,h0,h3,h4,by rw[h5];simp[bK,I9],fun w hw=>?_⟩;rcases List.mem_cons.1 hw with rfl|hw
     ·exact List.mem_cons_self
     ·exact List.mem_cons_of_mem _ (h6 w hw)
def LgI (f:Int->Bs)(l:Bs):Prop:=∀ j:Nat,64*j<l.length->(f (2+(j:Int))).take (l.length-64*j)=(l.drop (64*j)).take 64
structure MkI (f:Int->Bs)(m:MkX):Prop where
 e:0<=m.e/\m.e<200
 b:MkB m
 at_:f (m.e%2)=J9 m
 oth:∃ g:Nat,(f ((m.e+1)%2)).drop 56=U3 g/\g<200/\((g:Int)<m.e\/g=0)
structure DFits (f:Int->Bs)(l:Bs)(m:MkX):Prop where
 len:∀ a,(f a).length=64
 lg:LgI f l
 mr:MkI f m
theorem Wt {s:Bs}{m:MkX}(h:Q4 s=some m):s.drop 56=U3 m.e.toNat/\0<=m.e/\m.e<=1099511627776:=by
 have h1:=(FM m).2.2.2;rw[Ws h] at h1;refine⟨h1,?_⟩;unfold Q4 at h;split at h
 ·rename_i hh;injection h with h
  have h2:=hh.2.1;rw[h] at h2;unfold LJ at h2;have h3:=(of_decide_eq_true h2).1;refine⟨?_,h3⟩;rw[<- h];unfold qR;exact Int.natCast_nonneg _
 ·cases h
theorem a1n {s:Bs}{g:Nat}(hs:s.drop 56=U3 g)(hg:g<200):((Q4 s).getD iH).e=0\/((Q4 s).getD iH).e=g:=by
 cases h:Q4 s with
 | none=>exact .inl rfl
 | some m=>
  right
  obtain⟨h1,h2,h3⟩:=Wt h;rw[hs] at h1;have:=congrArg pO h1;rw[FT om,FT om] at this;show m.e=g;omega
theorem MkI.newest {f:Int->Bs}{m:MkX}(h:MkI f m):rC (f 0) (f 1)=m:=by
 have he:=h.e;have hu:Q4 (f (m.e%2))=some m:=by rw[h.at_];exact Wq h.b
 obtain⟨g,h1,h2,h3⟩:=h.oth;have ho:=a1n h1 h2;unfold rC;rcases (show m.e%2=0\/m.e%2=1 by omega) with h0|h0
 ·rw[h0] at hu;rw[show (m.e+1)%2=1 by omega] at ho;rw[hu];show (if m.e<_ then _ else m)=m;rw[if_neg om]
 ·rw[h0] at hu;rw[show (m.e+1)%2=0 by omega] at ho;rw[hu];show (if _<m.e then m else _)=m;rw[if_pos om]
theorem LgI.sec {x:DvX}{l:Bs}(hx:DvOk x)(h:LgI (Z8 x) l):∀ k,(dE x k).take l.length=l.take (64*k)
 | 0=>by simp[dE]
 | k+1=>by
  rw[yF];by_cases hk:l.length<=64*k
  ·rw[List.take_append_of_le_length (by rw[yG hx];exact hk),LgI.sec hx h k,List.take_of_length_le hk,List.take_of_length_le om]
  ·rw[List.take_append,LgI.sec hx h k,yG hx,h k om,show 64*(k+1)=64*k+64 by omega,List.take_add]
theorem a2l {x:DvX}{l:Bs}(hx:DvOk x)(h:LgI (Z8 x) l):Q6 x l.length=l:=by
 unfold Q6 TD;rw[Int.toNat_natCast,LgI.sec hx h,List.take_of_length_le om]
theorem a5q {x:DvX}(h:x.ws=[]):Z8 x=D9 x:=by
 funext a
 unfold Z8;rw[h];rfl
theorem a1s {x:DvX}{l:List Bs}{m:MkX}(hx:DvOk x)(hon:x.on=true)(hws:x.ws=[])(h:DFits (D9 x) (J2 l) m)(hb:m.b=(J2 l).length)(hc:m.c=l.length)(hr:m.b<=M0 x.n)(hn:2<x.n)(hl:∀ s∈l,s.length<=1048576) :
  kI x=0/\dO x=⟨m,J2 l,false⟩/\FP x=l:=by
 have hd:=a5q hws;have h1:G6 x=m:=by unfold G6;rw[hd];exact h.mr.newest
 have h2:Q6 x m.b=J2 l:=by rw[hb];exact a2l hx (by rw[hd];exact h.lg)
 obtain⟨a1,a2⟩:=Qd hl;unfold kI dO FP;rw[h1,h2,a1,a2,if_neg om,if_neg (by rw[hon];decide),if_neg om,if_pos ⟨rfl,hc.symm⟩];exact⟨rfl,rfl,rfl⟩
theorem Xr {f:Int->Bs}{l:Bs}{j c:Nat}{s:Bs}(hf:∀ a,(f a).length=64)(h:LgI f l)(hs:s.length=64)(hw:64*j<l.length->s.take (l.length-64*j)=(l.drop (64*j)).take 64):LgI (aD f (2+(j:Int)) (tn c s (f (2+(j:Int))))) l:=by
 intro i hi;unfold aD;by_cases e:i=j
 ·subst e;rw[if_pos rfl,Xf (by rw[hs,hf]) ((hw hi).trans (h i hi).symm),hw hi]
 ·rw[if_neg om];exact h i hi
theorem YJ {f:Int->Bs}{a:Int}{s:Bs}{c:Nat}(hf:∀ a,(f a).length=64)(hs:s.length=64):∀ b,(aD f a (tn c s (f a)) b).length=64:=by
 intro b;unfold aD;split
 ·rw[Xg (by rw[hs,hf]),hf]
 ·exact hf b
theorem Wp {f:Int->Bs}{a:Int}{s:Bs}{m:MkX}(ha:2<=a)(h:MkI f m):MkI (aD f a s) m:=by
 have he:=h.e;refine⟨h.e,h.b,?_,?_⟩
 ·unfold aD;rw[if_neg om];exact h.at_
 ·unfold aD;rw[if_neg om];exact h.oth
theorem YI {f:Int->Bs}{a:Int}{s:Bs}{l:Bs}(ha:a<2)(h:LgI f l):LgI (aD f a s) l:=by
 intro j hj;unfold aD;rw[if_neg om];exact h j hj
theorem Ow {n:Nat}(h:n<256):U3 n=(I6 0 7).reverse++[UInt8.ofNat n]:=by
 have:∀ n,n<256->U3 n=(I6 0 7).reverse++[UInt8.ofNat n]:=by decide +kernel
 exact this n h
theorem a6V {a b c:Nat}(ha:a<256)(hb:b<256)(hc:c<=7):(U3 a).take c++(U3 b).drop c=U3 b:=by
 have hl:(I6 0 7).reverse.length=7:=by simp[aR]
 rw[Ow ha,Ow hb];generalize (I6 0 7).reverse=z at *;rw[List.take_append_of_le_length om,List.drop_append_of_le_length om,<- laa,List.take_append_drop]
theorem Xq {f:Int->Bs}{m m':MkX}{c:Nat}(hf:∀ a,(f a).length=64)(h:MkI f m)(hb:MkB m')(he:m'.e=m.e+1)(h2:m'.e<200) :
  MkI (aD f (m'.e%2) (tn c (J9 m') (f (m'.e%2)))) m\/MkI (aD f (m'.e%2) (tn c (J9 m') (f (m'.e%2)))) m':=by
 have h0:=h.e;have hl:=FN m';by_cases hc:64<=c
 ·right
  have e1:tn c (J9 m') (f (m'.e%2))=J9 m':=by
   unfold tn;rw[List.take_of_length_le om,List.drop_of_length_le (by rw[hf];omega),List.append_nil]
  rw[e1];refine⟨om,hb,by unfold aD;rw[if_pos rfl],m.e.toNat,?_,om,.inl om⟩;unfold aD;rw[if_neg om,show (m'.e+1)%2=m.e%2 by omega,h.at_];exact(FM m).2.2.2
 ·left
  obtain⟨g,h3,h4,h5⟩:=h.oth;refine⟨h.e,h.b,?_,g,?_,h4,h5⟩
  ·unfold aD;rw[if_neg om];exact h.at_
  ·unfold aD;rw[if_pos om];have hm:m'.e%2=(m.e+1)%2:=by omega
   rw[hm];have hG:=hf ((m.e+1)%2);generalize f ((m.e+1)%2)=G at h3 hG ⊢;unfold tn;rw[List.drop_append,List.length_take,hl];by_cases h56:c<=56
   ·rw[List.drop_of_length_le (by rw[List.length_take];omega),List.nil_append,List.drop_drop,show c+(56-min c 64)=56 by omega,h3]
   ·have e1:G.drop c=(U3 g).drop (c-56):=by
     rw[<- h3,List.drop_drop];congr 1
     omega
    rw[show 56-min c 64=0 by omega,List.drop_zero,List.drop_take,(FM m').2.2.2,e1];exact a6V om om om
end Go.Proofs.YtocpacdnjbjjmaaGreatDoor

namespace Go.Proofs.YtocpacdnjbjjmaaGreatDoor
open Go Go.RowKit Tw Av Go.Proofs.Tryz
theorem a6c (r:Bs):lS (List.replicate 64 0) r=K9 r:=by
 unfold lS K9;rw[List.length_replicate,List.drop_replicate]
theorem GY {x:DvX}{a:Int}{s:Bs}:(K4 x a s).1.ws.length<=x.ws.length+1:=by
 unfold K4
 (repeat' split) <;> simp[bK,I9,dF]
theorem a3Y {I:SlI}{x:DvX}{s:SlX}{l:Bs}(hx:DvOk x)(hb:0<=s.m.b/\s.m.b<=1000000)(hl:x.ws.length+l.length<=1000000):Av.Spec prog GL 102 [ptr I.gs,str l] (N7 I x s)
  fun u m=>u=int (gG x (2+s.m.b / 64) l).2/\∃ v,m=N7 { I with vw:=v } (gG x (2+s.m.b / 64) l).1 s:=by
 refine qE func102 rfl ntmps102 rfl (fun _ hs=>?_);repeat' first|refine Zz ?_|intro _
 refine z8 (α:=DvX × Value × Int × Bs) (fun z=>[(0,ptr I.gs),(1,str z.2.2.2),(5,int z.2.2.1)]) (fun z=>N7 { I with vw:=z.2.1 } z.1 s)
  (fun z=>DvOk z.1/\gG z.1 z.2.2.1 z.2.2.2=gG x (2+s.m.b / 64) l/\z.1.ws.length+z.2.2.2.length<=1000000/\z.2.2.1+z.2.2.2.length<=3000000/\0<=z.2.2.1) (fun z=>z.2.2.2.length) (x,I.vw,2+s.m.b / 64,l) ⟨rfl,rfl,rfl,trivial⟩ slr ⟨hx,rfl,hl,by dsimp only;omega,by dsimp only;omega⟩ ?_
 rintro⟨y,v,a,r⟩ ⟨hy,he,hw,ha,ha0⟩;dsimp only at hy he hw ha ha0 ⊢;by_cases hr:r=[]
 ·subst hr;rw[show gG y a []=(y,0) from rfl] at he;rw[<- he];repeat' first|refine Zz ?_|intro _
  exact o5 _ ⟨rfl,v,rfl⟩ slr
 have hlr:0<r.length:=List.length_pos_iff.2 hr;have hdl:(r.drop 64).length=r.length-64:=List.length_drop;repeat' first|refine Zz ?_|intro _
 rename_i g6;refine OP (l:=List.replicate 64 0) (a:=r) rfl ?_;rw[a6c];repeat' first|refine Zz ?_|intro _
 refine Q7 (min r.length 64) r.length ?_ (h4:=Nat.le_refl _);rw[List.take_length,show r.drop (min r.length 64)=r.drop 64 by
  by_cases h:r.length<=64
  ·rw[Nat.min_eq_left h,List.drop_length,List.drop_of_length_le h]
  ·rw[Nat.min_eq_right om]]
 repeat' first|refine Zz ?_|intro _
 apply u7 [0];exact rfl;exact rfl;kernel_rfl
 ·intro _ _;refine Py (l:=K9 r) ?_;exact j4 (o7 rfl rfl)
 apply V8 [2,3,4];exact rfl;exact rfl;kernel_rfl;kernel_rfl;intro _ _;refine R6 (Jr (I:={ I.toDvI with vw:=v }) (x:=y) (a:=a) (s:=K9 r) hy.lf om) (fun u m1 hu=>?_);obtain⟨rfl,v',rfl⟩:=hu;refine j4 (U4 (F4 { I.toDvI with vw:=v' } (K4 y a (K9 r)).1) [] rfl rfl lpr rfl ?_);have hy2:DvOk (K4 y a (K9 r)).1:=yE hy;have hw2:=GY (x:=y) (a:=a) (s:=K9 r);rw[Dt hr] at he;by_cases hz:(K4 y a (K9 r)).2=0
 ·rw[if_pos hz] at he;rw[hz];repeat' first|refine Zz ?_|intro _
  refine jO (N7 { I with vw:=v' } (K4 y a (K9 r)).1 s) _ ?_ lpr (List.sublist_cons_self _ _);exact o6 ((K4 y a (K9 r)).1,v',a+1,r.drop 64) ⟨rfl,rfl,rfl,trivial⟩ slr ⟨hy2,he,by dsimp only;omega,by dsimp only;omega,by dsimp only;omega⟩ (by dsimp only;omega)
 ·rw[if_neg hz] at he;rw[<- he];repeat' first|refine Zz ?_|intro _
  refine jO (N7 { I with vw:=v' } (K4 y a (K9 r)).1 s) _ ?_ lpr (List.sublist_cons_self _ _);exact o5 _ ⟨rfl,v',rfl⟩ slr
theorem Dp:∀ {f:Nat} {x:DvX} {a:Int} {s:Bs},(iD f x a s).1.ws.length<=x.ws.length+f
 | 0,_,_,_=>Nat.le_refl _
 | f+1,x,a,s=>by
  unfold iD;have h1:=GY (x:=x) (a:=a) (s:=K9 s);split
  ·exact Nat.le_add_right _ _
  split
  ·have:=Dp (f:=f) (x:=(K4 x a (K9 s)).1) (a:=a+1) (s:=s.drop 64);omega
  ·omega
theorem a0S {x:DvX}{a:Int}{s:Bs}:(gG x a s).1.ws.length<=x.ws.length+s.length:=Dp
theorem Lc {x:DvX}:(R5 x).1.ws.length<=x.ws.length:=by
 unfold R5
 (repeat' split) <;> simp[dF,U9,I9]
theorem Ji {I:SlI}{x:DvX}{s:SlX}{g2:Nat}{T2:TypeId}{A:List Av.Piece}(hlf:0<=x.lf/\x.lf<=1000000)(hl:x.ws.length<=1000000):Av.Spec prog GL 98 [ptr g2] (N7 I x s++(.var g2 T2 (ptr I.gs)::A))
  fun u m=>u=int (R5 x).2/\∃ v,m=N7 { I with vw:=v } (R5 x).1 s++(.var g2 T2 (ptr I.gs)::A):=by
 refine qE func98 rfl ntmps98 rfl (fun _ hs=>?_);repeat' first|refine Zz ?_|intro _
 refine X0 [_] (F4 I.toDvI x) (.var g2 T2 (ptr I.gs)::A) (a4C hlf hl) (fun u m1 hu=>?_);obtain⟨rfl,v,rfl⟩:=hu;repeat' first|refine Zz ?_|intro _
 exact o5 _ ⟨rfl,v,rfl⟩ slr
theorem a4d {I:SlI}{x:DvX}{s:SlX}{g2 g7:Nat}{T2 T7:TypeId}{l:Bs}{A:List Av.Piece}(hx:DvOk x)(hb:0<=s.m.b/\s.m.b<=1000000)(hl:x.ws.length+l.length<=1000000):Av.Spec prog GL 101 [ptr g2,ptr g7] (N7 I x s++(.var g2 T2 (ptr I.gs)::.var g7 T7 (str l)::A))
  fun u m=>u=int (gG x (2+s.m.b / 64) l).2/\∃ v,m=N7 { I with vw:=v } (gG x (2+s.m.b / 64) l).1 s++(.var g2 T2 (ptr I.gs)::.var g7 T7 (str l)::A):=by
 refine qE func101 rfl ntmps101 rfl (fun _ hs=>?_);repeat' first|refine Zz ?_|intro _
 refine X0 [] (N7 I x s) (.var g2 T2 (ptr I.gs)::.var g7 T7 (str l)::A) (a3Y hx hb hl) (fun u m1 hu=>?_);obtain⟨rfl,v,rfl⟩:=hu;repeat' first|refine Zz ?_|intro _
 exact o5 _ ⟨rfl,v,rfl⟩ slr
theorem a4c {I:SlI}{x:DvX}{s:SlX}{g2 g7 g8:Nat}{T2 T7:TypeId}{l:Bs}{M:MkX}(hM:MkB M)(hlf:0<=x.lf/\x.lf<=1000000)(hl:x.ws.length<=1000000):Av.Spec prog GL 103 [ptr g2,ptr g8] (N7 I x s++[.var g2 T2 (ptr I.gs),.var g7 T7 (str l),.var g8 134 (cZ M)])
  fun u m=>u=int (K4 x (M.e%2) (J9 M)).2/\∃ v,m=N7 { I with vw:=v } (K4 x (M.e%2) (J9 M)).1 s++[.var g2 T2 (ptr I.gs),.var g7 T7 (str l),.var g8 134 (cZ M)]:=by
 have he:=hM.e;refine qE func103 rfl ntmps103 rfl (fun _ hs=>?_);repeat' first|refine Zz ?_|intro _
 apply V8 [1,2,3];exact rfl;exact rfl;kernel_rfl;kernel_rfl;intro _ _;refine R6 (Jr (I:=I.toDvI) (x:=x) (a:=M.e%2) (s:=J9 M) hlf hl) (fun u m1 hu=>?_);obtain⟨rfl,v,rfl⟩:=hu;refine j4 (U4 (F4 { I.toDvI with vw:=v } (K4 x (M.e%2) (J9 M)).1) [] rfl rfl lpr rfl ?_);repeat' first|refine Zz ?_|intro _
 exact o5 _ ⟨rfl,v,rfl⟩ slr
def cmX (x:DvX)(s:SlX)(r:Bs):Nat->DvX
 | 0=>x
 | 1=>(Y9 x s r).1
 | 2=>(aL x s r).1
 | 3=>(aK x s r).1
 | _=>(bM x s r).1
def gH (x:DvX)(s:SlX)(r:Bs):DvX × Int:=if (Y9 x s r).2≠0 then Y9 x s r else if (aL x s r).2≠0 then aL x s r else if (aK x s r).2≠0 then aK x s r else bM x s r
abbrev qC (T2 T7:TypeId)(g2 g7 g8:Nat)(gs:Nat)(l:Bs)(M:MkX):List Av.Piece:=[.var g2 T2 (ptr gs),.var g7 T7 (str l),.var g8 134 (cZ M)]
abbrev Mt (g2 g7 g8:Nat):List AV:=[D6 101 [.pointer (some ⟨g2,0,none⟩),.pointer (some ⟨g7,0,none⟩)],D6 98 [.pointer (some ⟨g2,0,none⟩)],
 D6 103 [.pointer (some ⟨g2,0,none⟩),.pointer (some ⟨g8,0,none⟩)],D6 98 [.pointer (some ⟨g2,0,none⟩)]]
theorem a4a {I:SlI}{x:DvX}{s:SlX}{r:Bs}{g2 g7 g8:Nat}{T2 T7:TypeId}(hx:DvOk x)(hb:0<=s.m.b/\s.m.b<=1000000)(hM:MkB (F5 s r))(hl:x.ws.length+(I5 s.l++y7 r).length+1<=1000000)(hbr:s.br=false) :
  Av.Spec prog GL 100 [ptr I.gs,.sl 1 (Mt g2 g7 g8) none] (N7 I x s++qC T2 T7 g2 g7 g8 I.gs (I5 s.l++y7 r) (F5 s r))
  fun u m=>u=int (gH x s r).2/\∃ v,m=N7 { I with vw:=v } (gH x s r).1 { s with br:=decide ((gH x s r).2≠0) }++qC T2 T7 g2 g7 g8 I.gs (I5 s.l++y7 r) (F5 s r):=by
 have h1:DvOk (Y9 x s r).1:=Du hx;have h2:DvOk (aL x s r).1:=NI h1;have h3:DvOk (aK x s r).1:=yE h2;have w1:(Y9 x s r).1.ws.length<=x.ws.length+(I5 s.l++y7 r).length:=a0S;have w2:(aL x s r).1.ws.length<=(Y9 x s r).1.ws.length:=Lc;have w3:(aK x s r).1.ws.length<=(aL x s r).1.ws.length+1:=GY;have hcs1:∀ v∈[Value.pointer (some ⟨g2,0,none⟩),.pointer (some ⟨g7,0,none⟩)],v.oneCell'=true:=by simp[Value.oneCell']
 have hcs2:∀ v∈[Value.pointer (some ⟨g2,0,none⟩)],v.oneCell'=true:=by simp[Value.oneCell']
 have hcs3:∀ v∈[Value.pointer (some ⟨g2,0,none⟩),.pointer (some ⟨g8,0,none⟩)],v.oneCell'=true:=by simp[Value.oneCell']
 have hs0:({ s with br:=false }:SlX)=s:=by rw[<- hbr]
 generalize hlL:I5 s.l++y7 r=L at hl w1 ⊢;generalize hlM:F5 s r=M at hM ⊢;have c1:∀ v,Av.Spec prog GL 101 [ptr g2,ptr g7] (N7 { I with vw:=v } x s++qC T2 T7 g2 g7 g8 I.gs L M) fun u m=>u=int (Y9 x s r).2/\∃ v,m=N7 { I with vw:=v } (Y9 x s r).1 s++qC T2 T7 g2 g7 g8 I.gs L M:=fun v=>by
  unfold Y9;rw[hlL];exact a4d (I:={ I with vw:=v }) hx hb om
 have c2:∀ v,Av.Spec prog GL 98 [ptr g2] (N7 { I with vw:=v } (Y9 x s r).1 s++qC T2 T7 g2 g7 g8 I.gs L M) fun u m=>u=int (aL x s r).2/\∃ v,m=N7 { I with vw:=v } (aL x s r).1 s++qC T2 T7 g2 g7 g8 I.gs L M:=fun v=>Ji (I:={ I with vw:=v }) h1.lf om;have c3:∀ v,Av.Spec prog GL 103 [ptr g2,ptr g8] (N7 { I with vw:=v } (aL x s r).1 s++qC T2 T7 g2 g7 g8 I.gs L M) fun u m=>u=int (aK x s r).2/\∃ v,m=N7 { I with vw:=v } (aK x s r).1 s++qC T2 T7 g2 g7 g8 I.gs L M:=fun v=>by
  unfold aK;rw[hlM];exact a4c (I:={ I with vw:=v }) hM h2.lf om
 have c4:∀ v,Av.Spec prog GL 98 [ptr g2] (N7 { I with vw:=v } (aK x s r).1 s++qC T2 T7 g2 g7 g8 I.gs L M) fun u m=>u=int (bM x s r).2/\∃ v,m=N7 { I with vw:=v } (bM x s r).1 s++qC T2 T7 g2 g7 g8 I.gs L M:=fun v=>Ji (I:={ I with vw:=v }) h3.lf om;refine qE func100 rfl ntmps100 rfl (fun _ hs=>?_);repeat' first|refine Zz ?_|intro _
 refine z8 (α:=Nat × Value) (fun z=>[(0,ptr I.gs),(8,.sl 1 (Mt g2 g7 g8) none),(9,int 4),(10,int z.1)]) (fun z=>N7 { I with vw:=z.2 } (cmX x s r z.1) s++qC T2 T7 g2 g7 g8 I.gs L M)
  (fun z=>z.1<=4/\(1<=z.1->(Y9 x s r).2=0)/\(2<=z.1->(aL x s r).2=0)/\(3<=z.1->(aK x s r).2=0)/\(4<=z.1->(bM x s r).2=0)) (fun z=>4-z.1) (0,I.vw) ⟨rfl,rfl,rfl,rfl,trivial⟩ slr
  ⟨Nat.zero_le _,fun h=>absurd h (by dsimp only;omega),fun h=>absurd h (by dsimp only;omega),fun h=>absurd h (by dsimp only;omega),fun h=>absurd h (by dsimp only;omega)⟩ ?_
 rintro⟨i,v⟩ ⟨hi,f1,f2,f3,f4⟩;dsimp only at hi f1 f2 f3 f4 ⊢;rcases i with _|_|_|_|_|i
 ·skip
  repeat' first|refine Zz ?_|intro _
  refine wP (args:=[]) (cs:=[.pointer (some ⟨g2,0,none⟩),.pointer (some ⟨g7,0,none⟩)]) (c1 v) (fun u m1 hu=>?_) (hcs:=hcs1);obtain⟨rfl,v',rfl⟩:=hu;by_cases he:(Y9 x s r).2=0
  ·repeat' first|refine Zz ?_|intro _
   exact o6 (1,v') ⟨rfl,rfl,rfl,rfl,trivial⟩ slr ⟨by dsimp only;omega,fun _=>he,fun h=>absurd h (by dsimp only;omega),fun h=>absurd h (by dsimp only;omega),fun h=>absurd h (by dsimp only;omega)⟩ (by dsimp only;omega)
  ·have hd:gH x s r=Y9 x s r:=by unfold gH;rw[if_pos he]
   rw[hd,dT he];repeat' first|refine Zz ?_|intro _
   exact o5 _ ⟨rfl,v',rfl⟩ slr
 ·skip
  have e1:=f1 om;repeat' first|refine Zz ?_|intro _
  refine wP (args:=[]) (cs:=[.pointer (some ⟨g2,0,none⟩)]) (c2 v) (fun u m1 hu=>?_) (hcs:=hcs2);obtain⟨rfl,v',rfl⟩:=hu;by_cases he:(aL x s r).2=0
  ·repeat' first|refine Zz ?_|intro _
   exact o6 (2,v') ⟨rfl,rfl,rfl,rfl,trivial⟩ slr ⟨by dsimp only;omega,fun _=>e1,fun _=>he,fun h=>absurd h (by dsimp only;omega),fun h=>absurd h (by dsimp only;omega)⟩ (by dsimp only;omega)
  ·have hd:gH x s r=aL x s r:=by unfold gH;rw[if_neg (nni e1)];rw[if_pos he]
   rw[hd,dT he];repeat' first|refine Zz ?_|intro _
   exact o5 _ ⟨rfl,v',rfl⟩ slr
 ·skip
  have e1:=f1 om;have e2:=f2 om;repeat' first|refine Zz ?_|intro _
  refine wP (args:=[]) (cs:=[.pointer (some ⟨g2,0,none⟩),.pointer (some ⟨g8,0,none⟩)]) (c3 v) (fun u m1 hu=>?_) (hcs:=hcs3);obtain⟨rfl,v',rfl⟩:=hu;by_cases he:(aK x s r).2=0
  ·repeat' first|refine Zz ?_|intro _
   exact o6 (3,v') ⟨rfl,rfl,rfl,rfl,trivial⟩ slr ⟨by dsimp only;omega,fun _=>e1,fun _=>e2,fun _=>he,fun h=>absurd h (by dsimp only;omega)⟩ (by dsimp only;omega)
  ·have hd:gH x s r=aK x s r:=by unfold gH;rw[if_neg (nni e1)];rw[if_neg (nni e2)];rw[if_pos he]
   rw[hd,dT he];repeat' first|refine Zz ?_|intro _
   exact o5 _ ⟨rfl,v',rfl⟩ slr
 ·skip
  have e1:=f1 om;have e2:=f2 om;have e3:=f3 om;repeat' first|refine Zz ?_|intro _
  refine wP (args:=[]) (cs:=[.pointer (some ⟨g2,0,none⟩)]) (c4 v) (fun u m1 hu=>?_) (hcs:=hcs2);obtain⟨rfl,v',rfl⟩:=hu;by_cases he:(bM x s r).2=0
  ·repeat' first|refine Zz ?_|intro _
   exact o6 (4,v') ⟨rfl,rfl,rfl,rfl,trivial⟩ slr ⟨by dsimp only;omega,fun _=>e1,fun _=>e2,fun _=>e3,fun _=>he⟩ (by dsimp only;omega)
  ·have hd:gH x s r=bM x s r:=by unfold gH;rw[if_neg (nni e1)];rw[if_neg (nni e2)];rw[if_neg (nni e3)]
   rw[hd,dT he];repeat' first|refine Zz ?_|intro _
   exact o5 _ ⟨rfl,v',rfl⟩ slr
 ·have e1:=f1 om;have e2:=f2 om;have e3:=f3 om;have e4:=f4 om;have hd:gH x s r=bM x s r:=by unfold gH;rw[if_neg (nni e1),if_neg (nni e2),if_neg (nni e3)]
  rw[hd,e4,dZ dc,hs0];repeat' first|refine Zz ?_|intro _
  exact o5 _ ⟨rfl,v,rfl⟩ slr
 ·omega
end Go.Proofs.YtocpacdnjbjjmaaGreatDoor

namespace Go.Proofs.YtocpacdnjbjjmaaGreatDoor
open Go Go.RowKit Tw Av
theorem Ky {x y:DvX}(h:y.es=x.es):D9 y=D9 x:=by
 funext a
 unfold D9;rw[h]
theorem VS {x:DvX}{k:List Bool}{torn cut:Int}(hn:x.n≠0):(S9 x k torn cut).on=true/\(S9 x k torn cut).ws=[]/\(S9 x k torn cut).n=x.n/\(S9 x k torn cut).ar=false:=by
 unfold S9;rw[if_neg hn];exact⟨rfl,rfl,(IG _ _ _).1,rfl⟩
theorem VD (l:Bs):(I5 l).length<64:=by
 unfold I5;rw[List.length_drop];omega
theorem a6h {l r:Bs}{j:Nat}(hj:64*(l.length / 64+j)<l.length):(K9 ((I5 l++r).drop (64*j))).take (l.length-64*(l.length / 64+j))=(l.drop (64*(l.length / 64+j))).take 64:=by
 obtain rfl:j=0:=by omega
 have he:l.length-64*(l.length / 64+0)=(I5 l).length:=by
  unfold I5;rw[List.length_drop];omega
 have hd:l.drop (64*(l.length / 64+0))=I5 l:=by
  unfold I5;congr 1
  omega
 have hl:=VD l;rw[he,hd,Nat.mul_zero,List.drop_zero,Ee (by rw[lla];omega) om,List.take_left,List.take_of_length_le om]
theorem a6i {l r:Bs}{j:Nat}:(K9 ((I5 l++r).drop (64*j))).take ((l++r).length-64*(l.length / 64+j))=((l++r).drop (64*(l.length / 64+j))).take 64:=by
 have hd:(l++r).drop (64*(l.length / 64+j))=(I5 l++r).drop (64*j):=by
  have h1:(l++r).drop (64*(l.length / 64))=I5 l++r:=by
   rw[List.drop_append_of_le_length om];unfold I5;congr 2
   omega
  rw[show 64*(l.length / 64+j)=64*(l.length / 64)+64*j by omega,<- List.drop_drop,h1]
 rw[hd];have hl:((I5 l++r).drop (64*j)).length=(l++r).length-64*(l.length / 64+j):=by
  rw[<- hd,List.length_drop]
 rw[<- hl,a1g]
section
variable {x:DvX} {s:SlX} {r:Bs}
structure LogOk (x:DvX)(s:SlX):Prop where
 dv:DvOk x
 on:x.on=true
 ws:x.ws=[]
 fit:DFits (D9 x) s.l s.m
 b:s.m.b=s.l.length
 rm:s.m.b<=M0 x.n
 n:3<=x.n
 br:s.br=false
 e:s.m.e<190
 c:0<=s.m.c/\s.m.c<=1000
def Old (y:DvX)(s s':SlX):Prop:=DvOk y/\∀ k torn cut,DFits (D9 (S9 y k torn cut)) s.l s.m\/DFits (D9 (S9 y k torn cut)) s'.l s'.m
def xN (s:SlX)(r:Bs):SlX:=⟨F5 s r,s.l++y7 r,false⟩
theorem El {y:DvX}(h:LogOk x s)(hy:DvOk y)(he:y.es=x.es)(hw:∀ w∈y.ws,w∈qD (I5 s.l++y7 r).length (2+s.m.b / 64) (I5 s.l++y7 r)):Old y s (xN s r):=by
 refine⟨hy,fun k torn cut=>.inl ?_⟩;refine Lf (fun f=>DFits f s.l s.m) hy ?_ ?_
 ·intro w hm f c hf hP;obtain⟨j,rfl,hj⟩:=Nc (hw w hm);have ha:(2+s.m.b / 64+(j:Int))=2+((s.l.length / 64+j:Nat):Int):=by
   rw[h.b];omega
  dsimp only;rw[ha];exact⟨YJ hf (LC _),Xr hf hP.lg (LC _) a6h,Wp om hP.mr⟩
 ·rw[Ky he];exact h.fit
theorem En (h:LogOk x s)(hr:(y7 r).length<=M0 x.n-s.m.b):MkB (F5 s r):=by
 have h1:=h.fit.mr.e;have h2:=h.b;have h3:=h.c;have h4:=h.e;have h5:=h.dv.n;have h6:M0 x.n=(x.n-2)*64:=rfl;exact⟨by unfold F5;dsimp only;omega,by unfold F5;dsimp only;omega,by unfold F5;dsimp only;omega⟩
theorem Ej {z y:DvX}(h:LogOk x s)(hr:(y7 r).length<=M0 x.n-s.m.b)(hz:DFits (D9 z) (s.l++y7 r) s.m)(hy:DvOk y)(he:D9 y=D9 z)(hw:∀ w∈y.ws,w=((F5 s r).e%2,J9 (F5 s r))):Old y s (xN s r):=by
 refine⟨hy,fun k torn cut=>?_⟩;have hB:=En h hr;have hE:(F5 s r).e=s.m.e+1:=rfl;have hpre:∀ {f:Int->Bs},LgI f (s.l++y7 r)->LgI f s.l:=by
  intro f hf j hj;have h1:=hf j (by rw[lla];omega);have h2:=congrArg (List.take (s.l.length-64*j)) h1;rw[List.take_take,lla,Nat.min_eq_left om,List.take_take,List.drop_append_of_le_length om] at h2;rw[h2];by_cases hh:s.l.length-64*j<=64
  ·rw[Nat.min_eq_left hh,List.take_append_of_le_length (by rw[List.length_drop];omega),List.take_of_length_le (by rw[List.length_drop];omega),List.take_of_length_le (by rw[List.length_drop];omega)]
  ·rw[Nat.min_eq_right om,List.take_append_of_le_length (by rw[List.length_drop];omega)]
 have key:(∀ a,(D9 (S9 y k torn cut) a).length=64)/\LgI (D9 (S9 y k torn cut)) (s.l++y7 r)/\(MkI (D9 (S9 y k torn cut)) s.m\/MkI (D9 (S9 y k torn cut)) (F5 s r)):=by
  refine Lf (fun f=>(∀ a,(f a).length=64)/\LgI f (s.l++y7 r)/\(MkI f s.m\/MkI f (F5 s r))) hy ?_ ?_
  ·intro w hm f c hf hP;obtain rfl:=hw w hm;dsimp only;refine⟨YJ hf (FN _),YI om hP.2.1,?_⟩;rcases hP.2.2 with hm|hm
   ·exact Xq hf hm hB hE (by have:=h.e;omega)
   ·right
    have e1:tn c (J9 (F5 s r)) (f ((F5 s r).e%2))=f ((F5 s r).e%2):=by
     rw[hm.at_];unfold tn;exact List.take_append_drop _ _
    have e2:aD f ((F5 s r).e%2) (f ((F5 s r).e%2))=f:=by
     funext b
     unfold aD;split
     ·rename_i hb;rw[hb]
     ·rfl
    rw[e1,e2];exact hm
  ·rw[he];exact⟨hz.len,hz.lg,.inl hz.mr⟩
 rcases key.2.2 with hm|hm
 ·exact .inl ⟨key.1,hpre key.2.1,hm⟩
 ·exact .inr ⟨key.1,key.2.1,hm⟩
end
end Go.Proofs.YtocpacdnjbjjmaaGreatDoor
