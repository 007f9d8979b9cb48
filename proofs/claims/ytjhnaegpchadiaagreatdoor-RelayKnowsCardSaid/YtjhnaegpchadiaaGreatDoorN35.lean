/- . -/
import Derived.Test.YtjhnaegpchadiaaGreatDoorN34
set_option maxHeartbeats 64000000
namespace Go.Proofs.YtjhnaegpchadiaaGreatDoor
open Go Go.RowKit Tw Av Go.Proofs.Tryz
theorem a3b (r:Bs):mE (List.replicate 64 0) r=M6 r:=by
 unfold mE M6;rw[List.length_replicate,List.drop_replicate]
theorem FM {x:DvX}{a:Int}{s:Bs}:(L9 x a s).1.ws.length<=x.ws.length+1:=by
 unfold L9
 (repeat' split) <;> simp[dK,J3,dL]
theorem a0Z {I:SlI}{x:DvX}{s:SlX}{l:Bs}(hx:DvOk x)(hb:0<=s.m.b/\s.m.b<=1000000)(hl:x.ws.length+l.length<=1000000):Av.Spec prog GL 142 [ptr I.gs,str l] (O8 I x s)
  fun u m=>u=int (gX x (2+s.m.b / 64) l).2/\∃ v,m=O8 { I with vw:=v } (gX x (2+s.m.b / 64) l).1 s:=by
 refine qF func142 ntmps142 fun _ hs=>?_;repeat' first|refine Zz ?_|intro _
 refine y5 (α:=DvX × Value × Int × Bs) (fun z=>[(0,ptr I.gs),(1,str z.2.2.2),(5,int z.2.2.1)]) (fun z=>O8 { I with vw:=z.2.1 } z.1 s)
  (fun z=>DvOk z.1/\gX z.1 z.2.2.1 z.2.2.2=gX x (2+s.m.b / 64) l/\z.1.ws.length+z.2.2.2.length<=1000000/\z.2.2.1+z.2.2.2.length<=3000000/\0<=z.2.2.1) (fun z=>z.2.2.2.length) (x,I.vw,2+s.m.b / 64,l) ⟨rfl,rfl,rfl,trivial⟩ slr ⟨hx,rfl,hl,by dsimp only;omega,by dsimp only;omega⟩ ?_
 rintro⟨y,v,a,r⟩ ⟨hy,he,hw,ha,ha0⟩;dsimp only at hy he hw ha ha0 ⊢;by_cases hr:r=[]
 ·subst hr;rw[show gX y a []=(y,0) from rfl] at he;rw[<- he];repeat' first|refine Zz ?_|intro _
  exact l9 _ ⟨rfl,v,rfl⟩ slr
 have hlr:0<r.length:=List.length_pos_iff.2 hr;have hdl:(r.drop 64).length=r.length-64:=List.length_drop;repeat' first|refine Zz ?_|intro _
 rename_i g6;refine MU (l:=List.replicate 64 0) (a:=r) rfl ?_;rw[a3b];repeat' first|refine Zz ?_|intro _
 refine U7 (min r.length 64) r.length ?_ (h4:=Nat.le_refl _);rw[List.take_length,show r.drop (min r.length 64)=r.drop 64 by
  by_cases h:r.length<=64
  ·rw[Nat.min_eq_left h,List.drop_length,List.drop_of_length_le h]
  ·rw[Nat.min_eq_right om]]
 repeat' first|refine Zz ?_|intro _
 apply x8 [0];exact rfl;exact rfl;kernel_rfl
 ·intro _ _;refine VB (l:=M6 r) ?_;exact j4 (o9 rfl rfl)
 apply Y8 [2,3,4];exact rfl;exact rfl;kernel_rfl;kernel_rfl;intro _ _;refine X4 (Gt (I:={ I.toDvI with vw:=v }) (x:=y) (a:=a) (s:=M6 r) hy.lf om) (fun u m1 hu=>?_);obtain⟨rfl,v',rfl⟩:=hu;refine j4 (R6 (F5 { I.toDvI with vw:=v' } (L9 y a (M6 r)).1) [] rfl rfl lpr rfl ?_);have hy2:DvOk (L9 y a (M6 r)).1:=yD hy;have hw2:=FM (x:=y) (a:=a) (s:=M6 r);rw[Bh hr] at he;by_cases hz:(L9 y a (M6 r)).2=0
 ·rw[if_pos hz] at he;rw[hz];repeat' first|refine Zz ?_|intro _
  refine nU (O8 { I with vw:=v' } (L9 y a (M6 r)).1 s) _ ?_ lpr (List.sublist_cons_self _ _);exact o6 ((L9 y a (M6 r)).1,v',a+1,r.drop 64) ⟨rfl,rfl,rfl,trivial⟩ slr ⟨hy2,he,by dsimp only;omega,by dsimp only;omega,by dsimp only;omega⟩ (by dsimp only;omega)
 ·rw[if_neg hz] at he;rw[<- he];repeat' first|refine Zz ?_|intro _
  refine nU (O8 { I with vw:=v' } (L9 y a (M6 r)).1 s) _ ?_ lpr (List.sublist_cons_self _ _);exact l9 _ ⟨rfl,v',rfl⟩ slr
theorem Be:∀ {f:Nat} {x:DvX} {a:Int} {s:Bs},(kV f x a s).1.ws.length<=x.ws.length+f
 | 0,_,_,_=>Nat.le_refl _
 | f+1,x,a,s=>by
  unfold kV;have h1:=FM (x:=x) (a:=a) (s:=M6 s);split
  ·exact Nat.le_add_right _ _
  split
  ·have:=Be (f:=f) (x:=(L9 x a (M6 s)).1) (a:=a+1) (s:=s.drop 64);omega
  ·omega
theorem Vf {x:DvX}{a:Int}{s:Bs}:(gX x a s).1.ws.length<=x.ws.length+s.length:=Be
theorem Ii {x:DvX}:(W9 x).1.ws.length<=x.ws.length:=by
 unfold W9
 (repeat' split) <;> simp[dL,X6,J3]
theorem Gh {I:SlI}{x:DvX}{s:SlX}{g2:Nat}{T2:TypeId}{A:List Av.Piece}(hlf:0<=x.lf/\x.lf<=1000000)(hl:x.ws.length<=1000000):Av.Spec prog GL 138 [ptr g2] (O8 I x s++(.var g2 T2 (ptr I.gs)::A))
  fun u m=>u=int (W9 x).2/\∃ v,m=O8 { I with vw:=v } (W9 x).1 s++(.var g2 T2 (ptr I.gs)::A):=by
 refine qF func138 ntmps138 fun _ hs=>?_;repeat' first|refine Zz ?_|intro _
 refine gJ [_] (F5 I.toDvI x) (.var g2 T2 (ptr I.gs)::A) (a1J hlf hl) (fun u m1 hu=>?_);obtain⟨rfl,v,rfl⟩:=hu;repeat' first|refine Zz ?_|intro _
 exact l9 _ ⟨rfl,v,rfl⟩ slr
theorem a1e {I:SlI}{x:DvX}{s:SlX}{g2 g7:Nat}{T2 T7:TypeId}{l:Bs}{A:List Av.Piece}(hx:DvOk x)(hb:0<=s.m.b/\s.m.b<=1000000)(hl:x.ws.length+l.length<=1000000):Av.Spec prog GL 141 [ptr g2,ptr g7] (O8 I x s++(.var g2 T2 (ptr I.gs)::.var g7 T7 (str l)::A))
  fun u m=>u=int (gX x (2+s.m.b / 64) l).2/\∃ v,m=O8 { I with vw:=v } (gX x (2+s.m.b / 64) l).1 s++(.var g2 T2 (ptr I.gs)::.var g7 T7 (str l)::A):=by
 refine qF func141 ntmps141 fun _ hs=>?_;repeat' first|refine Zz ?_|intro _
 refine gJ [] (O8 I x s) (.var g2 T2 (ptr I.gs)::.var g7 T7 (str l)::A) (a0Z hx hb hl) (fun u m1 hu=>?_);obtain⟨rfl,v,rfl⟩:=hu;repeat' first|refine Zz ?_|intro _
 exact l9 _ ⟨rfl,v,rfl⟩ slr
theorem a1d {I:SlI}{x:DvX}{s:SlX}{g2 g7 g8:Nat}{T2 T7:TypeId}{l:Bs}{M:MkX}(hM:MkB M)(hlf:0<=x.lf/\x.lf<=1000000)(hl:x.ws.length<=1000000):Av.Spec prog GL 143 [ptr g2,ptr g8] (O8 I x s++[.var g2 T2 (ptr I.gs),.var g7 T7 (str l),.var g8 183 (dE M)])
  fun u m=>u=int (L9 x (M.e%2) (K4 M)).2/\∃ v,m=O8 { I with vw:=v } (L9 x (M.e%2) (K4 M)).1 s++[.var g2 T2 (ptr I.gs),.var g7 T7 (str l),.var g8 183 (dE M)]:=by
 have he:=hM.e;refine qF func143 ntmps143 fun _ hs=>?_;repeat' first|refine Zz ?_|intro _
 apply Y8 [1,2,3];exact rfl;exact rfl;kernel_rfl;kernel_rfl;intro _ _;refine X4 (Gt (I:=I.toDvI) (x:=x) (a:=M.e%2) (s:=K4 M) hlf hl) (fun u m1 hu=>?_);obtain⟨rfl,v,rfl⟩:=hu;refine j4 (R6 (F5 { I.toDvI with vw:=v } (L9 x (M.e%2) (K4 M)).1) [] rfl rfl lpr rfl ?_);repeat' first|refine Zz ?_|intro _
 exact l9 _ ⟨rfl,v,rfl⟩ slr
def cmX (x:DvX)(s:SlX)(r:Bs):Nat->DvX
 | 0=>x
 | 1=>(aH x s r).1
 | 2=>(bC x s r).1
 | 3=>(bB x s r).1
 | _=>(dN x s r).1
def iA (x:DvX)(s:SlX)(r:Bs):DvX × Int:=if (aH x s r).2≠0 then aH x s r else if (bC x s r).2≠0 then bC x s r else if (bB x s r).2≠0 then bB x s r else dN x s r
abbrev qK (T2 T7:TypeId)(g2 g7 g8:Nat)(gs:Nat)(l:Bs)(M:MkX):List Av.Piece:=[.var g2 T2 (ptr gs),.var g7 T7 (str l),.var g8 183 (dE M)]
abbrev Jm (g2 g7 g8:Nat):List AV:=[F4 141 [.pointer (some ⟨g2,0,none⟩),.pointer (some ⟨g7,0,none⟩)],F4 138 [.pointer (some ⟨g2,0,none⟩)],
 F4 143 [.pointer (some ⟨g2,0,none⟩),.pointer (some ⟨g8,0,none⟩)],F4 138 [.pointer (some ⟨g2,0,none⟩)]]
theorem a1b {I:SlI}{x:DvX}{s:SlX}{r:Bs}{g2 g7 g8:Nat}{T2 T7:TypeId}(hx:DvOk x)(hb:0<=s.m.b/\s.m.b<=1000000)(hM:MkB (F7 s r))(hl:x.ws.length+(J2 s.l++y8 r).length+1<=1000000)(hbr:s.br=false) :
  Av.Spec prog GL 140 [ptr I.gs,.sl 1 (Jm g2 g7 g8) none] (O8 I x s++qK T2 T7 g2 g7 g8 I.gs (J2 s.l++y8 r) (F7 s r))
  fun u m=>u=int (iA x s r).2/\∃ v,m=O8 { I with vw:=v } (iA x s r).1 { s with br:=decide ((iA x s r).2≠0) }++qK T2 T7 g2 g7 g8 I.gs (J2 s.l++y8 r) (F7 s r):=by
 have h1:DvOk (aH x s r).1:=Bi hx;have h2:DvOk (bC x s r).1:=LU h1;have h3:DvOk (bB x s r).1:=yD h2;have w1:(aH x s r).1.ws.length<=x.ws.length+(J2 s.l++y8 r).length:=Vf;have w2:(bC x s r).1.ws.length<=(aH x s r).1.ws.length:=Ii;have w3:(bB x s r).1.ws.length<=(bC x s r).1.ws.length+1:=FM;have hcs1:∀ v∈[Value.pointer (some ⟨g2,0,none⟩),.pointer (some ⟨g7,0,none⟩)],v.oneCell'=true:=by simp[Value.oneCell']
 have hcs2:∀ v∈[Value.pointer (some ⟨g2,0,none⟩)],v.oneCell'=true:=by simp[Value.oneCell']
 have hcs3:∀ v∈[Value.pointer (some ⟨g2,0,none⟩),.pointer (some ⟨g8,0,none⟩)],v.oneCell'=true:=by simp[Value.oneCell']
 have hs0:({ s with br:=false }:SlX)=s:=by rw[<- hbr]
 generalize hlL:J2 s.l++y8 r=L at hl w1 ⊢;generalize hlM:F7 s r=M at hM ⊢;have c1:∀ v,Av.Spec prog GL 141 [ptr g2,ptr g7] (O8 { I with vw:=v } x s++qK T2 T7 g2 g7 g8 I.gs L M) fun u m=>u=int (aH x s r).2/\∃ v,m=O8 { I with vw:=v } (aH x s r).1 s++qK T2 T7 g2 g7 g8 I.gs L M:=fun v=>by
  unfold aH;rw[hlL];exact a1e (I:={ I with vw:=v }) hx hb om
 have c2:∀ v,Av.Spec prog GL 138 [ptr g2] (O8 { I with vw:=v } (aH x s r).1 s++qK T2 T7 g2 g7 g8 I.gs L M) fun u m=>u=int (bC x s r).2/\∃ v,m=O8 { I with vw:=v } (bC x s r).1 s++qK T2 T7 g2 g7 g8 I.gs L M:=fun v=>Gh (I:={ I with vw:=v }) h1.lf om;have c3:∀ v,Av.Spec prog GL 143 [ptr g2,ptr g8] (O8 { I with vw:=v } (bC x s r).1 s++qK T2 T7 g2 g7 g8 I.gs L M) fun u m=>u=int (bB x s r).2/\∃ v,m=O8 { I with vw:=v } (bB x s r).1 s++qK T2 T7 g2 g7 g8 I.gs L M:=fun v=>by
  unfold bB;rw[hlM];exact a1d (I:={ I with vw:=v }) hM h2.lf om
 have c4:∀ v,Av.Spec prog GL 138 [ptr g2] (O8 { I with vw:=v } (bB x s r).1 s++qK T2 T7 g2 g7 g8 I.gs L M) fun u m=>u=int (dN x s r).2/\∃ v,m=O8 { I with vw:=v } (dN x s r).1 s++qK T2 T7 g2 g7 g8 I.gs L M:=fun v=>Gh (I:={ I with vw:=v }) h3.lf om;refine qF func140 ntmps140 fun _ hs=>?_;repeat' first|refine Zz ?_|intro _
 refine y5 (α:=Nat × Value) (fun z=>[(0,ptr I.gs),(8,.sl 1 (Jm g2 g7 g8) none),(9,int 4),(10,int z.1)]) (fun z=>O8 { I with vw:=z.2 } (cmX x s r z.1) s++qK T2 T7 g2 g7 g8 I.gs L M)
  (fun z=>z.1<=4/\(1<=z.1->(aH x s r).2=0)/\(2<=z.1->(bC x s r).2=0)/\(3<=z.1->(bB x s r).2=0)/\(4<=z.1->(dN x s r).2=0)) (fun z=>4-z.1) (0,I.vw) ⟨rfl,rfl,rfl,rfl,trivial⟩ slr
  ⟨Nat.zero_le _,fun h=>absurd h (by dsimp only;omega),fun h=>absurd h (by dsimp only;omega),fun h=>absurd h (by dsimp only;omega),fun h=>absurd h (by dsimp only;omega)⟩ ?_
 rintro⟨i,v⟩ ⟨hi,f1,f2,f3,f4⟩;dsimp only at hi f1 f2 f3 f4 ⊢;rcases i with _|_|_|_|_|i
 ·skip
  repeat' first|refine Zz ?_|intro _
  refine wX (args:=[]) (cs:=[.pointer (some ⟨g2,0,none⟩),.pointer (some ⟨g7,0,none⟩)]) (c1 v) (fun u m1 hu=>?_) (hcs:=hcs1);obtain⟨rfl,v',rfl⟩:=hu;by_cases he:(aH x s r).2=0
  ·repeat' first|refine Zz ?_|intro _
   exact o6 (1,v') ⟨rfl,rfl,rfl,rfl,trivial⟩ slr ⟨by dsimp only;omega,fun _=>he,fun h=>absurd h (by dsimp only;omega),fun h=>absurd h (by dsimp only;omega),fun h=>absurd h (by dsimp only;omega)⟩ (by dsimp only;omega)
  ·have hd:iA x s r=aH x s r:=by unfold iA;rw[if_pos he]
   rw[hd,dT he];repeat' first|refine Zz ?_|intro _
   exact l9 _ ⟨rfl,v',rfl⟩ slr
 ·skip
  have e1:=f1 om;repeat' first|refine Zz ?_|intro _
  refine wX (args:=[]) (cs:=[.pointer (some ⟨g2,0,none⟩)]) (c2 v) (fun u m1 hu=>?_) (hcs:=hcs2);obtain⟨rfl,v',rfl⟩:=hu;by_cases he:(bC x s r).2=0
  ·repeat' first|refine Zz ?_|intro _
   exact o6 (2,v') ⟨rfl,rfl,rfl,rfl,trivial⟩ slr ⟨by dsimp only;omega,fun _=>e1,fun _=>he,fun h=>absurd h (by dsimp only;omega),fun h=>absurd h (by dsimp only;omega)⟩ (by dsimp only;omega)
  ·have hd:iA x s r=bC x s r:=by unfold iA;rw[if_neg (nni e1)];rw[if_pos he]
   rw[hd,dT he];repeat' first|refine Zz ?_|intro _
   exact l9 _ ⟨rfl,v',rfl⟩ slr
 ·skip
  have e1:=f1 om;have e2:=f2 om;repeat' first|refine Zz ?_|intro _
  refine wX (args:=[]) (cs:=[.pointer (some ⟨g2,0,none⟩),.pointer (some ⟨g8,0,none⟩)]) (c3 v) (fun u m1 hu=>?_) (hcs:=hcs3);obtain⟨rfl,v',rfl⟩:=hu;by_cases he:(bB x s r).2=0
  ·repeat' first|refine Zz ?_|intro _
   exact o6 (3,v') ⟨rfl,rfl,rfl,rfl,trivial⟩ slr ⟨by dsimp only;omega,fun _=>e1,fun _=>e2,fun _=>he,fun h=>absurd h (by dsimp only;omega)⟩ (by dsimp only;omega)
  ·have hd:iA x s r=bB x s r:=by unfold iA;rw[if_neg (nni e1)];rw[if_neg (nni e2)];rw[if_pos he]
   rw[hd,dT he];repeat' first|refine Zz ?_|intro _
   exact l9 _ ⟨rfl,v',rfl⟩ slr
 ·skip
  have e1:=f1 om;have e2:=f2 om;have e3:=f3 om;repeat' first|refine Zz ?_|intro _
  refine wX (args:=[]) (cs:=[.pointer (some ⟨g2,0,none⟩)]) (c4 v) (fun u m1 hu=>?_) (hcs:=hcs2);obtain⟨rfl,v',rfl⟩:=hu;by_cases he:(dN x s r).2=0
  ·repeat' first|refine Zz ?_|intro _
   exact o6 (4,v') ⟨rfl,rfl,rfl,rfl,trivial⟩ slr ⟨by dsimp only;omega,fun _=>e1,fun _=>e2,fun _=>e3,fun _=>he⟩ (by dsimp only;omega)
  ·have hd:iA x s r=dN x s r:=by unfold iA;rw[if_neg (nni e1)];rw[if_neg (nni e2)];rw[if_neg (nni e3)]
   rw[hd,dT he];repeat' first|refine Zz ?_|intro _
   exact l9 _ ⟨rfl,v',rfl⟩ slr
 ·have e1:=f1 om;have e2:=f2 om;have e3:=f3 om;have e4:=f4 om;have hd:iA x s r=dN x s r:=by unfold iA;rw[if_neg (nni e1),if_neg (nni e2),if_neg (nni e3)]
  rw[hd,e4,dZ dc,hs0];repeat' first|refine Zz ?_|intro _
  exact l9 _ ⟨rfl,v,rfl⟩ slr
 ·omega

theorem a2m (l r:Bs):J2 (J2 l++r)=J2 (l++r):=by
 have h1:l++r=l.take (l.length-l.length%64)++(J2 l++r):=by
  unfold J2;rw[<- laa,List.take_append_drop]
 have h2:(l.take (l.length-l.length%64)).length=l.length-l.length%64:=by
  rw[List.length_take];omega
 rw[h1];generalize J2 l++r=B;generalize l.take (l.length-l.length%64)=A at *;unfold J2;have h3:(A++B).length-(A++B).length%64=A.length+(B.length-B.length%64):=by
  rw[lla];omega
 rw[h3,<- List.drop_drop,List.drop_left]
theorem a2l (l:Bs):(J2 l).length<64:=by
 unfold J2;rw[List.length_drop];omega
theorem Vn (D:List Av.Piece)(a b c:Av.Piece):(D++[b,a,c]).Perm (a::b::(D++[c])):=(List.perm_middle.trans (List.perm_middle.cons b)).trans (List.Perm.swap a b _)
theorem a1c {I:SlI}{x:DvX}{s:SlX}{r:Bs}(hx:DvOk x)(hw:x.ws.length<=1000)(he:0<=s.m.e/\s.m.e<=1000000)(hb:0<=s.m.b/\s.m.b<=1000000)(hc:0<=s.m.c/\s.m.c<=1000000)(hbr:s.br=false) :
  Av.Spec prog GL 64 [ptr I.gs,str r] (O8 I x s) fun u m=>u=int (jH x s r).2.2/\∃ v,m=O8 { I with vw:=v } (jH x s r).1 (jH x s r).2.1:=by
 have hn:=hx.n;have hrm:J4 x.n=(x.n-2)*64:=rfl;refine qF func64 ntmps64 fun _ hs=>?_;repeat' first|refine Zz ?_|intro _
 rw[hbr];repeat' first|refine Zz ?_|intro _
 unfold jH;rw[if_neg (by rw[hbr];decide)];by_cases h1:1048576<r.length
 ·rw[if_pos h1,if_pos h1,if_pos h1];repeat' first|refine Zz ?_|intro _
  refine l9 (O8 I x s) ⟨rfl,I.vw,rfl⟩ ?_;exact x9
 rw[if_neg h1,if_neg h1,if_neg h1];repeat' first|refine Zz ?_|intro _
 refine gJ [_] (O8 I x s) [] (a0Y hn ⟨hb.1,om⟩) (fun u m1 hu=>?_);obtain⟨rfl,rfl⟩:=hu;by_cases h2:J4 x.n-s.m.b<(y8 r).length
 ·rw[if_pos h2];repeat' first|refine Zz ?_|intro _
  refine l9 (O8 I x s) ⟨rfl,I.vw,rfl⟩ ?_;exact x9
 rw[if_neg h2];have hel:=a2l s.l;have hal:(J2 s.l++y8 r).length=(J2 s.l).length+(y8 r).length:=lla;repeat' first|refine Zz ?_|intro _
 rename_i g2 g7 g8;have hM:MkB (F7 s r):=⟨by unfold F7;dsimp only;omega,by unfold F7;dsimp only;omega,by unfold F7;dsimp only;omega⟩;refine gH (vs:=[.pointer (some ⟨g2,0,none⟩)]) ?_;repeat' first|refine Zz ?_|intro _
 refine gH (vs:=[.pointer (some ⟨g2,0,none⟩),.pointer (some ⟨g7,0,none⟩)]) ?_;repeat' first|refine Zz ?_|intro _
 refine gH (vs:=[.pointer (some ⟨g2,0,none⟩),.pointer (some ⟨g8,0,none⟩)]) ?_;repeat' first|refine Zz ?_|intro _
 refine VD (O8 I x s++qK 102 9 g2 g7 g8 I.gs (J2 s.l++y8 r) (F7 s r)) _ ?_ (Vn (O8 I x s) _ _ _) slr;refine X4 (a1b hx hb hM om hbr) (fun u m1 hu=>?_);obtain⟨rfl,v,rfl⟩:=hu;have hds:(if (aH x s r).2≠0 then ((aH x s r).1,({ s with br:=true }:SlX),(aH x s r).2) else if (bC x s r).2≠0 then ((bC x s r).1,{ s with br:=true },(bC x s r).2) else if (bB x s r).2≠0 then ((bB x s r).1,{ s with br:=true },(bB x s r).2)
   else if (dN x s r).2≠0 then ((dN x s r).1,{ s with br:=true },(dN x s r).2) else ((dN x s r).1,⟨F7 s r,s.l++y8 r,false⟩,0))=((iA x s r).1,if (iA x s r).2≠0 then { s with br:=true } else ⟨F7 s r,s.l++y8 r,false⟩,(iA x s r).2):=by
  unfold iA;by_cases e1:(aH x s r).2=0
  ·by_cases e2:(bC x s r).2=0
   ·by_cases e3:(bB x s r).2=0
    ·by_cases e4:(dN x s r).2=0
     ·simp[e1,e2,e3,e4]
     ·simp[e1,e2,e3,e4]
    ·simp[e1,e2,e3]
   ·simp[e1,e2]
  ·simp[e1]
 rw[hds];generalize iA x s r=q at *;obtain⟨y,e⟩:=q;dsimp only;by_cases e0:e=0
 rotate_left
 ·rw[if_pos e0,dT e0];repeat' first|refine Zz ?_|intro _
  refine nU (O8 { I with vw:=v } y { s with br:=true }) _ ?_ lpr (List.sublist_append_left _ _);exact l9 _ ⟨rfl,v,rfl⟩ slr
 ·subst e0;rw[if_neg (show ¬ ((0:Int)≠0) by decide),dZ (show ¬ ((0:Int)≠0) by decide)];repeat' first|refine Zz ?_|intro _
  apply x8 [];exact rfl;exact rfl;kernel_rfl
  ·intro _ _;refine U7 ((J2 s.l++y8 r).length-(J2 s.l++y8 r).length%64) (J2 s.l++y8 r).length ?_ (h4:=Nat.le_refl _);rw[List.take_length,show (J2 s.l++y8 r).drop ((J2 s.l++y8 r).length-(J2 s.l++y8 r).length%64)=J2 (J2 s.l++y8 r) from rfl,a2m];exact j4 (o9 rfl rfl)
  repeat' first|refine Zz ?_|intro _
  refine nU (O8 { I with vw:=v } y ⟨F7 s r,s.l++y8 r,false⟩) _ ?_ lpr (List.sublist_append_left _ _);exact l9 _ ⟨rfl,v,rfl⟩ slr

structure ChX where
 nm:Bs
 ky:Bs
 ms:List (List Ent)
 bl:List BlkX
 hs:List Hdr
 ev:List EvX
 ws:List Bs
 dd:Bool
def o7 (c:ChX):List Ent:=c.ms.getD c.hs.length []
def gM (c:ChX):Int:=((c.hs.getLast?).map (·.t)).getD 0
def xW (c:ChX)(b:BlkX):Hdr:=⟨c.nm,b.h,b.t,uJ (L8 (o7 c) b).1⟩
def fV (c:ChX)(b:BlkX):ChX:={ c with ms:=c.ms++[(L8 (o7 c) b).1],bl:=c.bl++[b],hs:=c.hs++[xW c b],ev:=c.ev++(L8 (o7 c) b).2.2 }
structure ChI extends SlI where
 gc:Nat
 vm:Value
 vh:Value
 ve:Value
 vt:Value
abbrev A9 (gs:Nat)(vm vh ve vt:Value)(c:ChX):AV:=.agg 8 [str c.nm,str c.ky,ptr gs,.sl 1 (c.ms.map dA) (some vm),.sl 35 (c.hs.map V8) (some vh),.sl 15 (c.ev.map U3) (some ve),.sl 1 (c.ws.map str) (some vt),j3 c.dd]
abbrev bD (I:ChI)(x:DvX)(s:SlX)(c:ChX):List Av.Piece:=.var I.gc 108 (A9 I.gs I.vm I.vh I.ve I.vt c)::.tail 56 1 I.vm::.tail 36 35 I.vh::.tail 172 15 I.ve::.tail 9 1 I.vt::O8 I.toSlI x s
theorem Er {b:Bool}:Imp (.tup [.agg 1 [A7],j3 b]) (.tup [dA [],j3 b]):=(inferInstance:ImpR (.tup [.agg 1 [.lit (.slice none 0 0)],j3 b]) (.tup [.agg 1 [.sl 2 [] none],j3 b])).imp
section
variable {g gs:Nat} {vm vh ve vt:Value} {c:ChX}
instance b5u:AnsM prog GL 134 g [] 108 (A9 gs vm vh ve vt c) True (j3 true) (A9 gs vm vh ve vt c):=⟨fun _=>by
 refine qF func134 ntmps134 fun _ hs=>?_;repeat' first|refine Zz ?_|intro _
 exact l9 _ ⟨rfl,rfl⟩ slr⟩
instance b5y:AnsM prog GL 63 g [] 108 (A9 gs vm vh ve vt c) True (j3 c.dd) (A9 gs vm vh ve vt c):=⟨fun _=>by
 refine qF func63 ntmps63 fun _ hs=>?_;repeat' first|refine Zz ?_|intro _
 exact l9 _ ⟨rfl,rfl⟩ slr⟩
instance b5v:AnsM prog GL 12 g [] 108 (A9 gs vm vh ve vt c) True (int c.hs.length) (A9 gs vm vh ve vt c):=⟨fun _=>by
 have hm:(c.hs.map V8).length=c.hs.length:=llm _;refine qF func12 ntmps12 fun _ hs=>?_;repeat' first|refine Zz ?_|intro _
 rw[hm];exact l9 _ ⟨rfl,rfl⟩ slr⟩
instance b5s:AnsM prog GL 44 g [] 108 (A9 gs vm vh ve vt c) (c.hs.length<=1000000) (int (gM c)) (A9 gs vm vh ve vt c):=⟨fun hl=>by
 have hm:(c.hs.map V8).length=c.hs.length:=llm _;refine qF func44 ntmps44 fun _ hs=>?_;repeat' first|refine Zz ?_|intro _
 unfold gM;by_cases h:c.hs.length=0
 ·rw[List.length_eq_zero_iff.1 h];repeat' first|refine Zz ?_|intro _
  exact l9 _ ⟨rfl,rfl⟩ slr
 ·obtain⟨k,hk⟩:∃ k,c.hs.length=k+1:=⟨c.hs.length-1,om⟩;have hkl:k<c.hs.length:=by omega
  have hg:c.hs.getLast?=some c.hs[k]:=by
   rw[List.getLast?_eq_getElem?,hk];exact List.getElem?_eq_getElem hkl
  rw[hg];repeat' first|refine Zz ?_|intro _
  rw[show ((c.hs.map V8).length:Int)-1=(k:Int) by omega];repeat' first|refine Zz ?_|intro _
  exact l9 _ ⟨rfl,rfl⟩ slr⟩
instance b5z {h:Int}:AnsM prog GL 34 g [int h] 108 (A9 gs vm vh ve vt c) (c.ms.length<=1000000) (.tup [dA (if 0<=h/\h<c.ms.length then c.ms.getD h.toNat [] else []),j3 (decide (0<=h/\h<c.ms.length))]) (A9 gs vm vh ve vt c):=⟨fun hl=>by
 have hm:(c.ms.map dA).length=c.ms.length:=llm _;refine qF func34 ntmps34 fun _ hs=>?_;repeat' first|refine Zz ?_|intro _
 by_cases h0:0<=h
 rotate_left
 ·rw[if_neg (fun e=>h0 e.1),dZ (fun e=>h0 e.1)];repeat' first|refine Zz ?_|intro _
  refine Y6 (.tup [dA [],j3 false]) [.var g 108 (A9 gs vm vh ve vt c)] ?_ ⟨rfl,rfl⟩ ?_
  ·exact Er
  exact x9
 by_cases h1:h<c.ms.length
 rotate_left
 ·rw[if_neg (fun e=>h1 e.2),dZ (fun e=>h1 e.2)];repeat' first|refine Zz ?_|intro _
  refine Y6 (.tup [dA [],j3 false]) [.var g 108 (A9 gs vm vh ve vt c)] ?_ ⟨rfl,rfl⟩ ?_
  ·exact Er
  exact x9
 ·obtain⟨k,rfl⟩:∃ k:Nat,h=k:=⟨h.toNat,om⟩;have hkl:k<c.ms.length:=by omega
  rw[if_pos ⟨h0,h1⟩,dT ⟨h0,h1⟩,Int.toNat_natCast,List.getD_eq_getElem?_getD,List.getElem?_eq_getElem hkl];repeat' first|refine Zz ?_|intro _
  refine l9 [.var g 108 (A9 gs vm vh ve vt c)] ⟨rfl,rfl⟩ ?_;repeat (first|exact List.nil_sublist _|exact List.Sublist.refl _|apply List.Sublist.cons_cons|apply List.Sublist.cons)⟩
attribute [local irreducible] gM
instance b5t:AnsM prog GL 11 g [] 108 (A9 gs vm vh ve vt c) (c.hs.length<c.ms.length/\c.ms.length<=1000000) (dA (o7 c)) (A9 gs vm vh ve vt c):=⟨fun hl=>by
 have hl2:=hl.2;refine qF func11 ntmps11 fun _ hs=>?_;repeat' first|refine Zz ?_|intro _
 unfold o7;rw[if_pos (show 0<=(c.hs.length:Int)/\(c.hs.length:Int)<c.ms.length by omega),Int.toNat_natCast];refine l9 [.var g 108 (A9 gs vm vh ve vt c)] ⟨rfl,rfl⟩ ?_;repeat (first|exact List.nil_sublist _|exact List.Sublist.refl _|apply List.Sublist.cons_cons|apply List.Sublist.cons)⟩
instance b5w {h:Int}:AnsM prog GL 29 g [int h] 108 (A9 gs vm vh ve vt c) ((c.hs.length<=1000000/\c.ky.length<=1000000)/\∀ y∈c.hs,y.h<=9223372036854775807/\y.t<=9223372036854775807)
  (if 1<=h/\h<=c.hs.length then .tup [V8 (c.hs.getD (h-1).toNat ⟨[],0,0,F3⟩),hA (J8 c.ky (c.hs.getD (h-1).toNat ⟨[],0,0,F3⟩)),j3 true] else .tup [V8 ⟨[],0,0,F3⟩,hA F3,j3 false]) (A9 gs vm vh ve vt c):=⟨fun hp=>by
 obtain⟨⟨hl,hky⟩,hy⟩:=hp;have hm:(c.hs.map V8).length=c.hs.length:=llm _;refine qF func29 ntmps29 fun _ hs=>?_;repeat' first|refine Zz ?_|intro _
 by_cases h0:1<=h
 rotate_left
 ·rw[if_neg (fun e=>h0 e.1)];repeat' first|refine Zz ?_|intro _
  refine l9 [.var g 108 (A9 gs vm vh ve vt c)] ⟨rfl,rfl⟩ ?_;exact x9
 by_cases h1:h<=c.hs.length
 rotate_left
 ·rw[if_neg (fun e=>h1 e.2)];repeat' first|refine Zz ?_|intro _
  refine l9 [.var g 108 (A9 gs vm vh ve vt c)] ⟨rfl,rfl⟩ ?_;exact x9
 ·obtain⟨k,hk⟩:∃ k:Nat,h=k+1:=⟨(h-1).toNat,om⟩;have hkl:k<c.hs.length:=by omega
  have hyk:=hy _ (List.getElem_mem hkl);have hsp:c.ky.length<=1000000/\c.hs[k].h<=9223372036854775807/\c.hs[k].t<=9223372036854775807:=⟨hky,hyk⟩;rw[if_pos ⟨h0,h1⟩,show h-1=(k:Int) by omega,Int.toNat_natCast,List.getD_eq_getElem?_getD,List.getElem?_eq_getElem hkl];repeat' first|refine Zz ?_|intro _
  rw[show h-1=(k:Int) by omega];repeat' first|refine Zz ?_|intro _
  refine l9 [.var g 108 (A9 gs vm vh ve vt c)] ⟨rfl,rfl⟩ ?_;repeat (first|exact List.nil_sublist _|exact List.Sublist.refl _|apply List.Sublist.cons_cons|apply List.Sublist.cons)⟩
end

instance c2f {xs:List AV}{id:Option Value}:Ans prog GL 201 [.sl 15 xs id] (xs.length<=1073741824) (.sl 15 xs none):=⟨fun hx=>by
 refine qF func201 ntmps201 fun _ hs=>?_;repeat' first|refine Wz ?_|intro _
 refine VC (fun q c hq hc=>?_);repeat' first|refine Wz ?_|intro _
 injection hc with hc
 subst hc;refine qP (fun h=>?_) (fun h=>?_)
 ·have e:=hq h;subst e;repeat' first|refine Wz ?_|intro _
  refine E5 ?_;exact Imp.nilN
 ·repeat' first|refine Wz ?_|intro _
  refine VJ (fun g=>?_);repeat' first|refine Wz ?_|intro _
  refine BV (fun g' c' hc'=>?_);refine vK 7 ?_;refine jL 7 Imp.sl ?_;repeat' first|refine Wz ?_|intro _
  exact d9 rfl⟩
instance b5x {g gs:Nat}{vm vh ve vt:Value}{c:ChX}:AnsM prog GL 92 g [] 108 (A9 gs vm vh ve vt c) (c.ev.length<=1000000) (.sl 15 (c.ev.map U3) none) (A9 gs vm vh ve vt c):=⟨fun hl=>by
 have hm:(c.ev.map U3).length=c.ev.length:=llm _;refine qF func92 ntmps92 fun _ hs=>?_;repeat' first|refine Zz ?_|intro _
 apply Y8 [];exact rfl;exact rfl;kernel_rfl;kernel_rfl;intro _ _;refine a4C 0 c.ev.length (fun A=>?_);refine j4 (R6 [] [_] rfl rfl lpr rfl ?_);rw[List.drop_zero,List.take_of_length_le om];repeat' first|refine Zz ?_|intro _
 refine l9 _ ⟨rfl,rfl⟩ ?_;repeat (first|exact List.nil_sublist _|exact List.Sublist.refl _|apply List.Sublist.cons_cons|apply List.Sublist.cons)⟩

def zD (k:Int)(v:EvX):Bool:=decide (v.k=13)&&decide (v.h<=k)
def lJ (N9:List EvX)(k:Int):List Pkt:=(N9.filter (zD k)).map (·.x)
theorem Rj {N9:List EvX}{k:Int}{i:Nat}(h:i<N9.length):lJ (N9.take (i+1)) k=lJ (N9.take i) k++(if zD k N9[i]=true then [N9[i].x] else []):=by
 unfold lJ;rw[<- List.take_append_getElem h,List.filter_append,List.map_append];congr 1
 by_cases hb:zD k N9[i]=true
 ·rw[if_pos hb];simp[hb]
 ·rw[if_neg hb];simp[hb]
theorem Rk {N9:List EvX}{k:Int}{i:Nat}:lJ (N9.take i) k <+: lJ N9 k:=by
 unfold lJ;exact((List.take_prefix i N9).filter _).map _
abbrev U5 (g1 g2:Nat)(p:AV)(k:Int):List Av.Piece:=[.var g2 3 (int k),.var g1 24 p]
theorem JA {p:AV}{k:Int}{v:Value}(hp:p=.lit v)(_:v.oneCell'=true):Av.Spec prog GL 40 [p,int k] [] fun u m=>∃ g1 g2,u=F4 91 [.pointer (some ⟨g1,0,none⟩),.pointer (some ⟨g2,0,none⟩)]/\m=U5 g1 g2 p k:=by
 subst hp;refine qF func40 ntmps40 fun _ hs=>?_;repeat' first|refine Zz ?_|intro _
 rename_i g1 g2;refine gH (vs:=[.pointer (some ⟨g1,0,none⟩),.pointer (some ⟨g2,0,none⟩)]) ?_;repeat' first|refine Zz ?_|intro _
 refine l9 _ ⟨g1,g2,rfl,rfl⟩ ?_;exact List.Sublist.refl _
theorem XY {ok0:Ok}{w0:World}{L g1 g2 gc gs:Nat}{vm vh ve vt:Value}{c:ChX}{k:Int}{A:Type}{z0:A}{J:A->List Av.Piece}{G:List Pkt->A->Prop}{B:List Pkt->List Av.Piece->Prop}
  (hY:∀ pre x z,G pre z->pre++[x] <+: lJ c.ev k->Yld prog GL ok0 w0 L [KA x] (J z) fun v m'=>(v=j3 true/\∃ z',G (pre++[x]) z'/\m'=J z')\/(v=j3 false/\B (pre++[x]) m')) (hG:G [] z0) (hl:c.ev.length<=1000000) {ok:Ok} {w:World} (hw:Stp ok0 w0 ok w)
  (hS:St (Q0 GL (U5 g1 g2 (ptr gc) k++(.var gc 108 (A9 gs vm vh ve vt c)::J z0)) ok w) ok (U5 g1 g2 (ptr gc) k++(.var gc 108 (A9 gs vm vh ve vt c)::J z0)) w) :
  Calls prog 91 #[.func (.yield L) #[] #[],.pointer (some ⟨g1,0,none⟩),.pointer (some ⟨g2,0,none⟩)] w (Back (Q0 GL (U5 g1 g2 (ptr gc) k++(.var gc 108 (A9 gs vm vh ve vt c)::J z0)) ok w) fun _ m'=>(∃ z,G (lJ c.ev k) z/\m'=U5 g1 g2 (ptr gc) k++(.var gc 108 (A9 gs vm vh ve vt c)::J z))\/∃ pre mx,pre <+: lJ c.ev k/\B pre mx/\m'=U5 g1 g2 (ptr gc) k++(.var gc 108 (A9 gs vm vh ve vt c)::mx)):=by
 refine UK (gl:=GL) (m:=U5 g1 g2 (ptr gc) k++(.var gc 108 (A9 gs vm vh ve vt c)::J z0)) (args:=[yv L,ptr g1,ptr g2]) (cargs:=[.func (.yield L) #[] #[],.pointer (some ⟨g1,0,none⟩),.pointer (some ⟨g2,0,none⟩)]) func91 rfl ntmps91 rfl hS ⟨_,_,rfl,RV0.of_lit rfl,_,_,rfl,RV0.of_lit rfl,_,_,rfl,RV0.of_lit rfl,rfl⟩ ?_;have hsw:Stp ok0 w0 (Q0 GL (U5 g1 g2 (ptr gc) k++(.var gc 108 (A9 gs vm vh ve vt c)::J z0)) ok w).ok (Q0 GL (U5 g1 g2 (ptr gc) k++(.var gc 108 (A9 gs vm vh ve vt c)::J z0)) ok w).w:=hw;have hs:(Q0 GL (U5 g1 g2 (ptr gc) k++(.var gc 108 (A9 gs vm vh ve vt c)::J z0)) ok w).gl=GL:=rfl;generalize Q0 GL (U5 g1 g2 (ptr gc) k++(.var gc 108 (A9 gs vm vh ve vt c)::J z0)) ok w=sB at hsw hs ⊢;clear hS;have hm:(c.ev.map U3).length=c.ev.length:=llm _;repeat' first|refine Zz ?_|intro _
 rw[hm];refine y5 (α:=Nat × A) (fun q=>[(0,yv L),(1,ptr g1),(2,ptr g2),(7,.sl 15 (c.ev.map U3) none),(8,int c.ev.length),(9,int q.1)]) (fun q=>U5 g1 g2 (ptr gc) k++(.var gc 108 (A9 gs vm vh ve vt c)::J q.2))
  (fun q=>q.1<=c.ev.length/\G (lJ (c.ev.take q.1) k) q.2) (fun q=>c.ev.length-q.1) (0,z0) ⟨rfl,rfl,rfl,rfl,rfl,rfl,trivial⟩ slr ⟨Nat.zero_le _,hG⟩ ?_
 rintro⟨i,z⟩ ⟨hi,hGi⟩;dsimp only at hi hGi ⊢;by_cases hil:i<c.ev.length
 rotate_left
 ·obtain rfl:i=c.ev.length:=by omega
  rw[List.take_length] at hGi;repeat' first|refine Zz ?_|intro _
  exact iW _ (.inl ⟨z,hGi,rfl⟩) slr
 have hst:=Rj (k:=k) hil;by_cases hb:zD k c.ev[i]=true
 rotate_left
 ·rw[if_neg hb,List.append_nil] at hst;by_cases h13:c.ev[i].k=13
  ·have hk:¬ c.ev[i].h<=k:=fun h=>hb (by unfold zD;rw[dT h13,dT h];rfl);repeat' first|refine Zz ?_|intro _
   exact o6 (i+1,z) ⟨rfl,rfl,rfl,rfl,rfl,rfl,trivial⟩ (List.sublist_cons_self _ _) ⟨hil,by rw[hst];exact hGi⟩ (by dsimp only;omega)
  ·repeat' first|refine Zz ?_|intro _
   exact o6 (i+1,z) ⟨rfl,rfl,rfl,rfl,rfl,rfl,trivial⟩ (List.sublist_cons_self _ _) ⟨hil,by rw[hst];exact hGi⟩ (by dsimp only;omega)
 rw[if_pos hb] at hst;have hp:lJ (c.ev.take i) k++[c.ev[i].x] <+: lJ c.ev k:=by rw[<- hst];exact Rk
 unfold zD at hb;rw[bet,decide_eq_true_iff,decide_eq_true_iff] at hb;obtain⟨h13,hk⟩:=hb;repeat refine sK ?_
 refine CJ ?_;repeat' (first|refine O3 ?_|refine M7 ?_|refine U0 ?_|intro _|simp only[List.set]|fail)
 refine j4 (vL ?_);repeat refine sK ?_
 rw[dT (show (i:Int)<c.ev.length by omega)];refine Oc ?_;refine VP ?_;refine vL ?_;repeat refine sK ?_
 refine VS ?_;repeat refine sK ?_
 refine CJ ?_;repeat' (first|refine O3 ?_|refine M7 ?_|refine U0 ?_|intro _|simp only[List.set]|fail)
 refine j4 (vL ?_);repeat refine sK ?_
 rename_i g5;refine VQ ?_;refine VN (α:=Unit) (fun _=>[(23,yv L),(25,KA (c.ev[i]'hil).x),(22,j3 true),(0,yv L),(1,ptr g1),(2,ptr g2),(7,.sl 15 (c.ev.map U3) none),(8,int c.ev.length),(9,int i)]) (fun _=>Piece.var g5 172 (U3 (c.ev[i]'hil))::(U5 g1 g2 (ptr gc) k++(Piece.var gc 108 (A9 gs vm vh ve vt c)::J z))) ?_ (fun _=>?_) (pre:=[_,_,_,_,_,_,_,_,_,_,_,_,_])
 ·repeat' first|refine Zz ?_|intro _
  exact(X7 () (by exact⟨rfl,rfl,rfl,rfl,rfl,rfl,rfl,rfl,rfl,trivial⟩) slr)
 refine a5W ?_;refine VM (J z) (Piece.var g5 172 (U3 (c.ev[i]'hil))::(U5 g1 g2 (ptr gc) k++[Piece.var gc 108 (A9 gs vm vh ve vt c)])) (by rw[hs];exact hY _ _ z hGi hp) hsw (fun v m1' hv=>?_) (List.perm_append_comm (l₁:=Piece.var g5 172 (U3 (c.ev[i]'hil))::(U5 g1 g2 (ptr gc) k++[Piece.var gc 108 (A9 gs vm vh ve vt c)])) (l₂:=J z));refine Nr ?_;refine gG (fun ok w hS=>hS.perm (m':=Piece.var g5 172 (U3 (c.ev[i]'hil))::(U5 g1 g2 (ptr gc) k++(Piece.var gc 108 (A9 gs vm vh ve vt c)::m1'))) (List.perm_append_comm (l₁:=Piece.var g5 172 (U3 (c.ev[i]'hil))::(U5 g1 g2 (ptr gc) k++[Piece.var gc 108 (A9 gs vm vh ve vt c)])) (l₂:=m1'))) ?_;rcases hv with⟨rfl,z',h4,rfl⟩|⟨rfl,h4⟩
 rotate_left
 ·repeat' first|refine Zz ?_|intro _
  refine Tt (U5 g1 g2 (ptr gc) k++(Piece.var gc 108 (A9 gs vm vh ve vt c)::m1')) (.inr ⟨_,m1',hp,h4,rfl⟩) (List.sublist_cons_self _ _)
 repeat' first|refine Zz ?_|intro _
 exact o6 (i+1,z') ⟨rfl,rfl,rfl,rfl,rfl,rfl,trivial⟩ (List.sublist_cons_self _ _) ⟨hil,by rw[hst];exact h4⟩ (by dsimp only;omega)
end Go.Proofs.YtjhnaegpchadiaaGreatDoor

namespace Go.Proofs.YtjhnaegpchadiaaGreatDoor
open Go Go.RowKit Tw Av
def U9 (x:DvX):List Bs:=(List.range x.n.toNat).map fun (i:Nat)=>H7 x (i:Int)
theorem IX (x:DvX):(U9 x).length=x.n.toNat:=by simp[U9]
theorem DV {x:DvX}{i:Nat}(h:i<x.n.toNat):(U9 x)[i]?=some (H7 x (i:Int)):=by
 unfold U9;rw[List.getElem?_map,List.getElem?_range h];rfl
theorem Rw {x y:DvX}(hn:x.n=y.n)(h:∀ i:Nat,i<x.n.toNat->H7 x (i:Int)=H7 y (i:Int)):U9 x=U9 y:=by
 unfold U9;rw[<- hn];exact List.map_congr_left fun i hi=>h i (List.mem_range.1 hi)
theorem DW {x y:DvX}(hn:x.n=y.n)(h:x.es=y.es):U9 x=U9 y:=Rw hn fun i _=>by unfold H7;rw[h]
theorem Ru {x:DvX}{w:Int × Bs}(hn:MpN x.es)(h:0<=w.1):U9 (aG x w)=(U9 x).set w.1.toNat w.2:=by
 apply List.ext_getElem?;intro i;have e:(aG x w).n=x.n:=rfl;rw[List.getElem?_set,IX];by_cases hi:i<x.n.toNat
 ·rw[DV (x:=aG x w) (by rw[e];exact hi),TM hn];by_cases hw:w.1.toNat=i
  ·rw[if_pos hw,if_pos om,if_pos om]
  ·rw[if_neg hw,if_neg om,DV hi]
 ·rw[List.getElem?_eq_none (by rw[IX,e];omega),List.getElem?_eq_none (l:=U9 x) (by rw[IX];omega)];split
  ·rw[if_neg om]
  ·rfl
theorem Rt {n:Int}:U9 (Q3 n)=List.replicate n.toNat qR:=by
 apply List.ext_getElem?;intro i;rw[List.getElem?_replicate];split
 ·rename_i h;rw[DV (x:=Q3 n) h];rfl
 ·rename_i h;exact List.getElem?_eq_none (by rw[IX];exact Nat.le_of_not_lt h)
end Go.Proofs.YtjhnaegpchadiaaGreatDoor
