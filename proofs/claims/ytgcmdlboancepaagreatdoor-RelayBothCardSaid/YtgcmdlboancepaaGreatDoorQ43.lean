/- . -/
import Derived.Test.YtgcmdlboancepaaGreatDoorQ42
set_option maxHeartbeats 64000000
namespace Go.Proofs.Z
open Go Go.RowKit Tw Av Go.Proofs.Tryz
section
variable {c:ChX}{s:SlX}{x:DvX}{xs:List AV}{t:Int}{ky nm:Bs}
abbrev oN (b:BlkX):AV:=.agg 3 [int b.h,int b.t,.sl 1 (b.x.map str) none]
structure R20I extends R7I where
 gc:Nat
 vm:Value
 vb:Value
 ve:Value
 vt:Value
variable {I:R20I}
abbrev V7 (gl:Nat)(vm vb ve vt:Value)(c:ChX):AV:=.agg 8 [str c.nm,str c.ky,ptr gl,.sl 1 (c.ms.map U4) (some vm),.sl 3 (c.bl.map oN) (some vb),.sl 15 (c.ev.map Q0) (some ve),.sl 1 (c.ws.map str) (some vt),d9 c.dd]
abbrev eX (I:R20I)(x:DvX)(s:SlX)(c:ChX):List Av.Piece:=.var I.gc 154 (V7 I.gl I.vm I.vb I.ve I.vt c)::.tail 53 1 I.vm::.tail 129 3 I.vb::.tail 106 15 I.ve::.tail 9 1 I.vt::iT I.toR7I x s
structure R20Ok (c:ChX):Prop where
 bl:c.bl.length=c.hs.length
 ms:c.ms.length=c.hs.length+1
 tm:X7 c=O4 c.bl
 ml:c.ms.length<=100000
section
variable {g gl:Nat} {vm vb ve vt:Value} {c:ChX}
instance b8s:AnsM prog GL 37 g [] 154 (V7 gl vm vb ve vt c) (c.bl.length<=1000000) (int (O4 c.bl)) (V7 gl vm vb ve vt c):=⟨λhl=>by
 have hm:(c.bl.map oN).length=c.bl.length:=llm _;refine ze func37 ntmps37 λ_ hs=>?_;repeat' first|refine Z ?_|intro
 unfold O4;by_cases h:c.bl.length=0
 ·rw[List.length_eq_zero_iff.1 h];repeat' first|refine Z ?_|intro
  exact l9 _ ⟨rfl,rfl⟩ slr
 obtain⟨k,hk⟩:∃ k,c.bl.length=k+1:=⟨c.bl.length-1,om⟩;have hkl:k<c.bl.length:=by omega
 have hg:c.bl.getLast?=some c.bl[k]:=by
  rw[List.getLast?_eq_getElem?,hk];exact List.getElem?_eq_getElem hkl
 rw[hg];repeat' first|refine Z ?_|intro
 rw[show ((c.bl.map oN).length:Int)-1=(k:Int) by omega];repeat' first|refine Z ?_|intro
 exact l9 _ ⟨rfl,rfl⟩ slr⟩
instance b8t:AnsM prog GL 44 g [] 154 (V7 gl vm vb ve vt c) (c.ms.length=c.hs.length+1/\c.ms.length<=1000000) (U4 (j5 c)) (V7 gl vm vb ve vt c):=⟨λhl=>by
 obtain⟨hl1,hl2⟩:=hl;have hm:(c.ms.map U4).length=c.ms.length:=llm _;have hk:c.hs.length<c.ms.length:=by omega
 refine ze func44 ntmps44 λ_ hs=>?_;repeat' first|refine Z ?_|intro
 rw[show ((c.ms.map U4).length:Int)-1=(c.hs.length:Int) by omega];repeat' first|refine Z ?_|intro
 unfold j5;rw[List.getD_eq_getElem?_getD,List.getElem?_eq_getElem hk];exact l9 _ ⟨rfl,rfl⟩ slr⟩
end
attribute [local irreducible] O4 Y8 M7
theorem a5S {t:Bs}(hw:c.ws.length<=1000000):Av.Spec prog GL 73 [ptr I.gc,str t] (eX I x s c) λu m=>u=int (oI c t)/\∃ v,m=eX { I with vt:=v } x s (EP c t):=by
 have hm:(c.ws.map str).length=c.ws.length:=llm _;refine ze func73 ntmps73 λ_ hs=>?_;repeat' first|refine Z ?_|intro
 unfold EP oI;cases hd:c.dd;rotate_left
 ·rw[if_pos rfl,if_neg dc];repeat' first|refine Z ?_|intro
  refine l9 (eX I x s c) ⟨rfl,I.vt,?_⟩ slr;rfl
 rw[if_neg dc];by_cases h1:6000<t.length
 ·rw[if_pos h1,if_neg dc];repeat' first|refine Z ?_|intro
  refine l9 (eX I x s c) ⟨rfl,I.vt,?_⟩ slr;rfl
 rw[if_neg h1];by_cases h2:16<=c.ws.length
 ·rw[if_pos h2,if_neg dc];repeat' first|refine Z ?_|intro
  refine l9 (eX I x s c) ⟨rfl,I.vt,?_⟩ slr;rfl
 rw[if_neg h2,if_pos rfl];repeat' first|refine Z ?_|intro
 refine H7 (λv'=>?_);repeat' first|refine Z ?_|intro
 rw[show c.ws.map str++[str t]=(c.ws++[t]).map str by rw[List.map_append];rfl];refine l9 (eX { I with vt:=v' } x s { c with ws:=c.ws++[t] }) ⟨rfl,v',by rw[hd]⟩ ?_;exact u7
attribute [local irreducible] H9
instance (priority:=high) b8u {d:List Ent}{l:List Bs}{h:Int}{ys:List AV}{id id2:Option Value}[hx:Ents xs d][hy:Strs ys l]:Ans prog GL 160 [.sl 2 xs id2,.agg 3 [int h,int t,.sl 1 ys id]] (DOk d/\l.length<=1000000/\∀ s∈l,s.length<=1000000000/\(aG (I6 s)=0->K20 (K6 (I6 s)).k))
   (.agg 3 [U4 (M7 d ⟨h,t,l⟩).1,.sl 3 ((M7 d ⟨h,t,l⟩).2.1.map P5) none,.sl 15 ((M7 d ⟨h,t,l⟩).2.2.map Q0) none]):=
 a5V (K:=K20) (fun {d h t x}=>⟨λhp=>(a5W (d:=d) (h:=h) (t:=t) (x:=x) (xs:=d.map D5) (id:=none) (hx:=⟨rfl⟩)).spec ⟨⟨hp.1,hp.2.1⟩,hp.2.2⟩⟩)
theorem Pw {b:BlkX}(h1:c.ms.length=c.hs.length+1/\c.ms.length<=1000000)(h2:c.ev.length<=1000000)(h3:c.bl.length<=1000000)(hd:DOk (j5 c))(hl:b.x.length<=16)(hx:∀ s∈b.x,Tx20 s) :
  Av.Spec prog GL 69 [ptr I.gc,oN b] (eX I x s c) λu m=>u=.sl 3 ((M7 (j5 c) b).2.1.map P5) none/\∃ v1 v2 v3,m=eX { I with vm:=v1,vb:=v2,ve:=v3 } x s (dN c b):=by
 have hr:=Cy hd hl hx;have hr2:=NS (b:=b) hd;have hm1:(c.ms.map U4).length=c.ms.length:=llm _;have hm2:(c.bl.map oN).length=c.bl.length:=llm _;have hm3:(c.ev.map Q0).length=c.ev.length:=llm _;have hr4:=(ET (h:=b.h) (t:=b.t) (l:=b.x) (q:=(j5 c,[],[]))).2;have hr5:(M7 (j5 c) ⟨b.h,b.t,b.x⟩).2.2.length<=16:=by
  have e:(M7 (j5 c) ⟨b.h,b.t,b.x⟩).2.2.length<=([]:List EvX).length+b.x.length:=by unfold M7;exact hr4
  simp only[List.length_nil] at e;omega
 refine ze func69 ntmps69 λ_ hs=>?_;repeat' first|refine Z ?_|intro
 apply dH [10];exact rfl;exact rfl;kernel_rfl
 ·intro _ _;refine fE ?_;exact j3 (dX rfl)
 ·exact rfl
 ·exact rfl
 repeat' first|refine Z ?_|intro
 apply zf [10];exact zi
 ·intro _ _;refine dE ?_;exact j3 (p9 rfl rfl)
 repeat' first|refine Z ?_|intro
 apply U2 [2];exact rfl;exact rfl;kernel_rfl;kernel_rfl;intro _ _;refine H7 (λv1=>?_);refine j3 (N7 [.tail 53 1 v1] [] rfl rfl lpr rfl ?_);repeat' first|refine Z ?_|intro
 apply U2 [3];exact rfl;exact rfl;kernel_rfl;kernel_rfl;intro _ _;refine H7 (λv2=>?_);refine j3 (N7 [.tail 129 3 v2] [] rfl rfl lpr rfl ?_);repeat' first|refine Z ?_|intro
 apply zf [10];exact zi
 ·intro _ _;refine dE ?_;exact j3 (p9 rfl rfl)
 repeat' first|refine Z ?_|intro
 apply U2 [4];exact rfl;exact rfl;kernel_rfl;kernel_rfl;intro _ _;refine H7 (λv3=>?_);refine j3 (N7 [.tail 106 15 v3] [] rfl rfl lpr rfl ?_);repeat' first|refine Z ?_|intro
 rw[show c.ms.map U4++[U4 (M7 (j5 c) ⟨b.h,b.t,b.x⟩).1]=(c.ms++[(M7 (j5 c) b).1]).map U4 by rw[List.map_append];rfl,show c.bl.map oN++[oN b]=(c.bl++[b]).map oN by rw[List.map_append];rfl,show c.ev.map Q0++(M7 (j5 c) ⟨b.h,b.t,b.x⟩).2.2.map Q0=(c.ev++(M7 (j5 c) b).2.2).map Q0 by rw[List.map_append]];refine l9 (eX { I with vm:=v1,vb:=v2,ve:=v3 } x s (dN c b)) ⟨rfl,v1,v2,v3,rfl⟩ ?_;exact u7
theorem a4M {gs:Nat}{ys zs:List AV}{i j k:Option Value}{d:Bool}:ImpC (.agg 8 [str nm,str ky,ptr gs,.sl 1 xs i,.sl 3 ys j,.sl 15 zs k,.lit (.slice none 0 0),d9 d]) (.agg 8 [str nm,str ky,ptr gs,.sl 1 xs i,.sl 3 ys j,.sl 15 zs k,.sl 1 [] (some (.slice none 0 0)),d9 d]):=(inferInstance:ImpT _ _).imp
theorem a4T {h:Int}{id:Option Value}:Imp (.agg 3 [int h,int t,.sl 1 xs id]) (.agg 3 [int h,int t,.sl 1 xs none]):=ImpR.imp
theorem a7w (htm:X7 c<=1099511627776):1099511627776<t/\(iK c t).t=1099511627776\/(t<=1099511627776/\t<X7 c)/\(iK c t).t=X7 c\/(t<=1099511627776/\X7 c<=t)/\(iK c t).t=t:=by
 have e:(iK c t).t=max (min t 1099511627776) (X7 c):=rfl;rw[e];omega
theorem a5U (h:ChOk x s c)(h2:R20Ok c)(hin:DvIn x)(hb:s.m.b=s.l.length)(hd:c.dd=false):Av.Spec prog GL 41 [ptr I.gc,int t] (eX I x s c)
  λu m=>u=.tup [.sl 3 ((AR x s c t).map P5) none,int (Q3 x s c t).2.2]/\∃ v vm vb ve vt,m=eX { I with vw:=v,vm:=vm,vb:=vb,ve:=ve,vt:=vt } (Q3 x s c t).1 (Q3 x s c t).2.1 (AU x s c t):=by
 have hhl:=h.hl;have htm:=h.tm;have hws:=h.ws;have htl:=h2.tm;have hbl:=h2.bl;have hm:(c.ws.map str).length=c.ws.length:=llm _;have hm2:(c.bl.map oN).length=c.bl.length:=llm _;have hb0:c.bl.length<=1000000:=by omega
 refine ze func41 ntmps41 λ_ hs=>?_;repeat' first|refine Z ?_|intro
 rw[hd];obtain⟨T,hT⟩:∃ T,(iK c t).t=T:=⟨_,rfl⟩;have hct:=a7w (c:=c) (t:=t) htm.2;rw[hT] at hct;rcases hct with⟨q1,q2⟩|⟨⟨q1,q3⟩,q2⟩|⟨⟨q1,q3⟩,q2⟩
 all_goals
  rw[q2] at hT;clear q2;have hB:∀ v,(iK c t).t=v->M5 (iK c t)=DR ((c.hs.length:Int)+1) v c.ws:=λv hv=>by
   unfold M5;rw[hv];rfl
  have hBA:∀ v,(iK c t).t=v->oN (iK c t)=.agg 3 [int ((c.hs.length:Int)+1),int v,.sl 1 (c.ws.map str) none]:=λv hv=>by
   unfold oN;rw[hv];rfl
  try rw[htl] at hT
  repeat' first|refine Z ?_|intro
  rw[hm2,hbl];apply dH [9];exact rfl;exact rfl;kernel_rfl
  ·intro _ _;refine fE ?_;exact j3 (dX rfl)
  ·exact rfl
  ·exact rfl
  repeat' first|refine Z ?_|intro
  apply zf [9];exact zi
  ·intro _ _;refine dE ?_;exact j3 (p9 rfl rfl)
  have hT4:(iK c t).t<=1099511627776:=by rw[hT];omega
  rw[hT] at hT4;repeat' first|refine Z ?_|intro
  rw[<- hB _ hT];apply U2 [5,6,7,8];exact rfl;exact rfl;kernel_rfl;kernel_rfl;intro _ _;refine R7 (a5O (I:=I.toR7I) (x:=x) (s:=s) (r:=M5 (iK c t)) h.dv hin h.wl h.me hb h.mb.2 h.mc h.br) (λu m1 hu=>?_);obtain⟨rfl,v,rfl⟩:=hu;have hQ:lN x s (M5 (iK c t))=Q3 x s c t:=rfl;rw[hQ];refine j3 (N7 (iT { I.toR7I with vw:=v } (Q3 x s c t).1 (Q3 x s c t).2.1) [] rfl rfl lpr rfl ?_);unfold AU AR;by_cases he:(Q3 x s c t).2.2=0
  rotate_left
  ·rw[if_neg he,if_neg he];repeat' first|refine Z ?_|intro
   refine U6 (.tup [.sl 3 (([]:List Rep).map P5) none,int (Q3 x s c t).2.2]) (eX { I with vw:=v } (Q3 x s c t).1 (Q3 x s c t).2.1 { c with dd:=decide ((Q3 x s c t).2.2=14) }) ?_ ⟨rfl,v,I.vm,I.vb,I.ve,I.vt,rfl⟩ ?_
   ·exact Np
   exact u7
  rw[if_pos he,if_pos he];repeat' first|refine Z ?_|intro
  refine dF 51 a4T ?_;rw[<- hBA _ hT];refine Xc (g:=I.gc) a4M ?_;refine fF (λok w h=>h.full 9 1 none 0) ?_;refine Ay (eX { I with vw:=v,vt:=.slice none 0 0 } (Q3 x s c t).1 (Q3 x s c t).2.1 { c with ws:=[] }) (_::([_,_,_,_]++iT { I.toR7I with vw:=v } (Q3 x s c t).1 (Q3 x s c t).2.1)) ?_ (List.perm_middle (l₁:=[_,_,_,_])) ?_;rotate_left
  ·exact u7
  refine R7 (Pw (c:={ c with ws:=[] }) (b:=iK c t) ⟨h2.ms,by have:=h2.ml;dsimp only;omega⟩ (by have:=h.ev;dsimp only;omega) hb0 h.st h.ws h.tx) (λu m1 hu=>?_);obtain⟨rfl,v1,v2,v3,rfl⟩:=hu;repeat' first|refine Z ?_|intro
  rw[he];exact l9 _ ⟨rfl,v,v1,v2,v3,.slice none 0 0,rfl⟩ slr
theorem a2N {bs:List BlkX}(h:OpI nm ky bs c)(hb:c.bl=bs)(hl:bs.length<=90000):R20Ok c:=by
 have h1:=h.hs;have h2:=h.ms;refine⟨by rw[hb,h1],om,by rw[hb];exact h.tm,om⟩
theorem OY {d:List Ent}:∀ {bs:List BlkX},(opC nm ky d bs).bl=bs:=by
 have key:∀ (l:List BlkX) (c:ChX),(l.foldl dN c).bl=c.bl++l:=by
  intro l
  induction l with
  | nil=>exact λc=>(List.append_nil _).symm
  | cons b l ih=>
   intro c;rw[List.foldl_cons,ih];show (c.bl++[b])++l=c.bl++b::l;rw[laa];rfl
 intro bs;unfold opC;rw[key];rfl
theorem a4N {gs:Nat}{i:Option Value}:ImpC (.agg 8 [str nm,str ky,ptr gs,.sl 1 xs i,J2,J2,J2,d9 false]) (.agg 8 [str nm,str ky,ptr gs,.sl 1 xs i,.sl 3 [] (some (.slice none 0 0)),.sl 15 [] (some (.slice none 0 0)),.sl 1 [] (some (.slice none 0 0)),d9 false]):=(inferInstance:ImpT _ _).imp
theorem a5T {I:R6I}{gen:List Ent}{bs:List BlkX}{id:Option Value}(hxs:xs=gen.map D5)(h:1<=nm.length/\nm.length<=32/\ky.length<=64)(hx:DvOk x)(hw:x.ws.length<=1000)(h0:nM x=0)(hr:X9 x (J3 x).b=M4 (bs.map M5))(hb:BsG bs)(hg:gen.length<=1000)(hd:DOk (dO gen)) :
  Av.Spec prog GL 25 [ptr I.gd,str nm,str ky,.sl 2 xs id] (O0 I x) λu m=>∃ J:R20I,J.gd=I.gd/\J.gs=I.gs/\J.c=I.c/\u=.tup [ptr J.gc,int 0]/\m=eX J x (iF x) (opC nm ky (dO gen) bs):=by
 subst hxs;have hne:nm≠[]:=by rintro rfl;simp at h
 have hbl:=hb.l;have hmb:((bs.map M5).map str).length=bs.length:=by rw[llm,llm]
 have hm6:∀ s∈bs.map M5,s.length<=1048576:=λs hs=>by
  obtain⟨b,hm,rfl⟩:=List.mem_map.1 hs;have:=Aj (hb.g b hm).1;omega
 refine ze func25 ntmps25 λ_ hs=>?_;repeat' first|refine Z ?_|intro
 refine R7 (a5N hx om h0 hr hm6) (λu m1 hu=>?_);obtain⟨gl,rfl,rfl⟩:=hu;repeat' (first|refine eP ?_|refine K3 ?_|refine J8 ?_|intro _|simp only[List.set]|refine CP ?_|refine CQ ?_|refine uL ?_|refine wW ?_|fail)
 rw[a1C];refine Wx (λA=>?_);repeat' first|refine Z ?_|intro
 rename_i gc;refine dY (g:=gc) a4N ?_;refine P6 (λok w h=>h.full 9 1 none 0) ?_;refine P6 (λok w h=>h.full 106 15 none 0) ?_;refine P6 (λok w h=>h.full 129 3 none 0) ?_;refine MH (eX ⟨⟨I,gl⟩,gc,.slice A 1 1,.slice none 0 0,.slice none 0 0,.slice none 0 0⟩ x (iF x) (KO nm ky (dO gen))) ([_,_,_]++([_,_]++iT ⟨I,gl⟩ x (iF x))) ?_ (List.perm_append_comm_assoc [_,_] [_,_,_] _) slr;refine y9 (α:=Nat × Value × Value × Value) (λz=>[(11,.sl 1 ((bs.map M5).map str) none),(13,ptr gc),(14,int z.1)]) (λz=>eX ⟨⟨I,gl⟩,gc,z.2.1,z.2.2.1,z.2.2.2,.slice none 0 0⟩ x (iF x) (opC nm ky (dO gen) (bs.take z.1)))
  (λz=>z.1<=bs.length) (λz=>bs.length-z.1) (0,.slice A 1 1,.slice none 0 0,.slice none 0 0) zc slr (Nat.zero_le _) ?_
 rintro⟨i,vm,vb,ve⟩ hi;dsimp only at hi ⊢;have hI:=FD (nm:=nm) (ky:=ky) hd hb i hi;by_cases hil:i<bs.length
 ·obtain⟨hbg,hbx⟩:=hb.g _ (List.getElem_mem hil);have hbh:=hb.h i hil;have hst:=OX (nm:=nm) (ky:=ky) (d:=dO gen) hil;have hcb:(opC nm ky (dO gen) (bs.take i)).bl.length=i:=by rw[OY,List.length_take];omega
  have hcb2:O4 (opC nm ky (dO gen) (bs.take i)).bl=O4 (bs.take i):=by rw[OY]
  have hsl:=hI.hs;have hml:=hI.ms;have hev:=hI.ev;rw[List.length_take,Nat.min_eq_left om] at hsl hml hev;have hgi:(bs.map M5)[i]'(by rw[llm];exact hil)=M5 bs[i]:=List.getElem_map ..;have hll:i<(bs.map M5).length:=by rw[llm];exact hil
  generalize opC nm ky (dO gen) (bs.take i)=c at *;have hc0:c.bl.length<=1000000:=by omega
  repeat' first|refine Z ?_|intro
  rw[hgi];repeat' first|refine Z ?_|intro
  rw[dZ (show ¬ bs[i].h≠(i:Int)+1 from nni hbh.1)];repeat' first|refine Z ?_|intro
  rw[dZ (show ¬ bs[i].t<O4 c.bl by rw[hcb2];have:=hbh.2;omega)];repeat' first|refine Z ?_|intro
  rename_i g17;refine iN [_] (eX ⟨⟨I,gl⟩,gc,vm,vb,ve,.slice none 0 0⟩ x (iF x) c) [] (Pw (b:=bs[i]) ⟨om,om⟩ om hc0 hI.st hbg.l hbx) (λu m1 hu=>?_);obtain⟨rfl,v1,v2,v3,rfl⟩:=hu;rw[<- hst];repeat' first|refine Z ?_|intro
  exact o9 (i+1,v1,v2,v3) zc (List.sublist_cons_self _ _) hil (by dsimp only;omega)
 obtain rfl:i=bs.length:=by omega
 rw[List.take_length];repeat' first|refine Z ?_|intro
 refine l9 _ ⟨⟨⟨I,gl⟩,gc,vm,vb,ve,.slice none 0 0⟩,rfl,rfl,rfl,rfl,rfl⟩ slr
end

def lV (i:Bs)(h:Hdr)(m:Hsh):TxX:={ Y5 with k:=4,i:=i,h:=h,m:=m }
theorem Nh {i:Bs}{h:Hdr}{m:Hsh}:Imp (D8 [.agg 100 [int 4,str i,str [],str [],str [],str [],int 0,Q7 h,hA m,.agg 12 [int 0,str [],str [],.agg 7 [str [],.agg 4 [.lit (.int .u64 0),.lit (.int .u64 0),.lit (.int .u64 0),.lit (.int .u64 0)],str [],str []],int 0,int 0],str [],int 0,.agg 3 [int 0,int 0,J2],.agg 9 [int 0,J2,J2,.agg 3 [int 0,int 0,J2],.agg 3 [int 0,int 0,J2]]],d9 true]) (.tup [x9 (lV i h m),d9 true]):=by
 have e0:z8 wZ=.agg 4 [.lit (.int .u64 0),.lit (.int .u64 0),.lit (.int .u64 0),.lit (.int .u64 0)]:=kr
 have e:x9 (lV i h m)=.agg 100 [int 4,str i,str [],str [],str [],str [],int 0,Q7 h,hA m,.agg 12 [int 0,str [],str [],.agg 7 [str [],z8 wZ,str [],str []],int 0,int 0],str [],int 0,.agg 3 [int 0,int 0,.sl 32 [] none],.agg 9 [int 0,.sl 2 [] none,.sl 2 [] none,.agg 3 [int 0,int 0,.sl 32 [] none],.agg 3 [int 0,int 0,.sl 32 [] none]]]:=rfl;rw[e,e0];show Imp (.tup _) (.tup [.agg 100 [int 4,str i,str [],str [],str [],str [],int 0,Q7 h,hA m,.agg 12 [int 0,str [],str [],.agg 7 [str [],.agg 4 [.lit (.int .u64 0),.lit (.int .u64 0),.lit (.int .u64 0),.lit (.int .u64 0)],str [],str []],int 0,int 0],str [],int 0,.agg 3 [int 0,int 0,.sl 32 [] none],.agg 9 [int 0,.sl 2 [] none,.sl 2 [] none,.agg 3 [int 0,int 0,.sl 32 [] none],.agg 3 [int 0,int 0,.sl 32 [] none]]],d9 true]);exact ImpR.imp
def A9 (d:List Ent)(i:Bs):Int:=if Q4 d i=true then (dK (U9 d i).l).h else 0
section
variable {g gs:Nat} {vm vh vb ve vt:Value} {c:ChX} {i:Bs}
def yV (c:ChX):Hdr:=c.hs.getD (c.hs.length-1) ⟨[],0,0,E9⟩
instance b6Q:AnsM prog GL 21 g [str i] 113 (y7 gs vm vh ve vt c) (((c.hs.length<=1000000/\c.ky.length<=1000000)/\∀ y∈c.hs,y.h<=9223372036854775807/\y.t<=9223372036854775807)/\1<=c.hs.length) (.tup [x9 (lV i (yV c) (cK c.ky (yV c))),d9 true]) (y7 gs vm vh ve vt c):=⟨λhp=>by
 obtain⟨hh,h1⟩:=hp;have q:1<=(c.hs.length:Int)/\(c.hs.length:Int)<=c.hs.length:=by omega
 have e:c.hs.getD ((c.hs.length:Int)-1).toNat ⟨[],0,0,E9⟩=yV c:=by
  unfold yV;rw[show ((c.hs.length:Int)-1).toNat=c.hs.length-1 by omega]
 refine ze func21 ntmps21 λ_ hs=>?_;repeat' first|refine Z ?_|intro
 rw[if_pos q,e];repeat' first|refine Z ?_|intro
 refine U6 (.tup [x9 (lV i (yV c) (cK c.ky (yV c))),d9 true]) [.var g 113 (y7 gs vm vh ve vt c)] Nh ⟨rfl,rfl⟩ ?_;exact zd⟩
instance b6R:AnsM prog GL 10 g [str i] 113 (y7 gs vm vh ve vt c) ((c.hs.length<c.ms.length/\c.ms.length<=1000000)/\DOk (j5 c)) (int (A9 (j5 c) i)) (y7 gs vm vh ve vt c):=⟨λhp=>by
 obtain⟨hl,hd⟩:=hp;refine ze func10 ntmps10 λ_ hs=>?_;repeat' first|refine Z ?_|intro
 unfold A9;cases hb:Q4 (j5 c) i
 ·repeat' first|refine Z ?_|intro
  have hb':¬ iQ (N8 (j5 c) (I9 [67] i))=0:=of_decide_eq_false hb;refine uL ?_ (by exact rfl) hb';repeat' first|refine Z ?_|intro
  refine l9 [.var g 113 (y7 gs vm vh ve vt c)] ⟨rfl,rfl⟩ ?_;exact u7
 repeat' first|refine Z ?_|intro
 have hb':iQ (N8 (j5 c) (I9 [67] i))=0:=of_decide_eq_true hb;refine wW (p:=¬ iQ (N8 (j5 c) (I9 [67] i))=0) ?_ (by exact rfl) (λh=>h hb');repeat' first|refine Z ?_|intro
 refine l9 [.var g 113 (y7 gs vm vh ve vt c)] ⟨rfl,rfl⟩ ?_;exact zd⟩
def bG (c:ChX):Hdr:=⟨c.nm,c.bl.length,O4 c.bl,uY (j5 c)⟩
instance b6S:AnsM prog GL 27 g [str i] 154 (V7 gs vm vb ve vt c) (((c.ms.length=c.hs.length+1/\c.ms.length<=1000000)/\DOk (j5 c))/\((1<=c.bl.length/\c.bl.length<=1000000)/\c.ky.length<=1000000/\O4 c.bl<=9223372036854775807)) (.tup [x9 (lV i (bG c) (cK c.ky (bG c))),d9 true]) (V7 gs vm vb ve vt c):=⟨λhp=>by
 obtain⟨⟨hms,hd⟩,⟨hb1,hb2⟩,hky,htm⟩:=hp;have hm2:(c.bl.map oN).length=c.bl.length:=llm _;have hdl:(j5 c).length<=1000000:=Nat.le_trans hd.l dc;have hsp:c.ky.length<=1000000/\(c.bl.length:Int)<=9223372036854775807/\O4 c.bl<=9223372036854775807:=⟨hky,om,htm⟩;refine ze func27 ntmps27 λ_ hs=>?_;repeat' first|refine Z ?_|intro
 rw[hm2];refine U6 (.tup [x9 (lV i (bG c) (cK c.ky (bG c))),d9 true]) [.var g 154 (V7 gs vm vb ve vt c)] Nh ⟨rfl,rfl⟩ ?_;exact zd⟩
instance b6T:AnsM prog GL 29 g [str i] 154 (V7 gs vm vb ve vt c) ((c.ms.length=c.hs.length+1/\c.ms.length<=1000000)/\DOk (j5 c)) (int (A9 (j5 c) i)) (V7 gs vm vb ve vt c):=⟨λhp=>by
 obtain⟨hl,hd⟩:=hp;refine ze func29 ntmps29 λ_ hs=>?_;repeat' first|refine Z ?_|intro
 unfold A9;cases hb:Q4 (j5 c) i
 ·repeat' first|refine Z ?_|intro
  have hb':¬ iQ (N8 (j5 c) (I9 [67] i))=0:=of_decide_eq_false hb;refine uL ?_ (by exact rfl) hb';repeat' first|refine Z ?_|intro
  refine l9 [.var g 154 (V7 gs vm vb ve vt c)] ⟨rfl,rfl⟩ ?_;exact u7
 repeat' first|refine Z ?_|intro
 have hb':iQ (N8 (j5 c) (I9 [67] i))=0:=of_decide_eq_true hb;refine wW (p:=¬ iQ (N8 (j5 c) (I9 [67] i))=0) ?_ (by exact rfl) (λh=>h hb');repeat' first|refine Z ?_|intro
 refine l9 [.var g 154 (V7 gs vm vb ve vt c)] ⟨rfl,rfl⟩ ?_;exact zd⟩
end
end Go.Proofs.Z

namespace Go.Proofs.Z
open Go Go.RowKit Tw Av

theorem rF {α:Type _}(l:List α)(d:α)(b:List Nat){n:Nat}(hn:l.length=n:=by exact rfl)(h:(List.range n).isPerm b=true:=by kernel_rfl):l.Perm (b.map λi=>l.getD i d):=by
 subst hn;have h1:=(List.isPerm_iff.1 h).map λi=>l.getD i d;have h2:(List.range l.length).map (λi=>l.getD i d)=l:=by
  apply List.ext_getElem
  ·simp
  intro i h3 h4;simp[h4]
 rw[h2] at h1;exact h1
abbrev rG:Av.Piece:=.tail 0 0 (.bool true)
section
variable {P:Program} {N:Nat} {ops:Array Oper} {Q:Exit->Act->World->Prop} {rest:List Oper} {s:Av.Base} {e:Av.Env} {m:List Av.Piece} {d:Nat} {ty:TypeId} {pos:String} {af:Array Edge}
theorem a9v {T:TypeId}(h:∀ g,AL P N ops Q s rest ((d,aA g)::e) (.obj g (dJ [] 0)::m))(hd:Nat.blt d N=true:=by exact rfl):AL P N ops Q s (⟨some d,.makeMap T none,ty,pos,af,none⟩::rest) e m:=
 kF (λok w A hS hA=>by
  obtain⟨ok',g1,g2⟩:=hS.newObj (o:=dJ [] 0) rfl;exact⟨_,.map (some w.heap.size),w.alloc (dJ [] 0),ok',_,by simp[execOp,Instr.makeMap,newObj,Sem.run];rfl,RVl rfl,g1,g2,h w.heap.size⟩) hd
end
end Go.Proofs.Z

namespace Go.Proofs.Z
open Go Go.RowKit Tw Av Go.Proofs.Tryz
def KT (d:List Ent)(p:Pkt):Bool:=(gO d (F6 [71] p.k p.q)).isSome
def xN (d:List Ent)(k:Int)(p:Pkt):TxX:={ Y5 with k:=14,x:=p,t:=k,f:=iV d (G6 d (F6 [80] p.s p.q)) (K5 d (F6 [80] p.s p.q)) }
def rQ (e:List Ent)(d:List Ent)(h t k:Int)(p:Pkt):List TxX:=if KT e p=true\/V9 p h t=true then [] else [xN d k p]
def dQ (e d:List Ent)(h t k:Int)(ps:List Pkt):List TxX:=ps.flatMap (rQ e d h t k)
def K4 (c:ChX)(k:Int):List Ent:=if 0<=k/\k<(c.ms.length:Int) then c.ms.getD k.toNat [] else []
theorem Lf {c:ChX}{k:Int}(h:∀ d∈c.ms,d.length<=1000000):(K4 c k).length<=1000000:=by
 unfold K4;split
 ·have h2:k.toNat<c.ms.length:=om
  rw[List.getD_eq_getElem?_getD,List.getElem?_eq_getElem h2];exact h _ (List.getElem_mem _)
 exact Nat.zero_le _
theorem QV {e d:List Ent}{h t k:Int}{ps:List Pkt}{p:Pkt}:dQ e d h t k (ps++[p])=dQ e d h t k ps++rQ e d h t k p:=by
 unfold dQ;rw[List.flatMap_append,List.flatMap_singleton]
theorem LC {e d:List Ent}{h t k:Int}:∀ ps:List Pkt,(dQ e d h t k ps).length<=ps.length
 | []=>Nat.le_refl _
 | p::ps=>by
  have:=LC (e:=e) (d:=d) (h:=h) (t:=t) (k:=k) ps;unfold dQ at this ⊢;rw[List.flatMap_cons,lla];have h2:(rQ e d h t k p).length<=1:=by
   unfold rQ;split
   ·exact Nat.zero_le _
   exact Nat.le_refl 1
  simp only[List.length_cons];omega
theorem yZ (evs:List EvX)(k:Int):(O9 evs k).length<=evs.length:=by
 unfold O9;rw[llm];exact List.length_filter_le _ _
theorem a4I {p:Pkt}{k:Int}{f:Prf}:ImpC (.agg 100 [int 14,str [],str [],str [],str [],str [],int 0,.agg 35 [str [],int 0,int 0,hA E9],hA E9,aT p,str [],int k,Z9 f,.agg 9 [int 0,J2,J2,.agg 3 [int 0,int 0,J2],.agg 3 [int 0,int 0,J2]]]) (x9 { Y5 with k:=14,x:=p,t:=k,f:=f }):=by
 exact(inferInstance:ImpT _ (.agg 100 [int 14,str [],str [],str [],str [],str [],int 0,.agg 35 [str [],int 0,int 0,hA E9],hA E9,aT p,str [],int k,Z9 f,.agg 9 [int 0,.sl 2 [] none,.sl 2 [] none,.agg 3 [int 0,int 0,.sl 32 [] none],.agg 3 [int 0,int 0,.sl 32 [] none]]])).imp
section
variable {ga gb gs0 gs1:Nat} {a1 a2 a3 a4 b1 b2 b3 b4:Value} {c0 c1:ChX} {i:Bs}
theorem Qc (hk0:(c0.hs.length<c0.ms.length/\c0.ms.length<=1000000)/\DOk (j5 c0))(hm1:c1.ms.length<=1000000)(hd1:∀ d∈c1.ms,d.length<=1000000)(hv1:c1.ev.length<=1000000)(hq1:∀ v∈c1.ev,v.x.q<=9223372036854775807) :
  Av.Spec prog GL 33 [ptr ga,ptr gb,str i] [.var ga 113 (y7 gs0 a1 a2 a3 a4 c0),.var gb 113 (y7 gs1 b1 b2 b3 b4 c1)] λu m=>
   ∃ v,u=.sl 100 ((dQ (j5 c0) (K4 c1 (A9 (j5 c0) i)) (c0.hs.length+1) (X7 c0) (A9 (j5 c0) i) (O9 c1.ev (A9 (j5 c0) i))).map x9) (some v) /\
   m=[.tail 57 100 v,.var ga 113 (y7 gs0 a1 a2 a3 a4 c0),.var gb 113 (y7 gs1 b1 b2 b3 b4 c1)]:=by
 have hh0:c0.hs.length<=1000000:=om
 have hst:=hk0.1;have hdk:=hk0.2;refine TZ func33 rfl ntmps33 rfl (λsB hs=>?_);repeat' first|refine Z ?_|intro
 rename_i gto gk gd go;have hdl:=Lf (k:=A9 (j5 c0) i) hd1;rw[show (if 0<=A9 (j5 c0) i/\A9 (j5 c0) i<c1.ms.length then c1.ms.getD (A9 (j5 c0) i).toNat [] else [])=K4 c1 (A9 (j5 c0) i) from rfl];generalize K4 c1 (A9 (j5 c0) i)=d at hdl ⊢;generalize A9 (j5 c0) i=k at *;refine H6 (args:=[ptr gb,int k]) [] _ (by rw[hs];exact Em rfl rfl) (λu m1 hh=>?_) lpr;obtain⟨g1,g2,rfl,rfl⟩:=hh;repeat' first|refine Z ?_|intro
 refine dY (g:=go) (v':=.sl 100 ((dQ (j5 c0) d (c0.hs.length+1) (X7 c0) k []).map x9) (some (.slice none 0 0))) ImpC.nilT ?_;refine P6 (λok w h=>h.full 57 100 none 0) ?_;refine Bq (gf:=173) (lb:=[.pointer (some ⟨g1,0,none⟩),.pointer (some ⟨g2,0,none⟩)]) (by simp[Value.oneCell']) (λok w a fn hS ha ok1 w1 st1 hS1 ha1=>?_);generalize hr0:zU fn a _ _ _ w=r0 at hS1 ⊢;have e1:r0.state=.ready:=by rw[<- hr0]
 have e2:r0.pending=none:=by rw[<- hr0]
 have e3:r0.tmps=a.tmps:=by rw[<- hr0]
 have e4:r0.params=#[27]:=by rw[<- hr0]
 have e5:{ { r0 with state:=.busy } with state:=.ready,pending:=none }=r0:=by rw[<- hr0]
 generalize hD:w.heap.size=D at hS1 ⊢;have hS2:=hS1.perm (m':=(eQ g1 g2 (ptr gb) k++(.var gb 113 (y7 gs1 b1 b2 b3 b4 c1)::[.obj (D+1) (.loop r0),.var gto 24 (ptr ga),.var ga 113 (y7 gs0 a1 a2 a3 a4 c0),.var gk 3 (int k),.var gd 64 (dA d),.var go 36 (.sl 100 ((dQ (j5 c0) d (c0.hs.length+1) (X7 c0) k []).map x9) (some (.slice none 0 0))),.tail 57 100 (.slice none 0 0),.obj D (.deferred (some []))]))++[]) (List.Perm.symm (rF _ rG [3,4,10,0,8,9,7,6,5,2,1]));have hIt:=En (ok0:=ok1) (w0:=w1) (L:=D+1) (g1:=g1) (g2:=g2) (k:=k) (A:=Value × List TxX) (z0:=(.slice none 0 0,dQ (j5 c0) d (c0.hs.length+1) (X7 c0) k [])) (X:=[]) (Y:=[.var gb 113 (y7 gs1 b1 b2 b3 b4 c1)]) rfl (J:=λz=>[.obj (D+1) (.loop r0),.var gto 24 (ptr ga),.var ga 113 (y7 gs0 a1 a2 a3 a4 c0),.var gk 3 (int k),.var gd 64 (dA d),.var go 36 (.sl 100 (z.2.map x9) (some z.1)),.tail 57 100 z.1,.obj D (.deferred (some []))])
  (G:=λpre z=>z.2=dQ (j5 c0) d (c0.hs.length+1) (X7 c0) k pre) (λpre x z hG hp=>?_) rfl hv1 (Stp.refl _ _) (by rw[<- hs];exact hS2.lend)
 rotate_left
 ·have hxq:x.q<=9223372036854775807:=by
   have h1:x∈O9 c1.ev k:=hp.sublist.subset (List.mem_append_right _ List.mem_cons_self);unfold O9 at h1;obtain⟨y,hy,rfl⟩:=List.mem_map.1 h1;exact hq1 y (List.mem_filter.1 hy).1
  have e6:=congrArg Loop.assign hr0.symm;have e7:=congrArg Loop.body hr0.symm;dsimp only at e6 e7;obtain⟨v,l⟩:=z;dsimp only[List.append_nil] at hG ⊢;refine SX (N:=68) (p:=27) ha1 e3 e4 rfl (λs2 hs2=>?_);rw[e6,e7];refine pM ?_;repeat' (first|refine K3 ?_|refine J8 ?_|refine M9 ?_|intro _|simp only[List.set]|fail)
  rename_i gp;refine j3 (Ak (m1:=[.var gp 49 (aT x),.var gto 24 (ptr ga),.var ga 113 (y7 gs0 a1 a2 a3 a4 c0),.var gk 3 (int k),.var gd 64 (dA d),.var go 36 (.sl 100 (l.map x9) (some v)),.tail 57 100 v,.obj D (.deferred (some []))]) (List.Perm.swap _ _ _) e1 ?_);refine RB (nY (LU hs2 ?_));repeat' first|refine Z ?_|intro
  generalize hgb:(gO (j5 c0) (F6 [71] x.k x.q)).isSome=bg;refine jB (nY (nY (LU hs2 ?_)));cases bg
  ·repeat' first|refine Z ?_|intro
   cases hl:V9 x (c0.hs.length+1) (X7 c0)
   ·refine jB (GX ?_);refine LQ ?_;refine jB (nY (pM ?_));repeat' (first|refine K3 ?_|refine J8 ?_|refine M9 ?_|intro _|simp only[List.set]|fail)
    refine j3 (jB (nY (LU hs2 ?_)));repeat' first|refine Z ?_|intro
    rename_i gx;refine xA (g:=gx) (v':=x9 (xN d k x)) a4I ?_;refine jB (pM ?_);have hll:l.length<=1000000:=by
     have h1:=LC (e:=j5 c0) (d:=d) (h:=c0.hs.length+1) (t:=X7 c0) (k:=k) pre;have h2:=hp.length_le;have h3:=yZ c1.ev k;rw[hG];simp only[List.length_append,List.length_singleton] at h2;omega
    repeat' (first|refine K3 ?_|refine J8 ?_|refine M9 ?_|intro _|simp only[List.set]|fail)
    refine H7 (λv'=>?_);repeat' (first|refine K3 ?_|refine J8 ?_|refine M9 ?_|intro _|simp only[List.set]|fail)
    refine j3 (wC (dW (.obj (D+1) (.loop { r0 with state:=.busy })::[.var gto 24 (ptr ga),.var ga 113 (y7 gs0 a1 a2 a3 a4 c0),.var gk 3 (int k),.var gd 64 (dA d),.var go 36 (.sl 100 ((l++[xN d k x]).map x9) (some v')),.tail 57 100 v',.obj D (.deferred (some []))]) _ ?_ lpr ?_))
    ·refine yO (r:={ r0 with state:=.busy }) (m1:=[.var gto 24 (ptr ga),.var ga 113 (y7 gs0 a1 a2 a3 a4 c0),.var gk 3 (int k),.var gd 64 (dA d),.var go 36 (.sl 100 ((l++[xN d k x]).map x9) (some v')),.tail 57 100 v',.obj D (.deferred (some []))]) lpr ⟨rfl,(v',l++[xN d k x]),?_,by rw[e5];rfl⟩;show l++[xN d k x]=_;rw[QV,hG,rQ,if_neg];rintro (h|h)
     ·rw[show KT (j5 c0) x=false from hgb] at h;cases h
     rw[hl] at h;cases h
    rw[List.map_append];exact List.Sublist.cons _ (List.Sublist.cons_cons _ (List.Sublist.cons _ slr))
   refine jB (GV ?_);refine Al ?_;refine SA (SB (dW (.obj (D+1) (.loop { r0 with state:=.busy })::[.var gto 24 (ptr ga),.var ga 113 (y7 gs0 a1 a2 a3 a4 c0),.var gk 3 (int k),.var gd 64 (dA d),.var go 36 (.sl 100 (l.map x9) (some v)),.tail 57 100 v,.obj D (.deferred (some []))]) _ ?_ lpr (List.Sublist.cons_cons _ (List.Sublist.cons _ slr))));refine yO (r:={ r0 with state:=.busy }) (m1:=[.var gto 24 (ptr ga),.var ga 113 (y7 gs0 a1 a2 a3 a4 c0),.var gk 3 (int k),.var gd 64 (dA d),.var go 36 (.sl 100 (l.map x9) (some v)),.tail 57 100 v,.obj D (.deferred (some []))]) lpr ⟨rfl,(v,l),?_,by rw[e5];rfl⟩;show l=_;rw[QV,hG,rQ,if_pos (.inr hl),List.append_nil]
  repeat' first|refine Z ?_|intro
  refine jB (GV ?_);refine Al ?_;refine SA (SB (dW (.obj (D+1) (.loop { r0 with state:=.busy })::[.var gto 24 (ptr ga),.var ga 113 (y7 gs0 a1 a2 a3 a4 c0),.var gk 3 (int k),.var gd 64 (dA d),.var go 36 (.sl 100 (l.map x9) (some v)),.tail 57 100 v,.obj D (.deferred (some []))]) _ ?_ lpr (List.Sublist.cons_cons _ (List.Sublist.cons _ slr))));refine yO (r:={ r0 with state:=.busy }) (m1:=[.var gto 24 (ptr ga),.var ga 113 (y7 gs0 a1 a2 a3 a4 c0),.var gk 3 (int k),.var gd 64 (dA d),.var go 36 (.sl 100 (l.map x9) (some v)),.tail 57 100 v,.obj D (.deferred (some []))]) lpr ⟨rfl,(v,l),?_,by rw[e5];rfl⟩;show l=_;rw[QV,hG,rQ,if_pos (.inl hgb),List.append_nil]
 refine Calls.mono hIt λx w2 hx=>?_;obtain⟨u,m',ok',cv,hK,rfl,hv,hSt⟩:=hx;have hSt':=hS2.back (fr:=[]) (by rw[hs];exact hSt);rw[List.append_nil] at hSt';have hmk:wP w=[{ target:=.collected D,args:=#[] }]:=by rw[<- hD]
 obtain⟨v,l,hl,rfl⟩:∃ v l,l=dQ (j5 c0) d (c0.hs.length+1) (X7 c0) k (O9 c1.ev k)/\m'=eQ g1 g2 (ptr gb) k++(.var gb 113 (y7 gs1 b1 b2 b3 b4 c1)::[.obj (D+1) (.loop r0),.var gto 24 (ptr ga),.var ga 113 (y7 gs0 a1 a2 a3 a4 c0),.var gk 3 (int k),.var gd 64 (dA d),.var go 36 (.sl 100 (l.map x9) (some v)),.tail 57 100 v,.obj D (.deferred (some []))]):=by
  obtain⟨z,h1,h2⟩:=hK;exact⟨z.1,z.2,h1,h2⟩
 refine⟨cv,ok',r0,[.obj D (.deferred (some [])),.tail 57 100 v,.var g2 3 (int k),.var g1 24 (ptr gb),.var go 36 (.sl 100 (l.map x9) (some v)),.var gd 64 (dA d),.var gk 3 (int k),.var gto 24 (ptr ga),.var ga 113 (y7 gs0 a1 a2 a3 a4 c0),.var gb 113 (y7 gs1 b1 b2 b3 b4 c1)],rfl,by rw[e1];decide,hSt'.perm (List.Perm.symm (rF _ rG [3,10,9,0,1,8,7,6,4,5,2])),hSt.stp,λok3 w3 hS3 st3=>?_⟩;rw[e2,hmk];dsimp only;refine(?_:AED 68 [{ target:=.collected D,args:=#[] }] .normal _ sB _ _) ok3 w3 a hS3 (((ha.stp st1).stp hSt.stp).stp st3);refine Bn ?_;refine BH (SF (SK (α:=Unit) (λ_=>[(6,.sl 100 (l.map x9) (some v))]) (λ_=>.obj (D+1) (.loop { r0 with state:=.exhausted })::[.obj D (.deferred (some [])),.tail 57 100 v,.var g2 3 (int k),.var g1 24 (ptr gb),.var go 36 (.sl 100 (l.map x9) (some v)),.var gd 64 (dA d),.var gk 3 (int k),.var gto 24 (ptr ga),.var ga 113 (y7 gs0 a1 a2 a3 a4 c0),.var gb 113 (y7 gs1 b1 b2 b3 b4 c1)]) ?_ (λ_=>?_)))
 ·repeat' (first|refine K3 ?_|refine J8 ?_|refine M9 ?_|intro _|simp only[List.set]|fail)
  exact j3 (aZ () zc slr)
 refine BH (SH (Bl ?_));refine RZ (D:=D) (m1:=.obj (D+1) (.loop { r0 with state:=.exhausted })::[.tail 57 100 v,.var g2 3 (int k),.var g1 24 (ptr gb),.var go 36 (.sl 100 (l.map x9) (some v)),.var gd 64 (dA d),.var gk 3 (int k),.var gto 24 (ptr ga),.var ga 113 (y7 gs0 a1 a2 a3 a4 c0),.var gb 113 (y7 gs1 b1 b2 b3 b4 c1)]) rfl (List.Perm.swap _ _ _) (zH (zI rfl rfl) vC) (.inl rfl) ⟨v,by rw[hl];rfl,rfl⟩ ?_;exact u7
end
end Go.Proofs.Z
