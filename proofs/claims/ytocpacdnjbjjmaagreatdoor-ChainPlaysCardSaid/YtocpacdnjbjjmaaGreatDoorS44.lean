/- . -/
import Derived.Test.YtocpacdnjbjjmaaGreatDoorS43
set_option maxHeartbeats 64000000
namespace Go.Proofs.YtocpacdnjbjjmaaGreatDoor
open Go Go.RowKit Tw Av Go.Proofs.Tryz
abbrev lG (b:BlkX):AV:=.agg 3 [int b.h,int b.t,.sl 1 (b.x.map str) none]
structure R20I extends R7I where
 gc:Nat
 vm:Value
 vb:Value
 ve:Value
 vt:Value
abbrev FJ (gl:Nat)(vm vb ve vt:Value)(c:ChX):AV:=.agg 8 [str c.nm,str c.ky,ptr gl,.sl 1 (c.ms.map Z9) (some vm),.sl 3 (c.bl.map lG) (some vb),.sl 15 (c.ev.map V9) (some ve),.sl 1 (c.ws.map str) (some vt),j3 c.dd]
abbrev P6 (I:R20I)(x:DvX)(s:SlX)(c:ChX):List Av.Piece:=.var I.gc 59 (FJ I.gl I.vm I.vb I.ve I.vt c)::.tail 30 1 I.vm::.tail 63 3 I.vb::.tail 190 15 I.ve::.tail 9 1 I.vt::eP I.toR7I x s
structure R20Ok (c:ChX):Prop where
 bl:c.bl.length=c.hs.length
 ms:c.ms.length=c.hs.length+1
 tm:fB c=aW c.bl
 ml:c.ms.length<=100000
section
variable {g gl:Nat} {vm vb ve vt:Value} {c:ChX}
instance b6q:AnsM prog GL 39 g [] 59 (FJ gl vm vb ve vt c) (c.bl.length<=1000000) (int (aW c.bl)) (FJ gl vm vb ve vt c):=⟨fun hl=>by
 have hm:(c.bl.map lG).length=c.bl.length:=llm _;refine qE func39 rfl ntmps39 rfl (fun _ hs=>?_);repeat' first|refine Zz ?_|intro _
 unfold aW;by_cases h:c.bl.length=0
 ·rw[List.length_eq_zero_iff.1 h];repeat' first|refine Zz ?_|intro _
  exact o5 _ ⟨rfl,rfl⟩ slr
 ·obtain⟨k,hk⟩:∃ k,c.bl.length=k+1:=⟨c.bl.length-1,om⟩;have hkl:k<c.bl.length:=by omega
  have hg:c.bl.getLast?=some c.bl[k]:=by
   rw[List.getLast?_eq_getElem?,hk];exact List.getElem?_eq_getElem hkl
  rw[hg];repeat' first|refine Zz ?_|intro _
  rw[show ((c.bl.map lG).length:Int)-1=(k:Int) by omega];repeat' first|refine Zz ?_|intro _
  exact o5 _ ⟨rfl,rfl⟩ slr⟩
instance b6r:AnsM prog GL 56 g [] 59 (FJ gl vm vb ve vt c) (c.ms.length=c.hs.length+1/\c.ms.length<=1000000) (Z9 (L9 c)) (FJ gl vm vb ve vt c):=⟨fun hl=>by
 obtain⟨hl1,hl2⟩:=hl;have hm:(c.ms.map Z9).length=c.ms.length:=llm _;have hk:c.hs.length<c.ms.length:=by omega
 refine qE func56 rfl ntmps56 rfl (fun _ hs=>?_);repeat' first|refine Zz ?_|intro _
 rw[show ((c.ms.map Z9).length:Int)-1=(c.hs.length:Int) by omega];repeat' first|refine Zz ?_|intro _
 unfold L9;rw[List.getD_eq_getElem?_getD,List.getElem?_eq_getElem hk];exact o5 _ ⟨rfl,rfl⟩ slr⟩
end
attribute [local irreducible] aW M4 M7
theorem GN {I:R20I}{x:DvX}{s:SlX}{c:ChX}{t:Bs}(hw:c.ws.length<=1000000):Av.Spec prog GL 13 [ptr I.gc,str t] (P6 I x s c) fun u m=>u=int (eG c t)/\∃ v,m=P6 { I with vt:=v } x s (tZ c t):=by
 have hm:(c.ws.map str).length=c.ws.length:=llm _;refine qE func13 rfl ntmps13 rfl (fun _ hs=>?_);repeat' first|refine Zz ?_|intro _
 unfold tZ eG;cases hd:c.dd;rotate_left
 ·rw[if_pos rfl,if_neg dc];repeat' first|refine Zz ?_|intro _
  refine o5 (P6 I x s c) ⟨rfl,I.vt,?_⟩ slr;rfl
 rw[if_neg dc];by_cases h1:6000<t.length
 ·rw[if_pos h1,if_neg dc];repeat' first|refine Zz ?_|intro _
  refine o5 (P6 I x s c) ⟨rfl,I.vt,?_⟩ slr;rfl
 rw[if_neg h1];by_cases h2:16<=c.ws.length
 ·rw[if_pos h2,if_neg dc];repeat' first|refine Zz ?_|intro _
  refine o5 (P6 I x s c) ⟨rfl,I.vt,?_⟩ slr;rfl
 rw[if_neg h2,if_pos rfl];repeat' first|refine Zz ?_|intro _
 refine I4 (fun v'=>?_);repeat' first|refine Zz ?_|intro _
 rw[show c.ws.map str++[str t]=(c.ws++[t]).map str by rw[List.map_append];rfl];refine o5 (P6 { I with vt:=v' } x s { c with ws:=c.ws++[t] }) ⟨rfl,v',by rw[hd]⟩ ?_;exact r9
attribute [local irreducible] E5
instance (priority:=high) b6s {d:List Ent}{l:List Bs}{h t:Int}{xs ys:List AV}{id id2:Option Value}[hx:Ents xs d][hy:Strs ys l]:Ans prog GL 87 [.sl 2 xs id2,.agg 3 [int h,int t,.sl 1 ys id]] (DOk d/\l.length<=1000000/\∀ s∈l,s.length<=1000000000/\(U7 (F8 s)=0->K20 (J5 (F8 s)).k))
   (.agg 3 [Z9 (M7 d ⟨h,t,l⟩).1,.sl 3 ((M7 d ⟨h,t,l⟩).2.1.map J6) none,.sl 15 ((M7 d ⟨h,t,l⟩).2.2.map V9) none]):=
 a4w (K:=K20) (fun {d h t x}=>⟨fun hp=>(Jq (d:=d) (h:=h) (t:=t) (x:=x) (xs:=d.map C8) (id:=none) (hx:=⟨rfl⟩)).spec ⟨⟨hp.1,hp.2.1⟩,hp.2.2⟩⟩)
theorem Jo {I:R20I}{x:DvX}{s:SlX}{c:ChX}{b:BlkX}(h1:c.ms.length=c.hs.length+1/\c.ms.length<=1000000)(h2:c.ev.length<=1000000)(h3:c.bl.length<=1000000)(hd:DOk (L9 c))(hl:b.x.length<=16)(hx:∀ s∈b.x,Tx20 s) :
  Av.Spec prog GL 40 [ptr I.gc,lG b] (P6 I x s c) fun u m=>u=.sl 3 ((M7 (L9 c) b).2.1.map J6) none/\∃ v1 v2 v3,m=P6 { I with vm:=v1,vb:=v2,ve:=v3 } x s (dW c b):=by
 have hr:=YO hd hl hx;have hr2:=KH (b:=b) hd;have hm1:(c.ms.map Z9).length=c.ms.length:=llm _;have hm2:(c.bl.map lG).length=c.bl.length:=llm _;have hm3:(c.ev.map V9).length=c.ev.length:=llm _;have hr4:=(xD (h:=b.h) (t:=b.t) (l:=b.x) (q:=(L9 c,[],[]))).2;have hr5:(M7 (L9 c) ⟨b.h,b.t,b.x⟩).2.2.length<=16:=by
  have e:(M7 (L9 c) ⟨b.h,b.t,b.x⟩).2.2.length<=([]:List EvX).length+b.x.length:=by unfold M7;exact hr4
  simp only[List.length_nil] at e;omega
 refine qE func40 rfl ntmps40 rfl (fun _ hs=>?_);repeat' first|refine Zz ?_|intro _
 apply bA [10];exact rfl;exact rfl;kernel_rfl
 ·intro _ _;refine bP ?_;exact j4 (bG rfl)
 ·exact rfl
 ·exact rfl
 repeat' first|refine Zz ?_|intro _
 apply u7 [10];exact rfl;exact rfl;kernel_rfl
 ·intro _ _;refine aU ?_;exact j4 (o7 rfl rfl)
 repeat' first|refine Zz ?_|intro _
 apply V8 [2];exact rfl;exact rfl;kernel_rfl;kernel_rfl;intro _ _;refine I4 (fun v1=>?_);refine j4 (U4 [.tail 30 1 v1] [] rfl rfl lpr rfl ?_);repeat' first|refine Zz ?_|intro _
 apply V8 [3];exact rfl;exact rfl;kernel_rfl;kernel_rfl;intro _ _;refine I4 (fun v2=>?_);refine j4 (U4 [.tail 63 3 v2] [] rfl rfl lpr rfl ?_);repeat' first|refine Zz ?_|intro _
 apply u7 [10];exact rfl;exact rfl;kernel_rfl
 ·intro _ _;refine aU ?_;exact j4 (o7 rfl rfl)
 repeat' first|refine Zz ?_|intro _
 apply V8 [4];exact rfl;exact rfl;kernel_rfl;kernel_rfl;intro _ _;refine I4 (fun v3=>?_);refine j4 (U4 [.tail 190 15 v3] [] rfl rfl lpr rfl ?_);repeat' first|refine Zz ?_|intro _
 rw[show c.ms.map Z9++[Z9 (M7 (L9 c) ⟨b.h,b.t,b.x⟩).1]=(c.ms++[(M7 (L9 c) b).1]).map Z9 by rw[List.map_append];rfl,show c.bl.map lG++[lG b]=(c.bl++[b]).map lG by rw[List.map_append];rfl,show c.ev.map V9++(M7 (L9 c) ⟨b.h,b.t,b.x⟩).2.2.map V9=(c.ev++(M7 (L9 c) b).2.2).map V9 by rw[List.map_append]];refine o5 (P6 { I with vm:=v1,vb:=v2,ve:=v3 } x s (dW c b)) ⟨rfl,v1,v2,v3,rfl⟩ ?_;exact r9
theorem a3h {nm ky:Bs}{gs:Nat}{xs ys zs:List AV}{i j k:Option Value}{d:Bool}:ImpC (.agg 8 [str nm,str ky,ptr gs,.sl 1 xs i,.sl 3 ys j,.sl 15 zs k,.lit (.slice none 0 0),j3 d]) (.agg 8 [str nm,str ky,ptr gs,.sl 1 xs i,.sl 3 ys j,.sl 15 zs k,.sl 1 [] (some (.slice none 0 0)),j3 d]):=(inferInstance:ImpT _ _).imp
theorem a3n {h t:Int}{xs:List AV}{id:Option Value}:Imp (.agg 3 [int h,int t,.sl 1 xs id]) (.agg 3 [int h,int t,.sl 1 xs none]):=ImpR.imp
theorem a5W {c:ChX}{t:Int}(htm:fB c<=1099511627776):1099511627776<t/\(dX c t).t=1099511627776\/(t<=1099511627776/\t<fB c)/\(dX c t).t=fB c\/(t<=1099511627776/\fB c<=t)/\(dX c t).t=t:=by
 have e:(dX c t).t=max (min t 1099511627776) (fB c):=rfl;rw[e];omega
theorem a4v {I:R20I}{x:DvX}{s:SlX}{c:ChX}{t:Int}(h:ChOk x s c)(h2:R20Ok c)(hin:DvIn x)(hb:s.m.b=s.l.length)(hd:c.dd=false):Av.Spec prog GL 15 [ptr I.gc,int t] (P6 I x s c)
  fun u m=>u=.tup [.sl 3 ((sZ x s c t).map J6) none,int (J4 x s c t).2.2]/\∃ v vm vb ve vt,m=P6 { I with vw:=v,vm:=vm,vb:=vb,ve:=ve,vt:=vt } (J4 x s c t).1 (J4 x s c t).2.1 (tC x s c t):=by
 have hhl:=h.hl;have htm:=h.tm;have hws:=h.ws;have htl:=h2.tm;have hbl:=h2.bl;have hm:(c.ws.map str).length=c.ws.length:=llm _;have hm2:(c.bl.map lG).length=c.bl.length:=llm _;have hb0:c.bl.length<=1000000:=by omega
 refine qE func15 rfl ntmps15 rfl (fun _ hs=>?_);repeat' first|refine Zz ?_|intro _
 rw[hd];obtain⟨T,hT⟩:∃ T,(dX c t).t=T:=⟨_,rfl⟩;have hct:=a5W (c:=c) (t:=t) htm.2;rw[hT] at hct;rcases hct with⟨q1,q2⟩|⟨⟨q1,q3⟩,q2⟩|⟨⟨q1,q3⟩,q2⟩
 all_goals
  rw[q2] at hT;clear q2;have hB:∀ v,(dX c t).t=v->K5 (dX c t)=yN ((c.hs.length:Int)+1) v c.ws:=fun v hv=>by
   unfold K5;rw[hv];rfl
  have hBA:∀ v,(dX c t).t=v->lG (dX c t)=.agg 3 [int ((c.hs.length:Int)+1),int v,.sl 1 (c.ws.map str) none]:=fun v hv=>by
   unfold lG;rw[hv];rfl
  try rw[htl] at hT
  repeat' first|refine Zz ?_|intro _
  rw[hm2,hbl];apply bA [9];exact rfl;exact rfl;kernel_rfl
  ·intro _ _;refine bP ?_;exact j4 (bG rfl)
  ·exact rfl
  ·exact rfl
  repeat' first|refine Zz ?_|intro _
  apply u7 [9];exact rfl;exact rfl;kernel_rfl
  ·intro _ _;refine aU ?_;exact j4 (o7 rfl rfl)
  have hT4:(dX c t).t<=1099511627776:=by rw[hT];omega
  rw[hT] at hT4;repeat' first|refine Zz ?_|intro _
  rw[<- hB _ hT];apply V8 [5,6,7,8];exact rfl;exact rfl;kernel_rfl;kernel_rfl;intro _ _;refine R6 (a4s (I:=I.toR7I) (x:=x) (s:=s) (r:=K5 (dX c t)) h.dv hin h.wl h.me hb h.mb.2 h.mc h.br) (fun u m1 hu=>?_);obtain⟨rfl,v,rfl⟩:=hu;have hQ:fK x s (K5 (dX c t))=J4 x s c t:=rfl;rw[hQ];refine j4 (U4 (eP { I.toR7I with vw:=v } (J4 x s c t).1 (J4 x s c t).2.1) [] rfl rfl lpr rfl ?_);unfold tC sZ;by_cases he:(J4 x s c t).2.2=0
  rotate_left
  ·rw[if_neg he,if_neg he];repeat' first|refine Zz ?_|intro _
   refine U8 (.tup [.sl 3 (([]:List Rep).map J6) none,int (J4 x s c t).2.2]) (P6 { I with vw:=v } (J4 x s c t).1 (J4 x s c t).2.1 { c with dd:=decide ((J4 x s c t).2.2=14) }) ?_ ⟨rfl,v,I.vm,I.vb,I.ve,I.vt,rfl⟩ ?_
   ·exact MR
   ·exact r9
  ·rw[if_pos he,if_pos he];repeat' first|refine Zz ?_|intro _
   refine nL 51 a3n ?_;rw[<- hBA _ hT];refine Qx (g:=I.gc) a3h ?_;refine nJ (fun ok w h=>h.full 9 1 none 0) ?_;refine IQ (P6 { I with vw:=v,vt:=.slice none 0 0 } (J4 x s c t).1 (J4 x s c t).2.1 { c with ws:=[] }) (_::([_,_,_,_]++eP { I.toR7I with vw:=v } (J4 x s c t).1 (J4 x s c t).2.1)) ?_ (List.perm_middle (l₁:=[_,_,_,_])) ?_;rotate_left
   ·exact r9
   refine R6 (Jo (c:={ c with ws:=[] }) (b:=dX c t) ⟨h2.ms,by have:=h2.ml;dsimp only;omega⟩ (by have:=h.ev;dsimp only;omega) hb0 h.st h.ws h.tx) (fun u m1 hu=>?_);obtain⟨rfl,v1,v2,v3,rfl⟩:=hu;repeat' first|refine Zz ?_|intro _
   rw[he];exact o5 _ ⟨rfl,v,v1,v2,v3,.slice none 0 0,rfl⟩ slr
theorem a1t {nm ky:Bs}{bs:List BlkX}{c:ChX}(h:OpI nm ky bs c)(hb:c.bl=bs)(hl:bs.length<=90000):R20Ok c:=by
 have h1:=h.hs;have h2:=h.ms;refine⟨by rw[hb,h1],om,by rw[hb];exact h.tm,om⟩
theorem LG {nm ky:Bs}{d:List Ent}:∀ {bs:List BlkX},(opC nm ky d bs).bl=bs:=by
 have key:∀ (l:List BlkX) (c:ChX),(l.foldl dW c).bl=c.bl++l:=by
  intro l
  induction l with
  | nil=>exact fun c=>(List.append_nil _).symm
  | cons b l ih=>
   intro c;rw[List.foldl_cons,ih];show (c.bl++[b])++l=c.bl++b::l;rw[laa];rfl
 intro bs;unfold opC;rw[key];rfl
theorem a3i {nm ky:Bs}{gs:Nat}{xs:List AV}{i:Option Value}:ImpC (.agg 8 [str nm,str ky,ptr gs,.sl 1 xs i,P9,P9,P9,j3 false]) (.agg 8 [str nm,str ky,ptr gs,.sl 1 xs i,.sl 3 [] (some (.slice none 0 0)),.sl 15 [] (some (.slice none 0 0)),.sl 1 [] (some (.slice none 0 0)),j3 false]):=(inferInstance:ImpT _ _).imp
theorem a4u {I:R6I}{x:DvX}{nm ky:Bs}{gen:List Ent}{bs:List BlkX}{xs:List AV}{id:Option Value}(hxs:xs=gen.map C8)(h:1<=nm.length/\nm.length<=32/\ky.length<=64)(hx:DvOk x)(hw:x.ws.length<=1000)(h0:kI x=0)(hr:Q6 x (G6 x).b=J2 (bs.map K5))(hb:BsG bs)(hg:gen.length<=1000)(hd:DOk (dG gen)) :
  Av.Spec prog GL 9 [ptr I.gd,str nm,str ky,.sl 2 xs id] (I7 I x) fun u m=>∃ J:R20I,J.gd=I.gd/\J.gs=I.gs/\J.c=I.c/\u=.tup [ptr J.gc,int 0]/\m=P6 J x (dO x) (opC nm ky (dG gen) bs):=by
 subst hxs;have hne:nm≠[]:=by rintro rfl;simp at h
 have hbl:=hb.l;have hmb:((bs.map K5).map str).length=bs.length:=by rw[llm,llm]
 have hm6:∀ s∈bs.map K5,s.length<=1048576:=fun s hs=>by
  obtain⟨b,hm,rfl⟩:=List.mem_map.1 hs;have:=NV (hb.g b hm).1;omega
 refine qE func9 rfl ntmps9 rfl (fun _ hs=>?_);repeat' first|refine Zz ?_|intro _
 refine R6 (a4r hx om h0 hr hm6) (fun u m1 hu=>?_);obtain⟨gl,rfl,rfl⟩:=hu;repeat' (first|refine iN ?_|refine V7 ?_|refine R9 ?_|intro _|simp only[List.set]|refine yA ?_|refine yB ?_|refine tH ?_|refine wJ ?_|fail)
 rw[a0h];refine Qt (fun A=>?_);repeat' first|refine Zz ?_|intro _
 rename_i gc;refine gM (g:=gc) a3i ?_;refine O5 (fun ok w h=>h.full 9 1 none 0) ?_;refine O5 (fun ok w h=>h.full 190 15 none 0) ?_;refine O5 (fun ok w h=>h.full 63 3 none 0) ?_;refine PD (P6 ⟨⟨I,gl⟩,gc,.slice A 1 1,.slice none 0 0,.slice none 0 0,.slice none 0 0⟩ x (dO x) (GD nm ky (dG gen))) ([_,_,_]++([_,_]++eP ⟨I,gl⟩ x (dO x))) ?_ (List.perm_append_comm_assoc [_,_] [_,_,_] _) slr;refine z8 (α:=Nat × Value × Value × Value) (fun z=>[(11,.sl 1 ((bs.map K5).map str) none),(13,ptr gc),(14,int z.1)]) (fun z=>P6 ⟨⟨I,gl⟩,gc,z.2.1,z.2.2.1,z.2.2.2,.slice none 0 0⟩ x (dO x) (opC nm ky (dG gen) (bs.take z.1)))
  (fun z=>z.1<=bs.length) (fun z=>bs.length-z.1) (0,.slice A 1 1,.slice none 0 0,.slice none 0 0) ⟨rfl,rfl,rfl,trivial⟩ slr (Nat.zero_le _) ?_
 rintro⟨i,vm,vb,ve⟩ hi;dsimp only at hi ⊢;have hI:=AR (nm:=nm) (ky:=ky) hd hb i hi;by_cases hil:i<bs.length
 ·obtain⟨hbg,hbx⟩:=hb.g _ (List.getElem_mem hil);have hbh:=hb.h i hil;have hst:=LD (nm:=nm) (ky:=ky) (d:=dG gen) hil;have hcb:(opC nm ky (dG gen) (bs.take i)).bl.length=i:=by rw[LG,List.length_take];omega
  have hcb2:aW (opC nm ky (dG gen) (bs.take i)).bl=aW (bs.take i):=by rw[LG]
  have hsl:=hI.hs;have hml:=hI.ms;have hev:=hI.ev;rw[List.length_take,Nat.min_eq_left om] at hsl hml hev;have hgi:(bs.map K5)[i]'(by rw[llm];exact hil)=K5 bs[i]:=List.getElem_map ..;have hll:i<(bs.map K5).length:=by rw[llm];exact hil
  generalize opC nm ky (dG gen) (bs.take i)=c at *;have hc0:c.bl.length<=1000000:=by omega
  repeat' first|refine Zz ?_|intro _
  rw[hgi];repeat' first|refine Zz ?_|intro _
  rw[dZ (show ¬ bs[i].h≠(i:Int)+1 from nni hbh.1)];repeat' first|refine Zz ?_|intro _
  rw[dZ (show ¬ bs[i].t<aW c.bl by rw[hcb2];have:=hbh.2;omega)];repeat' first|refine Zz ?_|intro _
  rename_i g17;refine X0 [_] (P6 ⟨⟨I,gl⟩,gc,vm,vb,ve,.slice none 0 0⟩ x (dO x) c) [] (Jo (b:=bs[i]) ⟨om,om⟩ om hc0 hI.st hbg.l hbx) (fun u m1 hu=>?_);obtain⟨rfl,v1,v2,v3,rfl⟩:=hu;rw[<- hst];repeat' first|refine Zz ?_|intro _
  exact o6 (i+1,v1,v2,v3) ⟨rfl,rfl,rfl,trivial⟩ (List.sublist_cons_self _ _) hil (by dsimp only;omega)
 ·obtain rfl:i=bs.length:=by omega
  rw[List.take_length];repeat' first|refine Zz ?_|intro _
  refine o5 _ ⟨⟨⟨I,gl⟩,gc,vm,vb,ve,.slice none 0 0⟩,rfl,rfl,rfl,rfl,rfl⟩ slr
end Go.Proofs.YtocpacdnjbjjmaaGreatDoor

namespace Go.Proofs.YtocpacdnjbjjmaaGreatDoor
open Go Go.RowKit Tw Av Go.Proofs.Tryz
section
variable {nm ky:Bs} {d:List Ent} {bs:List BlkX} {ws:List Bs} {x:DvX}
theorem Nh {dd:Bool}(hd:DOk d)(hb:BsG bs):R20Ok (x8 nm ky d bs ws dd):=by
 have h:=a1t (vQ (nm:=nm) (ky:=ky) hd hb) LG (by have:=hb.l;omega);exact⟨h.bl,h.ms,h.tm,h.ml⟩
theorem a6n {dd:Bool}:(x8 nm ky d bs ws dd).bl=bs:=LG
theorem a4o {I:R6I}{gen:List Ent}{xs:List AV}{id:Option Value}(hxs:xs=gen.map C8)(hn:1<=nm.length/\nm.length<=32/\ky.length<=64)(h:Ro x bs)(hg:gen.length<=1000)(hd:DOk (dG gen))(he:dG gen=d) :
  Av.Spec prog GL 9 [ptr I.gd,str nm,str ky,.sl 2 xs id] (I7 I x) fun u m=>∃ J:R20I,J.gd=I.gd/\J.gs=I.gs/\J.c=I.c/\u=.tup [ptr J.gc,int 0]/\m=P6 J x (F9 bs) (x8 nm ky d bs [] false):=by
 subst he;obtain⟨h0,h1,h2⟩:=Bh h;have hr:Q6 x (G6 x).b=J2 (bs.map K5):=congrArg SlX.l h1;have:=a4u (I:=I) (id:=id) hxs hn h.dv (by rw[h.ws];decide) h0 hr h.bg hg hd;rw[h1,<- WB hd h.bg] at this;exact this
theorem UT {I:R20I}{t:Int}(hd:DOk d)(h:Ro x bs)(hl:bs.length<189)(hw:WsG ws) :
  Av.Spec prog GL 15 [ptr I.gc,int t] (P6 I x (F9 bs) (x8 nm ky d bs ws false)) fun u m=>u=.tup [.sl 3 ((sZ x (F9 bs) (x8 nm ky d bs ws false) t).map J6) none,int (J4 x (F9 bs) (x8 nm ky d bs ws false) t).2.2]/\∃ v vm vb ve vt,m=P6 { I with vw:=v,vm:=vm,vb:=vb,ve:=ve,vt:=vt } (J4 x (F9 bs) (x8 nm ky d bs ws false) t).1 (J4 x (F9 bs) (x8 nm ky d bs ws false) t).2.1 (tC x (F9 bs) (x8 nm ky d bs ws false) t):=
 a4v (WA hd h om hw) (Nh hd h.bg) (by intro w hw;rw[h.ws] at hw;cases hw) rfl rfl
theorem a4k {I:R20I}{s:SlX}{t:Bs}(hw:ws.length<=16)(ht:t.length<=6000) :
  Av.Spec prog GL 13 [ptr I.gc,str t] (P6 I x s (x8 nm ky d bs ws false)) fun u m=>(ws.length<16/\u=int 0/\∃ v,m=P6 { I with vt:=v } x s (x8 nm ky d bs (ws++[t]) false))\/(ws.length=16/\u=int 15/\∃ v,m=P6 { I with vt:=v } x s (x8 nm ky d bs ws false)):=by
 refine(GN (I:=I) (x:=x) (s:=s) (c:=x8 nm ky d bs ws false) (t:=t) (by show ws.length<=1000000;omega)).mono ?_;rintro u m ⟨rfl,v,rfl⟩;have e:eG (x8 nm ky d bs ws false) t=if 16<=ws.length then 15 else 0:=by
  unfold eG;rw[if_neg (show ¬ (x8 nm ky d bs ws false).dd=true from by show ¬ (false=true);decide),if_neg om];rfl
 unfold tZ;rw[e];by_cases hl:16<=ws.length
 ·rw[if_pos hl,if_neg dc];exact .inr ⟨om,rfl,v,rfl⟩
 ·rw[if_neg hl,if_pos rfl];exact .inl ⟨om,rfl,v,rfl⟩
theorem UU {I:ChI}{t:Int}(hd:DOk d)(h:Ro x bs)(hl:bs.length<189)(hw:WsG ws) :
  Av.Spec prog GL 14 [ptr I.gc,int t] (O1 I x (F9 bs) (x8 nm ky d bs ws false)) fun u m=>u=.tup [.sl 3 ((sZ x (F9 bs) (x8 nm ky d bs ws false) t).map J6) none,int (J4 x (F9 bs) (x8 nm ky d bs ws false) t).2.2]/\∃ v vm vh ve vt,m=O1 { I with vw:=v,vm:=vm,vh:=vh,ve:=ve,vt:=vt } (J4 x (F9 bs) (x8 nm ky d bs ws false) t).1 (J4 x (F9 bs) (x8 nm ky d bs ws false) t).2.1 (tC x (F9 bs) (x8 nm ky d bs ws false) t):=
 Jy (WA hd h om hw) rfl
theorem Hz (hd:DOk d)(hb:BsG bs){z:Hdr}:∀ i,i<=bs.length->∀ k (hk:k<bs.length),k<i->(opC nm ky d (bs.take i)).hs.getD k z=⟨nm,(k:Int)+1,bs[k].t,xF ((opC nm ky d (bs.take i)).ms.getD (k+1) [])⟩
 | 0,_,k,_,h=>absurd h om
 | i+1,hi,k,hk,h=>by
  have hI:=AR (nm:=nm) (ky:=ky) hd hb i om;have h1:=hI.hs;have h2:=hI.ms;rw[List.length_take,Nat.min_eq_left om] at h1 h2;have hn:=hI.nm;have ih:=Hz hd hb (z:=z) i om k hk;rw[LD (show i<bs.length by omega)];obtain⟨c,hc⟩:∃ c,opC nm ky d (bs.take i)=c:=⟨_,rfl⟩;rw[hc] at h1 h2 hn ih ⊢;clear hI;show (c.hs++[MU c bs[i]]).getD k z=⟨nm,(k:Int)+1,bs[k].t,xF ((c.ms++[(M7 (L9 c) bs[i]).1]).getD (k+1) [])⟩;by_cases hk':k<i
  ·rw[List.getD_eq_getElem?_getD,List.getElem?_append_left om,<- List.getD_eq_getElem?_getD,ih hk',List.getD_eq_getElem?_getD (l:=c.ms++_),List.getElem?_append_left om,<- List.getD_eq_getElem?_getD]
  ·obtain rfl:k=i:=by omega
   rw[List.getD_eq_getElem?_getD,List.getElem?_append_right om,h1,Nat.sub_self,List.getD_eq_getElem?_getD (l:=c.ms++_),List.getElem?_append_right om,h2,Nat.sub_self];have:=(hb.h k hk).1;show (⟨c.nm,bs[k].h,bs[k].t,_⟩:Hdr)=_;rw[hn,this];rfl
theorem a1H (hd:DOk d):∀ y∈(opC nm ky d bs).ms,DOk y:=by
 have key:∀ (l:List BlkX) (c:ChX),(∀ y∈c.ms,DOk y)->∀ y∈(l.foldl dW c).ms,DOk y:=by
  intro l
  induction l with
  | nil=>exact fun _ h=>h
  | cons b l ih=>
   intro c h;refine ih (dW c b) ?_;intro y hy;rcases List.mem_append.1 (show y∈c.ms++[(M7 (L9 c) b).1] from hy) with hy|hy
   ·exact h y hy
   ·rw[List.mem_singleton.1 hy];refine KH ?_;unfold L9;rw[List.getD_eq_getElem?_getD];cases e:c.ms[c.hs.length]? with
    | none=>exact .nil
    | some z=>exact h z (List.mem_of_getElem? e)
 exact key bs _ (fun y hy=>by rw[List.mem_singleton.1 (show y∈[d] from hy)];exact hd)
theorem a3y (hd:DOk d)(hb:BsG bs){z:Hdr}{dd:Bool}{k:Nat}(hk:k<bs.length):(x8 nm ky d bs ws dd).hs.getD k z=⟨nm,(k:Int)+1,bs[k].t,xF ((x8 nm ky d bs ws dd).ms.getD (k+1) [])⟩:=by
 have h:=Hz (nm:=nm) (ky:=ky) hd hb (z:=z) bs.length (Nat.le_refl _) k hk hk;rw[List.take_length] at h;exact h
end
abbrev kW (gd gs cc gl gc:Nat)(v:V5)(x:DvX)(s:SlX)(c:ChX):List Av.Piece:=P6 ⟨⟨⟨gd,gs,cc,v.1⟩,gl⟩,gc,v.2.1,v.2.2.1,v.2.2.2.1,v.2.2.2.2⟩ x s c
theorem UR {I:R6I}{x:DvX}{bs:List BlkX}(h:Ro x bs):Av.Spec prog GL 9 [ptr I.gd,str [97],str [107],.sl 2 (y9.map C8) none] (I7 I x) fun u m=>∃ gl gc v,u=.tup [ptr gc,int 0]/\m=kW I.gd I.gs I.c gl gc v x (F9 bs) (x8 [97] [107] y9 bs [] false):=by
 refine(a4o (nm:=[97]) (ky:=[107]) (gen:=y9) (d:=y9) (id:=none) rfl dc h dc (by rw[wE];exact uT) wE).mono ?_;rintro u m ⟨J,h1,h2,h3,rfl,rfl⟩;obtain⟨⟨⟨gd,gs,cc,v1⟩,gl⟩,gc,v2,v3,v4,v5⟩:=J;dsimp only at h1 h2 h3;subst h1 h2 h3;exact⟨gl,gc,(v1,v2,v3,v4,v5),rfl,rfl⟩

set_option maxRecDepth 100000 in
theorem a4J {cuts:List (List Int)}{ht:Int}{xs:List AV}{id:Option Value}(hxs:xs=cuts.map MP):Ans prog GL 3 [.sl 1 xs id,int ht] True (j3 true):=⟨fun _=>by
 subst hxs;have hm:(cuts.map MP).length=cuts.length:=llm _;have hd:=uT;refine qE func3 rfl ntmps3 rfl (fun _ hs=>?_);refine uZ 0 (fun hbnd=>?_);have hbnd:=lJ hbnd;repeat' first|refine Zz ?_|intro _
 refine R6 (UY (n:=1000) dc dc) (fun u m1 hu=>?_);obtain⟨I,rfl,rfl⟩:=hu;repeat' first|refine Zz ?_|intro _
 have hR0:Ro (iM 1000) []:=KJ dc dc;refine R6 (UW hR0) (fun u m1 hu=>?_);obtain⟨gs,gc,v,rfl,rfl⟩:=hu;repeat' first|refine Zz ?_|intro _
 refine M3 [] _ (by rw[hs];exact Jl (n:=1000) dc dc) (fun u m1 hu=>?_) lpr;obtain⟨J,rfl,rfl⟩:=hu;repeat' first|refine Zz ?_|intro _
 refine M3 (I7 J (iM 1000)) _ (by rw[hs];exact UR hR0) (fun u m1 hu=>?_) lpr;obtain⟨gl2,gc2,v2,rfl,rfl⟩:=hu;repeat' first|refine Zz ?_|intro _
 obtain⟨gd,gm,vd⟩:=I;obtain⟨gd2,gs2,cc2,vd2⟩:=J;dsimp only;refine z8 (α:=V5 × V5 × DvX × List BlkX) (fun z=>[(0,.sl 1 (cuts.map MP) id),(1,int ht),(5,j3 true),(6,ptr gc),(8,ptr gc2),(10,int z.2.2.2.length)])
  (fun z=>kW gd2 gs2 cc2 gl2 gc2 z.2.1 z.2.2.1 (F9 z.2.2.2) (x8 [97] [107] y9 z.2.2.2 [] false)++uU gd gm gs gc z.1 z.2.2.1 (F9 z.2.2.2) (x8 [97] [107] y9 z.2.2.2 [] false))
  (fun z=>LvN z.2.2.1 1000 z.2.2.2/\z.2.2.2.length<=10/\z.2.2.2.length<=cuts.length/\(dR z.2.2.2).length<=5000*z.2.2.2.length) (fun z=>10-z.2.2.2.length)
  (v,v2,iM 1000,[]) ⟨rfl,rfl,rfl,rfl,rfl,rfl,trivial⟩ slr ⟨⟨rfl,rfl,hR0⟩,Nat.zero_le _,Nat.zero_le _,Nat.le_refl _⟩ ?_
 rintro⟨w,w2,x,bs⟩ ⟨⟨hn,ha,hR⟩,h10,hbl,hlg⟩;dsimp only at hn ha hR h10 hbl hlg ⊢;clear hR0;by_cases hgo:bs.length<cuts.length/\bs.length<10
 ·obtain⟨hi,hi2⟩:=hgo;have hmi:(cuts[bs.length].map fun (i:Int)=>(int i:AV)).length=cuts[bs.length].length:=llm _;repeat' first|refine Zz ?_|intro _
  refine z8 (α:=V5 × V5 × List Bs) (fun z=>[(0,.sl 1 (cuts.map MP) id),(1,int ht),(5,j3 true),(6,ptr gc),(8,ptr gc2),(10,int bs.length),(11,int z.2.2.length)])
   (fun z=>kW gd2 gs2 cc2 gl2 gc2 z.2.1 x (F9 bs) (x8 [97] [107] y9 bs z.2.2 false)++uU gd gm gs gc z.1 x (F9 bs) (x8 [97] [107] y9 bs z.2.2 false))
   (fun z=>z.2.2.length<=4/\z.2.2.length<=cuts[bs.length].length/\WsG z.2.2/\∀ s∈z.2.2,s.length<=1000) (fun z=>4-z.2.2.length)
   (w,w2,[]) ⟨rfl,rfl,rfl,rfl,rfl,rfl,rfl,trivial⟩ slr ⟨Nat.zero_le _,Nat.zero_le _,⟨sm,sm⟩,sm⟩ ?_
  rintro⟨⟨w1,wb,wc,wd,we⟩,⟨u1,ub,uc,ud,ue⟩,ws⟩ ⟨hw4,hwc,hws,hwl⟩;dsimp only at hw4 hwc hws hwl ⊢;by_cases hka:ws.length<cuts[bs.length].length/\ws.length<4
  ·obtain⟨hka,hk4⟩:=hka;repeat' first|refine Zz ?_|intro _
   refine aC _ _ (Jg (nm:=[97]) (ky:=[107]) (d:=y9) (bs:=bs) (ws:=ws) (x:=x) (I:=⟨⟨⟨gd,gm,w1⟩,gs⟩,gc,wb,wc,wd,we⟩) (s:=F9 bs) om (Nat.le_trans (zK cuts[bs.length][ws.length]) dc)) (fun u m1 hu=>?_);rcases hu with⟨hw16,rfl,u5,rfl⟩|⟨hw16,_⟩
   rotate_left
   ·omega
   repeat' first|refine Zz ?_|intro _
   refine X0 [] _ _ (a4k (nm:=[97]) (ky:=[107]) (d:=y9) (bs:=bs) (ws:=ws) (x:=x) (I:=⟨⟨⟨gd2,gs2,cc2,u1⟩,gl2⟩,gc2,ub,uc,ud,ue⟩) (s:=F9 bs) om (Nat.le_trans (zK cuts[bs.length][ws.length]) dc)) (fun u m1 hu=>?_);rcases hu with⟨hw16,rfl,v5,rfl⟩|⟨hw16,_⟩
   rotate_left
   ·omega
   have hty:=DX cuts[bs.length][ws.length];have htl:=zK cuts[bs.length][ws.length];generalize bI cuts[bs.length][ws.length]=ty at *;have hwl':(ws++[ty]).length=ws.length+1:=by rw[lla];rfl
   have hws':WsG (ws++[ty]):=⟨om,fun s hs=>by
    rcases List.mem_append.1 hs with hs|hs
    ·exact hws.t s hs
    ·rw[List.mem_singleton.1 hs];exact hty⟩
   have hwz:∀ s∈ws++[ty],s.length<=1000:=fun s hs=>by
    rcases List.mem_append.1 hs with hs|hs
    ·exact hwl s hs
    ·rw[List.mem_singleton.1 hs];exact htl
   generalize ws++[ty]=ws' at *;repeat' first|refine Zz ?_|intro _
   refine M6 11 (v:=int ((ws.length:Int)+1)) (v':=int ws'.length) (Imp.of_eq (by rw[hwl'];rfl)) ?_;exact o6 ((w1,wb,wc,wd,u5),(u1,ub,uc,ud,v5),ws') ⟨rfl,rfl,rfl,rfl,rfl,rfl,rfl,trivial⟩ slr ⟨by dsimp only;omega,by dsimp only;omega,hws',hwz⟩ (by dsimp only;omega)
  ·have hor:¬ ws.length<cuts[bs.length].length\/(ws.length<cuts[bs.length].length/\¬ ws.length<4):=om
   rcases hor with hk1|⟨hk1,hk2⟩
   all_goals
    repeat' first|refine Zz ?_|intro _
    refine aC _ _ (UU (nm:=[97]) (ky:=[107]) (ws:=ws) (I:=⟨⟨⟨gd,gm,w1⟩,gs⟩,gc,wb,wc,wd,we⟩) (t:=(bs.length:Int)*2) hd hR om hws) (fun u m1 hu=>?_);obtain⟨rfl,a1,a2,a3,a4,a5,rfl⟩:=hu;have hrm:M0 x.n=63872:=by rw[hn];rfl
    have hlx:=Gb (bs:=bs) (ws:=ws) (t:=(bs.length:Int)*2) hwl;have hc:=NM (nm:=[97]) (ky:=[107]) hd hR om hws ((bs.length:Int)*2);obtain⟨hxn,hxa,hRx,k1,k2,k3,k4⟩:=Me hc ha (by rw[hrm];omega) hwl;clear hc k4;repeat' first|refine Zz ?_|intro _
    refine X0 [] _ _ (UT (nm:=[97]) (ky:=[107]) (ws:=ws) (I:=⟨⟨⟨gd2,gs2,cc2,u1⟩,gl2⟩,gc2,ub,uc,ud,ue⟩) (t:=(bs.length:Int)*2) hd hR om hws) (fun u m1 hu=>?_);obtain⟨rfl,b1,b2,b3,b4,b5,rfl⟩:=hu;rw[k1,k2,k3];clear k1 k2 k3;generalize (J4 x (F9 bs) (x8 [97] [107] y9 bs ws false) ((bs.length:Int)*2)).1=x' at *;have e6:(bs++[L6 bs ws ((bs.length:Int)*2)]).length=bs.length+1:=by rw[lla];rfl
    generalize bs++[L6 bs ws ((bs.length:Int)*2)]=bs' at *;repeat' first|refine Zz ?_|intro _
    refine M6 10 (v:=int ((bs.length:Int)+1)) (v':=int bs'.length) (Imp.of_eq (by rw[e6];rfl)) ?_;refine o6 ((a1,a2,a3,a4,a5),(b1,b2,b3,b4,b5),x',bs') ⟨rfl,rfl,rfl,rfl,rfl,rfl,trivial⟩ ?_ ⟨⟨hxn.trans hn,hxa,hRx⟩,by dsimp only;omega,by dsimp only;omega,by dsimp only;omega⟩ (by dsimp only;omega);exact r9
 ·have hor:¬ bs.length<cuts.length\/(bs.length<cuts.length/\¬ bs.length<10):=om
  rcases hor with hk1|⟨hk1,hk2⟩
  all_goals
   have o:=vQ (nm:=[97]) (ky:=[107]) hd hR.bg;have e1:=Ni (nm:=[97]) (ky:=[107]) (ws:=[]) (dd:=false) hd hR.bg;have e0:(x8 [97] [107] y9 bs [] false).ms.length=bs.length+1:=o.ms;have eb:(x8 [97] [107] y9 bs [] false).bl=bs:=a6n;have e4:((x8 [97] [107] y9 bs [] false).hs.length<=1000000/\(x8 [97] [107] y9 bs [] false).ky.length<=1000000)/\∀ y∈(x8 [97] [107] y9 bs [] false).hs,y.h<=9223372036854775807/\y.t<=9223372036854775807:=by
    refine⟨⟨by rw[e1];omega,?_⟩,a3z hR.bg⟩;show (opC [97] [107] y9 bs).ky.length<=1000000;rw[o.ky];decide
   have hso:∀ k (hk:k<bs.length),(x8 [97] [107] y9 bs [] false).hs.getD k ⟨[],0,0,J7⟩=⟨[97],(k:Int)+1,bs[k].t,xF ((x8 [97] [107] y9 bs [] false).ms.getD (k+1) [])⟩:=fun k hk=>a3y hd hR.bg hk;have eky:(x8 [97] [107] y9 bs [] false).ky=[107]:=o.ky;have hmd:∀ y∈(x8 [97] [107] y9 bs [] false).ms,DOk y:=a1H hd;clear o;generalize x8 [97] [107] y9 bs [] false=c at *;have hm2:(c.bl.map lG).length=bs.length:=by rw[llm,eb]
   have hm3:(c.ms.map Z9).length=bs.length+1:=by rw[llm,e0]
   have hms:c.ms.length<=1000000:=om
   obtain h0|h0|h0|h0:ht<0\/(bs.length:Int)<ht\/ht=0\/(1<=ht/\ht<=bs.length):=by omega
   ·have q1:¬ (0<=ht/\ht<c.ms.length):=om
    have q2:¬ (1<=ht/\ht<=c.hs.length):=om
    repeat' first|refine Zz ?_|intro _
    rw[if_neg q1,dZ q1];repeat' first|refine Zz ?_|intro _
    rw[if_neg q2];repeat' first|refine Zz ?_|intro _
    refine d9 ?_;rfl
   ·have q1:¬ (0<=ht/\ht<c.ms.length):=om
    have q2:¬ (1<=ht/\ht<=c.hs.length):=om
    repeat' first|refine Zz ?_|intro _
    rw[if_neg q1,dZ q1];repeat' first|refine Zz ?_|intro _
    rw[if_neg q2];repeat' first|refine Zz ?_|intro _
    refine d9 ?_;rfl
   ·subst h0;have q1:0<=(0:Int)/\(0:Int)<c.ms.length:=by omega
    have q2:¬ (1<=(0:Int)/\(0:Int)<=c.hs.length):=om
    have hk0:0<c.ms.length:=om
    have hg:c.ms.getD (0:Int).toNat []=c.ms[0]:=by rw[List.getD_eq_getElem?_getD,List.getElem?_eq_getElem (show (0:Int).toNat<c.ms.length from hk0)];rfl
    have hdl:=(hmd _ (List.getElem_mem hk0)).l;repeat' first|refine Zz ?_|intro _
    rw[if_pos q1,dT q1,hg];repeat' first|refine Zz ?_|intro _
    rw[if_neg q2];repeat' first|refine Zz ?_|intro _
    refine d9 ?_;rfl
   ·obtain⟨j,rfl⟩:∃ j:Nat,ht=(j:Int)+1:=⟨(ht-1).toNat,om⟩;have q1:0<=(j:Int)+1/\(j:Int)+1<c.ms.length:=by omega
    have q2:1<=(j:Int)+1/\(j:Int)+1<=c.hs.length:=om
    have hk0:j+1<c.ms.length:=om
    have hj:j<bs.length:=om
    have hgm:c.ms.getD (j+1) []=c.ms[j+1]:=by rw[List.getD_eq_getElem?_getD,List.getElem?_eq_getElem hk0];rfl
    have hg:c.ms.getD ((j:Int)+1).toNat []=c.ms[j+1]:=hgm;have hh:c.hs.getD ((j:Int)+1-1).toNat ⟨[],0,0,J7⟩=⟨[97],(j:Int)+1,bs[j].t,rW c.ms[j+1].length (oN (c.ms[j+1].map aI))⟩:=by rw[show (j:Int)+1-1=(j:Int) by omega,Int.toNat_natCast,hso j hj,hgm];rfl
    have hdl:=(hmd _ (List.getElem_mem hk0)).l;have hbg:=(hR.bg.g _ (List.getElem_mem hj)).1.t;repeat' first|refine Zz ?_|intro _
    rw[if_pos q1,dT q1,hg];repeat' first|refine Zz ?_|intro _
    rw[if_pos q2,hh,eky];repeat' first|refine Zz ?_|intro _
    rw[eb,show (j:Int)+1-1=(j:Int) by omega];have hm4:(bs.map lG).length=bs.length:=llm _;have hsp:([107]:Bs).length<=1000000/\(j:Int)+1<=9223372036854775807/\bs[j].t<=9223372036854775807:=⟨dc,om,om⟩;repeat' first|refine Zz ?_|intro _
    apply bA [21];exact rfl;exact rfl;kernel_rfl
    ·intro _ _;refine bP ?_;exact j4 (bG rfl)
    ·exact rfl
    ·exact rfl
    repeat' first|refine Zz ?_|intro _
    apply u7 [21];exact rfl;exact rfl;kernel_rfl
    ·intro _ _;refine bQ ?_;refine aU ?_;exact j4 (o7 rfl rfl)
    repeat' first|refine Zz ?_|intro _
    apply u7 [21];exact rfl;exact rfl;kernel_rfl
    ·intro _ _;refine bQ ?_;refine aU ?_;exact j4 (o7 rfl rfl)
    repeat' first|refine Zz ?_|intro _
    refine d9 ?_;rfl⟩
end Go.Proofs.YtocpacdnjbjjmaaGreatDoor
