/- . -/
import Derived.Test.YtjhnaegpchadiaaGreatDoorN38
set_option maxHeartbeats 64000000
namespace Go.Proofs.YtjhnaegpchadiaaGreatDoor
open Go Go.RowKit Tw Av Go.Proofs.Tryz
abbrev pK (b:BlkX):AV:=.agg 3 [int b.h,int b.t,.sl 1 (b.x.map str) none]
structure R20I extends R7I where
 gc:Nat
 vm:Value
 vb:Value
 ve:Value
 vt:Value
abbrev uN (gl:Nat)(vm vb ve vt:Value)(c:ChX):AV:=.agg 8 [str c.nm,str c.ky,ptr gl,.sl 1 (c.ms.map Y3) (some vm),.sl 3 (c.bl.map pK) (some vb),.sl 15 (c.ev.map U3) (some ve),.sl 1 (c.ws.map str) (some vt),j3 c.dd]
abbrev aN (I:R20I)(x:DvX)(s:SlX)(c:ChX):List Av.Piece:=.var I.gc 150 (uN I.gl I.vm I.vb I.ve I.vt c)::.tail 47 1 I.vm::.tail 130 3 I.vb::.tail 172 15 I.ve::.tail 9 1 I.vt::eZ I.toR7I x s
structure R20Ok (c:ChX):Prop where
 bl:c.bl.length=c.hs.length
 ms:c.ms.length=c.hs.length+1
 tm:gM c=O5 c.bl
 ml:c.ms.length<=100000
section
variable {g gl:Nat} {vm vb ve vt:Value} {c:ChX}
instance b3o:AnsM prog GL 60 g [] 150 (uN gl vm vb ve vt c) (c.bl.length<=1000000) (int (O5 c.bl)) (uN gl vm vb ve vt c):=⟨fun hl=>by
 have hm:(c.bl.map pK).length=c.bl.length:=llm _;refine qF func60 ntmps60 fun _ hs=>?_;repeat' first|refine Zz ?_|intro _
 unfold O5;by_cases h:c.bl.length=0
 ·rw[List.length_eq_zero_iff.1 h];repeat' first|refine Zz ?_|intro _
  exact l9 _ ⟨rfl,rfl⟩ slr
 ·obtain⟨k,hk⟩:∃ k,c.bl.length=k+1:=⟨c.bl.length-1,om⟩;have hkl:k<c.bl.length:=by omega
  have hg:c.bl.getLast?=some c.bl[k]:=by
   rw[List.getLast?_eq_getElem?,hk];exact List.getElem?_eq_getElem hkl
  rw[hg];repeat' first|refine Zz ?_|intro _
  rw[show ((c.bl.map pK).length:Int)-1=(k:Int) by omega];repeat' first|refine Zz ?_|intro _
  exact l9 _ ⟨rfl,rfl⟩ slr⟩
instance b3p:AnsM prog GL 28 g [] 150 (uN gl vm vb ve vt c) (c.ms.length=c.hs.length+1/\c.ms.length<=1000000) (Y3 (o7 c)) (uN gl vm vb ve vt c):=⟨fun hl=>by
 obtain⟨hl1,hl2⟩:=hl;have hm:(c.ms.map Y3).length=c.ms.length:=llm _;have hk:c.hs.length<c.ms.length:=by omega
 refine qF func28 ntmps28 fun _ hs=>?_;repeat' first|refine Zz ?_|intro _
 rw[show ((c.ms.map Y3).length:Int)-1=(c.hs.length:Int) by omega];repeat' first|refine Zz ?_|intro _
 unfold o7;rw[List.getD_eq_getElem?_getD,List.getElem?_eq_getElem hk];exact l9 _ ⟨rfl,rfl⟩ slr⟩
end
attribute [local irreducible] O5 U9 L8
theorem a1v {I:R20I}{x:DvX}{s:SlX}{c:ChX}{t:Bs}(hw:c.ws.length<=1000000):Av.Spec prog GL 39 [ptr I.gc,str t] (aN I x s c) fun u m=>u=int (iO c t)/\∃ v,m=aN { I with vt:=v } x s (zI c t):=by
 have hm:(c.ws.map str).length=c.ws.length:=llm _;refine qF func39 ntmps39 fun _ hs=>?_;repeat' first|refine Zz ?_|intro _
 unfold zI iO;cases hd:c.dd;rotate_left
 ·rw[if_pos rfl,if_neg dc];repeat' first|refine Zz ?_|intro _
  refine l9 (aN I x s c) ⟨rfl,I.vt,?_⟩ slr;rfl
 rw[if_neg dc];by_cases h1:6000<t.length
 ·rw[if_pos h1,if_neg dc];repeat' first|refine Zz ?_|intro _
  refine l9 (aN I x s c) ⟨rfl,I.vt,?_⟩ slr;rfl
 rw[if_neg h1];by_cases h2:16<=c.ws.length
 ·rw[if_pos h2,if_neg dc];repeat' first|refine Zz ?_|intro _
  refine l9 (aN I x s c) ⟨rfl,I.vt,?_⟩ slr;rfl
 rw[if_neg h2,if_pos rfl];repeat' first|refine Zz ?_|intro _
 refine I1 (fun v'=>?_);repeat' first|refine Zz ?_|intro _
 rw[show c.ws.map str++[str t]=(c.ws++[t]).map str by rw[List.map_append];rfl];refine l9 (aN { I with vt:=v' } x s { c with ws:=c.ws++[t] }) ⟨rfl,v',by rw[hd]⟩ ?_;exact x9
attribute [local irreducible] E8
instance (priority:=high) b3q {d:List Ent}{l:List Bs}{h t:Int}{xs ys:List AV}{id id2:Option Value}[hx:Ents xs d][hy:Strs ys l]:Ans prog GL 131 [.sl 2 xs id2,.agg 3 [int h,int t,.sl 1 ys id]] (DOk d/\l.length<=1000000/\∀ s∈l,s.length<=1000000000/\(Y1 (I4 s)=0->K20 (J9 (I4 s)).k))
   (.agg 3 [Y3 (L8 d ⟨h,t,l⟩).1,.sl 3 ((L8 d ⟨h,t,l⟩).2.1.map N8) none,.sl 15 ((L8 d ⟨h,t,l⟩).2.2.map U3) none]):=
 a1y (K:=K20) (fun {d h t x}=>⟨fun hp=>(a1z (d:=d) (h:=h) (t:=t) (x:=x) (xs:=d.map D5) (id:=none) (hx:=⟨rfl⟩)).spec ⟨⟨hp.1,hp.2.1⟩,hp.2.2⟩⟩)
theorem Gr {I:R20I}{x:DvX}{s:SlX}{c:ChX}{b:BlkX}(h1:c.ms.length=c.hs.length+1/\c.ms.length<=1000000)(h2:c.ev.length<=1000000)(h3:c.bl.length<=1000000)(hd:DOk (o7 c))(hl:b.x.length<=16)(hx:∀ s∈b.x,Tx20 s) :
  Av.Spec prog GL 61 [ptr I.gc,pK b] (aN I x s c) fun u m=>u=.sl 3 ((L8 (o7 c) b).2.1.map N8) none/\∃ v1 v2 v3,m=aN { I with vm:=v1,vb:=v2,ve:=v3 } x s (fV c b):=by
 have hr:=WS hd hl hx;have hr2:=OO (b:=b) hd;have hm1:(c.ms.map Y3).length=c.ms.length:=llm _;have hm2:(c.bl.map pK).length=c.bl.length:=llm _;have hm3:(c.ev.map U3).length=c.ev.length:=llm _;have hr4:=(zK (h:=b.h) (t:=b.t) (l:=b.x) (q:=(o7 c,[],[]))).2;have hr5:(L8 (o7 c) ⟨b.h,b.t,b.x⟩).2.2.length<=16:=by
  have e:(L8 (o7 c) ⟨b.h,b.t,b.x⟩).2.2.length<=([]:List EvX).length+b.x.length:=by unfold L8;exact hr4
  simp only[List.length_nil] at e;omega
 refine qF func61 ntmps61 fun _ hs=>?_;repeat' first|refine Zz ?_|intro _
 apply bP [10];exact rfl;exact rfl;kernel_rfl
 ·intro _ _;refine bG ?_;exact j4 (bW rfl)
 ·exact rfl
 ·exact rfl
 repeat' first|refine Zz ?_|intro _
 apply x8 [10];exact rfl;exact rfl;kernel_rfl
 ·intro _ _;refine aQ ?_;exact j4 (o9 rfl rfl)
 repeat' first|refine Zz ?_|intro _
 apply Y8 [2];exact rfl;exact rfl;kernel_rfl;kernel_rfl;intro _ _;refine I1 (fun v1=>?_);refine j4 (R6 [.tail 47 1 v1] [] rfl rfl lpr rfl ?_);repeat' first|refine Zz ?_|intro _
 apply Y8 [3];exact rfl;exact rfl;kernel_rfl;kernel_rfl;intro _ _;refine I1 (fun v2=>?_);refine j4 (R6 [.tail 130 3 v2] [] rfl rfl lpr rfl ?_);repeat' first|refine Zz ?_|intro _
 apply x8 [10];exact rfl;exact rfl;kernel_rfl
 ·intro _ _;refine aQ ?_;exact j4 (o9 rfl rfl)
 repeat' first|refine Zz ?_|intro _
 apply Y8 [4];exact rfl;exact rfl;kernel_rfl;kernel_rfl;intro _ _;refine I1 (fun v3=>?_);refine j4 (R6 [.tail 172 15 v3] [] rfl rfl lpr rfl ?_);repeat' first|refine Zz ?_|intro _
 rw[show c.ms.map Y3++[Y3 (L8 (o7 c) ⟨b.h,b.t,b.x⟩).1]=(c.ms++[(L8 (o7 c) b).1]).map Y3 by rw[List.map_append];rfl,show c.bl.map pK++[pK b]=(c.bl++[b]).map pK by rw[List.map_append];rfl,show c.ev.map U3++(L8 (o7 c) ⟨b.h,b.t,b.x⟩).2.2.map U3=(c.ev++(L8 (o7 c) b).2.2).map U3 by rw[List.map_append]];refine l9 (aN { I with vm:=v1,vb:=v2,ve:=v3 } x s (fV c b)) ⟨rfl,v1,v2,v3,rfl⟩ ?_;exact x9
theorem a0m {nm ky:Bs}{gs:Nat}{xs ys zs:List AV}{i j k:Option Value}{d:Bool}:ImpC (.agg 8 [str nm,str ky,ptr gs,.sl 1 xs i,.sl 3 ys j,.sl 15 zs k,.lit (.slice none 0 0),j3 d]) (.agg 8 [str nm,str ky,ptr gs,.sl 1 xs i,.sl 3 ys j,.sl 15 zs k,.sl 1 [] (some (.slice none 0 0)),j3 d]):=(inferInstance:ImpT _ _).imp
theorem a0t {h t:Int}{xs:List AV}{id:Option Value}:Imp (.agg 3 [int h,int t,.sl 1 xs id]) (.agg 3 [int h,int t,.sl 1 xs none]):=ImpR.imp
theorem a2U {c:ChX}{t:Int}(htm:gM c<=1099511627776):1099511627776<t/\(eO c t).t=1099511627776\/(t<=1099511627776/\t<gM c)/\(eO c t).t=gM c\/(t<=1099511627776/\gM c<=t)/\(eO c t).t=t:=by
 have e:(eO c t).t=max (min t 1099511627776) (gM c):=rfl;rw[e];omega
theorem a1x {I:R20I}{x:DvX}{s:SlX}{c:ChX}{t:Int}(h:ChOk x s c)(h2:R20Ok c)(hin:DvIn x)(hb:s.m.b=s.l.length)(hd:c.dd=false):Av.Spec prog GL 25 [ptr I.gc,int t] (aN I x s c)
  fun u m=>u=.tup [.sl 3 ((wQ x s c t).map N8) none,int (M9 x s c t).2.2]/\∃ v vm vb ve vt,m=aN { I with vw:=v,vm:=vm,vb:=vb,ve:=ve,vt:=vt } (M9 x s c t).1 (M9 x s c t).2.1 (wR x s c t):=by
 have hhl:=h.hl;have htm:=h.tm;have hws:=h.ws;have htl:=h2.tm;have hbl:=h2.bl;have hm:(c.ws.map str).length=c.ws.length:=llm _;have hm2:(c.bl.map pK).length=c.bl.length:=llm _;have hb0:c.bl.length<=1000000:=by omega
 refine qF func25 ntmps25 fun _ hs=>?_;repeat' first|refine Zz ?_|intro _
 rw[hd];obtain⟨T,hT⟩:∃ T,(eO c t).t=T:=⟨_,rfl⟩;have hct:=a2U (c:=c) (t:=t) htm.2;rw[hT] at hct;rcases hct with⟨q1,q2⟩|⟨⟨q1,q3⟩,q2⟩|⟨⟨q1,q3⟩,q2⟩
 all_goals
  rw[q2] at hT;clear q2;have hB:∀ v,(eO c t).t=v->K6 (eO c t)=yO ((c.hs.length:Int)+1) v c.ws:=fun v hv=>by
   unfold K6;rw[hv];rfl
  have hBA:∀ v,(eO c t).t=v->pK (eO c t)=.agg 3 [int ((c.hs.length:Int)+1),int v,.sl 1 (c.ws.map str) none]:=fun v hv=>by
   unfold pK;rw[hv];rfl
  try rw[htl] at hT
  repeat' first|refine Zz ?_|intro _
  rw[hm2,hbl];apply bP [9];exact rfl;exact rfl;kernel_rfl
  ·intro _ _;refine bG ?_;exact j4 (bW rfl)
  ·exact rfl
  ·exact rfl
  repeat' first|refine Zz ?_|intro _
  apply x8 [9];exact rfl;exact rfl;kernel_rfl
  ·intro _ _;refine aQ ?_;exact j4 (o9 rfl rfl)
  have hT4:(eO c t).t<=1099511627776:=by rw[hT];omega
  rw[hT] at hT4;repeat' first|refine Zz ?_|intro _
  rw[<- hB _ hT];apply Y8 [5,6,7,8];exact rfl;exact rfl;kernel_rfl;kernel_rfl;intro _ _;refine X4 (a1t (I:=I.toR7I) (x:=x) (s:=s) (r:=K6 (eO c t)) h.dv hin h.wl h.me hb h.mb.2 h.mc h.br) (fun u m1 hu=>?_);obtain⟨rfl,v,rfl⟩:=hu;have hQ:jH x s (K6 (eO c t))=M9 x s c t:=rfl;rw[hQ];refine j4 (R6 (eZ { I.toR7I with vw:=v } (M9 x s c t).1 (M9 x s c t).2.1) [] rfl rfl lpr rfl ?_);unfold wR wQ;by_cases he:(M9 x s c t).2.2=0
  rotate_left
  ·rw[if_neg he,if_neg he];repeat' first|refine Zz ?_|intro _
   refine Y6 (.tup [.sl 3 (([]:List Rep).map N8) none,int (M9 x s c t).2.2]) (aN { I with vw:=v } (M9 x s c t).1 (M9 x s c t).2.1 { c with dd:=decide ((M9 x s c t).2.2=14) }) ?_ ⟨rfl,v,I.vm,I.vb,I.ve,I.vt,rfl⟩ ?_
   ·exact Ep
   ·exact x9
  ·rw[if_pos he,if_pos he];repeat' first|refine Zz ?_|intro _
   refine jL 51 a0t ?_;rw[<- hBA _ hT];refine Nn (g:=I.gc) a0m ?_;refine gG (fun ok w h=>h.full 9 1 none 0) ?_;refine VD (aN { I with vw:=v,vt:=.slice none 0 0 } (M9 x s c t).1 (M9 x s c t).2.1 { c with ws:=[] }) (_::([_,_,_,_]++eZ { I.toR7I with vw:=v } (M9 x s c t).1 (M9 x s c t).2.1)) ?_ (List.perm_middle (l₁:=[_,_,_,_])) ?_;rotate_left
   ·exact x9
   refine X4 (Gr (c:={ c with ws:=[] }) (b:=eO c t) ⟨h2.ms,by have:=h2.ml;dsimp only;omega⟩ (by have:=h.ev;dsimp only;omega) hb0 h.st h.ws h.tx) (fun u m1 hu=>?_);obtain⟨rfl,v1,v2,v3,rfl⟩:=hu;repeat' first|refine Zz ?_|intro _
   rw[he];exact l9 _ ⟨rfl,v,v1,v2,v3,.slice none 0 0,rfl⟩ slr
theorem Wp {nm ky:Bs}{bs:List BlkX}{c:ChX}(h:OpI nm ky bs c)(hb:c.bl=bs)(hl:bs.length<=90000):R20Ok c:=by
 have h1:=h.hs;have h2:=h.ms;refine⟨by rw[hb,h1],om,by rw[hb];exact h.tm,om⟩
theorem KG {nm ky:Bs}{d:List Ent}:∀ {bs:List BlkX},(opC nm ky d bs).bl=bs:=by
 have key:∀ (l:List BlkX) (c:ChX),(l.foldl fV c).bl=c.bl++l:=by
  intro l
  induction l with
  | nil=>exact fun c=>(List.append_nil _).symm
  | cons b l ih=>
   intro c;rw[List.foldl_cons,ih];show (c.bl++[b])++l=c.bl++b::l;rw[laa];rfl
 intro bs;unfold opC;rw[key];rfl
theorem a0n {nm ky:Bs}{gs:Nat}{xs:List AV}{i:Option Value}:ImpC (.agg 8 [str nm,str ky,ptr gs,.sl 1 xs i,A7,A7,A7,j3 false]) (.agg 8 [str nm,str ky,ptr gs,.sl 1 xs i,.sl 3 [] (some (.slice none 0 0)),.sl 15 [] (some (.slice none 0 0)),.sl 1 [] (some (.slice none 0 0)),j3 false]):=(inferInstance:ImpT _ _).imp
theorem a1w {I:R6I}{x:DvX}{nm ky:Bs}{gen:List Ent}{bs:List BlkX}{xs:List AV}{id:Option Value}(hxs:xs=gen.map D5)(h:1<=nm.length/\nm.length<=32/\ky.length<=64)(hx:DvOk x)(hw:x.ws.length<=1000)(h0:kW x=0)(hr:U1 x (H5 x).b=J7 (bs.map K6))(hb:BsG bs)(hg:gen.length<=1000)(hd:DOk (aY gen)) :
  Av.Spec prog GL 21 [ptr I.gd,str nm,str ky,.sl 2 xs id] (K9 I x) fun u m=>∃ J:R20I,J.gd=I.gd/\J.gs=I.gs/\J.c=I.c/\u=.tup [ptr J.gc,int 0]/\m=aN J x (dX x) (opC nm ky (aY gen) bs):=by
 subst hxs;have hne:nm≠[]:=by rintro rfl;simp at h
 have hbl:=hb.l;have hmb:((bs.map K6).map str).length=bs.length:=by rw[llm,llm]
 have hm6:∀ s∈bs.map K6,s.length<=1048576:=fun s hs=>by
  obtain⟨b,hm,rfl⟩:=List.mem_map.1 hs;have:=UV (hb.g b hm).1;omega
 refine qF func21 ntmps21 fun _ hs=>?_;repeat' first|refine Zz ?_|intro _
 refine X4 (a1s hx om h0 hr hm6) (fun u m1 hu=>?_);obtain⟨gl,rfl,rfl⟩:=hu;repeat' (first|refine bK ?_|refine O3 ?_|refine M7 ?_|intro _|simp only[List.set]|refine xY ?_|refine xZ ?_|refine sD ?_|refine vE ?_|fail)
 rw[Tk];refine Nj (fun A=>?_);repeat' first|refine Zz ?_|intro _
 rename_i gc;refine gK (g:=gc) a0n ?_;refine Q6 (fun ok w h=>h.full 9 1 none 0) ?_;refine Q6 (fun ok w h=>h.full 172 15 none 0) ?_;refine Q6 (fun ok w h=>h.full 130 3 none 0) ?_;refine yX (aN ⟨⟨I,gl⟩,gc,.slice A 1 1,.slice none 0 0,.slice none 0 0,.slice none 0 0⟩ x (dX x) (FD nm ky (aY gen))) ([_,_,_]++([_,_]++eZ ⟨I,gl⟩ x (dX x))) ?_ (List.perm_append_comm_assoc [_,_] [_,_,_] _) slr;refine y5 (α:=Nat × Value × Value × Value) (fun z=>[(11,.sl 1 ((bs.map K6).map str) none),(13,ptr gc),(14,int z.1)]) (fun z=>aN ⟨⟨I,gl⟩,gc,z.2.1,z.2.2.1,z.2.2.2,.slice none 0 0⟩ x (dX x) (opC nm ky (aY gen) (bs.take z.1)))
  (fun z=>z.1<=bs.length) (fun z=>bs.length-z.1) (0,.slice A 1 1,.slice none 0 0,.slice none 0 0) ⟨rfl,rfl,rfl,trivial⟩ slr (Nat.zero_le _) ?_
 rintro⟨i,vm,vb,ve⟩ hi;dsimp only at hi ⊢;have hI:=EQ (nm:=nm) (ky:=ky) hd hb i hi;by_cases hil:i<bs.length
 ·obtain⟨hbg,hbx⟩:=hb.g _ (List.getElem_mem hil);have hbh:=hb.h i hil;have hst:=QK (nm:=nm) (ky:=ky) (d:=aY gen) hil;have hcb:(opC nm ky (aY gen) (bs.take i)).bl.length=i:=by rw[KG,List.length_take];omega
  have hcb2:O5 (opC nm ky (aY gen) (bs.take i)).bl=O5 (bs.take i):=by rw[KG]
  have hsl:=hI.hs;have hml:=hI.ms;have hev:=hI.ev;rw[List.length_take,Nat.min_eq_left om] at hsl hml hev;have hgi:(bs.map K6)[i]'(by rw[llm];exact hil)=K6 bs[i]:=List.getElem_map ..;have hll:i<(bs.map K6).length:=by rw[llm];exact hil
  generalize opC nm ky (aY gen) (bs.take i)=c at *;have hc0:c.bl.length<=1000000:=by omega
  repeat' first|refine Zz ?_|intro _
  rw[hgi];repeat' first|refine Zz ?_|intro _
  rw[dZ (show ¬ bs[i].h≠(i:Int)+1 from nni hbh.1)];repeat' first|refine Zz ?_|intro _
  rw[dZ (show ¬ bs[i].t<O5 c.bl by rw[hcb2];have:=hbh.2;omega)];repeat' first|refine Zz ?_|intro _
  rename_i g17;refine gJ [_] (aN ⟨⟨I,gl⟩,gc,vm,vb,ve,.slice none 0 0⟩ x (dX x) c) [] (Gr (b:=bs[i]) ⟨om,om⟩ om hc0 hI.st hbg.l hbx) (fun u m1 hu=>?_);obtain⟨rfl,v1,v2,v3,rfl⟩:=hu;rw[<- hst];repeat' first|refine Zz ?_|intro _
  exact o6 (i+1,v1,v2,v3) ⟨rfl,rfl,rfl,trivial⟩ (List.sublist_cons_self _ _) hil (by dsimp only;omega)
 ·obtain rfl:i=bs.length:=by omega
  rw[List.take_length];repeat' first|refine Zz ?_|intro _
  refine l9 _ ⟨⟨⟨I,gl⟩,gc,vm,vb,ve,.slice none 0 0⟩,rfl,rfl,rfl,rfl,rfl⟩ slr
end Go.Proofs.YtjhnaegpchadiaaGreatDoor

namespace Go.Proofs.YtjhnaegpchadiaaGreatDoor
open Go Go.RowKit Tw Av Go.Proofs.Tryz
def M0 (i:Bs)(h:Hdr)(m:Hsh):TxX:={ iF with k:=4,i:=i,h:=h,m:=m }
theorem Ej {i:Bs}{h:Hdr}{m:Hsh}:Imp (J6 [.agg 100 [int 4,str i,str [],str [],str [],str [],int 0,V8 h,hA m,.agg 12 [int 0,str [],str [],.agg 7 [str [],.agg 4 [.lit (.int .u64 0),.lit (.int .u64 0),.lit (.int .u64 0),.lit (.int .u64 0)],str [],str []],int 0,int 0],str [],int 0,.agg 3 [int 0,int 0,A7],.agg 9 [int 0,A7,A7,.agg 3 [int 0,int 0,A7],.agg 3 [int 0,int 0,A7]]],j3 true]) (.tup [N7 (M0 i h m),j3 true]):=by
 have e0:O0 wZ=.agg 4 [.lit (.int .u64 0),.lit (.int .u64 0),.lit (.int .u64 0),.lit (.int .u64 0)]:=kr
 have e:N7 (M0 i h m)=.agg 100 [int 4,str i,str [],str [],str [],str [],int 0,V8 h,hA m,.agg 12 [int 0,str [],str [],.agg 7 [str [],O0 wZ,str [],str []],int 0,int 0],str [],int 0,.agg 3 [int 0,int 0,.sl 32 [] none],.agg 9 [int 0,.sl 2 [] none,.sl 2 [] none,.agg 3 [int 0,int 0,.sl 32 [] none],.agg 3 [int 0,int 0,.sl 32 [] none]]]:=rfl;rw[e,e0];show Imp (.tup _) (.tup [.agg 100 [int 4,str i,str [],str [],str [],str [],int 0,V8 h,hA m,.agg 12 [int 0,str [],str [],.agg 7 [str [],.agg 4 [.lit (.int .u64 0),.lit (.int .u64 0),.lit (.int .u64 0),.lit (.int .u64 0)],str [],str []],int 0,int 0],str [],int 0,.agg 3 [int 0,int 0,.sl 32 [] none],.agg 9 [int 0,.sl 2 [] none,.sl 2 [] none,.agg 3 [int 0,int 0,.sl 32 [] none],.agg 3 [int 0,int 0,.sl 32 [] none]]],j3 true]);exact ImpR.imp
def E9 (d:List Ent)(i:Bs):Int:=if M8 d i=true then (dF (P8 d i).l).h else 0
section
variable {g gs:Nat} {vm vh vb ve vt:Value} {c:ChX} {i:Bs}
def vQ (c:ChX):Hdr:=c.hs.getD (c.hs.length-1) ⟨[],0,0,F3⟩
instance b1V:AnsM prog GL 8 g [str i] 108 (A9 gs vm vh ve vt c) (((c.hs.length<=1000000/\c.ky.length<=1000000)/\∀ y∈c.hs,y.h<=9223372036854775807/\y.t<=9223372036854775807)/\1<=c.hs.length) (.tup [N7 (M0 i (vQ c) (J8 c.ky (vQ c))),j3 true]) (A9 gs vm vh ve vt c):=⟨fun hp=>by
 obtain⟨hh,h1⟩:=hp;have q:1<=(c.hs.length:Int)/\(c.hs.length:Int)<=c.hs.length:=by omega
 have e:c.hs.getD ((c.hs.length:Int)-1).toNat ⟨[],0,0,F3⟩=vQ c:=by
  unfold vQ;rw[show ((c.hs.length:Int)-1).toNat=c.hs.length-1 by omega]
 refine qF func8 ntmps8 fun _ hs=>?_;repeat' first|refine Zz ?_|intro _
 rw[if_pos q,e];repeat' first|refine Zz ?_|intro _
 refine Y6 (.tup [N7 (M0 i (vQ c) (J8 c.ky (vQ c))),j3 true]) [.var g 108 (A9 gs vm vh ve vt c)] Ej ⟨rfl,rfl⟩ ?_;repeat (first|exact List.nil_sublist _|exact List.Sublist.refl _|apply List.Sublist.cons_cons|apply List.Sublist.cons)⟩
instance b1W:AnsM prog GL 9 g [str i] 108 (A9 gs vm vh ve vt c) ((c.hs.length<c.ms.length/\c.ms.length<=1000000)/\DOk (o7 c)) (int (E9 (o7 c) i)) (A9 gs vm vh ve vt c):=⟨fun hp=>by
 obtain⟨hl,hd⟩:=hp;refine qF func9 ntmps9 fun _ hs=>?_;repeat' first|refine Zz ?_|intro _
 unfold E9;cases hb:M8 (o7 c) i
 ·repeat' first|refine Zz ?_|intro _
  have hb':¬ iX (P9 (o7 c) (H6 [67] i))=0:=of_decide_eq_false hb;refine sD ?_ (by exact rfl) hb';repeat' first|refine Zz ?_|intro _
  refine l9 [.var g 108 (A9 gs vm vh ve vt c)] ⟨rfl,rfl⟩ ?_;exact x9
 ·repeat' first|refine Zz ?_|intro _
  have hb':iX (P9 (o7 c) (H6 [67] i))=0:=of_decide_eq_true hb;refine vE (p:=¬ iX (P9 (o7 c) (H6 [67] i))=0) ?_ (by exact rfl) (fun h=>h hb');repeat' first|refine Zz ?_|intro _
  refine l9 [.var g 108 (A9 gs vm vh ve vt c)] ⟨rfl,rfl⟩ ?_;repeat (first|exact List.nil_sublist _|exact List.Sublist.refl _|apply List.Sublist.cons_cons|apply List.Sublist.cons)⟩
def sN (c:ChX):Hdr:=⟨c.nm,c.bl.length,O5 c.bl,uJ (o7 c)⟩
instance b1X:AnsM prog GL 23 g [str i] 150 (uN gs vm vb ve vt c) (((c.ms.length=c.hs.length+1/\c.ms.length<=1000000)/\DOk (o7 c))/\((1<=c.bl.length/\c.bl.length<=1000000)/\c.ky.length<=1000000/\O5 c.bl<=9223372036854775807)) (.tup [N7 (M0 i (sN c) (J8 c.ky (sN c))),j3 true]) (uN gs vm vb ve vt c):=⟨fun hp=>by
 obtain⟨⟨hms,hd⟩,⟨hb1,hb2⟩,hky,htm⟩:=hp;have hm2:(c.bl.map pK).length=c.bl.length:=llm _;have hdl:(o7 c).length<=1000000:=Nat.le_trans hd.l dc;have hsp:c.ky.length<=1000000/\(c.bl.length:Int)<=9223372036854775807/\O5 c.bl<=9223372036854775807:=⟨hky,om,htm⟩;refine qF func23 ntmps23 fun _ hs=>?_;repeat' first|refine Zz ?_|intro _
 rw[hm2];refine Y6 (.tup [N7 (M0 i (sN c) (J8 c.ky (sN c))),j3 true]) [.var g 150 (uN gs vm vb ve vt c)] Ej ⟨rfl,rfl⟩ ?_;repeat (first|exact List.nil_sublist _|exact List.Sublist.refl _|apply List.Sublist.cons_cons|apply List.Sublist.cons)⟩
end

abbrev K5:AV:=.lit (.pointer none)
instance b1h:Ans prog GL 12 [K5] True (int 0):=⟨fun _=>by
 refine qF func12 ntmps12 fun _ hs=>?_;repeat' first|refine Zz ?_|intro _
 exact d9 rfl⟩
instance b1j:Ans prog GL 92 [K5] True (A7):=⟨fun _=>by
 refine qF func92 ntmps92 fun _ hs=>?_;repeat' first|refine Zz ?_|intro _
 exact d9 rfl⟩
instance b1m {h:Int}:Ans prog GL 34 [K5,int h] True (.tup [.agg 1 [A7],j3 false]):=⟨fun _=>by
 refine qF func34 ntmps34 fun _ hs=>?_;repeat' first|refine Zz ?_|intro _
 exact d9 rfl⟩
instance b1e:Ans prog GL 11 [K5] True (.agg 1 [A7]):=⟨fun _=>by
 refine qF func11 ntmps11 fun _ hs=>?_;repeat' first|refine Zz ?_|intro _
 exact d9 rfl⟩
instance b1i {h:Int}:Ans prog GL 29 [K5,int h] True (.tup [.agg 35 [str [],int 0,int 0,hA F3],hA F3,j3 false]):=⟨fun _=>by
 refine qF func29 ntmps29 fun _ hs=>?_;by_cases h0:1<=h
 ·repeat' first|refine Zz ?_|intro _
  exact d9 rfl
 ·repeat' first|refine Zz ?_|intro _
  exact d9 rfl⟩
end Go.Proofs.YtjhnaegpchadiaaGreatDoor
