/- dict: Put, Get, Drop, Of .. -/
import Derived.Test.YtndhpgclmgpmoaaGreatDoorA20
import Derived.Test.YtndhpgclmgpmoaaGreatDoorA31
namespace Go.Proofs.YtndhpgclmgpmoaaGreatDoor
open Go Go.RowKit Tw Av
theorem flush_fit {x:DvX}{s:SlX}{r:Bs}(h:LogOk x s){y:DvX}(hn:MpN y.es)(he:y.es=x.es)(hw:y.ws=ckF (endS s.l++recB r).length (2 + s.m.b / 64) (endS s.l++recB r))(hy:DvOk y):DFits (dvSafe (dvFl y)) (s.l++recB r) s.m:=by
 have hb:=h.b
 have hsf:∀ a,dvSafe (dvFl y) a=if 2 + s.m.b / 64<=a/\64 * (a - (2 + s.m.b / 64)) < (endS s.l++recB r).length then pad64 ((endS s.l++recB r).drop (64 * (a - (2 + s.m.b / 64)).toNat)) else dvSafe x a:=by
  intro a
  rw [dvFl_safe hn a]
  unfold dvRd
  rw [hw,ckF_lk a (Nat.le_refl _),dvSafe_es he]
  split <;> rfl
 have hlow:∀ a,a < 2->dvSafe (dvFl y) a=dvSafe x a:=by
  intro a ha
  rw [hsf,if_neg (by omega)]
 have hmr:=h.fit.mr
 refine⟨dvSafe_len (dvFl_ok hy),?_,hmr.e,hmr.b,?_,?_⟩
 ·intro j hj
  rw [hsf]
  have hel:(endS s.l).length=s.l.length % 64:=by
   unfold endS
   rw [List.length_drop]
   omega
  have hal:(endS s.l++recB r).length=s.l.length % 64 + (recB r).length:=by rw [lla,hel]
  rw [lla] at hj ⊢
  by_cases h1:s.l.length / 64<=j
  ·obtain⟨i,rfl⟩:∃ i,j=s.l.length / 64 + i:=⟨j - s.l.length / 64,by omega⟩
   rw [if_pos (by omega)]
   have e1:(2 + ((s.l.length / 64 + i:Nat):Int) - (2 + s.m.b / 64)).toNat=i:=by omega
   rw [e1]
   have:=chunk_new (l:=s.l) (r:=recB r) (j:=i)
   rw [lla] at this
   exact this
  ·rw [if_neg (by omega)]
   have h2:=h.fit.lg j (by omega)
   rw [List.take_of_length_le (by rw [h.fit.len];omega)] at h2 ⊢
   rw [h2,List.drop_append_of_le_length (by omega),List.take_append_of_le_length (by rw [List.length_drop];omega)]
 ·rw [hlow _ (by omega)]
  exact hmr.at_
 ·rw [hlow _ (by omega)]
  exact hmr.oth
inductive CmS (x:DvX)(s:SlX)(r:Bs):DvX × SlX × Int->Prop where
 | no (e:Int) (he:e=11/\1048576 < r.length\/e=15/\roomD x.n - s.m.b < (recB r).length):CmS x s r (x,s,e)
 | lost (y:DvX) (hy:y.n=x.n) (ha:x.ar=true) (h:Old y s (nxS s r)):CmS x s r (y,{ s with br:=true },14)
 | yes (y:DvX) (hy:y.n=x.n) (ha:y.ar=x.ar) (hr:r.length<=1048576) (h:LogOk y (nxS s r)\/(190<=(cmM s r).e\/1000 < (cmM s r).c)) (hf:DFits (dvSafe y) (s.l++recB r) (cmM s r)/\DvOk y/\y.on=true/\y.ws=[]/\s.m.b + (recB r).length<=roomD x.n):CmS x s r (y,nxS s r,0)
theorem cmD_spec {x:DvX}{s:SlX}{r:Bs}(h:LogOk x s):CmS x s r (cmD x s r):=by
 unfold cmD
 rw [if_neg (by rw [h.br];decide)]
 by_cases h1:1048576 < r.length
 ·rw [if_pos h1]
  exact .no 11 (.inl ⟨rfl,h1⟩)
 rw [if_neg h1]
 by_cases h2:roomD x.n - s.m.b < (recB r).length
 ·rw [if_pos h2]
  exact .no 15 (.inr ⟨rfl,h2⟩)
 rw [if_neg h2]
 have hr:((recB r).length:Int)<=roomD x.n - s.m.b:=by omega
 have hb:=h.b
 have hn:=h.n
 have hrd:roomD x.n=(x.n - 2) * 64:=rfl
 have hel:=endS_len2 s.l
 have hal:(endS s.l++recB r).length=(endS s.l).length + (recB r).length:=lla
 have hle:(endS s.l).length=s.l.length % 64:=by
  unfold endS
  rw [List.length_drop]
  omega
 have hE0:=h.fit.mr.e
 have hB:=nx_mk h hr
 have hE:(cmM s r).e=s.m.e + 1:=rfl
 have k1:DvOk (cm1 x s r).1:=ptD_ok h.dv
 have k2:DvOk (cm2 x s r).1:=dvFlush_ok k1
 have k3:DvOk (cm3 x s r).1:=dvWr_ok k2
 have k4:DvOk (cm4 x s r).1:=dvFlush_ok k3
 rcases ptF_spec (f:=(endS s.l++recB r).length) (x:=x) (a:=2 + s.m.b / 64) (s:=endS s.l++recB r) (Nat.le_refl _) h.on (by omega) (by omega) with⟨y,hp,hon,hes,hyn,har,hws⟩|⟨y,p,hp,har,hon,hes,hyn,hws,hmem⟩
 rotate_left
 ·have e1:cm1 x s r=(y,14):=hp
  rw [e1] at k1
  rw [e1,if_pos (show ((14:Int))≠0 by decide)]
  rw [h.ws,List.nil_append] at hws
  exact .lost y hyn har (old_log h k1 hes (fun w hw=>hmem w (hws ▸ hw)))
 have e1:cm1 x s r=(y,0):=hp
 rw [h.ws,List.nil_append] at hws
 rw [e1] at k1
 rw [e1,if_neg (show ¬ (((0:Int))≠0) by decide)]
 have e2:cm2 x s r=dvFlush y:=by unfold cm2;rw [e1]
 have hfl:dvFlush y=if dvMay y=false then (dvOff y,14) else (dvFl (dvStep y),0):=by
  unfold dvFlush
  rw [if_neg (by rw [hon];decide)]
 cases hm:dvMay y with
 | false=>
  rw [hm,if_pos rfl] at hfl
  rw [e2,hfl,if_pos (show ((14:Int))≠0 by decide)]
  exact .lost _ hyn (by rw [<- har];exact dvMay_ar hm) (old_log h (dvOff_ok k1) hes (fun w hw=>hws ▸ hw))
 | true=>
  rw [hm,if_neg (by decide)] at hfl
  have k1':=dvStep_ok k1 hm
  have hz:DFits (dvSafe (dvFl (dvStep y))) (s.l++recB r) s.m:=flush_fit h k1'.mn hes hws k1'
  rw [e2,hfl] at k2
  rw [e2,hfl,if_neg (show ¬ (((0:Int))≠0) by decide)]
  generalize hZ:dvFl (dvStep y)=z at *
  have hzn:z.n=x.n:=by rw [<- hZ];exact (foldKeep_f (ws:=(dvStep y).ws) (x:=dvStep y)).1.trans hyn
  have hzo:z.on=true:=by rw [<- hZ];exact (foldKeep_f (ws:=(dvStep y).ws) (x:=dvStep y)).2.1.trans hon
  have hza:z.ar=x.ar:=by rw [<- hZ];exact (foldKeep_f (ws:=(dvStep y).ws) (x:=dvStep y)).2.2.1.trans har
  have hzw:z.ws=[]:=by rw [<- hZ];rfl
  have e3:cm3 x s r=dvWr z ((cmM s r).e % 2) (pkM (cmM s r)):=by unfold cm3;rw [e2,hfl]
  have hwr:=dvWr_in (x:=z) (a:=(cmM s r).e % 2) (s:=pkM (cmM s r)) hzo ⟨by omega,by omega⟩ (pkM_len _)
  cases hm2:dvMay z with
  | false=>
   rw [hm2,if_pos rfl] at hwr
   rw [e3,hwr] at k3
   rw [e3,hwr,if_pos (show ((14:Int))≠0 by decide)]
   refine .lost _ hzn (by rw [<- hza];exact dvMay_ar hm2) (old_mark h hr hz k3 rfl ?_)
   intro w hw
   have hw':w ∈ z.ws++[((cmM s r).e % 2,pkM (cmM s r))]:=hw
   rw [hzw] at hw'
   simpa using hw'
  | true=>
   rw [hm2,if_neg (by decide)] at hwr
   rw [e3,hwr] at k3
   rw [e3,hwr,if_neg (show ¬ (((0:Int))≠0) by decide)]
   generalize hU:dvPut (dvStep z) ((cmM s r).e % 2,pkM (cmM s r))=u at *
   have hun:u.n=x.n:=by rw [<- hU];exact hzn
   have huo:u.on=true:=by rw [<- hU];exact hzo
   have hua:u.ar=x.ar:=by rw [<- hU];exact hza
   have huw:u.ws=[((cmM s r).e % 2,pkM (cmM s r))]:=by rw [<- hU];show z.ws++_=_;rw [hzw];rfl
   have hus:dvSafe u=dvSafe z:=by rw [<- hU];rfl
   have e4:cm4 x s r=dvFlush u:=by unfold cm4;rw [e3,hwr]
   have hfl2:dvFlush u=if dvMay u=false then (dvOff u,14) else (dvFl (dvStep u),0):=by
    unfold dvFlush
    rw [if_neg (by rw [huo];decide)]
   cases hm3:dvMay u with
   | false=>
    rw [hm3,if_pos rfl] at hfl2
    rw [e4,hfl2] at k4
    rw [e4,hfl2,if_pos (show ((14:Int))≠0 by decide)]
    refine .lost _ hun (by rw [<- hua];exact dvMay_ar hm3) (old_mark h hr hz k4 hus ?_)
    intro w hw
    have hw':w ∈ u.ws:=hw
    rw [huw] at hw'
    simpa using hw'
   | true=>
    rw [hm3,if_neg (by decide)] at hfl2
    have k3':=dvStep_ok k3 hm3
    rw [e4,hfl2] at k4
    rw [e4,hfl2,if_neg (show ¬ (((0:Int))≠0) by decide)]
    have hsf:dvSafe (dvFl (dvStep u))=upF (dvSafe z) ((cmM s r).e % 2) (pkM (cmM s r)):=by
     funext b
     rw [dvFl_safe k3'.mn b]
     unfold dvRd
     have hw:(dvStep u).ws=[((cmM s r).e % 2,pkM (cmM s r))]:=huw
     have hss:dvSafe (dvStep u)=dvSafe z:=hus
     rw [hw,hss,wsL_cons]
     unfold upF
     by_cases hbe:b=(cmM s r).e % 2
     ·rw [if_pos hbe,hbe]
      simp [wsL]
     ·rw [if_neg hbe]
      have:¬ (cmM s r).e % 2=b:=fun e=>hbe e.symm
      simp [wsL,this]
    have hmk:MkI (upF (dvSafe z) ((cmM s r).e % 2) (pkM (cmM s r))) (cmM s r):=by
     have:=h.e
     refine⟨by omega,hB,by unfold upF;rw [if_pos rfl],s.m.e.toNat,?_,by omega,.inl (by omega)⟩
     unfold upF
     rw [if_neg (by omega),show ((cmM s r).e + 1) % 2=s.m.e % 2 by omega,hz.mr.at_]
     exact (pkM_parts s.m).2.2.2
    have hfit:DFits (dvSafe (dvFl (dvStep u))) (s.l++recB r) (cmM s r):=⟨dvSafe_len k4,by rw [hsf];exact upF_lg (by omega) hz.lg,by rw [hsf];exact hmk⟩
    have hyn4:(dvFl (dvStep u)).n=x.n:=(foldKeep_f (ws:=(dvStep u).ws) (x:=dvStep u)).1.trans hun
    have hon4:(dvFl (dvStep u)).on=true:=(foldKeep_f (ws:=(dvStep u).ws) (x:=dvStep u)).2.1.trans huo
    have har4:(dvFl (dvStep u)).ar=x.ar:=(foldKeep_f (ws:=(dvStep u).ws) (x:=dvStep u)).2.2.1.trans hua
    refine .yes _ hyn4 har4 (by omega) ?_ ⟨hfit,k4,hon4,rfl,by omega⟩
    by_cases hbig:190<=(cmM s r).e\/1000 < (cmM s r).c
    ·exact .inr hbig
    ·have hbn:(cmM s r).b=s.m.b + (recB r).length:=rfl
     refine .inl ⟨k4,hon4,rfl,hfit,?_,?_,?_,rfl,?_,?_⟩
     ·show s.m.b + ((recB r).length:Int)=((s.l++recB r).length:Int)
      rw [lla]
      omega
     ·show s.m.b + ((recB r).length:Int)<=roomD (dvFl (dvStep u)).n
      rw [hyn4]
      omega
     ·rw [hyn4]
      exact hn
     ·show (cmM s r).e < 190
      omega
     ·show 0<=(cmM s r).c/\(cmM s r).c<=1000
      have:=hB.c
      omega

theorem cloneE_spec {xs:List AV}{id:Option Value}(hx:xs.length<=1073741824):Av.Spec Tryz.prog GL 88 [.sl 2 xs id] [] (OwnK 109 2 xs):=by
 refine qE Tryz.func88 rfl Tryz.ntmps88 rfl (fun _ hs=>?_)
 repeat' first|refine Wz ?_|intro _
 refine al_slN (fun q c hq hc=>?_)
 repeat' first|refine Wz ?_|intro _
 injection hc with hc
 subst hc
 refine ac_condB (fun h=>?_) (fun h=>?_)
 ·repeat' first|refine Wz ?_|intro _
  exact reK [] (.inl ⟨hq h,rfl,rfl⟩) (List.nil_sublist _)
 ·repeat' first|refine Wz ?_|intro _
  refine al_build0B (fun g=>?_)
  repeat' first|refine Wz ?_|intro _
  refine al_appendB (fun g' c' hc'=>?_)
  repeat' first|refine Wz ?_|intro _
  refine reK [.buf g' 109 2 ([]++xs) c'] (.inr ⟨g',c',?_,rfl,?_⟩) slr
  ·simp [outOf]
  ·simpa using hc'
theorem insL {α:Type}(xs:List α)(i:Nat)(x:α)(h:i<=xs.length):over (over xs (i + 1) ((xs.drop i).take (xs.length - i))) i [x]=xs.take i++x::xs.drop i:=by
 obtain⟨a,b,rfl,rfl⟩:∃ a b,xs=a++b/\a.length=i:=⟨xs.take i,xs.drop i,(List.take_append_drop _ _).symm,by simp;omega⟩
 rw [List.drop_left,List.take_left,show (a++b).length - a.length=b.length by simp,List.take_length]
 cases b with
 | nil=>simp [over]
 | cons y b=>
  have e1:over (a++y::b) (a.length + 1) (y::b)=a++y::y::b:=by
   unfold over
   rw [List.drop_of_length_le (by simp),show a++y::b=(a++[y])++b by simp,show a.length + 1=(a++[y]).length by simp,List.take_left]
   simp
  rw [e1]
  unfold over
  rw [List.take_left,show a++y::y::b=(a++[y])++(y::b) by simp,show a.length + [x].length=(a++[y]).length by simp,List.drop_left]
  simp
theorem insZ {α:Type}(xs:List α)(i q:Nat)(x z:α)(h:i<=xs.length)(hq:i + q=xs.length + 1):over (over (xs.take i++List.replicate q z) i [x]) (i + 1) ((xs.drop i).take (q - 1))=xs.take i++x::xs.drop i:=by
 obtain⟨a,b,rfl,rfl⟩:∃ a b,xs=a++b/\a.length=i:=⟨xs.take i,xs.drop i,(List.take_append_drop _ _).symm,by simp;omega⟩
 simp only [List.length_append] at hq
 obtain rfl:q=b.length + 1:=by omega
 rw [List.drop_left,List.take_left,show b.length + 1 - 1=b.length by omega,List.take_length]
 have e1:over (a++List.replicate (b.length + 1) z) a.length [x]=a++x::List.replicate b.length z:=by
  unfold over
  rw [List.take_left,List.replicate_succ,show a++z::List.replicate b.length z=(a++[z])++List.replicate b.length z by simp,show a.length + [x].length=(a++[z]).length by simp,List.drop_left]
  simp
 rw [e1]
 unfold over
 rw [show a++x::List.replicate b.length z=(a++[x])++List.replicate b.length z by simp,show a.length + 1=(a++[x]).length by simp,List.take_left,List.drop_of_length_le (by simp;omega)]
 simp
theorem one_take {α:Type}(x:α)(p:Nat)(h:1<=p):([x].drop 0).take p=[x]:=List.take_of_length_le (by simpa using h)
theorem insL' {α:Type}{xs:List α}{i:Nat}{x:α}{p q:Nat}(h:i<=xs.length)(hp:p=xs.length - i)(hq:1<=q):over (over xs (i + 1) ((xs.drop i).take p)) i (([x].drop 0).take q)=xs.take i++x::xs.drop i:=by
 rw [one_take x q hq,hp]
 exact insL xs i x h
theorem insZ' {α:Type}{xs:List α}{i q:Nat}{x z:α}{p r:Nat}(h:i<=xs.length)(hq:i + q=xs.length + 1)(hp:p=q - 1)(hr:1<=r):over (over (xs.take i++List.replicate q z) i (([x].drop 0).take r)) (i + 1) ((xs.drop i).take p)=xs.take i++x::xs.drop i:=by
 rw [one_take x r hr,hp]
 exact insZ xs i q x z h hq
theorem insertE_nil {gv:Nat}{x:AV}:Av.Spec Tryz.prog GL 89 [nils,int 0,.lit (.slice (some ⟨gv,0,none⟩) 1 1)] [.buf gv 109 2 [x] 1] (OwnK 109 2 [x]):=by
 refine qE Tryz.func89 rfl Tryz.ntmps89 rfl (fun _ hs=>?_)
 repeat' first|refine Wz ?_|intro _
 refine al_sliceL 0 0 ?_
 repeat' first|refine Wz ?_|intro _
 refine al_freeze 24 ?_
 refine al_appendN (fun g' c' hc'=>?_)
 repeat' first|refine Wz ?_|intro _
 exact reK [.buf g' 109 2 [x] c'] (.inr ⟨g',c',rfl,rfl,hc'⟩) (by simp)
theorem insertE_spec {g gv n c i:Nat}{xs:List AV}{x:AV}(hn:xs.length=n)(hc:n<=c)(hi:i<=n)(hb:n<=1073741824):Av.Spec Tryz.prog GL 89 [.lit (.slice (some ⟨g,0,none⟩) n c),int i,.lit (.slice (some ⟨gv,0,none⟩) 1 1)] [.buf g 109 2 xs c,.buf gv 109 2 [x] 1] (OwnK 109 2 (xs.take i++x::xs.drop i)):=by
 subst hn
 refine qE Tryz.func89 rfl Tryz.ntmps89 rfl (fun _ hs=>?_)
 repeat' first|refine Wz ?_|intro _
 refine al_sliceL i xs.length ?_
 repeat' first|refine Wz ?_|intro _
 refine ac_cond (fun hin=>?_) (fun hin=>?_)
 ·repeat' first|refine Wz ?_|intro _
  refine al_freeze 24 ?_
  refine al_appendB (fun g' c' hc'=>?_)
  repeat' first|refine Wz ?_|intro _
  have hin':i=xs.length:=by omega
  subst hin'
  refine reK [.buf g' 109 2 (xs++[x]) c'] (.inr ⟨g',c',?_,?_,?_⟩) (by simp)
  ·simp [outOf]
  ·simp
  ·simpa using hc'
 ·repeat' first|refine Wz ?_|intro _
  have hl:(xs.take i++x::xs.drop i).length=xs.length + 1:=by simp;omega
  refine ac_cond (fun hcap=>?_) (fun hcap=>?_)
  ·obtain⟨q,hq⟩:∃ q,i + q=xs.length + 1:=⟨xs.length + 1 - i,by omega⟩
   repeat' first|refine Wz ?_|intro _
   refine al_sliceP 0 i ?_
   repeat' first|refine Wz ?_|intro _
   refine al_appendZ (i:=i) q (fun g' c' hc'=>?_)
   repeat' first|refine Wz ?_|intro _
   refine al_sliceP i (i + q) ?_
   repeat' first|refine Wz ?_|intro _
   refine al_copyB (j:=i) (j2:=0) ?_
   repeat' first|refine Wz ?_|intro _
   apply obl_read [];exact rfl;exact rfl;kernel_rfl;intro _ _
   refine al_sliceP (i + 1) (i + q) ?_
   exact al_nil (ae_got rfl rfl)
   repeat' first|refine Wz ?_|intro _
   apply obl_read [];exact rfl;exact rfl;kernel_rfl;intro _ _
   refine al_sliceP i xs.length ?_
   exact al_nil (ae_got rfl rfl)
   apply obl_write [0,1];exact rfl;exact rfl;kernel_rfl;intro _ _
   refine al_copyB (j:=i + 1) (j2:=i) ?_
   exact al_nil (ae_got rfl rfl)
   exact rfl
   exact rfl
   repeat' first|refine Wz ?_|intro _
   rw [insZ' (by omega) hq (by omega) (by omega)]
   refine reK [.buf g' 109 2 _ c'] (.inr ⟨g',c',?_,rfl,?_⟩) (List.singleton_sublist.2 List.mem_cons_self)
   ·rw [hl,<- hq]
    rfl
   ·omega
  ·repeat' first|refine Wz ?_|intro _
   refine al_sliceP 0 (xs.length + 1) ?_
   repeat' first|refine Wz ?_|intro _
   refine al_sliceP (i + 1) (xs.length + 1) ?_
   apply al_ext (v:=boo false) Tryz.func127;kernel_rfl;exact rfl;kernel_rfl;kernel_rfl;exact rfl;exact rfl;exact rfl
   ·intro ok w cs hS hv
    exact⟨_,overlaps_run (b:=32) (tS:=31) 4 hS (fun h=>buf_ne (pre:=[]) (mid:=[]) hS h.symm) (List.mem_cons_of_mem _ List.mem_cons_self) List.mem_cons_self (by omega) hv,RVl rfl⟩
   repeat' first|refine Wz ?_|intro _
   apply obl_read [];exact rfl;exact rfl;kernel_rfl;intro _ _
   refine al_sliceP (i + 1) (xs.length + 1) ?_
   exact al_nil (ae_got rfl rfl)
   repeat' first|refine Wz ?_|intro _
   apply obl_read [];exact rfl;exact rfl;kernel_rfl;intro _ _
   refine al_sliceP i (xs.length + 1) ?_
   exact al_nil (ae_got rfl rfl)
   apply obl_write [0];exact rfl;exact rfl;kernel_rfl;intro _ _
   refine al_copyB (j:=i + 1) (j2:=i) ?_
   exact al_nil (ae_got rfl rfl)
   exact rfl
   exact rfl
   repeat' first|refine Wz ?_|intro _
   refine al_sliceP i (xs.length + 1) ?_
   repeat' first|refine Wz ?_|intro _
   refine al_copyB (j:=i) (j2:=0) ?_
   repeat' first|refine Wz ?_|intro _
   rw [insL' (by omega) (by omega) (by omega)]
   refine reK [.buf g 109 2 _ c] (.inr ⟨g,c,?_,rfl,?_⟩) (by simp)
   ·rw [hl]
    rfl
   ·omega

theorem delL {α:Type}{xs:List α}{i n j:Nat}{w z:List α}(hn:xs.length=n + 1)(hi:i<=n)(hj:j=n)(hw:w=xs.drop (i + 1))(_:z.length=1):(over (over xs i w) j z).take n=xs.take i++xs.drop (i + 1):=by
 subst hj hw
 obtain⟨a,b,rfl,rfl⟩:∃ a b,xs=a++b/\a.length=i:=⟨xs.take i,xs.drop i,(List.take_append_drop _ _).symm,by simp;omega⟩
 cases b with
 | nil=>simp at hn;omega
 | cons y b=>
  simp only [List.length_append,List.length_cons] at hn
  have e0:(a++y::b).drop (a.length + 1)=b:=by
   rw [show a++y::b=(a++[y])++b by simp,show a.length + 1=(a++[y]).length by simp,List.drop_left]
  rw [e0,List.take_left]
  have e1:((over (a++y::b) a.length b)).take j=a++b:=by
   unfold over
   rw [List.take_left,List.take_left' (by simp;omega)]
  have e2:over (over (a++y::b) a.length b) j z=(a++b)++z++(over (a++y::b) a.length b).drop (j + z.length):=by
   rw [<- e1]
   rfl
  rw [e2,List.append_assoc,List.take_left' (by simp;omega)]
theorem deleteE_spec {g n c i:Nat}{xs:List AV}(hn:xs.length=n + 1)(hc:n + 1<=c)(hi:i<=n)(hb:n<=1073741824):Av.Spec Tryz.prog GL 394 [.lit (.slice (some ⟨g,0,none⟩) (n + 1) c),int i,int (i + 1:Nat)] [.buf g 109 2 xs c] (OwnK 109 2 (xs.take i++xs.drop (i + 1))):=by
 have hl:(xs.take i++xs.drop (i + 1)).length=n:=by simp;omega
 have hend:∀ {xs':List AV},xs'=xs.take i++xs.drop (i + 1)->OwnK 109 2 (xs.take i++xs.drop (i + 1)) (.lit (.slice (some ⟨g,0,none⟩) n c)) [.buf g 109 2 xs' c]:=fun h=>.inr ⟨g,c,by rw [hl],by rw [h],by omega⟩
 refine qE Tryz.func394 rfl Tryz.ntmps394 rfl (fun _ hs=>?_)
 repeat' first|refine Wz ?_|intro _
 refine al_sliceL3 i (i + 1) (n + 1) ?_
 repeat' first|refine Wz ?_|intro _
 refine ac_cond (fun h=>?_) (fun _=>?_)
 ·omega
 repeat' first|refine Wz ?_|intro _
 apply obl_read [];exact rfl;exact rfl;kernel_rfl;intro _ _
 refine al_sliceP 0 i ?_
 exact al_nil (ae_got rfl rfl)
 repeat' first|refine Wz ?_|intro _
 by_cases hcc:c=i + 1
 ·have hin:i=n:=by omega
  subst hin hcc
  apply obl_read [];exact rfl;exact rfl;kernel_rfl;intro _ _
  refine al_sliceL (i + 1) (i + 1) ?_
  rw [if_pos rfl]
  exact al_nil (ae_got rfl rfl)
  apply obl_write [0];exact rfl;exact rfl;kernel_rfl;intro _ _
  refine al_appendO (i:=i) (c:=i + 1) (j2:=0) ?_
  exact al_nil (ae_got rfl rfl)
  exact rfl
  exact rfl
  repeat' first|refine Wz ?_|intro _
  refine al_sliceP i (i + 1) ?_
  refine al_clear (j:=i) ?_
  refine al_trim i ?_
  repeat' first|refine Wz ?_|intro _
  refine reK [.buf g 109 2 _ (i + 1)] ?_ slr
  simp only [outOf]
  rw [show i + (i + 1 - (i + 1))=i by omega]
  exact hend (delL hn hi rfl (by rw [show i + 1 - (i + 1)=0 by omega,List.drop_of_length_le (i:=i + 1) (by omega),List.take_zero]) (by simp))
 ·apply obl_read [];exact rfl;exact rfl;kernel_rfl;intro _ _
  refine al_sliceP (i + 1) (n + 1) ?_
  exact al_nil (ae_got rfl rfl)
  apply obl_write [0];exact rfl;exact rfl;kernel_rfl;intro _ _
  refine al_appendO (i:=i) (c:=c) (j2:=i + 1) ?_
  exact al_nil (ae_got rfl rfl)
  exact rfl
  exact rfl
  repeat' first|refine Wz ?_|intro _
  refine al_sliceP n (n + 1) ?_
  refine al_clear (j:=n) ?_
  refine al_trim n ?_
  repeat' first|refine Wz ?_|intro _
  refine reK [.buf g 109 2 _ c] ?_ slr
  simp only [outOf]
  rw [show i + (n + 1 - (i + 1))=n by omega]
  exact hend (delL hn hi rfl (List.take_of_length_le (by simp;omega)) (by simp))
theorem deleteE' {g c i:Nat}{xs:List AV}(hi:i < xs.length)(hc:xs.length<=c)(hb:xs.length<=1073741824):Av.Spec Tryz.prog GL 394 [.lit (.slice (some ⟨g,0,none⟩) xs.length c),int i,int (i + 1:Int)] [.buf g 109 2 xs c] (OwnK 109 2 (xs.take i++xs.drop (i + 1))):=by
 obtain⟨n,hn⟩:∃ n,xs.length=n + 1:=⟨xs.length - 1,by omega⟩
 rw [hn] at hc hi hb ⊢
 exact deleteE_spec hn hc (by omega) (by omega)

def scmp (a b:Bs):Int:=Extern.BytealgCompare.cmp ⟨a.toArray⟩ ⟨b.toArray⟩
theorem run_scmp (a b:Bs)(w:World):(Extern.BytealgCompare.compare #[sv a,sv b]).run Tryz.prog w=.ok (.int .i64 (scmp a b)) w:=by
 rfl
instance fnCmpS {a b:Bs}:Ans Tryz.prog GL 188 [str a,str b] True (int (scmp a b)):=⟨fun _=>by
 refine qE Tryz.func188 rfl Tryz.ntmps188 rfl (fun _ hs=>?_)
 repeat' first|refine Wz ?_|intro _
 apply al_ext (v:=int (scmp a b)) Tryz.func245;kernel_rfl;exact rfl;kernel_rfl;kernel_rfl;exact rfl;exact rfl;exact rfl
 ·rintro ok w cs _ ⟨u1,us,rfl,h1,u2,us2,rfl,h2,rfl⟩
  rw [RV0.lit h1,RV0.lit h2]
  exact⟨_,run_scmp a b _,RVl rfl⟩
 repeat' first|refine Wz ?_|intro _
 refine reE ?_
 rfl⟩
instance fnCompare {a b:Bs}:Ans Tryz.prog GL 126 [str a,str b] True (int (scmp a b)):=⟨fun _=>by
 refine qE Tryz.func126 rfl Tryz.ntmps126 rfl (fun _ hs=>?_)
 repeat' first|refine Wz ?_|intro _
 refine reE ?_
 rfl⟩
instance fnFindC {x y k:Bs}:Ans Tryz.prog GL 125 [.agg 2 [str x,str y],str k] True (int (scmp x k)):=⟨fun _=>by
 refine qE Tryz.func125 rfl Tryz.ntmps125 rfl (fun _ hs=>?_)
 repeat' first|refine Wz ?_|intro _
 refine reE ?_
 rfl⟩
def bsF (l:List Ent)(k:Bs):Nat->Nat->Nat->Nat
 | 0,i,_=>i
 | f + 1,i,j=>if i < j then
   (let h:=(i + j) / 2
   if scmp ((l.getD h ⟨[],[]⟩).key) k < 0 then bsF l k f (h + 1) j else bsF l k f i h)
  else i
def bsAt (l:List Ent)(k:Bs):Nat:=bsF l k l.length 0 l.length
def bsIs (l:List Ent)(k:Bs):Bool:=decide (bsAt l k < l.length) && decide (scmp ((l.getD (bsAt l k) ⟨[],[]⟩).key) k=0)
instance fnBs {l:List Ent}{k:Bs}{xs:List AV}{id:Option Value}[hx:Ents xs l]:Ans Tryz.prog GL 124 [.sl 2 xs id,str k,fnv 125 []] (l.length < 4611686018427387904) (.tup [int (bsAt l k),boo (bsIs l k)]):=⟨fun hmx=>by
 have h:=hx.out
 subst h
 refine qE Tryz.func124 rfl Tryz.ntmps124 rfl (fun _ hs=>?_)
 repeat' first|refine Wz ?_|intro _
 refine ac_loop (α:=Nat × Nat × Nat) (fun q=>[(0,.sl 2 (l.map entA) id),(1,str k),(2,fnv 125 []),(8,int (l.map entA).length),(9,int q.1),(10,int q.2.1)]) (fun _=>[])
  (fun q=>q.1<=q.2.1/\q.2.1<=l.length/\q.2.1 - q.1<=q.2.2/\bsF l k q.2.2 q.1 q.2.1=bsAt l k) (fun q=>q.2.2) (0,(l.map entA).length,l.length) ⟨rfl,rfl,rfl,rfl,rfl,rfl,trivial⟩ slr ⟨Nat.zero_le _,by simp,by simp,by simp [bsAt]⟩ ?_
 rintro⟨i,j,f⟩ ⟨g1,g2,g3,g4⟩
 dsimp only at g1 g2 g3 g4 ⊢
 repeat' first|refine Wz ?_|intro _
 refine ac_cond (fun hlt=>?_) (fun hlt=>?_)
 ·repeat' first|refine Wz ?_|intro _
  have hw:IntKind.i64.wrap (((i:Int) + (j:Int)) / ((2 ^ 1:Nat):Int))=(((i + j) / 2:Nat):Int):=by rw [IntKind.wrap_i64];omega
  rw [hw]
  obtain⟨f,rfl⟩:∃ f',f=f' + 1:=⟨f - 1,by omega⟩
  rw [bsF,if_pos (by omega)] at g4
  generalize hh:(i + j) / 2=h at *
  have hlt':h < l.length:=by omega
  have hgd:l.getD h ⟨[],[]⟩=l[h]:=by simp [List.getD,hlt']
  simp only [hgd] at g4
  refine al_idxM h hlt' ?_
  repeat' first|refine Wz ?_|intro _
  refine ac_cond (fun hc=>?_) (fun hc=>?_)
  ·rw [if_pos hc] at g4
   repeat' first|refine Wz ?_|intro _
   refine ae_round (h + 1,j,f) ⟨rfl,rfl,rfl,rfl,rfl,rfl,trivial⟩ slr ⟨by simp only;omega,g2,by simp only;omega,g4⟩ (by simp only;omega)
  ·rw [if_neg hc] at g4
   repeat' first|refine Wz ?_|intro _
   refine ae_round (i,h,f) ⟨rfl,rfl,rfl,rfl,rfl,rfl,trivial⟩ slr ⟨by simp only;omega,by simp only;omega,by simp only;omega,g4⟩ (by simp only;omega)
 ·have g5:bsAt l k=i:=by
   rw [<- g4]
   cases f with
   | zero=>rfl
   | succ f=>rw [bsF,if_neg (by omega)]
  repeat' first|refine Wz ?_|intro _
  refine gu1 (fun hn=>?_) (fun hn=>?_)
  ·have hlt':i < l.length:=by simpa using hn
   repeat' first|refine Wz ?_|intro _
   refine al_idxM i hlt' ?_
   repeat' first|refine Wz ?_|intro _
   refine reE ?_
   have hgd:l.getD i ⟨[],[]⟩=l[i]:=by simp [List.getD,hlt']
   simp [bsIs,g5,hlt',outOf]
  ·have hlt':¬ i < l.length:=by simpa using hn
   repeat' first|refine Wz ?_|intro _
   refine reE ?_
   simp [bsIs,g5,hlt',outOf]⟩
instance fnFind {l:List Ent}{k:Bs}{xs:List AV}{id:Option Value}[hx:Ents xs l]:Ans Tryz.prog GL 87 [.agg 1 [.sl 2 xs id],str k] (l.length < 4611686018427387904) (.tup [int (bsAt l k),boo (bsIs l k)]):=⟨fun hl=>by
 have h:=hx.out
 subst h
 refine qE Tryz.func87 rfl Tryz.ntmps87 rfl (fun _ hs=>?_)
 repeat' first|refine Wz ?_|intro _
 refine reE ?_
 rfl⟩

abbrev dA (l:List Ent):AV:=.agg 1 [.sl 2 (l.map entA) none]
def putE (l:List Ent)(k v:Bs):Int:=if 400 < k.length\/4000 < v.length then 11 else if bsIs l k=true then 0 else if 2000<=l.length then 15 else 0
def putL (l:List Ent)(k v:Bs):List Ent:=if bsIs l k=true then l.set (bsAt l k) ⟨(l.getD (bsAt l k) ⟨[],[]⟩).key,v⟩ else l.take (bsAt l k)++⟨k,v⟩::l.drop (bsAt l k)
def putA (l:List Ent)(k v:Bs):AV:=if putE l k v=0 then dA (putL l k v) else .agg 1 [nils]
theorem bsF_le (l:List Ent)(k:Bs):∀ f i j,i<=j->bsF l k f i j<=j
 | 0,i,j,h=>h
 | f + 1,i,j,h=>by
  unfold bsF
  split
  ·dsimp only
   split
   ·exact bsF_le l k f _ _ (by omega)
   ·exact Nat.le_trans (bsF_le l k f _ _ (by omega)) (by omega)
  ·exact h
theorem bsAt_le (l:List Ent)(k:Bs):bsAt l k<=l.length:=bsF_le l k _ _ _ (Nat.zero_le _)
theorem bsIs_lt {l:List Ent}{k:Bs}(h:bsIs l k=true):bsAt l k < l.length:=by
 unfold bsIs at h
 simp at h
 exact h.1
instance fnPut {l:List Ent}{k v:Bs}{xs:List AV}{id:Option Value}[hx:Ents xs l]:Ans Tryz.prog GL 53 [.agg 1 [.sl 2 xs id],str k,str v] (l.length<=1073741823) (.tup [putA l k v,int (putE l k v)]):=⟨fun hl=>by
 have h:=hx.out
 subst h
 have hat:=bsAt_le l k
 refine qE Tryz.func53 rfl Tryz.ntmps53 rfl (fun _ hs=>?_)
 repeat' first|refine Wz ?_|intro _
 refine gu1 (fun h1=>?_) (fun h1=>?_)
 ·repeat' first|refine Wz ?_|intro _
  refine reE ?_
  have hh:400 < k.length:=by omega
  have:putE l k v=11:=by simp [putE,hh]
  simp [outOf,putA,this]
 ·repeat' first|refine Wz ?_|intro _
  refine ac_cond (fun h2=>?_) (fun h2=>?_)
  ·repeat' first|refine Wz ?_|intro _
   refine reE ?_
   have hh:4000 < v.length:=by omega
   have:putE l k v=11:=by simp [putE,hh]
   simp [outOf,putA,this]
  ·repeat' first|refine Wz ?_|intro _
   have hne:¬ (400 < k.length\/4000 < v.length):=by omega
   refine al_callK [] _ (by rw [hs];exact cloneE_spec (xs:=l.map entA) (id:=id) (by rw [llm];omega)) (fun c m1 hh=>?_) lpr
   rcases hh with⟨hnil,rfl,rfl⟩|⟨g,cap,rfl,rfl,hcap⟩
   ·obtain rfl:l=[]:=by simpa using hnil
    repeat' (first|refine ct1 ?_|refine op1 ?_|refine ob1 ?_|refine dr1 hs ?_|refine ob2 (fun _=>?_)|intro _)
    refine al_buildB (fun gv=>?_)
    refine al_callK [.buf gv 109 2 [entA ⟨k,v⟩] 1] _ (by rw [hs];exact insertE_nil) (fun c m1 hh=>?_) lpr
    rcases hh with⟨hnil,rfl,rfl⟩|⟨g,cap,rfl,rfl,hcap⟩
    ·simp at hnil
    ·refine al_freeze 35 ?_
     refine al_as 35 Imp.sl ?_
     repeat' first|refine Wz ?_|intro _
     refine reE ?_
     have e0:bsIs [] k=false:=rfl
     have e1:putE [] k v=0:=by simp [putE,hne,e0]
     have e2:[entA ⟨k,v⟩]=(putL [] k v).map entA:=by simp [putL,e0]
     simp only [outOf,putA,e1,if_true,e2]
   ·repeat' (first|refine ct1 ?_|refine op1 ?_|refine ob1 ?_|refine dr1 hs ?_|refine ob2 (fun _=>?_)|intro _)
    refine ac_condB (fun h3=>?_) (fun h3=>?_)
    ·repeat' first|refine Wz ?_|intro _
     have hlt:=bsIs_lt h3
     have hgd:l.getD (bsAt l k) ⟨[],[]⟩=l[bsAt l k]:=by simp [List.getD,hlt]
     refine al_idxB (bsAt l k) ?_
     repeat' first|refine Wz ?_|intro _
     refine al_storeB (y:=entA l[bsAt l k]) (y':=entA ⟨l[bsAt l k].key,v⟩) ?_ ?_
     ·simp [hlt]
     refine al_freeze 10 ?_
     refine al_as 10 Imp.sl ?_
     repeat' first|refine Wz ?_|intro _
     refine reE ?_
     have e1:putE l k v=0:=by simp [putE,hne,h3]
     have e2:(l.map entA).set (bsAt l k) (entA ⟨l[bsAt l k].key,v⟩)=(putL l k v).map entA:=by rw [putL,if_pos h3,hgd,List.map_set]
     simp only [outOf,putA,e1,if_true,e2]
    ·repeat' (first|refine ct1 ?_|refine op1 ?_|refine ob1 ?_|refine dr1 hs ?_|refine ob2 (fun _=>?_)|intro _)
     refine ac_cond (fun h4=>?_) (fun h4=>?_)
     ·repeat' first|refine Wz ?_|intro _
      refine reE ?_
      have e1:putE l k v=15:=by
       have:2000<=l.length:=by simp at h4;omega
       simp [putE,hne,h3,this]
      simp [outOf,putA,e1]
     ·repeat' (first|refine ct1 ?_|refine op1 ?_|refine ob1 ?_|refine dr1 hs ?_|refine ob2 (fun _=>?_)|intro _)
      refine al_buildB (fun gv=>?_)
      refine al_callK [.buf g 109 2 (l.map entA) cap,.buf gv 109 2 [entA ⟨k,v⟩] 1] _ (by rw [hs];exact insertE_spec rfl hcap (by simpa using hat) (by rw [List.length_map];omega)) (fun c m1 hh=>?_) (List.Perm.swap _ _ _)
      rcases hh with⟨hnil,rfl,rfl⟩|⟨g,cap,rfl,rfl,hcap⟩
      ·simp at hnil
      ·refine al_freeze 35 ?_
       refine al_as 35 Imp.sl ?_
       repeat' first|refine Wz ?_|intro _
       refine reE ?_
       have e1:putE l k v=0:=by
        have:¬ 2000<=l.length:=by simp at h4;omega
        simp [putE,hne,h3,this]
       have e2:(l.map entA).take (bsAt l k)++entA ⟨k,v⟩::(l.map entA).drop (bsAt l k)=(putL l k v).map entA:=by simp [putL,h3,List.map_take,List.map_drop]
       simp only [outOf,putA,e1,if_true,e2]⟩
instance fnGet {l:List Ent}{k:Bs}{xs:List AV}{id:Option Value}[hx:Ents xs l]:Ans Tryz.prog GL 277 [.agg 1 [.sl 2 xs id],str k] (l.length<=1073741823) (.tup [str (if bsIs l k=true then (l.getD (bsAt l k) ⟨[],[]⟩).val else []),boo (bsIs l k)]):=⟨fun hl=>by
 have h:=hx.out
 subst h
 have hat:=bsAt_le l k
 refine qE Tryz.func277 rfl Tryz.ntmps277 rfl (fun _ hs=>?_)
 repeat' first|refine Wz ?_|intro _
 refine ac_condB (fun h3=>?_) (fun h3=>?_)
 ·repeat' first|refine Wz ?_|intro _
  refine reE ?_
  have h4:bsIs l k=false:=by simpa using h3
  simp [outOf,h4]
 ·have h3:bsIs l k=true:=by simpa using h3
  repeat' first|refine Wz ?_|intro _
  have hlt:=bsIs_lt h3
  have hgd:l.getD (bsAt l k) ⟨[],[]⟩=l[bsAt l k]:=by simp [List.getD,hlt]
  refine al_idxM (bsAt l k) hlt ?_
  repeat' first|refine Wz ?_|intro _
  refine reE ?_
  simp only [outOf,h3,if_true,hgd]⟩
instance fnDrop {l:List Ent}{k:Bs}{xs:List AV}[hx:Ents xs l]:Ans Tryz.prog GL 353 [.agg 1 [.sl 2 xs none],str k] (l.length<=1073741823) (.tup [dA (if bsIs l k=true then l.take (bsAt l k)++l.drop (bsAt l k + 1) else l),boo (bsIs l k)]):=⟨fun hl=>by
 have h:=hx.out
 subst h
 have hat:=bsAt_le l k
 refine qE Tryz.func353 rfl Tryz.ntmps353 rfl (fun _ hs=>?_)
 repeat' first|refine Wz ?_|intro _
 refine ac_condB (fun h3=>?_) (fun h3=>?_)
 ·repeat' first|refine Wz ?_|intro _
  refine reE ?_
  have h4:bsIs l k=false:=by simpa using h3
  simp [outOf,h4]
 ·have h3:bsIs l k=true:=by simpa using h3
  repeat' first|refine Wz ?_|intro _
  have hlt:=bsIs_lt h3
  refine al_callK [] _ (by rw [hs];exact cloneE_spec (xs:=l.map entA) (id:=none) (by rw [llm];omega)) (fun c m1 hh=>?_) lpr
  rcases hh with⟨hnil,rfl,rfl⟩|⟨g,cap,rfl,rfl,hcap⟩
  ·have:l=[]:=by simpa using hnil
   simp [this] at hlt
  ·repeat' first|refine Wz ?_|intro _
   refine al_callK [.buf g 109 2 (l.map entA) cap] _ (by rw [hs];exact deleteE' (xs:=l.map entA) (i:=bsAt l k) (c:=cap) (by simpa using hlt) hcap (by rw [List.length_map];omega)) (fun c m1 hh=>?_) lpr
   have e2:(l.map entA).take (bsAt l k)++(l.map entA).drop (bsAt l k + 1)=(l.take (bsAt l k)++l.drop (bsAt l k + 1)).map entA:=by simp [List.map_take,List.map_drop]
   rw [e2] at hh
   rcases hh with⟨hnil,rfl,rfl⟩|⟨g,cap,rfl,rfl,hcap⟩
   ·refine al_as 23 (Imp.nilN (k:=2)) ?_
    repeat' first|refine Wz ?_|intro _
    refine reE ?_
    simp only [outOf,h3,if_true,dA,hnil]
   ·refine al_freeze 23 ?_
    refine al_as 23 Imp.sl ?_
    repeat' first|refine Wz ?_|intro _
    refine reE ?_
    simp only [outOf,h3,if_true]⟩
instance fnLen {l:List Ent}{xs:List AV}{id:Option Value}[hx:Ents xs l]:Ans Tryz.prog GL 15 [.agg 1 [.sl 2 xs id]] True (int l.length):=⟨fun _=>by
 have h:=hx.out
 subst h
 refine qE Tryz.func15 rfl Tryz.ntmps15 rfl (fun _ hs=>?_)
 repeat' first|refine Wz ?_|intro _
 refine reE ?_
 simp [outOf]⟩
instance fnAll {l:List Ent}{xs:List AV}{id:Option Value}[hx:Ents xs l]:Ans Tryz.prog GL 209 [.agg 1 [.sl 2 xs id]] (l.length<=1073741823) (.sl 2 (l.map entA) none):=⟨fun hl=>by
 have h:=hx.out
 subst h
 refine qE Tryz.func209 rfl Tryz.ntmps209 rfl (fun _ hs=>?_)
 repeat' first|refine Wz ?_|intro _
 refine al_callK [] _ (by rw [hs];exact cloneE_spec (xs:=l.map entA) (id:=id) (by rw [llm];omega)) (fun c m1 hh=>?_) lpr
 rcases hh with⟨hnil,rfl,rfl⟩|⟨g,cap,rfl,rfl,hcap⟩
 ·obtain rfl:l=[]:=by simpa using hnil
  refine al_as 5 (Imp.nilN (k:=2)) ?_
  repeat' first|refine Wz ?_|intro _
  refine reE ?_
  rfl
 ·refine al_freeze 5 ?_
  refine al_as 5 Imp.sl ?_
  repeat' first|refine Wz ?_|intro _
  refine reE ?_
  rfl⟩
end Go.Proofs.YtndhpgclmgpmoaaGreatDoor
