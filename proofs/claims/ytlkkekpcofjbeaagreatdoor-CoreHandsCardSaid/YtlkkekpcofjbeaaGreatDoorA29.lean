/- clients, walked: comparison, new ones, put -/
import Derived.Test.YtlkkekpcofjbeaaGreatDoorA16
import Derived.Test.YtlkkekpcofjbeaaGreatDoorA21
import Derived.Test.YtlkkekpcofjbeaaGreatDoorA23
import Derived.Test.YtlkkekpcofjbeaaGreatDoorA27
import Derived.Test.YtlkkekpcofjbeaaGreatDoorA28
namespace Go.Proofs.YtlkkekpcofjbeaaGreatDoor
open Go Go.RowKit Tw Av
theorem keyB_at (k:Bs){i:Nat}(h:i < 64):(keyB k).getD i 0=if i < (if 64 < k.length then (shaH k).l else k).length then (if 64 < k.length then (shaH k).l else k).getD i 0 else 0:=by
 have hl:(if 64 < k.length then (shaH k).l else k).length<=64:=by
  split
  ·rw [Hsh.len];omega
  ·omega
 have hz:(zeros 64).length=64:=by simp [zeros]
 have he:keyB k=(if 64 < k.length then (shaH k).l else k)++(zeros 64).drop (if 64 < k.length then (shaH k).l else k).length:=by rw [keyB,copyB,hz,List.take_of_length_le hl]
 rw [he]
 generalize (if 64 < k.length then (shaH k).l else k)=q at *
 by_cases hi:i < q.length
 ·rw [if_pos hi,List.getD,List.getD,List.getElem?_append_left hi]
 ·rw [if_neg hi,List.getD,List.getElem?_append_right (by omega),zeros,List.drop_replicate,List.getElem?_replicate,if_pos (by omega)]
  rfl
theorem xor_snoc {l:Bs}{b:UInt8}{i:Nat}(h:i < l.length):xorB b (l.take i)++[l[i] ^^^ b]=xorB b (l.take (i + 1)):=by
 rw [List.take_succ_eq_append_getElem h,xorB,xorB,List.map_append]
 rfl
instance fnRSeal {k s:Bs}:Ans Tryz.prog GL 87 [str k,str s] (k.length<=1000000/\s.length<=1000000000) (hA (sealH k s)):=⟨fun hp=>by
 obtain⟨hk,hsl⟩:=hp
 have hkl:=keyB_len k
 have hkt:=fun i h=>keyB_at k (i:=i) h
 refine qE Tryz.func87 rfl Tryz.ntmps87 rfl (fun _ hs=>?_)
 repeat' first|refine Vz ?_|intro _
 rename_i g4
 refine ac_mid (α:=Unit) (fun _=>[(0,str (if 64 < k.length then (shaH k).l else k)),(1,str s),(4,ptr g4)]) (fun _=>[.var g4 40 (hA zeroH)]) ?_ (fun _=>?_)
 ·refine ac_cond (fun h1=>?_) (fun h1=>?_)
  ·have:LenLe k 1000000:=⟨hk⟩
   repeat' first|refine Vz ?_|intro _
   exact ae_cut () ⟨by rw [if_pos (by omega)];rfl,rfl,rfl,trivial⟩ slr
  ·repeat' first|refine Vz ?_|intro _
   exact ae_cut () ⟨by rw [if_neg (by omega)];rfl,rfl,rfl,trivial⟩ slr
 generalize (if 64 < k.length then (shaH k).l else k)=q at *
 generalize hK:keyB k=K at *
 repeat' first|refine Vz ?_|intro _
 refine ac_as 5 (Imp.nil (k:=1)) ?_
 refine ac_as 6 (Imp.nil (k:=1)) ?_
 refine ac_st (fun ok w h=>h.full 5 1 none 0) ?_
 refine ac_st (fun ok w h=>h.full 5 1 none 0) ?_
 refine ac_loop (α:=Nat × Value × Value) (fun z=>[(0,str q),(1,str s),(4,ptr g4),(5,.sl 1 ((xorB 54 (K.take z.1)).map u8A) (some z.2.1)),(6,.sl 1 ((xorB 92 (K.take z.1)).map u8A) (some z.2.2)),(7,int z.1)])
  (fun z=>[.tail 5 1 z.2.1,.tail 5 1 z.2.2,.var g4 40 (hA zeroH)]) (fun z=>z.1<=64) (fun z=>64 - z.1) (0,.slice none 0 0,.slice none 0 0) ⟨rfl,rfl,rfl,rfl,rfl,rfl,trivial⟩ slr (Nat.zero_le _) ?_
 rintro⟨i,v5,v6⟩ hi
 dsimp only at hi ⊢
 repeat' first|refine Vz ?_|intro _
 refine ac_cond (fun hlt=>?_) (fun hlt=>?_)
 ·have hi64:i < 64:=by omega
  have hc:=hkt i hi64
  have hl5:(xorB 54 (K.take i)).length=i:=by rw [xorB_len,List.length_take];omega
  have hl6:(xorB 92 (K.take i)).length=i:=by rw [xorB_len,List.length_take];omega
  have hx5:=xor_snoc (b:=54) (l:=K) (i:=i) (by omega)
  have hx6:=xor_snoc (b:=92) (l:=K) (i:=i) (by omega)
  have hge:K[i]'(by omega)=K.getD i 0:=by simp [List.getD,show i < K.length by omega]
  rw [hge] at hx5 hx6
  generalize hcc:K.getD i 0=c at *
  repeat' first|refine Vz ?_|intro _
  refine ac_mid (α:=Unit) (fun _=>[(0,str q),(1,str s),(4,ptr g4),(5,.sl 1 ((xorB 54 (K.take i)).map u8A) (some v5)),(6,.sl 1 ((xorB 92 (K.take i)).map u8A) (some v6)),(7,int i),(8,u8A c)]) (fun _=>[.tail 5 1 v5,.tail 5 1 v6,.var g4 40 (hA zeroH)]) ?_ (fun _=>?_)
  ·refine ac_cond (fun h1=>?_) (fun h1=>?_)
   ·have hiq:i < q.length:=by omega
    repeat' first|refine Vz ?_|intro _
    refine al_idxS (c:=c) (b:=q) i ?_ (by rw [hc,if_pos hiq];simp [List.getD,hiq])
    repeat' first|refine Vz ?_|intro _
    exact ae_cut () ⟨rfl,rfl,rfl,rfl,rfl,rfl,rfl,trivial⟩ slr
   ·rw [hc,if_neg (by omega)]
    repeat' first|refine Vz ?_|intro _
    exact ae_cut () ⟨rfl,rfl,rfl,rfl,rfl,rfl,rfl,trivial⟩ slr
  ·repeat' first|refine Vz ?_|intro _
   refine al_append (fun v5'=>?_)
   repeat' first|refine Vz ?_|intro _
   refine al_append (fun v6'=>?_)
   repeat' first|refine Vz ?_|intro _
   refine ae_as 5 (v':=.sl 1 ((xorB 54 (K.take (i + 1))).map u8A) (some v5')) (Imp.of_eq (by rw [<- hx5,List.map_append])) ?_
   refine ae_as 6 (v':=.sl 1 ((xorB 92 (K.take (i + 1))).map u8A) (some v6')) (Imp.of_eq (by rw [<- hx6,List.map_append])) ?_
   exact ae_round (i + 1,v5',v6') ⟨rfl,rfl,rfl,rfl,rfl,rfl,trivial⟩ slr (by omega) (by dsimp only;omega)
 ·obtain rfl:i=64:=by omega
  rw [List.take_of_length_le (by omega)]
  have:LenLe (xorB 54 K) 64:=⟨by rw [xorB_len];omega⟩
  have:LenLe (xorB 92 K) 64:=⟨by rw [xorB_len];omega⟩
  have:LenLe s 1000000000:=⟨hsl⟩
  repeat' first|refine Vz ?_|intro _
  refine reE ?_
  rw [sealH,hK]
  rfl⟩
instance fnHeader {c:Bs}{h t:Int}{r:Hsh}:Ans Tryz.prog GL 176 [.agg 35 [str c,int h,int t,hA r]] (h<=9223372036854775807/\t<=9223372036854775807) (str (hdrB ⟨c,h,t,r⟩)):=⟨fun hp=>by
 obtain⟨h1,h2⟩:=hp
 refine qE Tryz.func176 rfl Tryz.ntmps176 rfl (fun _ hs=>?_)
 repeat' first|refine Vz ?_|intro _
 refine reE ?_
 rfl⟩
instance fnRHeader {c:Bs}{h t:Int}{r:Hsh}:Ans Tryz.prog GL 44 [.agg 35 [str c,int h,int t,hA r]] (h<=9223372036854775807/\t<=9223372036854775807) (str (hdrB ⟨c,h,t,r⟩)):=⟨fun hp=>by
 obtain⟨h1,h2⟩:=hp
 refine qE Tryz.func44 rfl Tryz.ntmps44 rfl (fun _ hs=>?_)
 repeat' first|refine Vz ?_|intro _
 refine reE ?_
 rfl⟩
theorem hdrB_len (x:Hdr):(hdrB x).length<=100000000:=by
 have h1:=(inferInstance:LenLe (tlvT 99 x.c++tlvI 104 x.h++tlvI 116 x.t++tlvT 114 x.r.l) _).out
 unfold hdrB
 omega
instance fnCSeal {k c:Bs}{h t:Int}{r:Hsh}:Ans Tryz.prog GL 182 [str k,.agg 35 [str c,int h,int t,hA r]] (k.length<=1000000/\h<=9223372036854775807/\t<=9223372036854775807) (hA (sealOf k ⟨c,h,t,r⟩)):=⟨fun hp=>by
 obtain⟨h0,h1,h2⟩:=hp
 have h3:=hdrB_len ⟨c,h,t,r⟩
 refine qE Tryz.func182 rfl Tryz.ntmps182 rfl (fun _ hs=>?_)
 repeat' first|refine Vz ?_|intro _
 refine reE ?_
 rfl⟩
instance fnRCSeal {k c:Bs}{h t:Int}{r:Hsh}:Ans Tryz.prog GL 51 [str k,.agg 35 [str c,int h,int t,hA r]] (k.length<=1000000/\h<=9223372036854775807/\t<=9223372036854775807) (hA (sealOf k ⟨c,h,t,r⟩)):=⟨fun hp=>by
 obtain⟨h0,h1,h2⟩:=hp
 have h3:=hdrB_len ⟨c,h,t,r⟩
 refine qE Tryz.func51 rfl Tryz.ntmps51 rfl (fun _ hs=>?_)
 repeat' first|refine Vz ?_|intro _
 refine reE ?_
 rfl⟩
instance fnState {c:Bs}{h t:Int}{r:Hsh}:Ans Tryz.prog GL 174 [.agg 35 [str c,int h,int t,hA r]] True (.agg 34 [int h,int t,hA r]):=⟨fun _=>by
 refine qE Tryz.func174 rfl Tryz.ntmps174 rfl (fun _ hs=>?_)
 repeat' first|refine Vz ?_|intro _
 refine reE ?_
 rfl⟩
instance fnHdr {c:Bs}{h t:Int}{r:Hsh}:Ans Tryz.prog GL 177 [str c,.agg 34 [int h,int t,hA r]] True (.agg 35 [str c,int h,int t,hA r]):=⟨fun _=>by
 refine qE Tryz.func177 rfl Tryz.ntmps177 rfl (fun _ hs=>?_)
 repeat' first|refine Vz ?_|intro _
 refine reE ?_
 rfl⟩
instance fnRHdr {c k:Bs}{p:Int}{f:Bool}{X:AV}{h t:Int}{r:Hsh}:Ans Tryz.prog GL 45 [.agg 5 [str c,str k,int p,boo f,X],.agg 34 [int h,int t,hA r]] True (.agg 35 [str c,int h,int t,hA r]):=⟨fun _=>by
 refine qE Tryz.func45 rfl Tryz.ntmps45 rfl (fun _ hs=>?_)
 repeat' first|refine Vz ?_|intro _
 refine reE ?_
 rfl⟩
instance fnCheck {c:Bs}{h t:Int}{r:Hsh}:Ans Tryz.prog GL 181 [.agg 35 [str c,int h,int t,hA r]] True (boo (chkH ⟨c,h,t,r⟩)):=⟨fun _=>by
 rcases c with _|⟨a,c⟩
 ·refine qE Tryz.func181 rfl Tryz.ntmps181 rfl (fun _ hs=>?_)
  repeat' (first|refine W ?_|refine op2 ?_|refine ob4 ?_|intro _|refine ob2 (fun _=>?_)|refine ac_cond ?_ ?_|refine ac_condB ?_ ?_|refine gu1 ?_ ?_|refine gu2 ?_ ?_)
  refine reE ?_
  simp [outOf,chkH]
 ·refine qE Tryz.func181 rfl Tryz.ntmps181 rfl (fun _ hs=>?_)
  repeat' (first|refine W ?_|refine op2 ?_|refine ob4 ?_|intro _|refine ob2 (fun _=>?_)|refine ac_cond ?_ ?_|refine ac_condB ?_ ?_|refine gu1 ?_ ?_|refine gu2 ?_ ?_)
  all_goals (refine reE ?_;refine boo_iff ?_;simp only [chkH,decide_eq_true_eq,Bool.false_eq_true,false_iff,List.length_cons] at *;omega)⟩
instance fnRCheck {c:Bs}{h t:Int}{r:Hsh}:Ans Tryz.prog GL 76 [.agg 35 [str c,int h,int t,hA r]] True (boo (chkH ⟨c,h,t,r⟩)):=⟨fun _=>by
 refine qE Tryz.func76 rfl Tryz.ntmps76 rfl (fun _ hs=>?_)
 repeat' (first|refine W ?_|refine op2 ?_|refine ob4 ?_|intro _|refine ob2 (fun _=>?_)|refine ac_cond ?_ ?_|refine ac_condB ?_ ?_|refine gu1 ?_ ?_|refine gu2 ?_ ?_)
 all_goals (refine reE ?_;refine boo_iff ?_;simp only [chkH,decide_eq_true_eq,Bool.false_eq_true,false_iff] at *;omega)⟩
instance fnFollows {h t h' t':Int}{r r':Hsh}:Ans Tryz.prog GL 232 [.agg 34 [int h,int t,hA r],.agg 34 [int h',int t',hA r']] True (boo (fol ⟨h,t,r⟩ ⟨h',t',r'⟩)):=⟨fun _=>by
 refine qE Tryz.func232 rfl Tryz.ntmps232 rfl (fun _ hs=>?_)
 repeat' (first|refine W ?_|refine op2 ?_|refine ob4 ?_|intro _|refine ob2 (fun _=>?_)|refine ac_cond ?_ ?_|refine ac_condB ?_ ?_|refine gu1 ?_ ?_|refine gu2 ?_ ?_)
 all_goals (refine reE ?_;refine boo_iff ?_;simp only [fol,decide_eq_true_eq,Bool.false_eq_true,false_iff] at *;omega)⟩
instance fnLast {l:List Sta}{xs:List AV}{id:Option Value}[hx:Stas xs l]:Ans Tryz.prog GL 192 [.sl 34 xs id] True (staA (latC l)):=⟨fun _=>by
 have h:=hx.out
 subst h
 have hm:(l.map staA).length=l.length:=llm _
 refine qE Tryz.func192 rfl Tryz.ntmps192 rfl (fun _ hs=>?_)
 refine ac_bnd 0 (fun hb=>?_)
 have hb:=maxLen_le hb
 repeat' first|refine Vz ?_|intro _
 refine ac_cond (fun h1=>?_) (fun h1=>?_)
 ·repeat' first|refine Vz ?_|intro _
  refine reE ?_
  obtain rfl:l=[]:=List.eq_nil_of_length_eq_zero (by omega)
  rfl
 ·repeat' first|refine Vz ?_|intro _
  refine al_idxM (l:=l) (f:=staA) (l.length - 1) (by omega) ?_
  repeat' first|refine Vz ?_|intro _
  refine reE ?_
  rw [latC,List.getLastD_eq_getLast?,List.getLast?_eq_getElem?,List.getElem?_eq_getElem (by omega)]
  rfl⟩
instance fnLatest {c k:Bs}{p:Int}{f:Bool}{l:List Sta}{xs:List AV}{id:Option Value}[Stas xs l]:Ans Tryz.prog GL 122 [.agg 5 [str c,str k,int p,boo f,.sl 34 xs id]] True (staA (latC l)):=⟨fun _=>by
 refine qE Tryz.func122 rfl Tryz.ntmps122 rfl (fun _ hs=>?_)
 repeat' first|refine Vz ?_|intro _
 refine reE ?_
 rfl⟩
instance fnRLatest {c k:Bs}{p:Int}{f:Bool}{l:List Sta}{xs:List AV}{id:Option Value}[hx:Stas xs l]:Ans Tryz.prog GL 86 [.agg 5 [str c,str k,int p,boo f,.sl 34 xs id]] True (staA (latC l)):=⟨fun _=>by
 have h:=hx.out
 subst h
 have hm:(l.map staA).length=l.length:=llm _
 refine qE Tryz.func86 rfl Tryz.ntmps86 rfl (fun _ hs=>?_)
 refine ac_bndA 0 4 (fun hb=>?_)
 have hb:=maxLen_le hb
 repeat' first|refine Vz ?_|intro _
 refine ac_cond (fun h1=>?_) (fun h1=>?_)
 ·repeat' first|refine Vz ?_|intro _
  refine reE ?_
  obtain rfl:l=[]:=List.eq_nil_of_length_eq_zero (by omega)
  rfl
 ·repeat' first|refine Vz ?_|intro _
  refine al_idxM (l:=l) (f:=staA) (l.length - 1) (by omega) ?_
  repeat' first|refine Vz ?_|intro _
  refine reE ?_
  rw [latC,List.getLastD_eq_getLast?,List.getLast?_eq_getElem?,List.getElem?_eq_getElem (by omega)]
  rfl⟩
instance fnActive {c k:Bs}{p:Int}{f:Bool}{l:List Sta}{xs:List AV}{id:Option Value}{now:Int}[Stas xs l]:Ans Tryz.prog GL 180 [.agg 5 [str c,str k,int p,boo f,.sl 34 xs id],int now] (-4611686018427387904<=(latC l).t/\(latC l).t<=4611686018427387904/\-4611686018427387904<=p/\p < 4611686018427387904) (boo (actC ⟨c,k,p,f,l⟩ now)):=⟨fun hp=>by
 obtain⟨h1,h2,h3,h4⟩:=hp
 refine qE Tryz.func180 rfl Tryz.ntmps180 rfl (fun _ hs=>?_)
 cases f
 all_goals
  repeat' first|refine Vz ?_|intro _
  refine reE ?_
  simp [outOf,actC]⟩

theorem cloneS_spec {xs:List AV}{id:Option Value}(hx:xs.length<=1073741824):Av.Spec Tryz.prog GL 239 [.sl 34 xs id] [] (OwnK 110 34 xs):=by
 refine qE Tryz.func239 rfl Tryz.ntmps239 rfl (fun _ hs=>?_)
 repeat' first|refine Wz ?_|intro _
 refine al_slN (fun q c hq hc=>?_)
 repeat' first|refine Wz ?_|intro _
 injection hc with hc
 subst hc
 refine ac_condB (fun h=>?_) (fun h=>?_)
 ·repeat' first|refine Wz ?_|intro _
  exact reK [] (.inl ⟨hq h,rfl,rfl⟩) (List.nil_sublist _)
 ·repeat' first|refine Wz ?_|intro _
  refine al_build0B (fun g=>?_)
  repeat' first|refine Wz ?_|intro _
  refine al_appendB (fun g' c' hc'=>?_)
  repeat' first|refine Wz ?_|intro _
  refine reK [.buf g' 110 34 ([]++xs) c'] (.inr ⟨g',c',?_,rfl,?_⟩) slr
  ·simp [outOf]
  ·simpa using hc'
theorem insL2 {α:Type}{xs:List α}{i:Nat}{x:α}{p q:Nat}(h:i<=xs.length)(hp:p=xs.length - i)(hq:1<=q):over (over xs (i + 1) ((xs.drop i).take p)) i ([x].take q)=xs.take i++x::xs.drop i:=insL' h hp hq
theorem insZ2 {α:Type}{xs:List α}{i q:Nat}{x z:α}{p r:Nat}(h:i<=xs.length)(hq:i + q=xs.length + 1)(hp:p=q - 1)(hr:1<=r):over (over (xs.take i++List.replicate q z) i ([x].take r)) (i + 1) ((xs.drop i).take p)=xs.take i++x::xs.drop i:=insZ' h hq hp hr
theorem insertS_nil {x:AV}{idv:Option Value}:Av.Spec Tryz.prog GL 238 [nils,int 0,.sl 34 [x] idv] [] (OwnK 110 34 [x]):=by
 refine qE Tryz.func238 rfl Tryz.ntmps238 rfl (fun _ hs=>?_)
 repeat' first|refine Wz ?_|intro _
 refine al_sliceL 0 0 ?_
 repeat' first|refine Wz ?_|intro _
 refine al_appendN (fun g' c' hc'=>?_)
 repeat' first|refine Wz ?_|intro _
 exact reK [.buf g' 110 34 [x] c'] (.inr ⟨g',c',rfl,rfl,hc'⟩) (by simp)
theorem insertS_spec {g n c i:Nat}{xs:List AV}{x:AV}{idv:Option Value}(hn:xs.length=n)(hc:n<=c)(hi:i<=n)(hb:n<=1073741824):Av.Spec Tryz.prog GL 238 [.lit (.slice (some ⟨g,0,none⟩) n c),int i,.sl 34 [x] idv] [.buf g 110 34 xs c] (OwnK 110 34 (xs.take i++x::xs.drop i)):=by
 subst hn
 have hx1:([x]:List AV).length=1:=rfl
 refine qE Tryz.func238 rfl Tryz.ntmps238 rfl (fun _ hs=>?_)
 repeat' first|refine Wz ?_|intro _
 refine al_sliceL i xs.length ?_
 repeat' first|refine Wz ?_|intro _
 refine ac_cond (fun hin=>?_) (fun hin=>?_)
 ·repeat' first|refine Wz ?_|intro _
  refine al_appendB (fun g' c' hc'=>?_)
  repeat' first|refine Wz ?_|intro _
  have hin':i=xs.length:=by omega
  subst hin'
  refine reK [.buf g' 110 34 (xs++[x]) c'] (.inr ⟨g',c',?_,?_,?_⟩) (by simp)
  ·simp [outOf]
  ·simp
  ·simpa using hc'
 ·repeat' first|refine Wz ?_|intro _
  have hl:(xs.take i++x::xs.drop i).length=xs.length + 1:=by simp;omega
  refine ac_cond (fun hcap=>?_) (fun hcap=>?_)
  ·obtain⟨q,hq⟩:∃ q,i + q=xs.length + 1:=⟨xs.length + 1 - i,by omega⟩
   repeat' first|refine Wz ?_|intro _
   refine al_sliceP 0 i ?_
   repeat' first|refine Wz ?_|intro _
   refine al_appendZ (i:=i) q (fun g' c' hc'=>?_)
   repeat' first|refine Wz ?_|intro _
   refine al_sliceP i (i + q) ?_
   repeat' first|refine Wz ?_|intro _
   refine al_copyD (j:=i) ?_
   repeat' first|refine Wz ?_|intro _
   apply obl_read [];exact rfl;exact rfl;kernel_rfl;intro _ _
   refine al_sliceP (i + 1) (i + q) ?_
   exact al_nil (ae_got rfl rfl)
   repeat' first|refine Wz ?_|intro _
   apply obl_read [];exact rfl;exact rfl;kernel_rfl;intro _ _
   refine al_sliceP i xs.length ?_
   exact al_nil (ae_got rfl rfl)
   apply obl_write [0,1];exact rfl;exact rfl;kernel_rfl;intro _ _
   refine al_copyB (j:=i + 1) (j2:=i) ?_
   exact al_nil (ae_got rfl rfl)
   exact rfl
   exact rfl
   repeat' first|refine Wz ?_|intro _
   rw [insZ2 (by omega) hq (by omega) (by omega)]
   refine reK [.buf g' 110 34 _ c'] (.inr ⟨g',c',?_,rfl,?_⟩) (List.singleton_sublist.2 List.mem_cons_self)
   ·rw [hl,<- hq]
    rfl
   ·omega
  ·repeat' first|refine Wz ?_|intro _
   refine al_sliceP 0 (xs.length + 1) ?_
   repeat' first|refine Wz ?_|intro _
   refine al_sliceP (i + 1) (xs.length + 1) ?_
   apply al_ext (v:=boo false) Tryz.func272;kernel_rfl;exact rfl;kernel_rfl;kernel_rfl;exact rfl;exact rfl;exact rfl
   ·intro ok w cs hS hv
    exact⟨_,overlaps_runD (b:=48) (tS:=80) 4 hS List.mem_cons_self hv,RVl rfl⟩
   repeat' first|refine Wz ?_|intro _
   apply obl_read [];exact rfl;exact rfl;kernel_rfl;intro _ _
   refine al_sliceP (i + 1) (xs.length + 1) ?_
   exact al_nil (ae_got rfl rfl)
   repeat' first|refine Wz ?_|intro _
   apply obl_read [];exact rfl;exact rfl;kernel_rfl;intro _ _
   refine al_sliceP i (xs.length + 1) ?_
   exact al_nil (ae_got rfl rfl)
   apply obl_write [0];exact rfl;exact rfl;kernel_rfl;intro _ _
   refine al_copyB (j:=i + 1) (j2:=i) ?_
   exact al_nil (ae_got rfl rfl)
   exact rfl
   exact rfl
   repeat' first|refine Wz ?_|intro _
   refine al_sliceP i (xs.length + 1) ?_
   repeat' first|refine Wz ?_|intro _
   refine al_copyD (j:=i) ?_
   repeat' first|refine Wz ?_|intro _
   rw [insL2 (by omega) (by omega) (by omega)]
   refine reK [.buf g 110 34 _ c] (.inr ⟨g,c,?_,rfl,?_⟩) (by simp)
   ·rw [hl]
    rfl
   ·omega

theorem at1 {h t:Int}{r:Hsh}{g:Nat}{T:TypeId}{n:Int}:Av.Spec Tryz.prog GL 271 [.agg 34 [int h,int t,hA r],ptr g] [.var g T (int n)] fun u m=>u=boo (decide (n<=h))/\m=[.var g T (int n)]:=by
 refine qE Tryz.func271 rfl Tryz.ntmps271 rfl (fun _ hs=>?_)
 repeat' first|refine Vz ?_|intro _
 exact reK [.var g T (int n)] ⟨rfl,rfl⟩ (List.sublist_cons_self _ _)
theorem atI_step {l:List Sta}{h:Int}{i:Nat}(hi:i < l.length)(hb:∀ j,(hj:j < i)->¬ h<=(l[j]'(by omega)).h)(hh:h<=l[i].h):atI l h=i:=by
 unfold atI
 rw [List.findIdx_eq hi]
 exact⟨by simpa using hh,fun j hj=>by simpa using hb j hj⟩
theorem atI_none {l:List Sta}{h:Int}(hb:∀ j,(hj:j < l.length)->¬ h<=l[j].h):atI l h=l.length:=by
 unfold atI
 rw [List.findIdx_eq_length]
 intro x hx
 obtain⟨j,hj,rfl⟩:=List.getElem_of_mem hx
 simpa using hb j hj
theorem index_spec {l:List Sta}{xs:List AV}{id:Option Value}[hx:Stas xs l]{g:Nat}{T:TypeId}{n:Int}:Av.Spec Tryz.prog GL 270 [.sl 34 xs id,fnv 271 [.pointer (some ⟨g,0,none⟩)]] [.var g T (int n)] fun u m=>u=int (if atI l n < l.length then (atI l n:Int) else -1)/\m=[.var g T (int n)]:=by
 have h:=hx.out
 subst h
 have hm:(l.map staA).length=l.length:=llm _
 refine qE Tryz.func270 rfl Tryz.ntmps270 rfl (fun _ hs=>?_)
 refine ac_bnd 0 (fun hb=>?_)
 have hb:=maxLen_le hb
 repeat' first|refine Vz ?_|intro _
 refine ac_loop (α:=Nat) (fun i=>[(0,.sl 34 (l.map staA) id),(1,fnv 271 [.pointer (some ⟨g,0,none⟩)]),(7,int (l.map staA).length),(8,int i)]) (fun i=>[.var g T (int n)])
  (fun i=>i<=l.length/\∀ j,(hj:j < l.length)->j < i->¬ n<=l[j].h) (fun i=>l.length - i) 0 ⟨rfl,rfl,rfl,rfl,trivial⟩ slr ⟨Nat.zero_le _,fun _ _ h=>absurd h (by omega)⟩ ?_
 rintro i ⟨hi,hall⟩
 repeat' first|refine Vz ?_|intro _
 refine ac_cond (fun hlt=>?_) (fun hlt=>?_)
 ·have hil:i < l.length:=by omega
  repeat' first|refine Vz ?_|intro _
  refine al_callV (args:=[staA l[i]]) (cs:=[.pointer (some ⟨g,0,none⟩)]) [.var g T (int n)] _ (by rw [hs];exact at1) (fun u m1 hh=>?_) lpr
  obtain⟨rfl,rfl⟩:=hh
  repeat' first|refine Vz ?_|intro _
  refine ac_cond (fun hh=>?_) (fun hh=>?_)
  ·repeat' first|refine Vz ?_|intro _
   refine reK [.var g T (int n)] ⟨?_,rfl⟩ slr
   rw [atI_step hil (fun j hj=>hall j (by omega) hj) hh,if_pos hil]
   rfl
  ·repeat' first|refine Vz ?_|intro _
   refine ae_round (i + 1) ⟨rfl,rfl,rfl,rfl,trivial⟩ slr ⟨hil,fun j hj h=>?_⟩ (by omega)
   rcases Nat.lt_or_ge j i with h2|h2
   ·exact hall j hj h2
   ·obtain rfl:j=i:=by omega
    exact hh
 ·obtain rfl:i=l.length:=by omega
  repeat' first|refine Vz ?_|intro _
  refine reK [.var g T (int n)] ⟨?_,rfl⟩ slr
  rw [atI_none (fun j hj=>hall j hj hj),if_neg (by omega)]
  rfl
theorem atIs_in {l:List Sta}{h:Int}(hl:atI l h < l.length):atIs l h=decide (l[atI l h].h=h):=by
 unfold atIs
 rw [List.getD,List.getElem?_eq_getElem hl]
 simp [hl]
theorem atIs_out {l:List Sta}{h:Int}(hl:¬ atI l h < l.length):atIs l h=false:=by
 unfold atIs
 simp [hl]
instance fnCAt {c k:Bs}{p:Int}{f:Bool}{l:List Sta}{xs:List AV}{id:Option Value}{n:Int}[hx:Stas xs l]:Ans Tryz.prog GL 237 [.agg 5 [str c,str k,int p,boo f,.sl 34 xs id],int n] True (.tup [int (atI l n),boo (atIs l n)]):=⟨fun _=>by
 have h:=hx.out
 subst h
 have hm:(l.map staA).length=l.length:=llm _
 have hle:=atI_le l n
 refine qE Tryz.func237 rfl Tryz.ntmps237 rfl (fun _ hs=>?_)
 refine ac_bndA 0 4 (fun hb=>?_)
 have hb:=maxLen_le hb
 repeat' first|refine Vz ?_|intro _
 rename_i g2 g3
 refine al_makeFunc (vs:=[.pointer (some ⟨g3,0,none⟩)]) ?_
 repeat' first|refine Vz ?_|intro _
 refine al_callK [.var g3 3 (int n)] _ (by rw [hs];exact index_spec (l:=l) (xs:=l.map staA) (id:=id)) (fun u m1 hh=>?_) lpr
 obtain⟨rfl,rfl⟩:=hh
 by_cases hl:atI l n < l.length
 ·rw [if_pos hl,atIs_in hl]
  repeat' first|refine Vz ?_|intro _
  refine reE ?_
  rfl
 ·rw [if_neg hl,atIs_out hl]
  obtain hl:atI l n=l.length:=by omega
  rw [hl]
  repeat' first|refine Vz ?_|intro _
  refine reE ?_
  rw [hm]
  rfl⟩
instance fnCFind {c k:Bs}{p:Int}{f:Bool}{l:List Sta}{xs:List AV}{id:Option Value}{n:Int}[hx:Stas xs l]:Ans Tryz.prog GL 252 [.agg 5 [str c,str k,int p,boo f,.sl 34 xs id],int n] True (.tup [staA ((findC l n).getD zeroS),boo (findC l n).isSome]):=⟨fun _=>by
 have h:=hx.out
 subst h
 have hm:(l.map staA).length=l.length:=llm _
 refine qE Tryz.func252 rfl Tryz.ntmps252 rfl (fun _ hs=>?_)
 cases hi:atIs l n
 all_goals
  unfold findC
  rw [hi]
  repeat' first|refine Vz ?_|intro _
  rw [hi]
  repeat' first|refine Vz ?_|intro _
 focus
  refine reE ?_
  rfl
 have hl:atI l n < l.length:=by
  rcases Nat.lt_or_ge (atI l n) l.length with h|h
  ·exact h
  ·rw [atIs_out (by omega)] at hi;cases hi
 repeat' first|refine Vz ?_|intro _
 refine reE ?_
 rw [List.getD,List.getElem?_eq_getElem hl]
 rfl⟩

theorem all_range {n:Nat}{p:Nat->Bool}:(List.range n).all p=true↔∀ j,j < n->p j=true:=by simp
theorem may_bad {x:Cli}(h:¬ (x.k.length<=64/\1<=x.p/\x.p<=1099511627776/\1<=x.l.length/\x.l.length<=32)):mayC x=false:=by
 unfold mayC
 simp only [h,decide_false,Bool.false_and]
theorem may_at {x:Cli}{i:Nat}(hi:i < x.l.length)(h:mayAt x.c x.l i=false):mayC x=false:=by
 unfold mayC
 rw [Bool.and_eq_false_iff]
 refine .inr (Bool.eq_false_iff.2 fun hh=>?_)
 have:=all_range.1 hh i hi
 rw [h] at this
 cases this
theorem may_ok {x:Cli}(h:x.k.length<=64/\1<=x.p/\x.p<=1099511627776/\1<=x.l.length/\x.l.length<=32)(ha:∀ j,j < x.l.length->mayAt x.c x.l j=true):mayC x=true:=by
 unfold mayC
 simp only [h,decide_true,Bool.true_and,all_range.2 ha,and_self]
theorem mayAt_eq {c:Bs}{l:List Sta}{i:Nat}(hi:i < l.length):mayAt c l i=(chkH ⟨c,l[i].h,l[i].t,l[i].r⟩ && (decide (i=0) || fol (l.getD (i - 1) zeroS) l[i])):=by
 have hg:l.getD i zeroS=l[i]:=by simp [List.getD,hi]
 unfold mayAt
 rw [hg]
 rfl
set_option maxHeartbeats 1000000 in
instance fnMay {c k:Bs}{p:Int}{f:Bool}{l:List Sta}{xs:List AV}{id:Option Value}[hx:Stas xs l]:Ans Tryz.prog GL 175 [.agg 5 [str c,str k,int p,boo f,.sl 34 xs id]] True (boo (mayC ⟨c,k,p,f,l⟩)):=⟨fun _=>by
 have h:=hx.out
 subst h
 have hm:(l.map staA).length=l.length:=llm _
 refine qE Tryz.func175 rfl Tryz.ntmps175 rfl (fun _ hs=>?_)
 refine ac_bndA 0 4 (fun hb=>?_)
 have hb:=maxLen_le hb
 by_cases hok:k.length<=64/\1<=p/\p<=1099511627776/\1<=l.length/\l.length<=32
 ·obtain⟨h1,h2,h3,h4,h5⟩:=hok
  repeat' first|refine Zz ?_|intro _
  rename_i g1
  refine ac_loop (α:=Nat) (fun i=>[(1,ptr g1),(3,boo true),(33,.sl 34 (l.map staA) id),(34,int (l.map staA).length),(35,int i)]) (fun i=>[.var g1 82 (.agg 5 [str c,str k,int p,boo f,.sl 34 (l.map staA) id])])
   (fun i=>i<=l.length/\∀ j,j < i->mayAt c l j=true) (fun i=>l.length - i) 0 ⟨rfl,rfl,rfl,rfl,rfl,trivial⟩ slr ⟨Nat.zero_le _,fun _ h=>absurd h (by omega)⟩ ?_
  rintro i ⟨hi,hall⟩
  repeat' first|refine Vz ?_|intro _
  refine ac_cond (fun hlt=>?_) (fun hlt=>?_)
  ·have hil:i < l.length:=by omega
   have hat:=mayAt_eq (c:=c) hil
   repeat' first|refine Vz ?_|intro _
   cases hc:chkH ⟨c,l[i].h,l[i].t,l[i].r⟩
   ·rw [hc,Bool.false_and] at hat
    repeat' first|refine Vz ?_|intro _
    refine reE ?_
    rw [may_at (x:=⟨c,k,p,f,l⟩) hil hat]
    rfl
   rw [hc,Bool.true_and] at hat
   rcases i with _|i
   ·have h0:∀ j,j < 1->mayAt c l j=true:=fun j hj=>by
     obtain rfl:j=0:=by omega
     rw [hat]
     rfl
    repeat' first|refine Vz ?_|intro _
    refine ae_round 1 ⟨rfl,rfl,rfl,rfl,rfl,trivial⟩ ?_ ⟨hil,h0⟩ (by omega)
    exact sbl
   ·have hil2:i < l.length:=by omega
    have hg2:l.getD (i + 1 - 1) zeroS=l[i]:=by simp [List.getD,hil2]
    rw [hg2,dZ (by omega),Bool.false_or] at hat
    repeat' first|refine Vz ?_|intro _
    rw [dZ (show ¬ (((i + 1:Nat):Int)=0) by omega)]
    repeat' first|refine Vz ?_|intro _
    rw [show (((i + 1:Nat):Int) - 1)=(i:Int) by omega]
    cases hf:fol l[i] l[i + 1]
    ·rw [hf] at hat
     repeat' first|refine Vz ?_|intro _
     rw [hf]
     repeat' first|refine Vz ?_|intro _
     refine reE ?_
     rw [may_at (x:=⟨c,k,p,f,l⟩) hil hat]
     rfl
    ·rw [hf] at hat
     repeat' first|refine Vz ?_|intro _
     rw [hf]
     repeat' first|refine Vz ?_|intro _
     refine ae_round (i + 2) ⟨rfl,rfl,rfl,rfl,rfl,trivial⟩ ?_ ⟨hil,fun j hj=>?_⟩ (by omega)
     ·exact sbl
     rcases Nat.lt_or_ge j (i + 1) with h6|h6
     ·exact hall j h6
     ·obtain rfl:j=i + 1:=by omega
      exact hat
  ·obtain rfl:i=l.length:=by omega
   repeat' first|refine Vz ?_|intro _
   refine reE ?_
   rw [may_ok ⟨h1,h2,h3,h4,h5⟩ hall]
   rfl
 ·rw [may_bad hok]
  repeat' first|refine Vz ?_|intro _
  refine gu1 (fun h=>?_) (fun h6=>?_)
  ·repeat' first|refine Vz ?_|intro _
   refine reE ?_
   rfl
  repeat' first|refine Vz ?_|intro _
  refine gu1 (fun h=>?_) (fun h7=>?_)
  ·repeat' first|refine Vz ?_|intro _
   refine reE ?_
   rfl
  repeat' first|refine Vz ?_|intro _
  refine gu1 (fun h=>?_) (fun h8=>?_)
  ·repeat' first|refine Vz ?_|intro _
   refine reE ?_
   rfl
  repeat' first|refine Vz ?_|intro _
  refine gu1 (fun h=>?_) (fun h9=>?_)
  ·repeat' first|refine Vz ?_|intro _
   refine reE ?_
   rfl
  repeat' first|refine Vz ?_|intro _
  refine cdT ?_
  repeat' first|refine Vz ?_|intro _
  refine reE ?_
  rfl⟩

theorem sta_eq {a:Sta}{h t:Int}{r:Hsh}:(decide (a.h=h) && (decide (a.t=t) && (decide (a.r=r) && true)))=decide (a=⟨h,t,r⟩):=by
 rw [Bool.eq_iff_iff]
 simp only [Bool.and_eq_true,decide_eq_true_eq,and_true]
 constructor
 ·rintro⟨h1,h2,h3⟩
  cases a
  simp_all
 ·rintro rfl
  exact⟨rfl,rfl,rfl⟩
theorem imp_zeroC {n:Int}:Imp (.tup [.agg 5 [str [],str [],int 0,boo false,nils],int n]) (.tup [cliA zeroC,int n]):=(ImpR.imp:Imp _ (.tup [.agg 5 [str [],str [],int 0,boo false,.sl 34 [] none],int n]))
theorem imp_cli {c k:Bs}{p:Int}{f:Bool}{l:List Sta}{id:Option Value}{n:Int}:Imp (.tup [.agg 5 [str c,str k,int p,boo f,.sl 34 (l.map staA) id],int n]) (.tup [cliA ⟨c,k,p,f,l⟩,int n]):=(ImpR.imp:Imp _ (.tup [.agg 5 [str c,str k,int p,boo f,.sl 34 (l.map staA) none],int n]))
theorem imp_cli1 {c k:Bs}{p:Int}{f:Bool}{l:List Sta}{id:Option Value}:Imp (.agg 5 [str c,str k,int p,boo f,.sl 34 (l.map staA) id]) (cliA ⟨c,k,p,f,l⟩):=(ImpR.imp:Imp _ (.agg 5 [str c,str k,int p,boo f,.sl 34 (l.map staA) none]))
set_option maxHeartbeats 1000000 in
instance fnRMay {c k:Bs}{p:Int}{f:Bool}{l:List Sta}{xs:List AV}{id:Option Value}[hx:Stas xs l]:Ans Tryz.prog GL 40 [.agg 5 [str c,str k,int p,boo f,.sl 34 xs id]] True (boo (mayC ⟨c,k,p,f,l⟩)):=⟨fun _=>by
 have h:=hx.out
 subst h
 have hm:(l.map staA).length=l.length:=llm _
 refine qE Tryz.func40 rfl Tryz.ntmps40 rfl (fun _ hs=>?_)
 refine ac_bndA 0 4 (fun hb=>?_)
 have hb:=maxLen_le hb
 by_cases hok:(1<=c.length/\c.length<=32)/\k.length<=64/\1<=p/\p<=1099511627776/\1<=l.length/\l.length<=32
 ·obtain⟨⟨h0,h00⟩,h1,h2,h3,h4,h5⟩:=hok
  repeat' first|refine Zz ?_|intro _
  rename_i g1
  refine ac_loop (α:=Nat) (fun i=>[(1,ptr g1),(3,int i)]) (fun i=>[.var g1 82 (.agg 5 [str c,str k,int p,boo f,.sl 34 (l.map staA) id])])
   (fun i=>i<=l.length/\∀ j,j < i->mayAt c l j=true) (fun i=>l.length - i) 0 ⟨rfl,rfl,trivial⟩ slr ⟨Nat.zero_le _,fun _ h=>absurd h (by omega)⟩ ?_
  rintro i ⟨hi,hall⟩
  repeat' first|refine Vz ?_|intro _
  refine ac_cond (fun hlt=>?_) (fun hlt=>?_)
  ·have hil:i < l.length:=by omega
   have hat:=mayAt_eq (c:=c) hil
   repeat' first|refine Vz ?_|intro _
   cases hc:chkH ⟨c,l[i].h,l[i].t,l[i].r⟩
   ·rw [hc,Bool.false_and] at hat
    repeat' first|refine Vz ?_|intro _
    refine reE ?_
    rw [may_at (x:=⟨c,k,p,f,l⟩) hil hat]
    rfl
   rw [hc,Bool.true_and] at hat
   rcases i with _|i
   ·have h0:∀ j,j < 1->mayAt c l j=true:=fun j hj=>by
     obtain rfl:j=0:=by omega
     rw [hat]
     rfl
    repeat' first|refine Vz ?_|intro _
    refine ae_round 1 ⟨rfl,rfl,trivial⟩ ?_ ⟨hil,h0⟩ (by omega)
    exact sbl
   ·have hil2:i < l.length:=by omega
    have hg2:l.getD (i + 1 - 1) zeroS=l[i]:=by simp [List.getD,hil2]
    rw [hg2,dZ (by omega),Bool.false_or] at hat
    repeat' first|refine Vz ?_|intro _
    rw [dT (show (0:Int) < ((i + 1:Nat):Int) by omega)]
    repeat' first|refine Vz ?_|intro _
    rw [show (((i + 1:Nat):Int) - 1)=(i:Int) by omega]
    repeat' first|refine Vz ?_|intro _
    by_cases hq:l[i + 1].h<=l[i].h
    ·have hf:fol l[i] l[i + 1]=false:=by simp [fol];omega
     rw [dT hq]
     repeat' first|refine Vz ?_|intro _
     refine reE ?_
     rw [may_at (x:=⟨c,k,p,f,l⟩) hil (hat.trans hf)]
     rfl
    ·rw [dZ hq]
     repeat' first|refine Vz ?_|intro _
     rw [show (((i + 1:Nat):Int) - 1)=(i:Int) by omega]
     repeat' first|refine Vz ?_|intro _
     refine ac_cond (fun hh=>?_) (fun hh=>?_)
     ·have hf:fol l[i] l[i + 1]=false:=by simp [fol];omega
      repeat' first|refine Vz ?_|intro _
      refine reE ?_
      rw [may_at (x:=⟨c,k,p,f,l⟩) hil (hat.trans hf)]
      rfl
     ·have hf:fol l[i] l[i + 1]=true:=by simp [fol];omega
      repeat' first|refine Vz ?_|intro _
      refine ae_round (i + 2) ⟨rfl,rfl,trivial⟩ ?_ ⟨hil,fun j hj=>?_⟩ (by omega)
      ·exact sbl
      rcases Nat.lt_or_ge j (i + 1) with h6|h6
      ·exact hall j h6
      ·obtain rfl:j=i + 1:=by omega
       exact hat.trans hf
  ·obtain rfl:i=l.length:=by omega
   repeat' first|refine Vz ?_|intro _
   refine reE ?_
   rw [may_ok ⟨h1,h2,h3,h4,h5⟩ hall]
   rfl
 ·have hmay:mayC ⟨c,k,p,f,l⟩=false:=by
   by_cases h0:k.length<=64/\1<=p/\p<=1099511627776/\1<=l.length/\l.length<=32
   ·refine may_at (x:=⟨c,k,p,f,l⟩) (i:=0) h0.2.2.2.1 ?_
    have hc:chkH ⟨c,(l[0]'h0.2.2.2.1).h,(l[0]'h0.2.2.2.1).t,(l[0]'h0.2.2.2.1).r⟩=false:=by
     unfold chkH
     rw [decide_eq_false_iff_not]
     rintro⟨e1,e2,_⟩
     exact hok ⟨⟨e1,e2⟩,h0⟩
    rw [mayAt_eq h0.2.2.2.1,hc,Bool.false_and]
   ·exact may_bad h0
  rw [hmay]
  repeat' first|refine Vz ?_|intro _
  refine gu1 (fun h=>?_) (fun h4=>?_)
  ·repeat' first|refine Vz ?_|intro _
   refine reE ?_
   rfl
  repeat' first|refine Vz ?_|intro _
  refine gu1 (fun h=>?_) (fun h5=>?_)
  ·repeat' first|refine Vz ?_|intro _
   refine reE ?_
   rfl
  repeat' first|refine Vz ?_|intro _
  refine gu1 (fun h=>?_) (fun h6=>?_)
  ·repeat' first|refine Vz ?_|intro _
   refine reE ?_
   rfl
  repeat' first|refine Vz ?_|intro _
  refine gu1 (fun h=>?_) (fun h7=>?_)
  ·repeat' first|refine Vz ?_|intro _
   refine reE ?_
   rfl
  repeat' first|refine Vz ?_|intro _
  refine gu1 (fun h=>?_) (fun h8=>?_)
  ·repeat' first|refine Vz ?_|intro _
   refine reE ?_
   rfl
  repeat' first|refine Vz ?_|intro _
  refine gu1 (fun h=>?_) (fun h9=>?_)
  ·repeat' first|refine Vz ?_|intro _
   refine reE ?_
   rfl
  repeat' first|refine Vz ?_|intro _
  refine cdT ?_
  repeat' first|refine Vz ?_|intro _
  refine reE ?_
  rfl⟩
instance fnRNew {k c:Bs}{p h t:Int}{r:Hsh}:Ans Tryz.prog GL 17 [str k,int p,.agg 35 [str c,int h,int t,hA r]] True (.tup [cliA (newR k p ⟨c,h,t,r⟩),int (newE k p ⟨c,h,t,r⟩)]):=⟨fun _=>by
 refine qE Tryz.func17 rfl Tryz.ntmps17 rfl (fun _ hs=>?_)
 unfold newR newE
 cases hm:mayC (newC k p ⟨c,h,t,r⟩)
 all_goals
  repeat' first|refine Vz ?_|intro _
  rw [show mayC ⟨c,k,p,false,[⟨h,t,r⟩]⟩=_ from hm]
  repeat' first|refine Vz ?_|intro _
  refine reI ?_
 ·exact imp_zeroC
 ·exact imp_cli (c:=c) (k:=k) (p:=p) (f:=false) (l:=[⟨h,t,r⟩]) (id:=none) (n:=0)⟩
end Go.Proofs.YtlkkekpcofjbeaaGreatDoor
