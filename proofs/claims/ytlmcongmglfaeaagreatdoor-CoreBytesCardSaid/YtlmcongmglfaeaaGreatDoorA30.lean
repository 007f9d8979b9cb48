/- headers read, the references' way; clients written and read -/
import Derived.Test.YtlmcongmglfaeaaGreatDoorA16
import Derived.Test.YtlmcongmglfaeaaGreatDoorA21
import Derived.Test.YtlmcongmglfaeaaGreatDoorA23
import Derived.Test.YtlmcongmglfaeaaGreatDoorA25
import Derived.Test.YtlmcongmglfaeaaGreatDoorA26
import Derived.Test.YtlmcongmglfaeaaGreatDoorA27
import Derived.Test.YtlmcongmglfaeaaGreatDoorA29
namespace Go.Proofs.YtlmcongmglfaeaaGreatDoor
open Go Go.RowKit Tw Av
theorem keyB_len (k:Bs):(keyB k).length=64:=by rw [keyB,copyB_len];simp [zeros]
theorem ofH1 (a:Bs):ofH [a]=shaH a:=by simp [ofH]
theorem ofH2 (a b:Bs):ofH [a,b]=shaH (a++b):=by simp [ofH]
abbrev kbA (l:Bs):AV:=.agg 64 (l.map u8A)
instance fnSBlock {k:Bs}:Ans Tryz.prog GL 385 [str k] (k.length<=1000000) (kbA (keyB k)):=⟨fun hk=>by
 refine qE Tryz.func385 rfl Tryz.ntmps385 rfl (fun _ hs=>?_)
 repeat' first|refine Vz ?_|intro _
 refine ac_cond (fun h1=>?_) (fun h1=>?_)
 ·have:LenLe k 1000000:=⟨hk⟩
  repeat' first|refine Vz ?_|intro _
  rw [ofH1]
  refine al_copyS (l:=zeros 64) (a:=(shaH k).l) rfl ?_
  repeat' first|refine Vz ?_|intro _
  refine reE ?_
  rw [keyB,if_pos (by omega)]
  rfl
 ·repeat' first|refine Vz ?_|intro _
  refine al_copyS (l:=zeros 64) (a:=k) rfl ?_
  repeat' first|refine Vz ?_|intro _
  refine reE ?_
  rw [keyB,if_neg (by omega)]
  rfl⟩
theorem put1 {g:Nat}{a b:UInt8}{T:TypeId}:Av.Spec Tryz.prog GL 395 [u8A a,ptr g] [.var g T (u8A b)] fun u m=>u=u8A (a ^^^ b)/\m=[.var g T (u8A b)]:=by
 refine qE Tryz.func395 rfl Tryz.ntmps395 rfl (fun _ hs=>?_)
 repeat' first|refine Vz ?_|intro _
 exact reK [.var g T (u8A b)] ⟨rfl,rfl⟩ slr
theorem xor_next {l:Bs}{b:UInt8}{i:Nat}(h:i < l.length):(xorB b (l.take i)++l.drop i).set i (l[i] ^^^ b)=xorB b (l.take (i + 1))++l.drop (i + 1):=by
 have h1:(xorB b (l.take i)).length=i:=by simp [xorB];omega
 rw [List.set_append,if_neg (by omega),h1,Nat.sub_self,List.drop_eq_getElem_cons h,List.set_cons_zero,List.take_succ_eq_append_getElem h,xorB,xorB,List.map_append,laa]
 rfl
theorem sput {l:Bs}(hl:l.length=64)(b:UInt8)(B:Int)(hB:B=b.toNat):SpecE Tryz.prog GL 386 [kbA l,.lit (.int .u8 B)] (str (xorB b l)):=by
 subst hB
 refine qE Tryz.func386 rfl Tryz.ntmps386 rfl (fun _ hs=>?_)
 repeat' first|refine Vz ?_|intro _
 rename_i g2 g3
 refine al_makeFunc (vs:=[.pointer (some ⟨g3,0,none⟩)]) ?_
 repeat' first|refine Vz ?_|intro _
 refine ac_loop (α:=Nat) (fun i=>[(2,ptr g2),(5,fnv 395 [.pointer (some ⟨g3,0,none⟩)]),(9,kbA l),(10,int i)])
  (fun i=>[.var g3 5 (u8A b),.var g2 354 (kbA (xorB b (l.take i)++l.drop i))]) (fun i=>i<=64) (fun i=>64 - i) 0 ⟨rfl,rfl,rfl,rfl,trivial⟩ ?_ (Nat.zero_le _) ?_
 ·exact sbl
 intro i hi
 have hlen:(xorB b (l.take i)++l.drop i).length=64:=by simp [xorB];omega
 repeat' first|refine Vz ?_|intro _
 refine ac_cond (fun hlt=>?_) (fun hlt=>?_)
 ·have hil:i < l.length:=by omega
  repeat' first|refine Vz ?_|intro _
  refine al_index (ps:=l.map u8A) (u:=u8A l[i]) i ?_ rfl (by omega) (by simp [hil]) (by intro p hp;obtain⟨c,_,rfl⟩:=List.mem_map.1 hp;rfl) rfl
  repeat' first|refine Vz ?_|intro _
  refine al_callV (args:=[u8A l[i]]) (cs:=[.pointer (some ⟨g3,0,none⟩)]) [.var g3 5 (u8A b)] _ (by rw [hs];exact put1) (fun u m1 hh=>?_) lpr
  obtain⟨rfl,rfl⟩:=hh
  repeat' first|refine Vz ?_|intro _
  refine al_idxA i ?_
  refine al_storeE (j:=i) (ps:=(xorB b (l.take i)++l.drop i).map u8A) (by simp only [List.length_map];omega) ?_
  repeat' first|refine Vz ?_|intro _
  rw [show ((xorB b (l.take i)++l.drop i).map u8A).set i (u8A (l[i] ^^^ b))=((xorB b (l.take i)++l.drop i).set i (l[i] ^^^ b)).map u8A by rw [List.map_set],xor_next hil]
  refine ae_round (i + 1) ⟨rfl,rfl,rfl,rfl,trivial⟩ ?_ (by omega) (by omega)
  exact sbl
 ·obtain rfl:i=64:=by omega
  rw [List.take_of_length_le (by omega),List.drop_of_length_le (by omega),List.append_nil]
  repeat' first|refine Vz ?_|intro _
  refine reE ?_
  rfl
theorem ImpC.one {n:Nat}{ps:List AV}:ImpC (.agg n [.agg n ps]) (.agg n ps):=fun ok w cs h=>by
 rw [RC] at h
 obtain⟨h1,h2⟩:=h
 rw [RCs] at h2
 obtain⟨c1,c2,rfl,h3,h4⟩:=h2
 rw [RCs] at h4
 subst h4
 rwa [List.append_nil]
theorem snew {k:Bs}(hk:k.length<=1000000):Av.Spec Tryz.prog GL 369 [str k] [] fun u m=>∃ g,u=ptr g/\m=[.var g 374 (kbA (keyB k))]:=by
 refine qE Tryz.func369 rfl Tryz.ntmps369 rfl (fun _ hs=>?_)
 repeat' first|refine Vz ?_|intro _
 rename_i g
 refine ae_asV (g:=g) (v':=kbA (keyB k)) ImpC.one ?_
 exact reK [.var g 374 (kbA (keyB k))] ⟨g,rfl,rfl⟩ slr
theorem xorB_len (b:UInt8)(l:Bs):(xorB b l).length=l.length:=llm _
theorem flat_next {l:List Bs}{i:Nat}(h:i < l.length):(l.take (i + 1)).flatten=(l.take i).flatten++l[i]:=by
 rw [List.take_succ_eq_append_getElem h,List.flatten_append]
 simp
theorem flat_le {l:List Bs}(i:Nat):(l.take i).flatten.length<=l.flatten.length:=by
 have h:=congrArg (fun q=>(List.flatten q).length) (List.take_append_drop i l)
 simp only [List.flatten_append,List.length_append] at h
 omega
theorem sseal {g:Nat}{kb:Bs}{l:List Bs}{id:Option Value}(hk:kb.length=64)(hl:l.flatten.length<=1000000000000)(hn:l.length<=1000000000000):Av.Spec Tryz.prog GL 370 [ptr g,.sl 1 (l.map str) id] [.var g 374 (kbA kb)] fun u m=>u=hA (shaH (xorB 92 kb++(shaH (xorB 54 kb++l.flatten)).l))/\m=[]:=by
 have hlm:(l.map str).length=l.length:=llm _
 refine qE Tryz.func370 rfl Tryz.ntmps370 rfl (fun _ hs=>?_)
 repeat' first|refine Vz ?_|intro _
 refine al_callK [] _ (by rw [hs];exact hnew) (fun u m1 hh=>?_) lpr
 obtain⟨gh,rfl,rfl⟩:=hh
 repeat' first|refine Vz ?_|intro _
 refine al_callK [] _ (by rw [hs];exact sput hk 54 54 rfl) (fun u m1 hh=>?_) lpr
 obtain⟨rfl,rfl⟩:=hh
 refine al_callK [.var gh 356 (hshA h0 (zeros 64) 0)] _ (by rw [hs];exact hwrite (M:=[]) (s:=xorB 54 kb) HS.nil (by simp [xorB_len];omega)) (fun u m1 hh=>?_) lpr
 obtain⟨rfl,x0,b0,hH0,rfl⟩:=hh
 rw [List.nil_append] at hH0 ⊢
 repeat' first|refine Vz ?_|intro _
 rename_i g4 g5
 refine ac_loop (α:=Nat × H8 × Bs) (fun q=>[(4,ptr g4),(5,ptr g5),(6,ptr gh),(20,.sl 1 (l.map str) id),(21,int (l.map str).length),(22,int q.1)])
  (fun q=>[.var gh 356 (hshA q.2.1 q.2.2 (xorB 54 kb++(l.take q.1).flatten).length),.var g5 354 (kbA kb),.var g4 38 (hA zeroH)]) (fun q=>q.1<=l.length/\HS (xorB 54 kb++(l.take q.1).flatten) q.2.1 q.2.2) (fun q=>l.length - q.1) (0,x0,b0) ⟨rfl,rfl,rfl,rfl,rfl,rfl,trivial⟩ ?_ ⟨Nat.zero_le _,by simpa using hH0⟩ ?_
 ·dsimp only
  rw [List.take_zero,List.flatten_nil,List.append_nil]
  exact sbl
 rintro⟨i,x,b⟩ ⟨hi,hH⟩
 dsimp only at hi hH ⊢
 repeat' first|refine Vz ?_|intro _
 have hle:=flat_le (l:=l) i
 refine ac_cond (fun hlt=>?_) (fun hlt=>?_)
 ·have hil:i < l.length:=by omega
  have hle2:=flat_le (l:=l) (i + 1)
  have hfn:=flat_next hil
  rw [hfn,lla] at hle2
  repeat' first|refine Vz ?_|intro _
  refine al_callK [.var gh 356 (hshA x b (xorB 54 kb++(l.take i).flatten).length)] _ (by rw [hs];exact hwrite (s:=l[i]) hH (by rw [lla,xorB_len];omega)) (fun u m1 hh=>?_) lpr
  obtain⟨rfl,x',b',hH',rfl⟩:=hh
  rw [laa,<- hfn] at hH' ⊢
  repeat' first|refine Vz ?_|intro _
  refine ae_round (i + 1,x',b') ⟨rfl,rfl,rfl,rfl,rfl,rfl,trivial⟩ ?_ ⟨hil,hH'⟩ (by dsimp only;omega)
  exact sbl
 ·obtain rfl:i=l.length:=by omega
  rw [List.take_length] at hH ⊢
  repeat' first|refine Vz ?_|intro _
  refine al_callK [] _ (by rw [hs];exact sput hk 92 92 rfl) (fun u m1 hh=>?_) lpr
  obtain⟨rfl,rfl⟩:=hh
  repeat' first|refine Vz ?_|intro _
  refine al_callK [.var gh 356 (hshA x b (xorB 54 kb++l.flatten).length)] _ (by rw [hs];exact hsum hH (by rw [lla,xorB_len];omega)) (fun u m1 hh=>?_) lpr
  obtain⟨rfl,rfl⟩:=hh
  have:LenLe (xorB 92 kb) 64:=⟨by rw [xorB_len];omega⟩
  repeat' first|refine Vz ?_|intro _
  rw [ofH2]
  repeat' first|refine Vz ?_|intro _
  exact reK [] ⟨rfl,rfl⟩ (List.nil_sublist _)
instance fnSeal {k s:Bs}:Ans Tryz.prog GL 348 [str k,str s] (k.length<=1000000/\s.length<=1000000000) (hA (sealH k s)):=⟨fun hp=>by
 obtain⟨hk,hsl⟩:=hp
 refine qE Tryz.func348 rfl Tryz.ntmps348 rfl (fun _ hs=>?_)
 repeat' first|refine Vz ?_|intro _
 refine al_callK [] _ (by rw [hs];exact snew hk) (fun u m1 hh=>?_) lpr
 obtain⟨g,rfl,rfl⟩:=hh
 repeat' first|refine Vz ?_|intro _
 refine al_callK [.var g 374 (kbA (keyB k))] _ (by rw [hs];exact sseal (l:=[s]) (id:=none) (keyB_len k) (by simpa using by omega) (by simp)) (fun u m1 hh=>?_) lpr
 obtain⟨rfl,rfl⟩:=hh
 repeat' first|refine Vz ?_|intro _
 refine reE ?_
 rw [sealH]
 simp [outOf]⟩

theorem keyB_at (k:Bs){i:Nat}(h:i < 64):(keyB k).getD i 0=if i < (if 64 < k.length then (shaH k).l else k).length then (if 64 < k.length then (shaH k).l else k).getD i 0 else 0:=by
 have hl:(if 64 < k.length then (shaH k).l else k).length<=64:=by
  split
  ·rw [Hsh.len];omega
  ·omega
 have hz:(zeros 64).length=64:=by simp [zeros]
 have he:keyB k=(if 64 < k.length then (shaH k).l else k)++(zeros 64).drop (if 64 < k.length then (shaH k).l else k).length:=by rw [keyB,copyB,hz,List.take_of_length_le hl]
 rw [he]
 generalize (if 64 < k.length then (shaH k).l else k)=q at *
 by_cases hi:i < q.length
 ·rw [if_pos hi,List.getD,List.getD,List.getElem?_append_left hi]
 ·rw [if_neg hi,List.getD,List.getElem?_append_right (by omega),zeros,List.drop_replicate,List.getElem?_replicate,if_pos (by omega)]
  rfl
theorem xor_snoc {l:Bs}{b:UInt8}{i:Nat}(h:i < l.length):xorB b (l.take i)++[l[i] ^^^ b]=xorB b (l.take (i + 1)):=by
 rw [List.take_succ_eq_append_getElem h,xorB,xorB,List.map_append]
 rfl
instance fnRSeal {k s:Bs}:Ans Tryz.prog GL 117 [str k,str s] (k.length<=1000000/\s.length<=1000000000) (hA (sealH k s)):=⟨fun hp=>by
 obtain⟨hk,hsl⟩:=hp
 have hkl:=keyB_len k
 have hkt:=fun i h=>keyB_at k (i:=i) h
 refine qE Tryz.func117 rfl Tryz.ntmps117 rfl (fun _ hs=>?_)
 repeat' first|refine Vz ?_|intro _
 rename_i g4
 refine ac_mid (α:=Unit) (fun _=>[(0,str (if 64 < k.length then (shaH k).l else k)),(1,str s),(4,ptr g4)]) (fun _=>[.var g4 38 (hA zeroH)]) ?_ (fun _=>?_)
 ·refine ac_cond (fun h1=>?_) (fun h1=>?_)
  ·have:LenLe k 1000000:=⟨hk⟩
   repeat' first|refine Vz ?_|intro _
   exact ae_cut () ⟨by rw [if_pos (by omega)];rfl,rfl,rfl,trivial⟩ slr
  ·repeat' first|refine Vz ?_|intro _
   exact ae_cut () ⟨by rw [if_neg (by omega)];rfl,rfl,rfl,trivial⟩ slr
 generalize (if 64 < k.length then (shaH k).l else k)=q at *
 generalize hK:keyB k=K at *
 repeat' first|refine Vz ?_|intro _
 refine ac_as 5 (Imp.nil (k:=1)) ?_
 refine ac_as 6 (Imp.nil (k:=1)) ?_
 refine ac_st (fun ok w h=>h.full 5 1 none 0) ?_
 refine ac_st (fun ok w h=>h.full 5 1 none 0) ?_
 refine ac_loop (α:=Nat × Value × Value) (fun z=>[(0,str q),(1,str s),(4,ptr g4),(5,.sl 1 ((xorB 54 (K.take z.1)).map u8A) (some z.2.1)),(6,.sl 1 ((xorB 92 (K.take z.1)).map u8A) (some z.2.2)),(7,int z.1)])
  (fun z=>[.tail 5 1 z.2.1,.tail 5 1 z.2.2,.var g4 38 (hA zeroH)]) (fun z=>z.1<=64) (fun z=>64 - z.1) (0,.slice none 0 0,.slice none 0 0) ⟨rfl,rfl,rfl,rfl,rfl,rfl,trivial⟩ slr (Nat.zero_le _) ?_
 rintro⟨i,v5,v6⟩ hi
 dsimp only at hi ⊢
 repeat' first|refine Vz ?_|intro _
 refine ac_cond (fun hlt=>?_) (fun hlt=>?_)
 ·have hi64:i < 64:=by omega
  have hc:=hkt i hi64
  have hl5:(xorB 54 (K.take i)).length=i:=by rw [xorB_len,List.length_take];omega
  have hl6:(xorB 92 (K.take i)).length=i:=by rw [xorB_len,List.length_take];omega
  have hx5:=xor_snoc (b:=54) (l:=K) (i:=i) (by omega)
  have hx6:=xor_snoc (b:=92) (l:=K) (i:=i) (by omega)
  have hge:K[i]'(by omega)=K.getD i 0:=by simp [List.getD,show i < K.length by omega]
  rw [hge] at hx5 hx6
  generalize hcc:K.getD i 0=c at *
  repeat' first|refine Vz ?_|intro _
  refine ac_mid (α:=Unit) (fun _=>[(0,str q),(1,str s),(4,ptr g4),(5,.sl 1 ((xorB 54 (K.take i)).map u8A) (some v5)),(6,.sl 1 ((xorB 92 (K.take i)).map u8A) (some v6)),(7,int i),(8,u8A c)]) (fun _=>[.tail 5 1 v5,.tail 5 1 v6,.var g4 38 (hA zeroH)]) ?_ (fun _=>?_)
  ·refine ac_cond (fun h1=>?_) (fun h1=>?_)
   ·have hiq:i < q.length:=by omega
    repeat' first|refine Vz ?_|intro _
    refine al_idxS (c:=c) (b:=q) i ?_ (by rw [hc,if_pos hiq];simp [List.getD,hiq])
    repeat' first|refine Vz ?_|intro _
    exact ae_cut () ⟨rfl,rfl,rfl,rfl,rfl,rfl,rfl,trivial⟩ slr
   ·rw [hc,if_neg (by omega)]
    repeat' first|refine Vz ?_|intro _
    exact ae_cut () ⟨rfl,rfl,rfl,rfl,rfl,rfl,rfl,trivial⟩ slr
  ·repeat' first|refine Vz ?_|intro _
   refine al_append (fun v5'=>?_)
   repeat' first|refine Vz ?_|intro _
   refine al_append (fun v6'=>?_)
   repeat' first|refine Vz ?_|intro _
   refine ae_as 5 (v':=.sl 1 ((xorB 54 (K.take (i + 1))).map u8A) (some v5')) (Imp.of_eq (by rw [<- hx5,List.map_append])) ?_
   refine ae_as 6 (v':=.sl 1 ((xorB 92 (K.take (i + 1))).map u8A) (some v6')) (Imp.of_eq (by rw [<- hx6,List.map_append])) ?_
   exact ae_round (i + 1,v5',v6') ⟨rfl,rfl,rfl,rfl,rfl,rfl,trivial⟩ slr (by omega) (by dsimp only;omega)
 ·obtain rfl:i=64:=by omega
  rw [List.take_of_length_le (by omega)]
  have:LenLe (xorB 54 K) 64:=⟨by rw [xorB_len];omega⟩
  have:LenLe (xorB 92 K) 64:=⟨by rw [xorB_len];omega⟩
  have:LenLe s 1000000000:=⟨hsl⟩
  repeat' first|refine Vz ?_|intro _
  refine reE ?_
  rw [sealH,hK]
  rfl⟩
instance fnHeader {c:Bs}{h t:Int}{r:Hsh}:Ans Tryz.prog GL 291 [.agg 35 [str c,int h,int t,hA r]] (h<=9223372036854775807/\t<=9223372036854775807) (str (hdrB ⟨c,h,t,r⟩)):=⟨fun hp=>by
 obtain⟨h1,h2⟩:=hp
 refine qE Tryz.func291 rfl Tryz.ntmps291 rfl (fun _ hs=>?_)
 repeat' first|refine Vz ?_|intro _
 refine reE ?_
 rfl⟩
instance fnRHeader {c:Bs}{h t:Int}{r:Hsh}:Ans Tryz.prog GL 118 [.agg 35 [str c,int h,int t,hA r]] (h<=9223372036854775807/\t<=9223372036854775807) (str (hdrB ⟨c,h,t,r⟩)):=⟨fun hp=>by
 obtain⟨h1,h2⟩:=hp
 refine qE Tryz.func118 rfl Tryz.ntmps118 rfl (fun _ hs=>?_)
 repeat' first|refine Vz ?_|intro _
 refine reE ?_
 rfl⟩
theorem hdrB_len (x:Hdr):(hdrB x).length<=100000000:=by
 have h1:=(inferInstance:LenLe (tlvT 99 x.c++tlvI 104 x.h++tlvI 116 x.t++tlvT 114 x.r.l) _).out
 unfold hdrB
 omega
instance fnCSeal {k c:Bs}{h t:Int}{r:Hsh}:Ans Tryz.prog GL 292 [str k,.agg 35 [str c,int h,int t,hA r]] (k.length<=1000000/\h<=9223372036854775807/\t<=9223372036854775807) (hA (sealOf k ⟨c,h,t,r⟩)):=⟨fun hp=>by
 obtain⟨h0,h1,h2⟩:=hp
 have h3:=hdrB_len ⟨c,h,t,r⟩
 refine qE Tryz.func292 rfl Tryz.ntmps292 rfl (fun _ hs=>?_)
 repeat' first|refine Vz ?_|intro _
 refine reE ?_
 rfl⟩
instance fnRCSeal {k c:Bs}{h t:Int}{r:Hsh}:Ans Tryz.prog GL 44 [str k,.agg 35 [str c,int h,int t,hA r]] (k.length<=1000000/\h<=9223372036854775807/\t<=9223372036854775807) (hA (sealOf k ⟨c,h,t,r⟩)):=⟨fun hp=>by
 obtain⟨h0,h1,h2⟩:=hp
 have h3:=hdrB_len ⟨c,h,t,r⟩
 refine qE Tryz.func44 rfl Tryz.ntmps44 rfl (fun _ hs=>?_)
 repeat' first|refine Vz ?_|intro _
 refine reE ?_
 rfl⟩
instance fnState {c:Bs}{h t:Int}{r:Hsh}:Ans Tryz.prog GL 146 [.agg 35 [str c,int h,int t,hA r]] True (.agg 34 [int h,int t,hA r]):=⟨fun _=>by
 refine qE Tryz.func146 rfl Tryz.ntmps146 rfl (fun _ hs=>?_)
 repeat' first|refine Vz ?_|intro _
 refine reE ?_
 rfl⟩
instance fnHdr {c:Bs}{h t:Int}{r:Hsh}:Ans Tryz.prog GL 256 [str c,.agg 34 [int h,int t,hA r]] True (.agg 35 [str c,int h,int t,hA r]):=⟨fun _=>by
 refine qE Tryz.func256 rfl Tryz.ntmps256 rfl (fun _ hs=>?_)
 repeat' first|refine Vz ?_|intro _
 refine reE ?_
 rfl⟩
instance fnRHdr {c k:Bs}{p:Int}{f:Bool}{X:AV}{h t:Int}{r:Hsh}:Ans Tryz.prog GL 191 [.agg 5 [str c,str k,int p,boo f,X],.agg 34 [int h,int t,hA r]] True (.agg 35 [str c,int h,int t,hA r]):=⟨fun _=>by
 refine qE Tryz.func191 rfl Tryz.ntmps191 rfl (fun _ hs=>?_)
 repeat' first|refine Vz ?_|intro _
 refine reE ?_
 rfl⟩
instance fnCheck {c:Bs}{h t:Int}{r:Hsh}:Ans Tryz.prog GL 255 [.agg 35 [str c,int h,int t,hA r]] True (boo (chkH ⟨c,h,t,r⟩)):=⟨fun _=>by
 rcases c with _|⟨a,c⟩
 ·refine qE Tryz.func255 rfl Tryz.ntmps255 rfl (fun _ hs=>?_)
  repeat' (first|refine W ?_|refine op2 ?_|refine ob4 ?_|intro _|refine ob2 (fun _=>?_)|refine ac_cond ?_ ?_|refine ac_condB ?_ ?_|refine gu1 ?_ ?_|refine gu2 ?_ ?_)
  refine reE ?_
  simp [outOf,chkH]
 ·refine qE Tryz.func255 rfl Tryz.ntmps255 rfl (fun _ hs=>?_)
  repeat' (first|refine W ?_|refine op2 ?_|refine ob4 ?_|intro _|refine ob2 (fun _=>?_)|refine ac_cond ?_ ?_|refine ac_condB ?_ ?_|refine gu1 ?_ ?_|refine gu2 ?_ ?_)
  all_goals (refine reE ?_;refine boo_iff ?_;simp only [chkH,decide_eq_true_eq,Bool.false_eq_true,false_iff,List.length_cons] at *;omega)⟩
instance fnRCheck {c:Bs}{h t:Int}{r:Hsh}:Ans Tryz.prog GL 258 [.agg 35 [str c,int h,int t,hA r]] True (boo (chkH ⟨c,h,t,r⟩)):=⟨fun _=>by
 refine qE Tryz.func258 rfl Tryz.ntmps258 rfl (fun _ hs=>?_)
 repeat' (first|refine W ?_|refine op2 ?_|refine ob4 ?_|intro _|refine ob2 (fun _=>?_)|refine ac_cond ?_ ?_|refine ac_condB ?_ ?_|refine gu1 ?_ ?_|refine gu2 ?_ ?_)
 all_goals (refine reE ?_;refine boo_iff ?_;simp only [chkH,decide_eq_true_eq,Bool.false_eq_true,false_iff] at *;omega)⟩
instance fnFollows {h t h' t':Int}{r r':Hsh}:Ans Tryz.prog GL 257 [.agg 34 [int h,int t,hA r],.agg 34 [int h',int t',hA r']] True (boo (fol ⟨h,t,r⟩ ⟨h',t',r'⟩)):=⟨fun _=>by
 refine qE Tryz.func257 rfl Tryz.ntmps257 rfl (fun _ hs=>?_)
 repeat' (first|refine W ?_|refine op2 ?_|refine ob4 ?_|intro _|refine ob2 (fun _=>?_)|refine ac_cond ?_ ?_|refine ac_condB ?_ ?_|refine gu1 ?_ ?_|refine gu2 ?_ ?_)
 all_goals (refine reE ?_;refine boo_iff ?_;simp only [fol,decide_eq_true_eq,Bool.false_eq_true,false_iff] at *;omega)⟩
instance fnLast {l:List Sta}{xs:List AV}{id:Option Value}[hx:Stas xs l]:Ans Tryz.prog GL 301 [.sl 34 xs id] True (staA (latC l)):=⟨fun _=>by
 have h:=hx.out
 subst h
 have hm:(l.map staA).length=l.length:=llm _
 refine qE Tryz.func301 rfl Tryz.ntmps301 rfl (fun _ hs=>?_)
 refine ac_bnd 0 (fun hb=>?_)
 have hb:=maxLen_le hb
 repeat' first|refine Vz ?_|intro _
 refine ac_cond (fun h1=>?_) (fun h1=>?_)
 ·repeat' first|refine Vz ?_|intro _
  refine reE ?_
  obtain rfl:l=[]:=List.eq_nil_of_length_eq_zero (by omega)
  rfl
 ·repeat' first|refine Vz ?_|intro _
  refine al_idxM (l:=l) (f:=staA) (l.length - 1) (by omega) ?_
  repeat' first|refine Vz ?_|intro _
  refine reE ?_
  rw [latC,List.getLastD_eq_getLast?,List.getLast?_eq_getElem?,List.getElem?_eq_getElem (by omega)]
  rfl⟩
instance fnLatest {c k:Bs}{p:Int}{f:Bool}{l:List Sta}{xs:List AV}{id:Option Value}[Stas xs l]:Ans Tryz.prog GL 213 [.agg 5 [str c,str k,int p,boo f,.sl 34 xs id]] True (staA (latC l)):=⟨fun _=>by
 refine qE Tryz.func213 rfl Tryz.ntmps213 rfl (fun _ hs=>?_)
 repeat' first|refine Vz ?_|intro _
 refine reE ?_
 rfl⟩
instance fnRLatest {c k:Bs}{p:Int}{f:Bool}{l:List Sta}{xs:List AV}{id:Option Value}[hx:Stas xs l]:Ans Tryz.prog GL 115 [.agg 5 [str c,str k,int p,boo f,.sl 34 xs id]] True (staA (latC l)):=⟨fun _=>by
 have h:=hx.out
 subst h
 have hm:(l.map staA).length=l.length:=llm _
 refine qE Tryz.func115 rfl Tryz.ntmps115 rfl (fun _ hs=>?_)
 refine ac_bndA 0 4 (fun hb=>?_)
 have hb:=maxLen_le hb
 repeat' first|refine Vz ?_|intro _
 refine ac_cond (fun h1=>?_) (fun h1=>?_)
 ·repeat' first|refine Vz ?_|intro _
  refine reE ?_
  obtain rfl:l=[]:=List.eq_nil_of_length_eq_zero (by omega)
  rfl
 ·repeat' first|refine Vz ?_|intro _
  refine al_idxM (l:=l) (f:=staA) (l.length - 1) (by omega) ?_
  repeat' first|refine Vz ?_|intro _
  refine reE ?_
  rw [latC,List.getLastD_eq_getLast?,List.getLast?_eq_getElem?,List.getElem?_eq_getElem (by omega)]
  rfl⟩



theorem all_range {n:Nat}{p:Nat->Bool}:(List.range n).all p=true↔∀ j,j < n->p j=true:=by simp
theorem may_bad {x:Cli}(h:¬ (x.k.length<=64/\1<=x.p/\x.p<=1099511627776/\1<=x.l.length/\x.l.length<=32)):mayC x=false:=by
 unfold mayC
 simp only [h,decide_false,Bool.false_and]
theorem may_at {x:Cli}{i:Nat}(hi:i < x.l.length)(h:mayAt x.c x.l i=false):mayC x=false:=by
 unfold mayC
 rw [Bool.and_eq_false_iff]
 refine .inr (Bool.eq_false_iff.2 fun hh=>?_)
 have:=all_range.1 hh i hi
 rw [h] at this
 cases this
theorem may_ok {x:Cli}(h:x.k.length<=64/\1<=x.p/\x.p<=1099511627776/\1<=x.l.length/\x.l.length<=32)(ha:∀ j,j < x.l.length->mayAt x.c x.l j=true):mayC x=true:=by
 unfold mayC
 simp only [h,decide_true,Bool.true_and,all_range.2 ha,and_self]
theorem mayAt_eq {c:Bs}{l:List Sta}{i:Nat}(hi:i < l.length):mayAt c l i=(chkH ⟨c,l[i].h,l[i].t,l[i].r⟩ && (decide (i=0) || fol (l.getD (i - 1) zeroS) l[i])):=by
 have hg:l.getD i zeroS=l[i]:=by simp [List.getD,hi]
 unfold mayAt
 rw [hg]
 rfl
set_option maxHeartbeats 1000000 in
instance fnMay {c k:Bs}{p:Int}{f:Bool}{l:List Sta}{xs:List AV}{id:Option Value}[hx:Stas xs l]:Ans Tryz.prog GL 147 [.agg 5 [str c,str k,int p,boo f,.sl 34 xs id]] True (boo (mayC ⟨c,k,p,f,l⟩)):=⟨fun _=>by
 have h:=hx.out
 subst h
 have hm:(l.map staA).length=l.length:=llm _
 refine qE Tryz.func147 rfl Tryz.ntmps147 rfl (fun _ hs=>?_)
 refine ac_bndA 0 4 (fun hb=>?_)
 have hb:=maxLen_le hb
 by_cases hok:k.length<=64/\1<=p/\p<=1099511627776/\1<=l.length/\l.length<=32
 ·obtain⟨h1,h2,h3,h4,h5⟩:=hok
  repeat' first|refine Zz ?_|intro _
  rename_i g1
  refine ac_loop (α:=Nat) (fun i=>[(1,ptr g1),(3,boo true),(33,.sl 34 (l.map staA) id),(34,int (l.map staA).length),(35,int i)]) (fun i=>[.var g1 79 (.agg 5 [str c,str k,int p,boo f,.sl 34 (l.map staA) id])])
   (fun i=>i<=l.length/\∀ j,j < i->mayAt c l j=true) (fun i=>l.length - i) 0 ⟨rfl,rfl,rfl,rfl,rfl,trivial⟩ slr ⟨Nat.zero_le _,fun _ h=>absurd h (by omega)⟩ ?_
  rintro i ⟨hi,hall⟩
  repeat' first|refine Vz ?_|intro _
  refine ac_cond (fun hlt=>?_) (fun hlt=>?_)
  ·have hil:i < l.length:=by omega
   have hat:=mayAt_eq (c:=c) hil
   repeat' first|refine Vz ?_|intro _
   cases hc:chkH ⟨c,l[i].h,l[i].t,l[i].r⟩
   ·rw [hc,Bool.false_and] at hat
    repeat' first|refine Vz ?_|intro _
    refine reE ?_
    rw [may_at (x:=⟨c,k,p,f,l⟩) hil hat]
    rfl
   rw [hc,Bool.true_and] at hat
   rcases i with _|i
   ·have h0:∀ j,j < 1->mayAt c l j=true:=fun j hj=>by
     obtain rfl:j=0:=by omega
     rw [hat]
     rfl
    repeat' first|refine Vz ?_|intro _
    refine ae_round 1 ⟨rfl,rfl,rfl,rfl,rfl,trivial⟩ ?_ ⟨hil,h0⟩ (by omega)
    exact sbl
   ·have hil2:i < l.length:=by omega
    have hg2:l.getD (i + 1 - 1) zeroS=l[i]:=by simp [List.getD,hil2]
    rw [hg2,dZ (by omega),Bool.false_or] at hat
    repeat' first|refine Vz ?_|intro _
    rw [dZ (show ¬ (((i + 1:Nat):Int)=0) by omega)]
    repeat' first|refine Vz ?_|intro _
    rw [show (((i + 1:Nat):Int) - 1)=(i:Int) by omega]
    cases hf:fol l[i] l[i + 1]
    ·rw [hf] at hat
     repeat' first|refine Vz ?_|intro _
     rw [hf]
     repeat' first|refine Vz ?_|intro _
     refine reE ?_
     rw [may_at (x:=⟨c,k,p,f,l⟩) hil hat]
     rfl
    ·rw [hf] at hat
     repeat' first|refine Vz ?_|intro _
     rw [hf]
     repeat' first|refine Vz ?_|intro _
     refine ae_round (i + 2) ⟨rfl,rfl,rfl,rfl,rfl,trivial⟩ ?_ ⟨hil,fun j hj=>?_⟩ (by omega)
     ·exact sbl
     rcases Nat.lt_or_ge j (i + 1) with h6|h6
     ·exact hall j h6
     ·obtain rfl:j=i + 1:=by omega
      exact hat
  ·obtain rfl:i=l.length:=by omega
   repeat' first|refine Vz ?_|intro _
   refine reE ?_
   rw [may_ok ⟨h1,h2,h3,h4,h5⟩ hall]
   rfl
 ·rw [may_bad hok]
  repeat' first|refine Vz ?_|intro _
  refine gu1 (fun h=>?_) (fun h6=>?_)
  ·repeat' first|refine Vz ?_|intro _
   refine reE ?_
   rfl
  repeat' first|refine Vz ?_|intro _
  refine gu1 (fun h=>?_) (fun h7=>?_)
  ·repeat' first|refine Vz ?_|intro _
   refine reE ?_
   rfl
  repeat' first|refine Vz ?_|intro _
  refine gu1 (fun h=>?_) (fun h8=>?_)
  ·repeat' first|refine Vz ?_|intro _
   refine reE ?_
   rfl
  repeat' first|refine Vz ?_|intro _
  refine gu1 (fun h=>?_) (fun h9=>?_)
  ·repeat' first|refine Vz ?_|intro _
   refine reE ?_
   rfl
  repeat' first|refine Vz ?_|intro _
  refine cdT ?_
  repeat' first|refine Vz ?_|intro _
  refine reE ?_
  rfl⟩

theorem imp_zeroC {n:Int}:Imp (.tup [.agg 5 [str [],str [],int 0,boo false,nils],int n]) (.tup [cliA zeroC,int n]):=(ImpR.imp:Imp _ (.tup [.agg 5 [str [],str [],int 0,boo false,.sl 34 [] none],int n]))
theorem imp_cli {c k:Bs}{p:Int}{f:Bool}{l:List Sta}{id:Option Value}{n:Int}:Imp (.tup [.agg 5 [str c,str k,int p,boo f,.sl 34 (l.map staA) id],int n]) (.tup [cliA ⟨c,k,p,f,l⟩,int n]):=(ImpR.imp:Imp _ (.tup [.agg 5 [str c,str k,int p,boo f,.sl 34 (l.map staA) none],int n]))
set_option maxHeartbeats 1000000 in
instance fnRMay {c k:Bs}{p:Int}{f:Bool}{l:List Sta}{xs:List AV}{id:Option Value}[hx:Stas xs l]:Ans Tryz.prog GL 150 [.agg 5 [str c,str k,int p,boo f,.sl 34 xs id]] True (boo (mayC ⟨c,k,p,f,l⟩)):=⟨fun _=>by
 have h:=hx.out
 subst h
 have hm:(l.map staA).length=l.length:=llm _
 refine qE Tryz.func150 rfl Tryz.ntmps150 rfl (fun _ hs=>?_)
 refine ac_bndA 0 4 (fun hb=>?_)
 have hb:=maxLen_le hb
 by_cases hok:(1<=c.length/\c.length<=32)/\k.length<=64/\1<=p/\p<=1099511627776/\1<=l.length/\l.length<=32
 ·obtain⟨⟨h0,h00⟩,h1,h2,h3,h4,h5⟩:=hok
  repeat' first|refine Zz ?_|intro _
  rename_i g1
  refine ac_loop (α:=Nat) (fun i=>[(1,ptr g1),(3,int i)]) (fun i=>[.var g1 79 (.agg 5 [str c,str k,int p,boo f,.sl 34 (l.map staA) id])])
   (fun i=>i<=l.length/\∀ j,j < i->mayAt c l j=true) (fun i=>l.length - i) 0 ⟨rfl,rfl,trivial⟩ slr ⟨Nat.zero_le _,fun _ h=>absurd h (by omega)⟩ ?_
  rintro i ⟨hi,hall⟩
  repeat' first|refine Vz ?_|intro _
  refine ac_cond (fun hlt=>?_) (fun hlt=>?_)
  ·have hil:i < l.length:=by omega
   have hat:=mayAt_eq (c:=c) hil
   repeat' first|refine Vz ?_|intro _
   cases hc:chkH ⟨c,l[i].h,l[i].t,l[i].r⟩
   ·rw [hc,Bool.false_and] at hat
    repeat' first|refine Vz ?_|intro _
    refine reE ?_
    rw [may_at (x:=⟨c,k,p,f,l⟩) hil hat]
    rfl
   rw [hc,Bool.true_and] at hat
   rcases i with _|i
   ·have h0:∀ j,j < 1->mayAt c l j=true:=fun j hj=>by
     obtain rfl:j=0:=by omega
     rw [hat]
     rfl
    repeat' first|refine Vz ?_|intro _
    refine ae_round 1 ⟨rfl,rfl,trivial⟩ ?_ ⟨hil,h0⟩ (by omega)
    exact sbl
   ·have hil2:i < l.length:=by omega
    have hg2:l.getD (i + 1 - 1) zeroS=l[i]:=by simp [List.getD,hil2]
    rw [hg2,dZ (by omega),Bool.false_or] at hat
    repeat' first|refine Vz ?_|intro _
    rw [dT (show (0:Int) < ((i + 1:Nat):Int) by omega)]
    repeat' first|refine Vz ?_|intro _
    rw [show (((i + 1:Nat):Int) - 1)=(i:Int) by omega]
    repeat' first|refine Vz ?_|intro _
    by_cases hq:l[i + 1].h<=l[i].h
    ·have hf:fol l[i] l[i + 1]=false:=by simp [fol];omega
     rw [dT hq]
     repeat' first|refine Vz ?_|intro _
     refine reE ?_
     rw [may_at (x:=⟨c,k,p,f,l⟩) hil (hat.trans hf)]
     rfl
    ·rw [dZ hq]
     repeat' first|refine Vz ?_|intro _
     rw [show (((i + 1:Nat):Int) - 1)=(i:Int) by omega]
     repeat' first|refine Vz ?_|intro _
     refine ac_cond (fun hh=>?_) (fun hh=>?_)
     ·have hf:fol l[i] l[i + 1]=false:=by simp [fol];omega
      repeat' first|refine Vz ?_|intro _
      refine reE ?_
      rw [may_at (x:=⟨c,k,p,f,l⟩) hil (hat.trans hf)]
      rfl
     ·have hf:fol l[i] l[i + 1]=true:=by simp [fol];omega
      repeat' first|refine Vz ?_|intro _
      refine ae_round (i + 2) ⟨rfl,rfl,trivial⟩ ?_ ⟨hil,fun j hj=>?_⟩ (by omega)
      ·exact sbl
      rcases Nat.lt_or_ge j (i + 1) with h6|h6
      ·exact hall j h6
      ·obtain rfl:j=i + 1:=by omega
       exact hat.trans hf
  ·obtain rfl:i=l.length:=by omega
   repeat' first|refine Vz ?_|intro _
   refine reE ?_
   rw [may_ok ⟨h1,h2,h3,h4,h5⟩ hall]
   rfl
 ·have hmay:mayC ⟨c,k,p,f,l⟩=false:=by
   by_cases h0:k.length<=64/\1<=p/\p<=1099511627776/\1<=l.length/\l.length<=32
   ·refine may_at (x:=⟨c,k,p,f,l⟩) (i:=0) h0.2.2.2.1 ?_
    have hc:chkH ⟨c,(l[0]'h0.2.2.2.1).h,(l[0]'h0.2.2.2.1).t,(l[0]'h0.2.2.2.1).r⟩=false:=by
     unfold chkH
     rw [decide_eq_false_iff_not]
     rintro⟨e1,e2,_⟩
     exact hok ⟨⟨e1,e2⟩,h0⟩
    rw [mayAt_eq h0.2.2.2.1,hc,Bool.false_and]
   ·exact may_bad h0
  rw [hmay]
  repeat' first|refine Vz ?_|intro _
  refine gu1 (fun h=>?_) (fun h4=>?_)
  ·repeat' first|refine Vz ?_|intro _
   refine reE ?_
   rfl
  repeat' first|refine Vz ?_|intro _
  refine gu1 (fun h=>?_) (fun h5=>?_)
  ·repeat' first|refine Vz ?_|intro _
   refine reE ?_
   rfl
  repeat' first|refine Vz ?_|intro _
  refine gu1 (fun h=>?_) (fun h6=>?_)
  ·repeat' first|refine Vz ?_|intro _
   refine reE ?_
   rfl
  repeat' first|refine Vz ?_|intro _
  refine gu1 (fun h=>?_) (fun h7=>?_)
  ·repeat' first|refine Vz ?_|intro _
   refine reE ?_
   rfl
  repeat' first|refine Vz ?_|intro _
  refine gu1 (fun h=>?_) (fun h8=>?_)
  ·repeat' first|refine Vz ?_|intro _
   refine reE ?_
   rfl
  repeat' first|refine Vz ?_|intro _
  refine gu1 (fun h=>?_) (fun h9=>?_)
  ·repeat' first|refine Vz ?_|intro _
   refine reE ?_
   rfl
  repeat' first|refine Vz ?_|intro _
  refine cdT ?_
  repeat' first|refine Vz ?_|intro _
  refine reE ?_
  rfl⟩
instance fnRNew {k c:Bs}{p h t:Int}{r:Hsh}:Ans Tryz.prog GL 113 [str k,int p,.agg 35 [str c,int h,int t,hA r]] True (.tup [cliA (newR k p ⟨c,h,t,r⟩),int (newE k p ⟨c,h,t,r⟩)]):=⟨fun _=>by
 refine qE Tryz.func113 rfl Tryz.ntmps113 rfl (fun _ hs=>?_)
 unfold newR newE
 cases hm:mayC (newC k p ⟨c,h,t,r⟩)
 all_goals
  repeat' first|refine Vz ?_|intro _
  rw [show mayC ⟨c,k,p,false,[⟨h,t,r⟩]⟩=_ from hm]
  repeat' first|refine Vz ?_|intro _
  refine reI ?_
 ·exact imp_zeroC
 ·exact imp_cli (c:=c) (k:=k) (p:=p) (f:=false) (l:=[⟨h,t,r⟩]) (id:=none) (n:=0)⟩




def rhS1 (s:Bs):Bs:=rsT 99 32 s false
def rhB1 (s:Bs):Bool:=rbT 99 32 s false
def rhS2 (s:Bs):Bs:=rsT 104 8 (rhS1 s) (rhB1 s)
def rhB2 (s:Bs):Bool:=riB 104 1099511627776 (rhS1 s) (rhB1 s)
def rhS3 (s:Bs):Bs:=rsT 116 8 (rhS2 s) (rhB2 s)
def rhB3 (s:Bs):Bool:=riB 116 1099511627776 (rhS2 s) (rhB2 s)
def rhX (s:Bs):Bs:=rtT 114 32 (rhS3 s) (rhB3 s)
def rhE (s:Bs):Int:=reE' (rsT 114 32 (rhS3 s) (rhB3 s)) (rbT 114 32 (rhS3 s) (rhB3 s))
def rhV (s:Bs):Hdr:=⟨rtT 99 32 s false,riI 104 1099511627776 (rhS1 s) (rhB1 s),riI 116 1099511627776 (rhS2 s) (rhB2 s),hOf (rhX s)⟩
def rhOk (s:Bs):Bool:=decide ((rhX s).length=32) && (decide (rhE s=0) && chkH (rhV s))
def zeroHd:Hdr:=⟨[],0,0,zeroH⟩
def rhdV (s:Bs):Hdr:=if rhOk s=true then rhV s else zeroHd
def rhdE (s:Bs):Int:=if rhOk s=true then 0 else 10
theorem rh_lens (s:Bs):(rhS1 s).length<=s.length/\(rhS2 s).length<=s.length/\(rhS3 s).length<=s.length:=by
 have h1:=(rsT_len 99 32 s false).1
 have h2:=(rsT_len 104 8 (rhS1 s) (rhB1 s)).1
 have h3:=(rsT_len 116 8 (rhS2 s) (rhB2 s)).1
 unfold rhS3
 unfold rhS2 at *
 unfold rhS1 at *
 exact⟨h1,by omega,by omega⟩
theorem rf1 {s:Bs}:rsT 99 32 s false=rhS1 s:=rfl
theorem rf2 {s:Bs}:rbT 99 32 s false=rhB1 s:=rfl
theorem rf3 {s:Bs}:rsT 104 8 (rhS1 s) (rhB1 s)=rhS2 s:=rfl
theorem rf4 {s:Bs}:riB 104 1099511627776 (rhS1 s) (rhB1 s)=rhB2 s:=rfl
theorem rf5 {s:Bs}:rsT 116 8 (rhS2 s) (rhB2 s)=rhS3 s:=rfl
theorem rf6 {s:Bs}:riB 116 1099511627776 (rhS2 s) (rhB2 s)=rhB3 s:=rfl
instance fnReadHeader {s:Bs}:Ans Tryz.prog GL 145 [str s] (s.length<=1000000000) (.tup [hdrA (rhdV s),int (rhdE s)]):=⟨fun hl=>by
 obtain⟨l1,l2,l3⟩:=rh_lens s
 have e1:(rhS1 s).length=(rsT 99 32 s false).length:=rfl
 have e2:(rhS2 s).length=(rsT 104 8 (rsT 99 32 s false) (rbT 99 32 s false)).length:=rfl
 have e3:(rhS3 s).length=(rsT 116 8 (rsT 104 8 (rsT 99 32 s false) (rbT 99 32 s false)) (riB 104 1099511627776 (rsT 99 32 s false) (rbT 99 32 s false))).length:=rfl
 refine qE Tryz.func145 rfl Tryz.ntmps145 rfl (fun _ hs=>?_)
 repeat' first|refine Yz ?_|intro _
 refine al_callK (args:=[str s]) [] _ (by rw [hs];exact tlvRead) (fun u m1 hh=>?_) lpr
 obtain⟨gr,rfl,rfl⟩:=hh
 repeat' first|refine Yz ?_|intro _
 rw [rf1,rf2,rf3,rf4,rf5,rf6]
 have hX:rhX s=rtT 114 32 (rhS3 s) (rhB3 s):=rfl
 have hV:rhV s=⟨rtT 99 32 s false,riI 104 1099511627776 (rhS1 s) (rhB1 s),riI 116 1099511627776 (rhS2 s) (rhB2 s),hOf (rtT 114 32 (rhS3 s) (rhB3 s))⟩:=rfl
 have hEE:rhE s=reE' (rsT 114 32 (rhS3 s) (rhB3 s)) (rbT 114 32 (rhS3 s) (rhB3 s)):=rfl
 by_cases hx:(rtT 114 32 (rhS3 s) (rhB3 s)).length=32
 rotate_left
 ·have hk:rhOk s=false:=by
   unfold rhOk
   rw [hX,dZ hx]
   rfl
  rw [rhdV,rhdE,hk,if_neg hx]
  repeat' first|refine Yz ?_|intro _
  refine reE ?_
  rfl
 rw [if_pos hx]
 repeat' first|refine Yz ?_|intro _
 by_cases hE:rhE s=0
 rotate_left
 ·have hk:rhOk s=false:=by
   unfold rhOk
   rw [dZ hE,Bool.false_and,Bool.and_false]
  rw [rhdV,rhdE,hk]
  rw [hEE] at hE
  repeat' first|refine Yz ?_|intro _
  refine reE ?_
  rfl
 have hk:rhOk s=chkH (rhV s):=by
  unfold rhOk
  rw [hX,dT hx,dT hE,Bool.true_and,Bool.true_and]
 rw [rhdV,rhdE,hk,hV]
 rw [hEE] at hE
 repeat' first|refine Yz ?_|intro _
 cases hc:chkH ⟨rtT 99 32 s false,riI 104 1099511627776 (rhS1 s) (rhB1 s),riI 116 1099511627776 (rhS2 s) (rhB2 s),hOf (rtT 114 32 (rhS3 s) (rhB3 s))⟩
 ·repeat' first|refine Yz ?_|intro _
  refine reE ?_
  rfl
 ·repeat' first|refine Yz ?_|intro _
  refine reE ?_
  rfl⟩

instance fnRReadHeader {s:Bs}:Ans Tryz.prog GL 149 [str s] (s.length<=1000000000) (.tup [hdrA (rhdV s),int (rhdE s)]):=⟨fun hl=>by
 obtain⟨l1,l2,l3⟩:=rh_lens s
 have e1:(rhS1 s).length=(rsT 99 32 s false).length:=rfl
 have e2:(rhS2 s).length=(rsT 104 8 (rsT 99 32 s false) (rbT 99 32 s false)).length:=rfl
 have e3:(rhS3 s).length=(rsT 116 8 (rsT 104 8 (rsT 99 32 s false) (rbT 99 32 s false)) (riB 104 1099511627776 (rsT 99 32 s false) (rbT 99 32 s false))).length:=rfl
 refine qE Tryz.func149 rfl Tryz.ntmps149 rfl (fun _ hs=>?_)
 repeat' first|refine Yz ?_|intro _
 rw [rf1,rf2,rf3,rf4,rf5,rf6]
 have hX:rhX s=rtT 114 32 (rhS3 s) (rhB3 s):=rfl
 have hV:rhV s=⟨rtT 99 32 s false,riI 104 1099511627776 (rhS1 s) (rhB1 s),riI 116 1099511627776 (rhS2 s) (rhB2 s),hOf (rtT 114 32 (rhS3 s) (rhB3 s))⟩:=rfl
 have hEE:rhE s=reE' (rsT 114 32 (rhS3 s) (rhB3 s)) (rbT 114 32 (rhS3 s) (rhB3 s)):=rfl
 by_cases hE:rhE s=0
 rotate_left
 ·have hk:rhOk s=false:=by
   unfold rhOk
   rw [dZ hE,Bool.false_and,Bool.and_false]
  rw [rhdV,rhdE,hk]
  rw [hEE] at hE
  repeat' first|refine Yz ?_|intro _
  refine reE ?_
  rfl
 by_cases hx:(rtT 114 32 (rhS3 s) (rhB3 s)).length=32
 rotate_left
 ·have hk:rhOk s=false:=by
   unfold rhOk
   rw [hX,dZ hx]
   rfl
  rw [rhdV,rhdE,hk]
  rw [hEE] at hE
  repeat' first|refine Yz ?_|intro _
  refine reE ?_
  rfl
 have hk:rhOk s=chkH (rhV s):=by
  unfold rhOk
  rw [hX,dT hx,dT hE,Bool.true_and,Bool.true_and]
 rw [rhdV,rhdE,hk,hV]
 rw [hEE] at hE
 repeat' first|refine Yz ?_|intro _
 generalize rtT 114 32 (rhS3 s) (rhB3 s)=x at *
 generalize rtT 99 32 s false=C at *
 generalize riI 104 1099511627776 (rhS1 s) (rhB1 s)=H at *
 generalize riI 116 1099511627776 (rhS2 s) (rhB2 s)=T at *
 rename_i g2 gr g5
 refine ac_loop (α:=Nat) (fun i=>[(2,ptr g2),(5,ptr g5),(6,str x),(7,int i)]) (fun i=>[.var g5 40 (.agg 35 [str C,int H,int T,.agg 32 ((layB x i).map u8A)]),.var g2 40 (hdrA zeroHd)]) (fun i=>i<=32) (fun i=>32 - i) 0 ⟨rfl,rfl,rfl,rfl,trivial⟩ ?_ (Nat.zero_le _) ?_
 focus
  exact sbl
 intro i hi
 repeat' first|refine Yz ?_|intro _
 refine ac_cond (fun hlt=>?_) (fun hlt=>?_)
 ·have hil:i < 32:=by omega
  have hix:i < x.length:=by omega
  repeat' first|refine Yz ?_|intro _
  refine al_idxS i ?_ (List.getElem?_eq_getElem hix)
  repeat' first|refine Yz ?_|intro _
  refine al_idxA i ?_
  have hst:=putV_arrK (n:=35) (pre:=[str C,int H,int T]) (post:=[]) (l:=layB x i) (j:=i) (c:=x[i]) (layB_len hx hi) (by rw [layB_len hx hi];exact hil) (o:=0 + 3 + i * 1) (by simp [AV.size])
  rw [layB_next hx hil] at hst
  refine al_store (v':=.agg 35 [str C,int H,int T,.agg 32 ((layB x (i + 1)).map u8A)]) ?_ (hp:=hst)
  repeat' first|refine Yz ?_|intro _
  exact ae_round (i + 1) ⟨rfl,rfl,rfl,rfl,trivial⟩ slr hil (by omega)
 ·obtain rfl:i=32:=by omega
  have hA1:AV.agg 32 ((layB x 32).map u8A)=hA (hOf x):=by rw [layB_all hx,hA,hOf_l hx]
  rw [hA1]
  repeat' first|refine Yz ?_|intro _
  cases hc:chkH ⟨C,H,T,hOf x⟩
  ·repeat' first|refine Yz ?_|intro _
   refine reE ?_
   rfl
  ·repeat' first|refine Yz ?_|intro _
   refine reE ?_
   rfl⟩
end Go.Proofs.YtlmcongmglfaeaaGreatDoor
