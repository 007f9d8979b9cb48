/- clients, walked: may one be?; where a height is; comparison -/
import Derived.Test.YtppngnhckahbnaaGreatDoorA18
import Derived.Test.YtppngnhckahbnaaGreatDoorA23
import Derived.Test.YtppngnhckahbnaaGreatDoorA27
import Derived.Test.YtppngnhckahbnaaGreatDoorA29
import Derived.Test.YtppngnhckahbnaaGreatDoorA32
import Derived.Test.YtppngnhckahbnaaGreatDoorA33
namespace Go.Proofs.YtppngnhckahbnaaGreatDoor
open Go Go.RowKit Tw Av
theorem keyB_len (k:Bs):(keyB k).length=64:=by rw [keyB,copyB_len];simp [zeros]
theorem ofH1 (a:Bs):ofH [a]=shaH a:=by simp [ofH]
theorem ofH2 (a b:Bs):ofH [a,b]=shaH (a++b):=by simp [ofH]
abbrev kbA (l:Bs):AV:=.agg 64 (l.map u8A)
instance fnSBlock {k:Bs}:Ans Tryz.prog GL 393 [str k] (k.length≤1000000) (kbA (keyB k)):=⟨fun hk=>by
 refine spec_enter Tryz.func393 rfl Tryz.ntmps393 rfl (fun _ hs=>?_)
 repeat' first|refine Vz ?_|intro _
 refine ac_cond (fun h1=>?_) (fun h1=>?_)
 ·have:LenLe k 1000000:=⟨hk⟩
  repeat' first|refine Vz ?_|intro _
  rw [ofH1]
  refine al_copyS (l:=zeros 64) (a:=(shaH k).l) rfl ?_
  repeat' first|refine Vz ?_|intro _
  refine reE ?_
  rw [keyB,if_pos (by omega)]
  rfl
 ·repeat' first|refine Vz ?_|intro _
  refine al_copyS (l:=zeros 64) (a:=k) rfl ?_
  repeat' first|refine Vz ?_|intro _
  refine reE ?_
  rw [keyB,if_neg (by omega)]
  rfl⟩
theorem put1 {g:Nat}{a b:UInt8}{T:TypeId}:Av.Spec Tryz.prog GL 403 [u8A a,ptr g] [.var g T (u8A b)] fun u m=>u=u8A (a ^^^ b)∧m=[.var g T (u8A b)]:=by
 refine spec_enter Tryz.func403 rfl Tryz.ntmps403 rfl (fun _ hs=>?_)
 repeat' first|refine Vz ?_|intro _
 exact reK [.var g T (u8A b)] ⟨rfl,rfl⟩ (List.Sublist.refl _)
theorem xor_next {l:Bs}{b:UInt8}{i:Nat}(h:i < l.length):(xorB b (l.take i)++l.drop i).set i (l[i] ^^^ b)=xorB b (l.take (i + 1))++l.drop (i + 1):=by
 have h1:(xorB b (l.take i)).length=i:=by simp [xorB];omega
 rw [List.set_append,if_neg (by omega),h1,Nat.sub_self,List.drop_eq_getElem_cons h,List.set_cons_zero,List.take_succ_eq_append_getElem h,xorB,xorB,List.map_append,List.append_assoc]
 rfl
theorem sput {l:Bs}(hl:l.length=64)(b:UInt8)(B:Int)(hB:B=b.toNat):SpecE Tryz.prog GL 394 [kbA l,.lit (.int .u8 B)] (str (xorB b l)):=by
 subst hB
 refine spec_enter Tryz.func394 rfl Tryz.ntmps394 rfl (fun _ hs=>?_)
 repeat' first|refine Vz ?_|intro _
 rename_i g2 g3
 refine al_makeFunc (vs:=[.pointer (some ⟨g3,0,none⟩)]) ?_
 repeat' first|refine Vz ?_|intro _
 refine ac_loop (α:=Nat) (fun i=>[(2,ptr g2),(5,fnv 403 [.pointer (some ⟨g3,0,none⟩)]),(9,kbA l),(10,int i)])
  (fun i=>[.var g3 5 (u8A b),.var g2 364 (kbA (xorB b (l.take i)++l.drop i))]) (fun i=>i≤64) (fun i=>64 - i) 0 ⟨rfl,rfl,rfl,rfl,trivial⟩ ?_ (Nat.zero_le _) ?_
 ·exact sbl
 intro i hi
 have hlen:(xorB b (l.take i)++l.drop i).length=64:=by simp [xorB];omega
 repeat' first|refine Vz ?_|intro _
 refine ac_cond (fun hlt=>?_) (fun hlt=>?_)
 ·have hil:i < l.length:=by omega
  repeat' first|refine Vz ?_|intro _
  refine al_index (ps:=l.map u8A) (u:=u8A l[i]) i ?_ rfl (by omega) (by simp [hil]) (by intro p hp;obtain⟨c,_,rfl⟩:=List.mem_map.1 hp;rfl) rfl
  repeat' first|refine Vz ?_|intro _
  refine al_callV (args:=[u8A l[i]]) (cs:=[.pointer (some ⟨g3,0,none⟩)]) [.var g3 5 (u8A b)] _ (by rw [hs];exact put1) (fun u m1 hh=>?_) (List.Perm.refl _)
  obtain⟨rfl,rfl⟩:=hh
  repeat' first|refine Vz ?_|intro _
  refine al_idxA i ?_
  refine al_storeE (j:=i) (ps:=(xorB b (l.take i)++l.drop i).map u8A) (by simp only [List.length_map];omega) ?_
  repeat' first|refine Vz ?_|intro _
  rw [show ((xorB b (l.take i)++l.drop i).map u8A).set i (u8A (l[i] ^^^ b))=((xorB b (l.take i)++l.drop i).set i (l[i] ^^^ b)).map u8A by rw [List.map_set],xor_next hil]
  refine ae_round (i + 1) ⟨rfl,rfl,rfl,rfl,trivial⟩ ?_ (by omega) (by omega)
  exact sbl
 ·obtain rfl:i=64:=by omega
  rw [List.take_of_length_le (by omega),List.drop_of_length_le (by omega),List.append_nil]
  repeat' first|refine Vz ?_|intro _
  refine reE ?_
  rfl
theorem ImpC.one {n:Nat}{ps:List AV}:ImpC (.agg n [.agg n ps]) (.agg n ps):=fun ok w cs h=>by
 rw [RC] at h
 obtain⟨h1,h2⟩:=h
 rw [RCs] at h2
 obtain⟨c1,c2,rfl,h3,h4⟩:=h2
 rw [RCs] at h4
 subst h4
 rwa [List.append_nil]
theorem snew {k:Bs}(hk:k.length≤1000000):Av.Spec Tryz.prog GL 377 [str k] [] fun u m=>∃ g,u=ptr g∧m=[.var g 384 (kbA (keyB k))]:=by
 refine spec_enter Tryz.func377 rfl Tryz.ntmps377 rfl (fun _ hs=>?_)
 repeat' first|refine Vz ?_|intro _
 rename_i g
 refine ae_asV (g:=g) (v':=kbA (keyB k)) ImpC.one ?_
 exact reK [.var g 384 (kbA (keyB k))] ⟨g,rfl,rfl⟩ (List.Sublist.refl _)
theorem xorB_len (b:UInt8)(l:Bs):(xorB b l).length=l.length:=List.length_map _
theorem flat_next {l:List Bs}{i:Nat}(h:i < l.length):(l.take (i + 1)).flatten=(l.take i).flatten++l[i]:=by
 rw [List.take_succ_eq_append_getElem h,List.flatten_append]
 simp
theorem flat_le {l:List Bs}(i:Nat):(l.take i).flatten.length≤l.flatten.length:=by
 have h:=congrArg (fun q=>(List.flatten q).length) (List.take_append_drop i l)
 simp only [List.flatten_append,List.length_append] at h
 omega
theorem sseal {g:Nat}{kb:Bs}{l:List Bs}{id:Option Value}(hk:kb.length=64)(hl:l.flatten.length≤1000000000000)(hn:l.length≤1000000000000):Av.Spec Tryz.prog GL 378 [ptr g,.sl 1 (l.map str) id] [.var g 384 (kbA kb)] fun u m=>u=hA (shaH (xorB 92 kb++(shaH (xorB 54 kb++l.flatten)).l))∧m=[]:=by
 have hlm:(l.map str).length=l.length:=List.length_map _
 refine spec_enter Tryz.func378 rfl Tryz.ntmps378 rfl (fun _ hs=>?_)
 repeat' first|refine Vz ?_|intro _
 refine al_callK [] _ (by rw [hs];exact hnew) (fun u m1 hh=>?_) (List.Perm.refl _)
 obtain⟨gh,rfl,rfl⟩:=hh
 repeat' first|refine Vz ?_|intro _
 refine al_callK [] _ (by rw [hs];exact sput hk 54 54 rfl) (fun u m1 hh=>?_) (List.Perm.refl _)
 obtain⟨rfl,rfl⟩:=hh
 refine al_callK [.var gh 366 (hshA h0 (zeros 64) 0)] _ (by rw [hs];exact hwrite (M:=[]) (s:=xorB 54 kb) HS.nil (by simp [xorB_len];omega)) (fun u m1 hh=>?_) (List.Perm.refl _)
 obtain⟨rfl,x0,b0,hH0,rfl⟩:=hh
 rw [List.nil_append] at hH0 ⊢
 repeat' first|refine Vz ?_|intro _
 rename_i g4 g5
 refine ac_loop (α:=Nat × H8 × Bs) (fun q=>[(4,ptr g4),(5,ptr g5),(6,ptr gh),(20,.sl 1 (l.map str) id),(21,int (l.map str).length),(22,int q.1)])
  (fun q=>[.var gh 366 (hshA q.2.1 q.2.2 (xorB 54 kb++(l.take q.1).flatten).length),.var g5 364 (kbA kb),.var g4 38 (hA zeroH)]) (fun q=>q.1≤l.length∧HS (xorB 54 kb++(l.take q.1).flatten) q.2.1 q.2.2) (fun q=>l.length - q.1) (0,x0,b0) ⟨rfl,rfl,rfl,rfl,rfl,rfl,trivial⟩ ?_ ⟨Nat.zero_le _,by simpa using hH0⟩ ?_
 ·dsimp only
  rw [List.take_zero,List.flatten_nil,List.append_nil]
  exact sbl
 rintro⟨i,x,b⟩ ⟨hi,hH⟩
 dsimp only at hi hH ⊢
 repeat' first|refine Vz ?_|intro _
 have hle:=flat_le (l:=l) i
 refine ac_cond (fun hlt=>?_) (fun hlt=>?_)
 ·have hil:i < l.length:=by omega
  have hle2:=flat_le (l:=l) (i + 1)
  have hfn:=flat_next hil
  rw [hfn,List.length_append] at hle2
  repeat' first|refine Vz ?_|intro _
  refine al_callK [.var gh 366 (hshA x b (xorB 54 kb++(l.take i).flatten).length)] _ (by rw [hs];exact hwrite (s:=l[i]) hH (by rw [List.length_append,xorB_len];omega)) (fun u m1 hh=>?_) (List.Perm.refl _)
  obtain⟨rfl,x',b',hH',rfl⟩:=hh
  rw [List.append_assoc,← hfn] at hH' ⊢
  repeat' first|refine Vz ?_|intro _
  refine ae_round (i + 1,x',b') ⟨rfl,rfl,rfl,rfl,rfl,rfl,trivial⟩ ?_ ⟨hil,hH'⟩ (by dsimp only;omega)
  exact sbl
 ·obtain rfl:i=l.length:=by omega
  rw [List.take_length] at hH ⊢
  repeat' first|refine Vz ?_|intro _
  refine al_callK [] _ (by rw [hs];exact sput hk 92 92 rfl) (fun u m1 hh=>?_) (List.Perm.refl _)
  obtain⟨rfl,rfl⟩:=hh
  repeat' first|refine Vz ?_|intro _
  refine al_callK [.var gh 366 (hshA x b (xorB 54 kb++l.flatten).length)] _ (by rw [hs];exact hsum hH (by rw [List.length_append,xorB_len];omega)) (fun u m1 hh=>?_) (List.Perm.refl _)
  obtain⟨rfl,rfl⟩:=hh
  have:LenLe (xorB 92 kb) 64:=⟨by rw [xorB_len];omega⟩
  repeat' first|refine Vz ?_|intro _
  rw [ofH2]
  repeat' first|refine Vz ?_|intro _
  exact reK [] ⟨rfl,rfl⟩ (List.nil_sublist _)
instance fnSeal {k s:Bs}:Ans Tryz.prog GL 356 [str k,str s] (k.length≤1000000∧s.length≤1000000000) (hA (sealH k s)):=⟨fun hp=>by
 obtain⟨hk,hsl⟩:=hp
 refine spec_enter Tryz.func356 rfl Tryz.ntmps356 rfl (fun _ hs=>?_)
 repeat' first|refine Vz ?_|intro _
 refine al_callK [] _ (by rw [hs];exact snew hk) (fun u m1 hh=>?_) (List.Perm.refl _)
 obtain⟨g,rfl,rfl⟩:=hh
 repeat' first|refine Vz ?_|intro _
 refine al_callK [.var g 384 (kbA (keyB k))] _ (by rw [hs];exact sseal (l:=[s]) (id:=none) (keyB_len k) (by simpa using by omega) (by simp)) (fun u m1 hh=>?_) (List.Perm.refl _)
 obtain⟨rfl,rfl⟩:=hh
 repeat' first|refine Vz ?_|intro _
 refine reE ?_
 rw [sealH]
 simp [outOf]⟩
end Go.Proofs.YtppngnhckahbnaaGreatDoor

namespace Go.Proofs.YtppngnhckahbnaaGreatDoor
open Go Go.RowKit Tw Av
theorem keyB_at (k:Bs){i:Nat}(h:i < 64):(keyB k).getD i 0=if i < (if 64 < k.length then (shaH k).l else k).length then (if 64 < k.length then (shaH k).l else k).getD i 0 else 0:=by
 have hl:(if 64 < k.length then (shaH k).l else k).length≤64:=by
  split
  ·rw [Hsh.len];omega
  ·omega
 have hz:(zeros 64).length=64:=by simp [zeros]
 have he:keyB k=(if 64 < k.length then (shaH k).l else k)++(zeros 64).drop (if 64 < k.length then (shaH k).l else k).length:=by rw [keyB,copyB,hz,List.take_of_length_le hl]
 rw [he]
 generalize (if 64 < k.length then (shaH k).l else k)=q at *
 by_cases hi:i < q.length
 ·rw [if_pos hi,List.getD,List.getD,List.getElem?_append_left hi]
 ·rw [if_neg hi,List.getD,List.getElem?_append_right (by omega),zeros,List.drop_replicate,List.getElem?_replicate,if_pos (by omega)]
  rfl
theorem xor_snoc {l:Bs}{b:UInt8}{i:Nat}(h:i < l.length):xorB b (l.take i)++[l[i] ^^^ b]=xorB b (l.take (i + 1)):=by
 rw [List.take_succ_eq_append_getElem h,xorB,xorB,List.map_append]
 rfl
instance fnRSeal {k s:Bs}:Ans Tryz.prog GL 130 [str k,str s] (k.length≤1000000∧s.length≤1000000000) (hA (sealH k s)):=⟨fun hp=>by
 obtain⟨hk,hsl⟩:=hp
 have hkl:=keyB_len k
 have hkt:=fun i h=>keyB_at k (i:=i) h
 refine spec_enter Tryz.func130 rfl Tryz.ntmps130 rfl (fun _ hs=>?_)
 repeat' first|refine Vz ?_|intro _
 rename_i g4
 refine ac_mid (α:=Unit) (fun _=>[(0,str (if 64 < k.length then (shaH k).l else k)),(1,str s),(4,ptr g4)]) (fun _=>[.var g4 38 (hA zeroH)]) ?_ (fun _=>?_)
 ·refine ac_cond (fun h1=>?_) (fun h1=>?_)
  ·have:LenLe k 1000000:=⟨hk⟩
   repeat' first|refine Vz ?_|intro _
   exact ae_cut () ⟨by rw [if_pos (by omega)];rfl,rfl,rfl,trivial⟩ (List.Sublist.refl _)
  ·repeat' first|refine Vz ?_|intro _
   exact ae_cut () ⟨by rw [if_neg (by omega)];rfl,rfl,rfl,trivial⟩ (List.Sublist.refl _)
 generalize (if 64 < k.length then (shaH k).l else k)=q at *
 generalize hK:keyB k=K at *
 repeat' first|refine Vz ?_|intro _
 refine ac_as 5 (Imp.nil (k:=1)) ?_
 refine ac_as 6 (Imp.nil (k:=1)) ?_
 refine ac_st (fun ok w h=>h.full 5 1 none 0) ?_
 refine ac_st (fun ok w h=>h.full 5 1 none 0) ?_
 refine ac_loop (α:=Nat × Value × Value) (fun z=>[(0,str q),(1,str s),(4,ptr g4),(5,.sl 1 ((xorB 54 (K.take z.1)).map u8A) (some z.2.1)),(6,.sl 1 ((xorB 92 (K.take z.1)).map u8A) (some z.2.2)),(7,int z.1)])
  (fun z=>[.tail 5 1 z.2.1,.tail 5 1 z.2.2,.var g4 38 (hA zeroH)]) (fun z=>z.1≤64) (fun z=>64 - z.1) (0,.slice none 0 0,.slice none 0 0) ⟨rfl,rfl,rfl,rfl,rfl,rfl,trivial⟩ (List.Sublist.refl _) (Nat.zero_le _) ?_
 rintro⟨i,v5,v6⟩ hi
 dsimp only at hi ⊢
 repeat' first|refine Vz ?_|intro _
 refine ac_cond (fun hlt=>?_) (fun hlt=>?_)
 ·have hi64:i < 64:=by omega
  have hc:=hkt i hi64
  have hl5:(xorB 54 (K.take i)).length=i:=by rw [xorB_len,List.length_take];omega
  have hl6:(xorB 92 (K.take i)).length=i:=by rw [xorB_len,List.length_take];omega
  have hx5:=xor_snoc (b:=54) (l:=K) (i:=i) (by omega)
  have hx6:=xor_snoc (b:=92) (l:=K) (i:=i) (by omega)
  have hge:K[i]'(by omega)=K.getD i 0:=by simp [List.getD,show i < K.length by omega]
  rw [hge] at hx5 hx6
  generalize hcc:K.getD i 0=c at *
  repeat' first|refine Vz ?_|intro _
  refine ac_mid (α:=Unit) (fun _=>[(0,str q),(1,str s),(4,ptr g4),(5,.sl 1 ((xorB 54 (K.take i)).map u8A) (some v5)),(6,.sl 1 ((xorB 92 (K.take i)).map u8A) (some v6)),(7,int i),(8,u8A c)]) (fun _=>[.tail 5 1 v5,.tail 5 1 v6,.var g4 38 (hA zeroH)]) ?_ (fun _=>?_)
  ·refine ac_cond (fun h1=>?_) (fun h1=>?_)
   ·have hiq:i < q.length:=by omega
    repeat' first|refine Vz ?_|intro _
    refine al_idxS (c:=c) (b:=q) i ?_ (by rw [hc,if_pos hiq];simp [List.getD,hiq])
    repeat' first|refine Vz ?_|intro _
    exact ae_cut () ⟨rfl,rfl,rfl,rfl,rfl,rfl,rfl,trivial⟩ (List.Sublist.refl _)
   ·rw [hc,if_neg (by omega)]
    repeat' first|refine Vz ?_|intro _
    exact ae_cut () ⟨rfl,rfl,rfl,rfl,rfl,rfl,rfl,trivial⟩ (List.Sublist.refl _)
  ·repeat' first|refine Vz ?_|intro _
   refine al_append (fun v5'=>?_)
   repeat' first|refine Vz ?_|intro _
   refine al_append (fun v6'=>?_)
   repeat' first|refine Vz ?_|intro _
   refine ae_as 5 (v':=.sl 1 ((xorB 54 (K.take (i + 1))).map u8A) (some v5')) (Imp.of_eq (by rw [← hx5,List.map_append])) ?_
   refine ae_as 6 (v':=.sl 1 ((xorB 92 (K.take (i + 1))).map u8A) (some v6')) (Imp.of_eq (by rw [← hx6,List.map_append])) ?_
   exact ae_round (i + 1,v5',v6') ⟨rfl,rfl,rfl,rfl,rfl,rfl,trivial⟩ (List.Sublist.refl _) (by omega) (by dsimp only;omega)
 ·obtain rfl:i=64:=by omega
  rw [List.take_of_length_le (by omega)]
  have:LenLe (xorB 54 K) 64:=⟨by rw [xorB_len];omega⟩
  have:LenLe (xorB 92 K) 64:=⟨by rw [xorB_len];omega⟩
  have:LenLe s 1000000000:=⟨hsl⟩
  repeat' first|refine Vz ?_|intro _
  refine reE ?_
  rw [sealH,hK]
  rfl⟩
instance fnHeader {c:Bs}{h t:Int}{r:Hsh}:Ans Tryz.prog GL 299 [.agg 35 [str c,int h,int t,hA r]] (h≤9223372036854775807∧t≤9223372036854775807) (str (hdrB ⟨c,h,t,r⟩)):=⟨fun hp=>by
 obtain⟨h1,h2⟩:=hp
 refine spec_enter Tryz.func299 rfl Tryz.ntmps299 rfl (fun _ hs=>?_)
 repeat' first|refine Vz ?_|intro _
 refine reE ?_
 rfl⟩
instance fnRHeader {c:Bs}{h t:Int}{r:Hsh}:Ans Tryz.prog GL 131 [.agg 35 [str c,int h,int t,hA r]] (h≤9223372036854775807∧t≤9223372036854775807) (str (hdrB ⟨c,h,t,r⟩)):=⟨fun hp=>by
 obtain⟨h1,h2⟩:=hp
 refine spec_enter Tryz.func131 rfl Tryz.ntmps131 rfl (fun _ hs=>?_)
 repeat' first|refine Vz ?_|intro _
 refine reE ?_
 rfl⟩
theorem hdrB_len (x:Hdr):(hdrB x).length≤100000000:=by
 have h1:=(inferInstance:LenLe (tlvT 99 x.c++tlvI 104 x.h++tlvI 116 x.t++tlvT 114 x.r.l) _).out
 unfold hdrB
 omega
instance fnCSeal {k c:Bs}{h t:Int}{r:Hsh}:Ans Tryz.prog GL 300 [str k,.agg 35 [str c,int h,int t,hA r]] (k.length≤1000000∧h≤9223372036854775807∧t≤9223372036854775807) (hA (sealOf k ⟨c,h,t,r⟩)):=⟨fun hp=>by
 obtain⟨h0,h1,h2⟩:=hp
 have h3:=hdrB_len ⟨c,h,t,r⟩
 refine spec_enter Tryz.func300 rfl Tryz.ntmps300 rfl (fun _ hs=>?_)
 repeat' first|refine Vz ?_|intro _
 refine reE ?_
 rfl⟩
instance fnRCSeal {k c:Bs}{h t:Int}{r:Hsh}:Ans Tryz.prog GL 55 [str k,.agg 35 [str c,int h,int t,hA r]] (k.length≤1000000∧h≤9223372036854775807∧t≤9223372036854775807) (hA (sealOf k ⟨c,h,t,r⟩)):=⟨fun hp=>by
 obtain⟨h0,h1,h2⟩:=hp
 have h3:=hdrB_len ⟨c,h,t,r⟩
 refine spec_enter Tryz.func55 rfl Tryz.ntmps55 rfl (fun _ hs=>?_)
 repeat' first|refine Vz ?_|intro _
 refine reE ?_
 rfl⟩
instance fnState {c:Bs}{h t:Int}{r:Hsh}:Ans Tryz.prog GL 159 [.agg 35 [str c,int h,int t,hA r]] True (.agg 34 [int h,int t,hA r]):=⟨fun _=>by
 refine spec_enter Tryz.func159 rfl Tryz.ntmps159 rfl (fun _ hs=>?_)
 repeat' first|refine Vz ?_|intro _
 refine reE ?_
 rfl⟩
instance fnHdr {c:Bs}{h t:Int}{r:Hsh}:Ans Tryz.prog GL 264 [str c,.agg 34 [int h,int t,hA r]] True (.agg 35 [str c,int h,int t,hA r]):=⟨fun _=>by
 refine spec_enter Tryz.func264 rfl Tryz.ntmps264 rfl (fun _ hs=>?_)
 repeat' first|refine Vz ?_|intro _
 refine reE ?_
 rfl⟩
instance fnRHdr {c k:Bs}{p:Int}{f:Bool}{X:AV}{h t:Int}{r:Hsh}:Ans Tryz.prog GL 181 [.agg 5 [str c,str k,int p,boo f,X],.agg 34 [int h,int t,hA r]] True (.agg 35 [str c,int h,int t,hA r]):=⟨fun _=>by
 refine spec_enter Tryz.func181 rfl Tryz.ntmps181 rfl (fun _ hs=>?_)
 repeat' first|refine Vz ?_|intro _
 refine reE ?_
 rfl⟩
instance fnCheck {c:Bs}{h t:Int}{r:Hsh}:Ans Tryz.prog GL 263 [.agg 35 [str c,int h,int t,hA r]] True (boo (chkH ⟨c,h,t,r⟩)):=⟨fun _=>by
 rcases c with _|⟨a,c⟩
 ·refine spec_enter Tryz.func263 rfl Tryz.ntmps263 rfl (fun _ hs=>?_)
  repeat' (first|refine W ?_|refine op2 ?_|refine ob4 ?_|intro _|refine ob2 (fun _=>?_)|refine ac_cond ?_ ?_|refine ac_condB ?_ ?_|refine gu1 ?_ ?_|refine gu2 ?_ ?_)
  refine reE ?_
  simp [outOf,chkH]
 ·refine spec_enter Tryz.func263 rfl Tryz.ntmps263 rfl (fun _ hs=>?_)
  repeat' (first|refine W ?_|refine op2 ?_|refine ob4 ?_|intro _|refine ob2 (fun _=>?_)|refine ac_cond ?_ ?_|refine ac_condB ?_ ?_|refine gu1 ?_ ?_|refine gu2 ?_ ?_)
  all_goals (refine reE ?_;refine boo_iff ?_;simp only [chkH,decide_eq_true_eq,Bool.false_eq_true,false_iff,List.length_cons] at *;omega)⟩
instance fnRCheck {c:Bs}{h t:Int}{r:Hsh}:Ans Tryz.prog GL 266 [.agg 35 [str c,int h,int t,hA r]] True (boo (chkH ⟨c,h,t,r⟩)):=⟨fun _=>by
 refine spec_enter Tryz.func266 rfl Tryz.ntmps266 rfl (fun _ hs=>?_)
 repeat' (first|refine W ?_|refine op2 ?_|refine ob4 ?_|intro _|refine ob2 (fun _=>?_)|refine ac_cond ?_ ?_|refine ac_condB ?_ ?_|refine gu1 ?_ ?_|refine gu2 ?_ ?_)
 all_goals (refine reE ?_;refine boo_iff ?_;simp only [chkH,decide_eq_true_eq,Bool.false_eq_true,false_iff] at *;omega)⟩
instance fnFollows {h t h' t':Int}{r r':Hsh}:Ans Tryz.prog GL 265 [.agg 34 [int h,int t,hA r],.agg 34 [int h',int t',hA r']] True (boo (fol ⟨h,t,r⟩ ⟨h',t',r'⟩)):=⟨fun _=>by
 refine spec_enter Tryz.func265 rfl Tryz.ntmps265 rfl (fun _ hs=>?_)
 repeat' (first|refine W ?_|refine op2 ?_|refine ob4 ?_|intro _|refine ob2 (fun _=>?_)|refine ac_cond ?_ ?_|refine ac_condB ?_ ?_|refine gu1 ?_ ?_|refine gu2 ?_ ?_)
 all_goals (refine reE ?_;refine boo_iff ?_;simp only [fol,decide_eq_true_eq,Bool.false_eq_true,false_iff] at *;omega)⟩
instance fnLast {l:List Sta}{xs:List AV}{id:Option Value}[hx:Stas xs l]:Ans Tryz.prog GL 309 [.sl 34 xs id] True (staA (latC l)):=⟨fun _=>by
 have h:=hx.out
 subst h
 have hm:(l.map staA).length=l.length:=List.length_map _
 refine spec_enter Tryz.func309 rfl Tryz.ntmps309 rfl (fun _ hs=>?_)
 refine ac_bnd 0 (fun hb=>?_)
 have hb:=maxLen_le hb
 repeat' first|refine Vz ?_|intro _
 refine ac_cond (fun h1=>?_) (fun h1=>?_)
 ·repeat' first|refine Vz ?_|intro _
  refine reE ?_
  obtain rfl:l=[]:=List.eq_nil_of_length_eq_zero (by omega)
  rfl
 ·repeat' first|refine Vz ?_|intro _
  refine al_idxM (l:=l) (f:=staA) (l.length - 1) (by omega) ?_
  repeat' first|refine Vz ?_|intro _
  refine reE ?_
  rw [latC,List.getLastD_eq_getLast?,List.getLast?_eq_getElem?,List.getElem?_eq_getElem (by omega)]
  rfl⟩
instance fnLatest {c k:Bs}{p:Int}{f:Bool}{l:List Sta}{xs:List AV}{id:Option Value}[Stas xs l]:Ans Tryz.prog GL 221 [.agg 5 [str c,str k,int p,boo f,.sl 34 xs id]] True (staA (latC l)):=⟨fun _=>by
 refine spec_enter Tryz.func221 rfl Tryz.ntmps221 rfl (fun _ hs=>?_)
 repeat' first|refine Vz ?_|intro _
 refine reE ?_
 rfl⟩
instance fnRLatest {c k:Bs}{p:Int}{f:Bool}{l:List Sta}{xs:List AV}{id:Option Value}[hx:Stas xs l]:Ans Tryz.prog GL 128 [.agg 5 [str c,str k,int p,boo f,.sl 34 xs id]] True (staA (latC l)):=⟨fun _=>by
 have h:=hx.out
 subst h
 have hm:(l.map staA).length=l.length:=List.length_map _
 refine spec_enter Tryz.func128 rfl Tryz.ntmps128 rfl (fun _ hs=>?_)
 refine ac_bndA 0 4 (fun hb=>?_)
 have hb:=maxLen_le hb
 repeat' first|refine Vz ?_|intro _
 refine ac_cond (fun h1=>?_) (fun h1=>?_)
 ·repeat' first|refine Vz ?_|intro _
  refine reE ?_
  obtain rfl:l=[]:=List.eq_nil_of_length_eq_zero (by omega)
  rfl
 ·repeat' first|refine Vz ?_|intro _
  refine al_idxM (l:=l) (f:=staA) (l.length - 1) (by omega) ?_
  repeat' first|refine Vz ?_|intro _
  refine reE ?_
  rw [latC,List.getLastD_eq_getLast?,List.getLast?_eq_getElem?,List.getElem?_eq_getElem (by omega)]
  rfl⟩
instance fnActive {c k:Bs}{p:Int}{f:Bool}{l:List Sta}{xs:List AV}{id:Option Value}{now:Int}[Stas xs l]:Ans Tryz.prog GL 166 [.agg 5 [str c,str k,int p,boo f,.sl 34 xs id],int now] (-4611686018427387904≤(latC l).t∧(latC l).t≤4611686018427387904∧-4611686018427387904≤p∧p < 4611686018427387904) (boo (actC ⟨c,k,p,f,l⟩ now)):=⟨fun hp=>by
 obtain⟨h1,h2,h3,h4⟩:=hp
 refine spec_enter Tryz.func166 rfl Tryz.ntmps166 rfl (fun _ hs=>?_)
 cases f
 all_goals
  repeat' first|refine Vz ?_|intro _
  refine reE ?_
  simp [outOf,actC]⟩
instance fnRActive {c k:Bs}{p:Int}{f:Bool}{l:List Sta}{xs:List AV}{id:Option Value}{now:Int}[Stas xs l]:Ans Tryz.prog GL 170 [.agg 5 [str c,str k,int p,boo f,.sl 34 xs id],int now] (-4611686018427387904≤(latC l).t∧(latC l).t≤4611686018427387904∧-4611686018427387904≤p∧p < 4611686018427387904) (boo (actC ⟨c,k,p,f,l⟩ now)):=⟨fun hp=>by
 obtain⟨h1,h2,h3,h4⟩:=hp
 refine spec_enter Tryz.func170 rfl Tryz.ntmps170 rfl (fun _ hs=>?_)
 cases f
 all_goals
  repeat' first|refine Vz ?_|intro _
  refine reE ?_
  simp [outOf,actC]⟩
end Go.Proofs.YtppngnhckahbnaaGreatDoor

namespace Go.Proofs.YtppngnhckahbnaaGreatDoor
open Go Go.RowKit Tw Av
theorem cloneS_spec {xs:List AV}{id:Option Value}(hx:xs.length≤1073741824):Av.Spec Tryz.prog GL 358 [.sl 34 xs id] [] (OwnK 93 34 xs):=by
 refine spec_enter Tryz.func358 rfl Tryz.ntmps358 rfl (fun _ hs=>?_)
 repeat' first|refine Wz ?_|intro _
 refine al_slN (fun q c hq hc=>?_)
 repeat' first|refine Wz ?_|intro _
 injection hc with hc
 subst hc
 refine ac_condB (fun h=>?_) (fun h=>?_)
 ·repeat' first|refine Wz ?_|intro _
  exact reK [] (.inl ⟨hq h,rfl,rfl⟩) (List.nil_sublist _)
 ·repeat' first|refine Wz ?_|intro _
  refine al_build0B (fun g=>?_)
  repeat' first|refine Wz ?_|intro _
  refine al_appendB (fun g' c' hc'=>?_)
  repeat' first|refine Wz ?_|intro _
  refine reK [.buf g' 93 34 ([]++xs) c'] (.inr ⟨g',c',?_,rfl,?_⟩) (List.Sublist.refl _)
  ·simp [outOf]
  ·simpa using hc'
theorem insL2 {α:Type}{xs:List α}{i:Nat}{x:α}{p q:Nat}(h:i≤xs.length)(hp:p=xs.length - i)(hq:1≤q):over (over xs (i + 1) ((xs.drop i).take p)) i ([x].take q)=xs.take i++x::xs.drop i:=insL' h hp hq
theorem insZ2 {α:Type}{xs:List α}{i q:Nat}{x z:α}{p r:Nat}(h:i≤xs.length)(hq:i + q=xs.length + 1)(hp:p=q - 1)(hr:1≤r):over (over (xs.take i++List.replicate q z) i ([x].take r)) (i + 1) ((xs.drop i).take p)=xs.take i++x::xs.drop i:=insZ' h hq hp hr
theorem insertS_nil {x:AV}{idv:Option Value}:Av.Spec Tryz.prog GL 357 [nils,int 0,.sl 34 [x] idv] [] (OwnK 93 34 [x]):=by
 refine spec_enter Tryz.func357 rfl Tryz.ntmps357 rfl (fun _ hs=>?_)
 repeat' first|refine Wz ?_|intro _
 refine al_sliceL 0 0 ?_
 repeat' first|refine Wz ?_|intro _
 refine al_appendN (fun g' c' hc'=>?_)
 repeat' first|refine Wz ?_|intro _
 exact reK [.buf g' 93 34 [x] c'] (.inr ⟨g',c',rfl,rfl,hc'⟩) (by simp)
theorem insertS_spec {g n c i:Nat}{xs:List AV}{x:AV}{idv:Option Value}(hn:xs.length=n)(hc:n≤c)(hi:i≤n)(hb:n≤1073741824):Av.Spec Tryz.prog GL 357 [.lit (.slice (some ⟨g,0,none⟩) n c),int i,.sl 34 [x] idv] [.buf g 93 34 xs c] (OwnK 93 34 (xs.take i++x::xs.drop i)):=by
 subst hn
 have hx1:([x]:List AV).length=1:=rfl
 refine spec_enter Tryz.func357 rfl Tryz.ntmps357 rfl (fun _ hs=>?_)
 repeat' first|refine Wz ?_|intro _
 refine al_sliceL i xs.length ?_
 repeat' first|refine Wz ?_|intro _
 refine ac_cond (fun hin=>?_) (fun hin=>?_)
 ·repeat' first|refine Wz ?_|intro _
  refine al_appendB (fun g' c' hc'=>?_)
  repeat' first|refine Wz ?_|intro _
  have hin':i=xs.length:=by omega
  subst hin'
  refine reK [.buf g' 93 34 (xs++[x]) c'] (.inr ⟨g',c',?_,?_,?_⟩) (by simp)
  ·simp [outOf]
  ·simp
  ·simpa using hc'
 ·repeat' first|refine Wz ?_|intro _
  have hl:(xs.take i++x::xs.drop i).length=xs.length + 1:=by simp;omega
  refine ac_cond (fun hcap=>?_) (fun hcap=>?_)
  ·obtain⟨q,hq⟩:∃ q,i + q=xs.length + 1:=⟨xs.length + 1 - i,by omega⟩
   repeat' first|refine Wz ?_|intro _
   refine al_sliceP 0 i ?_
   repeat' first|refine Wz ?_|intro _
   refine al_appendZ (i:=i) q (fun g' c' hc'=>?_)
   repeat' first|refine Wz ?_|intro _
   refine al_sliceP i (i + q) ?_
   repeat' first|refine Wz ?_|intro _
   refine al_copyD (j:=i) ?_
   repeat' first|refine Wz ?_|intro _
   apply obl_read [];exact rfl;exact rfl;kernel_rfl;intro _ _
   refine al_sliceP (i + 1) (i + q) ?_
   exact al_nil (ae_got rfl rfl)
   repeat' first|refine Wz ?_|intro _
   apply obl_read [];exact rfl;exact rfl;kernel_rfl;intro _ _
   refine al_sliceP i xs.length ?_
   exact al_nil (ae_got rfl rfl)
   apply obl_write [0,1];exact rfl;exact rfl;kernel_rfl;intro _ _
   refine al_copyB (j:=i + 1) (j2:=i) ?_
   exact al_nil (ae_got rfl rfl)
   exact rfl
   exact rfl
   repeat' first|refine Wz ?_|intro _
   rw [insZ2 (by omega) hq (by omega) (by omega)]
   refine reK [.buf g' 93 34 _ c'] (.inr ⟨g',c',?_,rfl,?_⟩) (List.singleton_sublist.2 List.mem_cons_self)
   ·rw [hl,← hq]
    rfl
   ·omega
  ·repeat' first|refine Wz ?_|intro _
   refine al_sliceP 0 (xs.length + 1) ?_
   repeat' first|refine Wz ?_|intro _
   refine al_sliceP (i + 1) (xs.length + 1) ?_
   apply al_ext (v:=boo false) Tryz.func379;kernel_rfl;exact rfl;kernel_rfl;kernel_rfl;exact rfl;exact rfl;exact rfl
   ·intro ok w cs hS hv
    exact⟨_,overlaps_runD (b:=48) (tS:=77) 4 hS List.mem_cons_self hv,RVl rfl⟩
   repeat' first|refine Wz ?_|intro _
   apply obl_read [];exact rfl;exact rfl;kernel_rfl;intro _ _
   refine al_sliceP (i + 1) (xs.length + 1) ?_
   exact al_nil (ae_got rfl rfl)
   repeat' first|refine Wz ?_|intro _
   apply obl_read [];exact rfl;exact rfl;kernel_rfl;intro _ _
   refine al_sliceP i (xs.length + 1) ?_
   exact al_nil (ae_got rfl rfl)
   apply obl_write [0];exact rfl;exact rfl;kernel_rfl;intro _ _
   refine al_copyB (j:=i + 1) (j2:=i) ?_
   exact al_nil (ae_got rfl rfl)
   exact rfl
   exact rfl
   repeat' first|refine Wz ?_|intro _
   refine al_sliceP i (xs.length + 1) ?_
   repeat' first|refine Wz ?_|intro _
   refine al_copyD (j:=i) ?_
   repeat' first|refine Wz ?_|intro _
   rw [insL2 (by omega) (by omega) (by omega)]
   refine reK [.buf g 93 34 _ c] (.inr ⟨g,c,?_,rfl,?_⟩) (by simp)
   ·rw [hl]
    rfl
   ·omega
end Go.Proofs.YtppngnhckahbnaaGreatDoor

namespace Go.Proofs.YtppngnhckahbnaaGreatDoor
open Go Go.RowKit Tw Av
theorem at1 {h t:Int}{r:Hsh}{g:Nat}{T:TypeId}{n:Int}:Av.Spec Tryz.prog GL 336 [.agg 34 [int h,int t,hA r],ptr g] [.var g T (int n)] fun u m=>u=boo (decide (n≤h))∧m=[.var g T (int n)]:=by
 refine spec_enter Tryz.func336 rfl Tryz.ntmps336 rfl (fun _ hs=>?_)
 repeat' first|refine Vz ?_|intro _
 exact reK [.var g T (int n)] ⟨rfl,rfl⟩ (List.sublist_cons_self _ _)
theorem atI_step {l:List Sta}{h:Int}{i:Nat}(hi:i < l.length)(hb:∀ j,(hj:j < i)→¬ h≤(l[j]'(by omega)).h)(hh:h≤l[i].h):atI l h=i:=by
 unfold atI
 rw [List.findIdx_eq hi]
 exact⟨by simpa using hh,fun j hj=>by simpa using hb j hj⟩
theorem atI_none {l:List Sta}{h:Int}(hb:∀ j,(hj:j < l.length)→¬ h≤l[j].h):atI l h=l.length:=by
 unfold atI
 rw [List.findIdx_eq_length]
 intro x hx
 obtain⟨j,hj,rfl⟩:=List.getElem_of_mem hx
 simpa using hb j hj
theorem index_spec {l:List Sta}{xs:List AV}{id:Option Value}[hx:Stas xs l]{g:Nat}{T:TypeId}{n:Int}:Av.Spec Tryz.prog GL 335 [.sl 34 xs id,fnv 336 [.pointer (some ⟨g,0,none⟩)]] [.var g T (int n)] fun u m=>u=int (if atI l n < l.length then (atI l n:Int) else -1)∧m=[.var g T (int n)]:=by
 have h:=hx.out
 subst h
 have hm:(l.map staA).length=l.length:=List.length_map _
 refine spec_enter Tryz.func335 rfl Tryz.ntmps335 rfl (fun _ hs=>?_)
 refine ac_bnd 0 (fun hb=>?_)
 have hb:=maxLen_le hb
 repeat' first|refine Vz ?_|intro _
 refine ac_loop (α:=Nat) (fun i=>[(0,.sl 34 (l.map staA) id),(1,fnv 336 [.pointer (some ⟨g,0,none⟩)]),(7,int (l.map staA).length),(8,int i)]) (fun i=>[.var g T (int n)])
  (fun i=>i≤l.length∧∀ j,(hj:j < l.length)→j < i→¬ n≤l[j].h) (fun i=>l.length - i) 0 ⟨rfl,rfl,rfl,rfl,trivial⟩ (List.Sublist.refl _) ⟨Nat.zero_le _,fun _ _ h=>absurd h (by omega)⟩ ?_
 rintro i ⟨hi,hall⟩
 repeat' first|refine Vz ?_|intro _
 refine ac_cond (fun hlt=>?_) (fun hlt=>?_)
 ·have hil:i < l.length:=by omega
  repeat' first|refine Vz ?_|intro _
  refine al_callV (args:=[staA l[i]]) (cs:=[.pointer (some ⟨g,0,none⟩)]) [.var g T (int n)] _ (by rw [hs];exact at1) (fun u m1 hh=>?_) (List.Perm.refl _)
  obtain⟨rfl,rfl⟩:=hh
  repeat' first|refine Vz ?_|intro _
  refine ac_cond (fun hh=>?_) (fun hh=>?_)
  ·repeat' first|refine Vz ?_|intro _
   refine reK [.var g T (int n)] ⟨?_,rfl⟩ (List.Sublist.refl _)
   rw [atI_step hil (fun j hj=>hall j (by omega) hj) hh,if_pos hil]
   rfl
  ·repeat' first|refine Vz ?_|intro _
   refine ae_round (i + 1) ⟨rfl,rfl,rfl,rfl,trivial⟩ (List.Sublist.refl _) ⟨hil,fun j hj h=>?_⟩ (by omega)
   rcases Nat.lt_or_ge j i with h2|h2
   ·exact hall j hj h2
   ·obtain rfl:j=i:=by omega
    exact hh
 ·obtain rfl:i=l.length:=by omega
  repeat' first|refine Vz ?_|intro _
  refine reK [.var g T (int n)] ⟨?_,rfl⟩ (List.Sublist.refl _)
  rw [atI_none (fun j hj=>hall j hj hj),if_neg (by omega)]
  rfl
theorem atIs_in {l:List Sta}{h:Int}(hl:atI l h < l.length):atIs l h=decide (l[atI l h].h=h):=by
 unfold atIs
 rw [List.getD,List.getElem?_eq_getElem hl]
 simp [hl]
theorem atIs_out {l:List Sta}{h:Int}(hl:¬ atI l h < l.length):atIs l h=false:=by
 unfold atIs
 simp [hl]
instance fnCAt {c k:Bs}{p:Int}{f:Bool}{l:List Sta}{xs:List AV}{id:Option Value}{n:Int}[hx:Stas xs l]:Ans Tryz.prog GL 268 [.agg 5 [str c,str k,int p,boo f,.sl 34 xs id],int n] True (.tup [int (atI l n),boo (atIs l n)]):=⟨fun _=>by
 have h:=hx.out
 subst h
 have hm:(l.map staA).length=l.length:=List.length_map _
 have hle:=atI_le l n
 refine spec_enter Tryz.func268 rfl Tryz.ntmps268 rfl (fun _ hs=>?_)
 refine ac_bndA 0 4 (fun hb=>?_)
 have hb:=maxLen_le hb
 repeat' first|refine Vz ?_|intro _
 rename_i g2 g3
 refine al_makeFunc (vs:=[.pointer (some ⟨g3,0,none⟩)]) ?_
 repeat' first|refine Vz ?_|intro _
 refine al_callK [.var g3 3 (int n)] _ (by rw [hs];exact index_spec (l:=l) (xs:=l.map staA) (id:=id)) (fun u m1 hh=>?_) (List.Perm.refl _)
 obtain⟨rfl,rfl⟩:=hh
 by_cases hl:atI l n < l.length
 ·rw [if_pos hl,atIs_in hl]
  repeat' first|refine Vz ?_|intro _
  refine reE ?_
  rfl
 ·rw [if_neg hl,atIs_out hl]
  obtain hl:atI l n=l.length:=by omega
  rw [hl]
  repeat' first|refine Vz ?_|intro _
  refine reE ?_
  rw [hm]
  rfl⟩
instance fnCFind {c k:Bs}{p:Int}{f:Bool}{l:List Sta}{xs:List AV}{id:Option Value}{n:Int}[hx:Stas xs l]:Ans Tryz.prog GL 167 [.agg 5 [str c,str k,int p,boo f,.sl 34 xs id],int n] True (.tup [staA ((findC l n).getD zeroS),boo (findC l n).isSome]):=⟨fun _=>by
 have h:=hx.out
 subst h
 have hm:(l.map staA).length=l.length:=List.length_map _
 refine spec_enter Tryz.func167 rfl Tryz.ntmps167 rfl (fun _ hs=>?_)
 cases hi:atIs l n
 all_goals
  unfold findC
  rw [hi]
  repeat' first|refine Vz ?_|intro _
  rw [hi]
  repeat' first|refine Vz ?_|intro _
 focus
  refine reE ?_
  rfl
 have hl:atI l n < l.length:=by
  rcases Nat.lt_or_ge (atI l n) l.length with h|h
  ·exact h
  ·rw [atIs_out (by omega)] at hi;cases hi
 repeat' first|refine Vz ?_|intro _
 refine reE ?_
 rw [List.getD,List.getElem?_eq_getElem hl]
 rfl⟩
theorem findR_step {l:List Sta}{h:Int}{i:Nat}(hi:i < l.length)(hb:∀ j,(hj:j < i)→¬ (l[j]'(by omega)).h=h)(hh:l[i].h=h):findR l h=some l[i]:=by
 unfold findR
 rw [List.find?_eq_some_iff_getElem]
 exact⟨by simpa using hh,i,hi,rfl,fun j hj=>by simpa using hb j hj⟩
theorem findR_none {l:List Sta}{h:Int}(hb:∀ j,(hj:j < l.length)→¬ l[j].h=h):findR l h=none:=by
 unfold findR
 rw [List.find?_eq_none]
 intro x hx
 obtain⟨j,hj,rfl⟩:=List.getElem_of_mem hx
 simpa using hb j hj
instance fnRFind {c k:Bs}{p:Int}{f:Bool}{l:List Sta}{xs:List AV}{id:Option Value}{n:Int}[hx:Stas xs l]:Ans Tryz.prog GL 171 [.agg 5 [str c,str k,int p,boo f,.sl 34 xs id],int n] True (.tup [staA ((findR l n).getD zeroS),boo (findR l n).isSome]):=⟨fun _=>by
 have h:=hx.out
 subst h
 have hm:(l.map staA).length=l.length:=List.length_map _
 refine spec_enter Tryz.func171 rfl Tryz.ntmps171 rfl (fun _ hs=>?_)
 refine ac_bndA 0 4 (fun hb=>?_)
 have hb:=maxLen_le hb
 repeat' first|refine Vz ?_|intro _
 rename_i g2 g4
 refine ac_loop (α:=Nat) (fun i=>[(1,int n),(2,ptr g2),(4,ptr g4),(6,int i)]) (fun i=>[.var g4 93 (staA zeroS),.var g2 79 (.agg 5 [str c,str k,int p,boo f,.sl 34 (l.map staA) id])])
  (fun i=>i≤l.length∧∀ j,(hj:j < l.length)→j < i→¬ l[j].h=n) (fun i=>l.length - i) 0 ⟨rfl,rfl,rfl,rfl,trivial⟩ (List.Sublist.refl _) ⟨Nat.zero_le _,fun _ _ h=>absurd h (by omega)⟩ ?_
 rintro i ⟨hi,hall⟩
 repeat' first|refine Vz ?_|intro _
 refine ac_cond (fun hlt=>?_) (fun hlt=>?_)
 ·have hil:i < l.length:=by omega
  repeat' first|refine Vz ?_|intro _
  refine ac_cond (fun hh=>?_) (fun hh=>?_)
  ·repeat' first|refine Vz ?_|intro _
   refine reE ?_
   rw [findR_step hil (fun j hj=>hall j (by omega) hj) hh]
   rfl
  ·repeat' first|refine Vz ?_|intro _
   refine ae_round (i + 1) ⟨rfl,rfl,rfl,rfl,trivial⟩ (List.Sublist.refl _) ⟨hil,fun j hj h=>?_⟩ (by omega)
   rcases Nat.lt_or_ge j i with h2|h2
   ·exact hall j hj h2
   ·obtain rfl:j=i:=by omega
    exact hh
 ·obtain rfl:i=l.length:=by omega
  repeat' first|refine Vz ?_|intro _
  refine reE ?_
  rw [findR_none (fun j hj=>hall j hj hj)]
  rfl⟩
end Go.Proofs.YtppngnhckahbnaaGreatDoor
