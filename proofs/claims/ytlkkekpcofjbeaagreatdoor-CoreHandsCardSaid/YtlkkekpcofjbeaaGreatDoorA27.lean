/- ways, gone: the program's and the references' -/
import Derived.Test.YtlkkekpcofjbeaaGreatDoorA16
import Derived.Test.YtlkkekpcofjbeaaGreatDoorA21
import Derived.Test.YtlkkekpcofjbeaaGreatDoorA25
import Derived.Test.YtlkkekpcofjbeaaGreatDoorA26
namespace Av
open Go Go.RowKit Tw
theorem findP_at:∀ (pre:List AV) (i:Nat) (p:AV) (post:List AV) (j:Nat),j < p.size->findP (pre++p::post) i ((pre.map AV.size).sum + j)=some (i + pre.length,p,j)
 | [],i,p,post,j,h=>by
  have hb:Nat.ble p.size j=false:=by
   cases hh:Nat.ble p.size j with
   | false=>rfl
   | true=>have:=nlb hh;omega
  simp [findP,hb]
 | q::pre,i,p,post,j,h=>by
  have hb:Nat.ble q.size (((q::pre).map AV.size).sum + j)=true:=Nat.ble_eq_true_of_le (by simp;omega)
  rw [List.cons_append,findP,hb,cond_true]
  have e:((q::pre).map AV.size).sum + j - q.size=(pre.map AV.size).sum + j:=by simp;omega
  rw [e,findP_at pre (i + 1) p post j h]
  simp
  omega
theorem sum_u8:∀ l:Bs,((l.map u8A).map AV.size).sum=l.length
 | []=>rfl
 | c::l=>by simp only [List.map_cons,List.sum_cons,List.length_cons,sum_u8 l];show 1 + _=_;omega
theorem set_mid {α:Type}(pre post:List α)(a b:α):(pre++a::post).set pre.length b=pre++b::post:=by simp
theorem putV_arr {n:Nat}{pre post:List AV}{l:Bs}{j o:Nat}{c:UInt8}(hj:j < l.length)(ho:o=(pre.map AV.size).sum + j):putV (u8A c) 8 (.agg n (pre++.agg l.length (l.map u8A)::post)) o=some (.agg n (pre++.agg l.length ((l.set j c).map u8A)::post)):=by
 subst ho
 have h1:findP (pre++.agg l.length (l.map u8A)::post) 0 ((pre.map AV.size).sum + j)=some (0 + pre.length,.agg l.length (l.map u8A),j):=findP_at pre 0 _ post j hj
 have hm:j < (l.map u8A).length:=by simpa using hj
 have h2:findP (l.map u8A) 0 j=some (j,u8A l[j],0):=by
  have h:=findP_at ((l.take j).map u8A) 0 (u8A l[j]) ((l.drop (j + 1)).map u8A) 0 (by show 0 < 1;omega)
  rw [sum_u8] at h
  have e:(l.take j).map u8A++u8A l[j]::(l.drop (j + 1)).map u8A=l.map u8A:=by
   rw [<- List.map_cons,<- List.map_append,<- List.drop_eq_getElem_cons hj,List.take_append_drop]
  rw [e] at h
  simpa [Nat.min_eq_left (Nat.le_of_lt hj)] using h
 have h3:putV (u8A c) 6 (u8A l[j]) 0=some (u8A c):=rfl
 have h4:putV (u8A c) 7 (.agg l.length (l.map u8A)) j=some (.agg l.length ((l.set j c).map u8A)):=by
  unfold putV
  rw [show ((AV.agg l.length (l.map u8A)).isAgg == (u8A c).isAgg)=false from rfl,Bool.and_false,cond_false]
  dsimp only
  rw [h2]
  dsimp only
  rw [h3]
  dsimp only
  rw [List.map_set]
 unfold putV
 rw [show ((AV.agg n (pre++AV.agg l.length (l.map u8A)::post)).isAgg == (u8A c).isAgg)=false from rfl,Bool.and_false,cond_false]
 dsimp only
 rw [h1]
 dsimp only
 rw [h4]
 dsimp only
 rw [Nat.zero_add,set_mid]
theorem putV_arrK {n k:Nat}{pre post:List AV}{l:Bs}{j o:Nat}{c:UInt8}(hk:l.length=k)(hj:j < l.length)(ho:o=(pre.map AV.size).sum + j):putV (u8A c) 8 (.agg n (pre++.agg k (l.map u8A)::post)) o=some (.agg n (pre++.agg k ((l.set j c).map u8A)::post)):=by
 subst hk
 exact putV_arr hj ho
end Av
namespace Go.Proofs.YtlkkekpcofjbeaaGreatDoor
open Go Go.RowKit Tw Av
def hOf (x:Bs):Hsh:=if h:x.length=32 then ⟨x,h⟩ else zeroH
theorem hOf_l {x:Bs}(h:x.length=32):(hOf x).l=x:=by unfold hOf;rw [dif_pos h]
instance fnFrom {x:Bs}:Ans Tryz.prog GL 265 [str x] True (.tup [hA (hOf x),int (if x.length=32 then 0 else 10)]):=⟨fun _=>by
 refine qE Tryz.func265 rfl Tryz.ntmps265 rfl (fun _ hs=>?_)
 repeat' first|refine Yz ?_|intro _
 by_cases h:x.length=32
 ·rw [if_pos h]
  repeat' first|refine Yz ?_|intro _
  rename_i g2 g4
  refine al_copyS (l:=zeros 32) (a:=x) rfl ?_
  repeat' first|refine Yz ?_|intro _
  refine reE ?_
  have e:copyB (zeros 32) x=x:=by
   unfold copyB
   rw [List.take_of_length_le (by simp [zeros,h]),List.drop_of_length_le (by simp [zeros,h]),List.append_nil]
  rw [e,hA,hOf_l h]
  rfl
 ·rw [if_neg h]
  repeat' first|refine Yz ?_|intro _
  refine reE ?_
  unfold hOf
  rw [dif_neg h]
  rfl⟩
def tlvA (c:Int)(l:List Bs):Bs:=tlvT c (l.flatMap (tlvT c))
theorem tlvT_len (c:Int)(s:Bs):(tlvT c s).length<=16777219:=by simp [tlvT,tlvText,bodyLen,List.length_take];omega
instance {c:Int}{l:List Bs}:LenLe (tlvA c l) 16777219:=⟨tlvT_len _ _⟩
theorem flat_len (c:Int):∀ l:List Bs,(l.flatMap (tlvT c)).length<=l.length * 16777219
 | []=>by simp
 | s::l=>by
  have h1:=tlvT_len c s
  have h2:=flat_len c l
  rw [List.flatMap_cons,lla,List.length_cons,Nat.add_mul]
  omega
instance fnTAll {c:Int}{l:List Bs}{xs:List AV}{id:Option Value}[hx:Strs xs l]:Ans Tryz.prog GL 179 [.lit (.int .u8 c),.sl 1 xs id] ((0<=c/\c < 256)/\l.length<=8000000) (str (tlvA c l)):=⟨fun hp=>by
 obtain⟨hc,hl⟩:=hp
 have h:=hx.out
 subst h
 have hm:(l.map str).length=l.length:=llm _
 refine qE Tryz.func179 rfl Tryz.ntmps179 rfl (fun _ hs=>?_)
 repeat' first|refine Yz ?_|intro _
 rename_i g5
 refine ac_loop (α:=Nat × {m:List Av.Piece // True}) (fun q=>[(0,.lit (.int .u8 c)),(5,ptr g5),(8,.sl 1 (l.map str) id),(9,int l.length),(10,int q.1)]) (fun q=>q.2.1) (fun q=>q.1<=l.length/\Bld g5 ((l.take q.1).flatMap (tlvT c)) q.2.1) (fun q=>l.length - q.1) (0,⟨[.var g5 267 (.agg 2 [.lit (.pointer none),nils])],trivial⟩) ⟨rfl,rfl,rfl,by rw [<- hm];rfl,rfl,trivial⟩ slr ⟨Nat.zero_le _,none,.inl rfl,.inl ⟨rfl,rfl⟩⟩ ?_
 rintro⟨i,m,_⟩ ⟨h1,h2⟩
 dsimp only at h1 h2 ⊢
 repeat' first|refine Yz ?_|intro _
 refine ac_cond (fun hlt=>?_) (fun hlt=>?_)
 ·have hil:i < l.length:=by omega
  have hfl:=flat_len c (l.take i)
  have hfl2:=tlvT_len c l[i]
  have hti:(l.take i).length<=l.length:=by simp;omega
  repeat' first|refine Yz ?_|intro _
  refine al_callK (args:=[ptr g5,str (tlvT c l[i])]) m [] (by rw [hs];exact bwrite h2 (by omega)) (fun u m1 hh=>?_) (by rw [List.append_nil])
  obtain⟨rfl,hb⟩:=hh
  rw [List.append_nil]
  repeat' first|refine Yz ?_|intro _
  refine ae_round (i + 1,⟨m1,trivial⟩) ⟨rfl,rfl,rfl,rfl,rfl,trivial⟩ slr ⟨hil,?_⟩ (by dsimp only;omega)
  rw [List.take_succ_eq_append_getElem hil,List.flatMap_append]
  simpa using hb
 ·obtain rfl:i=l.length:=by omega
  rw [List.take_length] at h2
  have hfl:=flat_len c l
  repeat' first|refine Yz ?_|intro _
  refine al_callK (args:=[ptr g5]) m [] (by rw [hs];exact bstring h2 (by omega)) (fun u m1 hh=>?_) (by rw [List.append_nil])
  subst hh
  repeat' first|refine Yz ?_|intro _
  refine reE ?_
  rfl⟩
instance fnRAll {c:Int}{l:List Bs}{xs:List AV}{id:Option Value}[hx:Strs xs l]:Ans Tryz.prog GL 47 [.lit (.int .u8 c),.sl 1 xs id] (l.length<=8000000) (str (tlvA c l)):=⟨fun hl=>by
 have h:=hx.out
 subst h
 have hm:(l.map str).length=l.length:=llm _
 refine qE Tryz.func47 rfl Tryz.ntmps47 rfl (fun _ hs=>?_)
 repeat' first|refine Yz ?_|intro _
 refine ac_loop (α:=Nat) (fun i=>[(0,.lit (.int .u8 c)),(1,.sl 1 (l.map str) id),(5,str ((l.take i).flatMap (tlvT c))),(6,int i)]) (fun _=>[]) (fun i=>i<=l.length) (fun i=>l.length - i) 0 ⟨rfl,rfl,rfl,rfl,trivial⟩ slr (Nat.zero_le _) ?_
 intro i hi
 repeat' first|refine Yz ?_|intro _
 refine ac_cond (fun hlt=>?_) (fun hlt=>?_)
 ·have hil:i < l.length:=by omega
  have hfl:=flat_len c (l.take i)
  have hfl2:=tlvT_len c l[i]
  have hti:(l.take i).length<=l.length:=by simp;omega
  repeat' first|refine Yz ?_|intro _
  refine ae_round (i + 1) ⟨rfl,rfl,?_,rfl,trivial⟩ slr hil (by omega)
  rw [List.take_succ_eq_append_getElem hil,List.flatMap_append]
  simp
  rfl
 ·obtain rfl:i=l.length:=by omega
  rw [List.take_length]
  repeat' first|refine Yz ?_|intro _
  refine reE ?_
  rfl⟩
def layB (x:Bs)(i:Nat):Bs:=x.take i++zeros (32 - i)
theorem layB_len {x:Bs}{i:Nat}(hx:x.length=32)(hi:i<=32):(layB x i).length=32:=by simp [layB,zeros,hx];omega
theorem layB_next {x:Bs}{i:Nat}(hx:x.length=32)(hi:i < 32):(layB x i).set i (x[i]'(by omega))=layB x (i + 1):=by
 unfold layB
 have h1:(x.take i).length=i:=by simp [hx];omega
 have h2:∀ (a b:List UInt8) (j:Nat) (c:UInt8),a.length=j->(a++b).set j c=a++b.set 0 c:=fun a b j c h=>by
  subst h
  simp
 rw [h2 _ _ _ _ h1,List.take_succ_eq_append_getElem (by omega),laa]
 congr 1
 rw [show 32 - i=(32 - (i + 1)) + 1 by omega]
 rfl
theorem layB_all {x:Bs}(hx:x.length=32):layB x 32=x:=by
 unfold layB
 rw [List.take_of_length_le (by omega),Nat.sub_self]
 simp [zeros]
end Go.Proofs.YtlkkekpcofjbeaaGreatDoor

namespace Go.Proofs.YtlkkekpcofjbeaaGreatDoor
open Go Go.RowKit Tw Av

def setR (k:Bs)(n:Nat)(d:List Ent):List Ent × Int:=if n=0 then (drpL d k,0) else putR d k (beB n)
def mintQ (d:List Ent)(a c:Bs)(n:Wd):List Ent × Int:=if nameB a=false\/dnmB c=false\/n.n=0 then ([],1)
 else if wIs ((getW d (totK c)).n + n.n)=false\/wIs ((getW d (balK a c)).n + n.n)=false then ([],17)
 else thenR (setR (totK c) ((getW d (totK c)).n + n.n)) (setR (balK a c) ((getW d (balK a c)).n + n.n)) d
theorem balK_tot {a c t:Bs}:balK a c≠totK t:=fun e=>by
 unfold balK totK at e
 rw [laa] at e
 injection e with e
 cases e
theorem getW_put {d:List Ent}{k v q:Bs}(h:Srt d)(hq:q≠k):getW (putL d k v) q=getW d q:=by
 unfold getW
 rw [valE_put h,if_neg hq]
theorem getW_drp {d:List Ent}{k q:Bs}(h:Srt d)(hq:q≠k):getW (drpL d k) q=getW d q:=by
 unfold getW
 rw [valE_drp h,if_neg hq]
theorem putR_ne {d:List Ent}{k v q:Bs}(h:Srt d)(hq:q≠k)(he:(putR d k v).2=0):getW (putR d k v).1 q=getW d q:=by
 unfold putR at he ⊢
 split
 ·exact getW_put h hq
 ·rename_i h1
  rw [if_neg h1] at he
  exact absurd he h1
theorem setR_ne {d:List Ent}{k q:Bs}{n:Nat}(h:Srt d)(hq:q≠k)(he:(setR k n d).2=0):getW (setR k n d).1 q=getW d q:=by
 unfold setR at he ⊢
 split
 ·exact getW_drp h hq
 ·rename_i h1
  rw [if_neg h1] at he
  exact putR_ne h hq he
theorem more_set {d:List Ent}{k:Bs}{n:Wd}(hn:n.n≠0):moreR k n d=if wIs ((getW d k).n + n.n)=true then setR k ((getW d k).n + n.n) d else ([],17):=by
 unfold moreR setR
 split
 ·rw [if_neg (by omega)]
 ·rfl
theorem mint_eq {d:List Ent}(h:DOk d)(a c:Bs)(n:Wd):mintR d a c n=mintQ d a c n:=by
 unfold mintR mintQ
 split
 ·rfl
 ·rename_i h1
  simp only [not_or,Bool.not_eq_false] at h1
  obtain⟨h2,h3,h4⟩:=h1
  by_cases h5:wIs ((getW d (balK a c)).n + n.n)=false
  ·rw [if_pos h5,if_pos (.inr h5)]
  ·rw [if_neg h5]
   have h5':wIs ((getW d (balK a c)).n + n.n)=true:=by simpa using h5
   unfold thenR
   by_cases h6:wIs ((getW d (totK c)).n + n.n)=false
   ·have m1:moreR (totK c) n d=([],17):=by rw [more_set h4,if_neg (by simp [h6])]
    have n0:¬ (([],17):List Ent × Int).2=0:=by decide
    rw [m1,if_neg n0,if_pos (.inl h6)]
   ·have h6':wIs ((getW d (totK c)).n + n.n)=true:=by simpa using h6
    have m1:moreR (totK c) n d=setR (totK c) ((getW d (totK c)).n + n.n) d:=by rw [more_set h4,if_pos h6']
    have hc:¬ (wIs ((getW d (totK c)).n + n.n)=false\/wIs ((getW d (balK a c)).n + n.n)=false):=by rw [h5',h6'];decide
    rw [m1,if_neg hc]
    by_cases h7:(setR (totK c) ((getW d (totK c)).n + n.n) d).2=0
    ·rw [if_pos h7,if_pos h7,more_set h4,setR_ne h.s balK_tot h7,if_pos h5']
    ·rw [if_neg h7,if_neg h7]
theorem putR_dok {d:List Ent}{k v:Bs}(h:DOk d):DOk (putR d k v).1:=by
 unfold putR
 split
 ·rename_i h1;exact h.put h1
 ·exact .nil
theorem moreR_dok {d:List Ent}{k:Bs}{n:Wd}(h:DOk d):DOk (moreR k n d).1:=by
 unfold moreR
 split
 ·exact putR_dok h
 ·exact .nil
theorem lessR_dok {d:List Ent}{k:Bs}{n:Wd}(h:DOk d):DOk (lessR k n d).1:=by
 unfold lessR
 split
 ·exact .nil
 ·split
  ·exact h.drp _
  ·exact putR_dok h
theorem thenR_dok {d:List Ent}{a b:List Ent->List Ent × Int}(h:DOk d)(ha:∀ d,DOk d->DOk (a d).1)(hb:∀ d,DOk d->DOk (b d).1):DOk (thenR a b d).1:=by
 unfold thenR
 split
 ·exact hb _ (ha _ h)
 ·exact ha _ h
theorem mintR_dok {d:List Ent}{a c:Bs}{n:Wd}(h:DOk d):DOk (mintR d a c n).1:=by
 unfold mintR
 split
 ·exact .nil
 ·split
  ·exact .nil
  ·exact thenR_dok h (fun _ h=>moreR_dok h) (fun _ h=>moreR_dok h)
theorem burnR_dok {d:List Ent}{a c:Bs}{n:Wd}(h:DOk d):DOk (burnR d a c n).1:=by
 unfold burnR
 split
 ·exact .nil
 ·exact thenR_dok h (fun _ h=>lessR_dok h) (fun _ h=>lessR_dok h)
theorem moveR_dok {d:List Ent}{a b c:Bs}{n:Wd}(h:DOk d):DOk (moveR d a b c n).1:=by
 unfold moveR
 split
 ·exact .nil
 ·split
  ·exact h
  ·exact thenR_dok h (fun _ h=>lessR_dok h) (fun _ h=>moreR_dok h)
theorem sendR_dok {d:List Ent}{x:Pkt}(h:DOk d):DOk (sendR d x).1:=by
 unfold sendR
 split
 ·exact .nil
 ·split
  ·exact burnR_dok h
  ·exact moveR_dok h
theorem recvR_dok {d:List Ent}{x:Pkt}(h:DOk d):DOk (recvR d x).1:=by
 unfold recvR
 split
 ·exact .nil
 ·split
  ·exact moveR_dok h
  ·exact mintR_dok h
theorem backR_dok {d:List Ent}{x:Pkt}(h:DOk d):DOk (backR d x).1:=by
 unfold backR
 split
 ·exact .nil
 ·split
  ·exact mintR_dok h
  ·exact moveR_dok h

def fill {α:Type}(f:α->Value)(z:Value)(l:List α)(i:Nat):List AV:=(l.take i).map (fun x=>.lit (f x))++List.replicate (l.length - i) (.lit z)
instance {α:Type}{f:α->Value}{z:Value}{l:List α}{i:Nat}:Siz (fill f z l i) 1:=by unfold fill;infer_instance
theorem fill_len {α:Type}{f:α->Value}{z:Value}{l:List α}{i:Nat}(h:i<=l.length):(fill f z l i).length=l.length:=by simp [fill];omega
theorem fill_set {α:Type}{f:α->Value}{z:Value}{l:List α}{i:Nat}(h:i < l.length):(fill f z l i).set i (.lit (f l[i]))=fill f z l (i + 1):=by
 have hl:((l.take i).map fun x=>AV.lit (f x)).length=i:=by simp;omega
 unfold fill
 rw [List.set_append,if_neg (by omega),hl,Nat.sub_self,show l.length - i=(l.length - (i + 1)) + 1 by omega,List.replicate_succ,List.set_cons_zero,List.take_succ_eq_append_getElem h,List.map_append,laa]
 rfl
theorem fill_all {α:Type}{f:α->Value}{z:Value}{l:List α}:fill f z l l.length=l.map fun x=>.lit (f x):=by simp [fill]
class U8s (xs:List AV)(l:outParam Bs):Prop where
 out:xs=l.map u8A
instance {l:Bs}:U8s (l.map u8A) l:=⟨rfl⟩
instance {xs:List AV}{l:Bs}{i:Nat}[h:U8s xs l]:U8s (xs.take i) (l.take i):=⟨by rw [h.out,List.map_take]⟩
instance {xs:List AV}{l:Bs}{i:Nat}[h:U8s xs l]:U8s (xs.drop i) (l.drop i):=⟨by rw [h.out,List.map_drop]⟩
instance fnRBlock' {x:H8}{xs:List AV}{blk:Bs}{id:Option Value}[h:U8s xs blk]:Ans Tryz.prog GL 257 [tabA,hwA x,.sl 1 xs id] (blk.length=64) (hwA (compress x blk)):=by
 rw [h.out]
 infer_instance
def padZ (n:Nat):Nat:=(119 - n % 64) % 64
theorem pad_len (s:Bs):(pad s).length=s.length + 1 + padZ s.length + 8:=by
 have:(be64 (8 * s.length)).length=8:=rfl
 simp [pad,zeros,this,padZ]
 omega
theorem u8w (q:Nat):Value.int .u8 (IntKind.u8.wrap (q:Int))=u8v (UInt8.ofNat q):=by
 unfold u8v
 rw [IntKind.wrap_u8]
 congr 1
attribute [local irreducible] Av.Obl
set_option maxHeartbeats 4000000 in
instance fnRSum {s:Bs}:Ans Tryz.prog GL 213 [tabA,str s] (s.length<=35184372088832) (hA (shaH s)):=⟨fun hl=>by
 refine qE Tryz.func213 rfl Tryz.ntmps213 rfl (fun _ hs=>?_)
 repeat' (first|refine ct1 ?_|refine al_move ?_|refine al_box (fun _=>?_)|refine al_alloc (fun _=>?_)|intro _|fail)
 rename_i g2 g4
 refine al_bytesT (fun v=>?_)
 repeat' first|refine Wz ?_|intro _
 refine al_append (fun v'=>?_)
 repeat' first|refine Wz ?_|intro _
 have hZ:padZ s.length < 64:=by unfold padZ;omega
 have hs0:s.map (fun c=>AV.lit (u8v c))++[.lit (.int .u8 128)]=(s++128::zeros 0).map u8A:=by
  rw [List.map_append]
  rfl
 refine ac_as 5 (v':=.sl 1 ((s++128::zeros 0).map u8A) (some v')) (Imp.of_eq (by rw [<- hs0])) ?_
 refine ac_loop (α:=Nat × Value) (fun q=>[(1,str s),(2,ptr g2),(4,ptr g4),(5,.sl 1 ((s++128::zeros q.1).map u8A) (some q.2))]) (fun q=>[.tail 5 1 q.2,.var g4 40 (hA zeroH),.var g2 251 tabA])
  (fun q=>q.1<=padZ s.length) (fun q=>padZ s.length - q.1) (0,v') ⟨rfl,rfl,rfl,rfl,trivial⟩ slr (Nat.zero_le _) ?_
 rintro⟨z,v''⟩ hz
 dsimp only at hz ⊢
 have hlz:((s++128::zeros z).map u8A).length=s.length + 1 + z:=by simp [zeros];omega
 repeat' first|refine Wz ?_|intro _
 refine ac_cond (fun hne=>?_) (fun hne=>?_)
 ·repeat' first|refine Wz ?_|intro _
  rw [hlz] at hne
  refine al_append (hb:=by rw [hlz];simp;omega) (hl:=by rw [hlz];simp [maxLen];omega) (fun v3=>?_)
  repeat' first|refine Wz ?_|intro _
  have e:(s++128::zeros z).map u8A++[.lit (.int .u8 0)]=(s++128::zeros (z + 1)).map u8A:=by
   simp [zeros,List.replicate_succ',u8v]
  rw [e]
  exact ae_round (z + 1,v3) ⟨rfl,rfl,rfl,rfl,trivial⟩ slr (by simp only;unfold padZ at *;omega) (by simp only;unfold padZ at *;omega)
 ·rw [hlz] at hne
  obtain rfl:z=padZ s.length:=by unfold padZ at *;omega
  repeat' first|refine Wz ?_|intro _
  refine al_arith ?_
  have hw:IntKind.u64.wrap ((s.length:Int) * 8)=((8 * s.length:Nat):Int):=by rw [IntKind.wrap_u64];omega
  rw [hw]
  repeat' first|refine Wz ?_|intro _
  generalize hB:s++128::zeros (padZ s.length)=B at *
  have hlB:B.length=s.length + 1 + padZ s.length:=by simpa using hlz
  refine ac_loop (α:=Nat × Value) (fun q=>[(2,ptr g2),(4,ptr g4),(5,.sl 1 ((B++(be64 (8 * s.length)).take q.1).map u8A) (some q.2)),(6,.lit (.int .u64 ((8 * s.length:Nat):Int))),(7,int (7 - (q.1:Int)))]) (fun q=>[.tail 5 1 q.2,.var g4 40 (hA zeroH),.var g2 251 tabA])
   (fun q=>q.1<=8) (fun q=>8 - q.1) (0,v'') ⟨rfl,rfl,by simp;rfl,rfl,rfl,trivial⟩ slr (Nat.zero_le _) ?_
  rintro⟨i,v4⟩ hi
  dsimp only at hi ⊢
  have hl8:(be64 (8 * s.length)).length=8:=rfl
  have hlq:((B++(be64 (8 * s.length)).take i).map u8A).length=B.length + i:=by simp [hl8];omega
  repeat' first|refine Wz ?_|intro _
  refine ac_cond (fun hge=>?_) (fun hge=>?_)
  ·repeat' first|refine Wz ?_|intro _
   refine al_shrC (k:=.u64) (n:=8 * (7 - i)) (hb:=by show _=((8 * (7 - i):Nat):Int);omega) (hn:=Nat.ble_eq_true_of_le (show 8 * (7 - i)<=64 by omega)) ?_
   repeat' first|refine Wz ?_|intro _
   rw [<- Int.natCast_ediv,u8w]
   refine al_append (hb:=by rw [hlq];simp;omega) (hl:=by rw [hlq];simp [maxLen];omega) (fun v5=>?_)
   repeat' first|refine Wz ?_|intro _
   have hg:=be64_get (8 * s.length) (7 - i) (by omega)
   rw [show 7 - (7 - i)=i by omega] at hg
   have hi8:i < (be64 (8 * s.length)).length:=by omega
   have e:(B++(be64 (8 * s.length)).take i).map u8A++[.lit (u8v (UInt8.ofNat (8 * s.length / 2 ^ (8 * (7 - i)))))]=(B++(be64 (8 * s.length)).take (i + 1)).map u8A:=by
    rw [List.getElem?_eq_getElem hi8] at hg
    injection hg with hg
    rw [<- hg,List.take_succ_eq_append_getElem hi8,<- laa,List.map_append (l₁:=B++List.take i _)]
    rfl
   rw [e]
   have e7:(7:Int) - (i:Int) - 1=7 - ((i + 1:Nat):Int):=by omega
   rw [e7]
   exact ae_round (i + 1,v5) ⟨rfl,rfl,rfl,rfl,rfl,trivial⟩ slr (by simp only;omega) (by simp only;omega)
  ·obtain rfl:i=8:=by omega
   rw [List.take_of_length_le (by omega)] at hlq ⊢
   have hP:B++be64 (8 * s.length)=pad s:=by rw [<- hB,pad,laa];rfl
   rw [hP] at hlq ⊢
   have hlP:(pad s).length=s.length + 1 + padZ s.length + 8:=pad_len s
   have hm64:(pad s).length % 64=0:=by rw [hlP];unfold padZ;omega
   generalize hPP:pad s=P at *
   repeat' first|refine Wz ?_|intro _
   rename_i g8
   refine ac_loop (α:=Nat) (fun i=>[(2,ptr g2),(4,ptr g4),(5,.sl 1 (P.map u8A) (some v4)),(8,ptr g8),(9,int i)]) (fun i=>[.var g8 289 (.agg 8 (fill w32v (w32v 0) h0.words i)),.tail 5 1 v4,.var g4 40 (hA zeroH),.var g2 251 tabA])
    (fun i=>i<=8) (fun i=>8 - i) 0 ⟨rfl,rfl,rfl,rfl,rfl,trivial⟩ slr (Nat.zero_le _) ?_
   intro i hi
   have hw8:h0.words.length=8:=rfl
   repeat' first|refine Wz ?_|intro _
   refine ac_cond (fun hlt=>?_) (fun hlt=>?_)
   ·have hi8:i < h0.words.length:=by omega
    repeat' first|refine Wz ?_|intro _
    refine al_idxM (l:=h0.words) (f:=fun x=>.lit (w32v x)) i hi8 ?_
    repeat' first|refine Wz ?_|intro _
    refine al_idxA i ?_
    repeat' first|refine Wz ?_|intro _
    refine al_storeE (j:=i) (ps:=fill w32v (w32v 0) h0.words i) (by rw [fill_len (by omega)];omega) ?_
    rw [fill_set hi8]
    repeat' first|refine Wz ?_|intro _
    exact ae_round (i + 1) ⟨rfl,rfl,rfl,rfl,rfl,trivial⟩ slr (by omega) (by omega)
   ·obtain rfl:i=h0.words.length:=by omega
    rw [fill_all]
    repeat' first|refine Wz ?_|intro _
    refine ac_loop (α:=Nat) (fun q=>[(2,ptr g2),(4,ptr g4),(5,.sl 1 (P.map u8A) (some v4)),(8,ptr g8),(10,int (64 * (q:Int)))]) (fun q=>[.var g8 289 (hwA (absorb h0 q P)),.tail 5 1 v4,.var g4 40 (hA zeroH),.var g2 251 tabA])
     (fun q=>64 * q<=P.length) (fun q=>P.length - 64 * q) 0 ⟨rfl,rfl,rfl,rfl,rfl,trivial⟩ slr (Nat.zero_le _) ?_
    intro q hq
    have hlPm:(P.map u8A).length=P.length:=llm _
    repeat' first|refine Wz ?_|intro _
    refine ac_cond (fun hlt=>?_) (fun hlt=>?_)
    ·rw [hlPm] at hlt
     repeat' first|refine Wz ?_|intro _
     apply obl_read [];exact rfl;exact rfl;kernel_rfl;intro _ _
     refine al_sliceD (64 * q) (64 * q + 64) ?_
     exact al_nil (ae_got rfl rfl)
     repeat' first|refine Wz ?_|intro _
     have e:compress (absorb h0 q P) ((P.take (64 * q + 64)).drop (64 * q))=absorb h0 (q + 1) P:=by
      rw [absorb_succ,List.drop_take]
      congr 2
      omega
     rw [e]
     have e2:(64:Int) * (q:Int) + 64=64 * ((q + 1:Nat):Int):=by omega
     rw [e2]
     exact ae_round (q + 1) ⟨rfl,rfl,rfl,rfl,rfl,trivial⟩ slr (by omega) (by omega)
    ·rw [hlPm] at hlt
     obtain rfl:q=P.length / 64:=by omega
     have hsha:shaH s=⟨(absorb h0 (P.length / 64) P).bytes,rfl⟩:=Hsh.ext' (by rw [<- hPP];rfl)
     rw [hsha]
     generalize absorb h0 (P.length / 64) P=X at *
     repeat' first|refine Wz ?_|intro _
     rename_i g11
     refine ac_loop (α:=Nat) (fun i=>[(4,ptr g4),(8,ptr g8),(11,ptr g11),(12,int i)]) (fun i=>[.var g11 40 (.agg 32 (fill u8v (u8v 0) X.bytes i)),.var g8 289 (hwA X),.var g4 40 (hA zeroH)])
      (fun i=>i<=32) (fun i=>32 - i) 0 ⟨rfl,rfl,rfl,rfl,trivial⟩ (by repeat (first|exact List.nil_sublist _|exact List.Sublist.refl _|apply List.Sublist.cons_cons|apply List.Sublist.cons)) (Nat.zero_le _) ?_
     intro i hi
     have hb32:X.bytes.length=32:=rfl
     repeat' first|refine Wz ?_|intro _
     refine ac_cond (fun hlt=>?_) (fun hlt=>?_)
     ·have hi32:i < X.bytes.length:=by omega
      repeat' first|refine Wz ?_|intro _
      refine al_idxA (i / 4) ?_
      repeat' first|refine Wz ?_|intro _
      refine al_loadE (j:=i / 4) (ps:=X.words.map fun x=>.lit (w32v x)) (u:=w32A (X.words.getD (i / 4) 0)) (by rw [List.getElem?_map,words_get X (i / 4) (by omega)];rfl) ?_
      repeat' first|refine Wz ?_|intro _
      refine al_shr32 (24 - 8 * (i % 4)) ?_
      repeat' first|refine Wz ?_|intro _
      have hg:=bytes_get X i (by omega)
      rw [List.getElem?_eq_getElem hi32] at hg
      injection hg with hg
      rw [BitVec.toNat_ushiftRight,Nat.shiftRight_eq_div_pow,u8w,<- hg]
      refine al_idxA i ?_
      refine al_storeE (j:=i) (ps:=fill u8v (u8v 0) X.bytes i) (by rw [fill_len (by omega)];omega) ?_
      rw [fill_set hi32]
      repeat' first|refine Wz ?_|intro _
      exact ae_round (i + 1) ⟨rfl,rfl,rfl,rfl,trivial⟩ slr (by omega) (by omega)
     ·obtain rfl:i=X.bytes.length:=by omega
      rw [fill_all]
      repeat' first|refine Wz ?_|intro _
      refine reE ?_
      rfl⟩
end Go.Proofs.YtlkkekpcofjbeaaGreatDoor

namespace Go.Proofs.YtlkkekpcofjbeaaGreatDoor
open Go Go.RowKit Tw Av
theorem quick_spec {s:Bs}(hl:s.length<=35184372088832):SpecE Tryz.prog GL 143 [str s] (hA (shaH s)):=by
 refine qE Tryz.func143 rfl Tryz.ntmps143 rfl (fun _ hs=>?_)
 repeat' first|refine Wz ?_|intro _
 refine al_callP (args:=[tabA,str s]) (hc:=fnRSum) hl ?_
 repeat' first|refine Wz ?_|intro _
 refine reE ?_
 rfl
instance fnQuick {s:Bs}{n:Nat}[h:LenLe s n]:Ans Tryz.prog GL 143 [str s] (n<=35184372088832) (hA (shaH s)):=⟨fun hn=>quick_spec (Nat.le_trans h.out hn)⟩
theorem ofH3 (a b c:Bs):ofH [a,b,c]=shaH (a++b++c):=by simp [ofH]
instance fnRLeaf {a b:Bs}:Ans Tryz.prog GL 144 [.agg 2 [str a,str b]] True (hA (leafH ⟨a,b⟩)):=⟨fun _=>by
 refine qE Tryz.func144 rfl Tryz.ntmps144 rfl (fun _ hs=>?_)
 repeat' first|refine Wz ?_|intro _
 refine reE ?_
 rw [leafH,ofH3]
 rfl⟩
instance fnRNode {a b:Hsh}:Ans Tryz.prog GL 145 [hA a,hA b] True (hA (nodeH a b)):=⟨fun _=>by
 refine qE Tryz.func145 rfl Tryz.ntmps145 rfl (fun _ hs=>?_)
 repeat' first|refine Wz ?_|intro _
 refine reE ?_
 rw [nodeH,ofH3]
 rfl⟩
instance fnRTop {n:Int}{h:Hsh}:Ans Tryz.prog GL 77 [int n,hA h] (n<=9223372036854775807) (hA (topH n h)):=⟨fun hn=>by
 refine qE Tryz.func77 rfl Tryz.ntmps77 rfl (fun _ hs=>?_)
 repeat' first|refine Wz ?_|intro _
 refine reE ?_
 rw [topH,ofH3]
 rfl⟩
theorem rtree_ans (n:Nat):n<=1000000->∀ {l:List Ent} {xs:List AV} {id:Option Value} [Ents xs l],Ans Tryz.prog GL 78 [.sl 2 xs id] (l.length<=n) (hA (treeH (l.map leafH))):=by
 induction n with
 | zero=>
  intro _ l xs id hx
  refine⟨fun hl=>?_⟩
  have h:=hx.out
  subst h
  obtain rfl:l=[]:=List.eq_nil_of_length_eq_zero (by omega)
  refine qE Tryz.func78 rfl Tryz.ntmps78 rfl (fun _ hs=>?_)
  repeat' first|refine Wz ?_|intro _
  refine reE ?_
  rfl
 | succ n ih=>
  intro hn l xs id hx
  have ih:=@ih (by omega)
  refine⟨fun hl=>?_⟩
  have h:=hx.out
  subst h
  have hm:(l.map entA).length=l.length:=llm _
  refine qE Tryz.func78 rfl Tryz.ntmps78 rfl (fun _ hs=>?_)
  repeat' first|refine Wz ?_|intro _
  refine ac_cond (fun h0=>?_) (fun h0=>?_)
  ·obtain rfl:l=[]:=List.eq_nil_of_length_eq_zero (by omega)
   repeat' first|refine Wz ?_|intro _
   refine reE ?_
   rfl
  ·repeat' first|refine Wz ?_|intro _
   refine ac_cond (fun h1=>?_) (fun h1=>?_)
   ·obtain⟨x,rfl⟩:∃ x,l=[x]:=List.length_eq_one_iff.1 (by omega)
    repeat' first|refine Wz ?_|intro _
    refine al_idxM 0 (show 0 < [x].length by simp) ?_
    repeat' first|refine Wz ?_|intro _
    refine reE ?_
    rfl
   ·repeat' first|refine Wz ?_|intro _
    have hk0:(((l.map entA).length:Int) + 1) / 2=(((l.length + 1) / 2:Nat):Int):=by omega
    rw [hk0]
    have hst:=treeH_step (l.map leafH) (by rw [llm];omega)
    rw [llm,<- List.map_take,<- List.map_drop] at hst
    generalize hk:(l.length + 1) / 2=k at *
    apply obl_read [];exact rfl;exact rfl;kernel_rfl;intro _ _
    refine al_sliceD 0 k ?_
    exact al_nil (ae_got rfl rfl)
    repeat' first|refine Wz ?_|intro _
    apply obl_read [];exact rfl;exact rfl;kernel_rfl;intro _ _
    refine al_sliceD k l.length ?_
    exact al_nil (ae_got rfl rfl)
    repeat' first|refine Wz ?_|intro _
    refine reE ?_
    rw [hst,List.drop_zero,List.take_length]
    rfl
instance fnRTree {l:List Ent}{xs:List AV}{id:Option Value}[Ents xs l]:Ans Tryz.prog GL 78 [.sl 2 xs id] (l.length<=1000000) (hA (treeH (l.map leafH))):=rtree_ans 1000000 (Nat.le_refl _)
instance fnRRoot {d:List Ent}{xs:List AV}{id:Option Value}[hx:Ents xs d]:Ans Tryz.prog GL 41 [.sl 2 xs id] (d.length<=1000000) (hA (topH d.length (treeH (d.map leafH)))):=⟨fun hl=>by
 have h:=hx.out
 subst h
 have hm:(d.map leafH).length=d.length:=llm _
 have hm2:(d.map entA).length=d.length:=llm _
 refine qE Tryz.func41 rfl Tryz.ntmps41 rfl (fun _ hs=>?_)
 repeat' first|refine Wz ?_|intro _
 refine reE ?_
 rw [<- hm2]
 rfl⟩

def pathDown:List WayStep->List Hsh->List Hsh
 | [],_=>[]
 | t::ts,l=>if t.1=true then treeH (l.drop t.2.1)::pathDown ts (l.take t.2.1) else treeH (l.take t.2.1)::pathDown ts (l.drop t.2.1)
def pathH (l:List Hsh)(i:Int):List Hsh:=(pathDown (wayOf l.length i) l).reverse
def upH:List WayStep->Hsh->List Hsh->Hsh
 | [],h,_=>h
 | t::ts,h,p=>if t.1=true then nodeH (upH ts h p.dropLast) (p.getLastD zeroH) else nodeH (p.getLastD zeroH) (upH ts h p.dropLast)
def foldH (n i:Int)(h:Hsh)(p:List Hsh):Option Hsh:=if i < 0\/n<=i\/2000 < n\/(wayOf n i).length≠p.length then none else some (topH n (upH (wayOf n i) h p))
theorem pathDown_len:∀ (ts:List WayStep) (l:List Hsh),(pathDown ts l).length=ts.length
 | [],_=>rfl
 | t::ts,l=>by
  unfold pathDown
  split <;> simp [pathDown_len ts]
theorem turns_len:∀ (f n i:Nat),n<=f->(turns n i).length<=n
 | 0,n,i,h=>by
  obtain rfl:n=0:=by omega
  simp [turns,turnsF]
 | f + 1,n,i,h=>by
  by_cases hn:1 < n
  ·rw [turns_step n i hn,List.length_cons]
   split
   ·have:=turns_len f ((n + 1) / 2) i (by omega)
    omega
   ·have:=turns_len f (n - (n + 1) / 2) (i - (n + 1) / 2) (by omega)
    omega
  ·obtain rfl|rfl:n=0\/n=1:=by omega
   ·simp [turns,turnsF]
   ·simp [turns_one]
theorem pathH_len (l:List Hsh)(i:Int):(pathH l i).length=(wayOf l.length i).length:=by simp [pathH,pathDown_len]
theorem way_len (n:Nat)(i:Int):(wayOf n i).length<=n:=by
 unfold wayOf
 split
 ·simp
 ·exact turns_len n _ _ (by simp)
theorem way_eq {n i:Nat}(h:i < n)(hn:n<=2000):wayOf (n:Int) (i:Int)=turns n i:=by
 unfold wayOf
 rw [if_neg (by omega)]
 simp
theorem getLastD_append {α:Type}(l:List α)(x z:α):(l++[x]).getLastD z=x:=by simp [List.getLastD_eq_getLast?]
theorem upH_snoc (t:WayStep)(ts:List WayStep)(h x:Hsh)(p:List Hsh):upH (t::ts) h (p++[x])=if t.1=true then nodeH (upH ts h p) x else nodeH x (upH ts h p):=by
 rw [upH,List.dropLast_concat,getLastD_append]
theorem way_row {n i:Nat}(_h:i < n)(hn:1 < n):turns n i=(decide (i < (n + 1) / 2),(n + 1) / 2,n - (n + 1) / 2)::turns (if i < (n + 1) / 2 then (n + 1) / 2 else n - (n + 1) / 2) (if i < (n + 1) / 2 then i else i - (n + 1) / 2):=by
 rw [turns_step n i hn]
 split <;> rfl
theorem up_path:∀ (n:Nat) (l:List Hsh) (i:Nat) (x:Hsh),l.length=n->l[i]?=some x->upH (turns n i) x (pathDown (turns n i) l).reverse=treeH l:=by
 intro n
 induction n using Nat.strongRecOn with
 | _ n ih=>
  intro l i x hl hx
  have hi:i < n:=by rw [<- hl];exact (List.getElem?_eq_some_iff.1 hx).1
  by_cases h1:1 < n
  ·have hst:=treeH_step l (by omega)
   rw [hl] at hst
   rw [turns_step n i h1,hst]
   unfold pathDown
   generalize hk:(n + 1) / 2=k at *
   by_cases hik:i < k
   ·have ih:=ih k (by omega) (l.take k) i x (by simp;omega) (by rw [List.getElem?_take_of_lt hik];exact hx)
    simp only [hik,decide_true,if_true,List.reverse_cons]
    rw [upH_snoc,if_pos rfl,ih]
   ·have ih:=ih (n - k) (by omega) (l.drop k) (i - k) x (by simp;omega) (by rw [List.getElem?_drop,show k + (i - k)=i by omega];exact hx)
    simp only [hik,decide_false,if_false,List.reverse_cons,Bool.false_eq_true]
    rw [upH_snoc,if_neg (by simp),ih]
  ·have h2:l.length=1:=by omega
   obtain⟨y,rfl⟩:=List.length_eq_one_iff.1 h2
   obtain rfl:n=1:=by simpa using hl.symm
   obtain rfl:i=0:=by omega
   obtain rfl:y=x:=by simpa using hx
   simp [turns_one,upH,treeH,treeF]

theorem bad_fold {n i:Int}{h:Hsh}{p:List Hsh}(hb:i < 0\/n<=i\/2000 < n\/(wayOf n i).length≠p.length):foldH n i h p=none:=if_pos hb
theorem good_fold {n i:Int}{h:Hsh}{p:List Hsh}(hb:¬ (i < 0\/n<=i\/2000 < n\/(wayOf n i).length≠p.length)):foldH n i h p=some (topH n (upH (wayOf n i) h p)):=if_neg hb
instance fnFold {n i:Int}{h:Hsh}{p:List Hsh}{xs:List AV}{id:Option Value}[hx:Hshs xs p]:Ans Tryz.prog GL 277 [int n,int i,hA h,.sl 32 xs id] (n<=9223372036854775807) (.tup [hA ((foldH n i h p).getD zeroH),boo (foldH n i h p).isSome]):=⟨fun hn=>by
 have hh:=hx.out
 subst hh
 have hmp:(p.map hA).length=p.length:=llm _
 have hmt:((wayOf n i).map trA).length=(wayOf n i).length:=llm _
 refine qE Tryz.func277 rfl Tryz.ntmps277 rfl (fun _ hs=>?_)
 repeat' first|refine Wz ?_|intro _
 refine gu1 (fun h1=>?_) (fun h1=>?_)
 ·repeat' first|refine Wz ?_|intro _
  refine reE ?_
  rw [bad_fold (.inl h1)]
  rfl
 ·repeat' first|refine Wz ?_|intro _
  refine gu1 (fun h2=>?_) (fun h2=>?_)
  ·repeat' first|refine Wz ?_|intro _
   refine reE ?_
   rw [bad_fold (.inr (.inl h2))]
   rfl
  ·repeat' first|refine Wz ?_|intro _
   refine gu1 (fun h3=>?_) (fun h3=>?_)
   ·repeat' first|refine Wz ?_|intro _
    refine reE ?_
    rw [bad_fold (.inr (.inr (.inl h3)))]
    rfl
   ·repeat' first|refine Wz ?_|intro _
    refine ac_cond (fun h4=>?_) (fun h4=>?_)
    ·repeat' first|refine Wz ?_|intro _
     refine reE ?_
     rw [bad_fold (.inr (.inr (.inr (by omega))))]
     rfl
    ·have hgd:=good_fold (h:=h) (show ¬ (i < 0\/n<=i\/2000 < n\/(wayOf n i).length≠p.length) by omega)
     rw [hgd]
     have hm:(wayOf n i).length=p.length:=by omega
     have hpl:p.length<=2000:=by
      rw [<- hm]
      unfold wayOf
      split
      ·simp
      ·exact Nat.le_trans (turns_len _ _ _ (Nat.le_refl _)) (by omega)
     generalize wayOf n i=ts at *
     repeat' first|refine Wz ?_|intro _
     rename_i g6 g8 g11
     refine ac_loop (α:=Nat) (fun j=>[(0,int n),(6,ptr g6),(8,ptr g8),(10,.sl 3 (ts.map trA) none),(11,ptr g11),(37,.sl 32 (p.map hA) id),(38,int (p.map hA).length),(39,int j)]) (fun j=>[.var g11 40 (hA (upH (ts.drop (p.length - j)) h (p.take j))),.var g8 40 (hA zeroH)])
      (fun j=>j<=p.length) (fun j=>p.length - j) 0 ⟨rfl,rfl,rfl,rfl,rfl,rfl,rfl,rfl,trivial⟩ ?_ (Nat.zero_le _) ?_
     ·rw [Nat.sub_zero,<- hm,List.drop_length,upH]
      exact sbl
     intro j hj
     repeat' first|refine Wz ?_|intro _
     refine ac_cond (fun hlt=>?_) (fun hlt=>?_)
     ·have hjp:j < p.length:=by omega
      have hjt:p.length - 1 - j < ts.length:=by omega
      have hst:upH (ts.drop (p.length - (j + 1))) h (p.take (j + 1))=if ts[p.length - 1 - j].1=true then nodeH (upH (ts.drop (p.length - j)) h (p.take j)) p[j] else nodeH p[j] (upH (ts.drop (p.length - j)) h (p.take j)):=by
       rw [show p.length - (j + 1)=p.length - 1 - j by omega,List.drop_eq_getElem_cons hjt,List.take_succ_eq_append_getElem hjp,upH_snoc,show p.length - 1 - j + 1=p.length - j by omega]
      repeat' first|refine Wz ?_|intro _
      refine al_idxM (l:=p) (f:=hA) j hjp ?_
      repeat' first|refine Wz ?_|intro _
      refine al_idxM (l:=ts) (f:=trA) (p.length - 1 - j) hjt ?_
      repeat' first|refine Wz ?_|intro _
      refine ac_condB (fun hb=>?_) (fun hb=>?_)
      ·rw [if_pos hb] at hst
       repeat' first|refine Wz ?_|intro _
       refine ae_round (j + 1) ⟨rfl,rfl,rfl,rfl,rfl,rfl,rfl,rfl,trivial⟩ ?_ hjp (by omega)
       rw [hst]
       exact sbl
      ·rw [if_neg (by rw [hb];simp)] at hst
       repeat' first|refine Wz ?_|intro _
       refine ae_round (j + 1) ⟨rfl,rfl,rfl,rfl,rfl,rfl,rfl,rfl,trivial⟩ ?_ hjp (by omega)
       rw [hst]
       exact sbl
     ·obtain rfl:j=p.length:=by omega
      rw [Nat.sub_self,List.drop_zero,List.take_length]
      repeat' first|refine Wz ?_|intro _
      refine reE ?_
      rfl⟩
end Go.Proofs.YtlkkekpcofjbeaaGreatDoor
