/- slices.Clone, Insert at states: own rows. -/
import Derived.Test.YtndhpgclmgpmoaaGreatDoorA16
import Derived.Test.YtndhpgclmgpmoaaGreatDoorA20
import Derived.Test.YtndhpgclmgpmoaaGreatDoorA22
import Derived.Test.YtndhpgclmgpmoaaGreatDoorA23
import Derived.Test.YtndhpgclmgpmoaaGreatDoorA27
import Derived.Test.YtndhpgclmgpmoaaGreatDoorA32
import Derived.Test.YtndhpgclmgpmoaaGreatDoorA35
namespace Go.Proofs.YtndhpgclmgpmoaaGreatDoor
open Go Go.RowKit Tw Av
def rpS1 (s:Bs):Bs:=rsT 105 8 s false
def rpB1 (s:Bs):Bool:=riB 105 2000 s false
def rpS2 (s:Bs):Bs:=rsT 109 8 (rpS1 s) (rpB1 s)
def rpB2 (s:Bs):Bool:=riB 109 2000 (rpS1 s) (rpB1 s)
def rpL (s:Bs):List Bs:=raL 112 16 32 (rpS2 s) (rpB2 s)
def rpE (s:Bs):Int:=reE' (rsT 112 16777215 (rpS2 s) (rpB2 s)) (raB 112 16 32 (rpS2 s) (rpB2 s))
def rpV (s:Bs):Prf:=⟨riI 105 2000 s false,riI 109 2000 (rpS1 s) (rpB1 s),(rpL s).map hOf⟩
def ok32 (t:Bs):Bool:=decide (t.length=32)
def rpOk (s:Bs):Bool:=(rpL s).all ok32 && decide (rpE s=0)
def rpdV (s:Bs):Prf:=if rpOk s=true then rpV s else zeroP
def rpdE (s:Bs):Int:=if rpOk s=true then 0 else 10
theorem ri1 {s:Bs}:rsT 105 8 s false=rpS1 s:=rfl
theorem ri2 {s:Bs}:riB 105 2000 s false=rpB1 s:=rfl
theorem ri3 {s:Bs}:rsT 109 8 (rpS1 s) (rpB1 s)=rpS2 s:=rfl
theorem ri4 {s:Bs}:riB 109 2000 (rpS1 s) (rpB1 s)=rpB2 s:=rfl
theorem ri5 {s:Bs}:raL 112 16 32 (rpS2 s) (rpB2 s)=rpL s:=rfl
theorem rp_lens (s:Bs):(rpS1 s).length<=s.length/\(rpS2 s).length<=s.length:=by
 have h1:=(rsT_len 105 8 s false).1
 have h2:=(rsT_len 109 8 (rpS1 s) (rpB1 s)).1
 rw [ri1] at h1
 rw [ri3] at h2
 exact⟨h1,by omega⟩
theorem all32_take {l:List Bs}{i:Nat}(hi:i < l.length)(h:(l.take i).all ok32=true)(h2:ok32 l[i]=true):(l.take (i + 1)).all ok32=true:=by
 rw [List.take_succ_eq_append_getElem hi,List.all_append,h]
 simp [h2]
theorem all32_not {l:List Bs}{i:Nat}(hi:i < l.length)(h2:ok32 l[i]=false):l.all ok32=false:=by
 rw [List.all_eq_false]
 exact⟨l[i],List.getElem_mem hi,by simp [h2]⟩
theorem raL_len' {c many most:Int}{s:Bs}{b:Bool}(h0:0<=many):((raL c many most s b).length:Int)<=many:=by
 unfold raL outA
 split
 ·simpa using h0
 ·rename_i h
  unfold badA at h
  by_cases hm:many < ((allX c most (rtT c 16777215 s b)).1.length:Int)
  ·rw [dT hm] at h
   simp at h
  ·omega
theorem imp_pvar {a m:Int}:ImpC (.agg 3 [int a,int m,.lit (.slice none 0 0)]) (.agg 3 [int a,int m,.sl 32 [] (some (.slice none 0 0))]):=fun ok w cs h=>by
 rw [RC] at h ⊢
 refine⟨h.1,?_⟩
 have h:=h.2
 rw [RCs] at h ⊢
 obtain⟨a1,b1,e1,f1,h⟩:=h
 refine⟨a1,b1,e1,f1,?_⟩
 rw [RCs] at h ⊢
 obtain⟨a1,b1,e1,f1,h⟩:=h
 refine⟨a1,b1,e1,f1,?_⟩
 rw [RCs] at h ⊢
 obtain⟨a1,b1,e1,f1,h⟩:=h
 exact⟨a1,b1,e1,ImpC.nilT _ _ _ f1,h⟩
theorem imp_rp0:Imp (.tup [.agg 3 [.lit (.int .i64 0),.lit (.int .i64 0),.lit (.slice none 0 0)],int 10]) (.tup [prfA zeroP,int 10]):=(inferInstance:ImpR _ (.tup [.agg 3 [int 0,int 0,.sl 32 [] none],int 10])).imp
theorem imp_rp {a m:Int}{xs:List AV}{v:Value}{e:Int}:Imp (.tup [.agg 3 [int a,int m,.sl 32 xs (some v)],int e]) (.tup [.agg 3 [int a,int m,.sl 32 xs none],int e]):=ImpR.imp
set_option maxHeartbeats 1000000 in
instance fnPRead {s:Bs}:Ans Tryz.prog GL 135 [str s] (s.length<=1000000000) (.tup [prfA (rpdV s),int (rpdE s)]):=⟨fun hl=>by
 obtain⟨l1,l2⟩:=rp_lens s
 have e1:(rpS1 s).length=(rsT 105 8 s false).length:=rfl
 have e2:(rpS2 s).length=(rsT 109 8 (rsT 105 8 s false) (riB 105 2000 s false)).length:=rfl
 refine qE Tryz.func135 rfl Tryz.ntmps135 rfl (fun _ hs=>?_)
 repeat' first|refine Yz ?_|intro _
 refine al_callK (args:=[str s]) [] _ (by rw [hs];exact tlvRead) (fun u m1 hh=>?_) lpr
 obtain⟨gr,rfl,rfl⟩:=hh
 repeat' first|refine Yz ?_|intro _
 rw [ri1,ri2,ri3,ri4,ri5]
 have hE:rpE s=reE' (rsT 112 16777215 (rpS2 s) (rpB2 s)) (raB 112 16 32 (rpS2 s) (rpB2 s)):=rfl
 have hV:rpV s=⟨riI 105 2000 s false,riI 109 2000 (rpS1 s) (rpB1 s),(rpL s).map hOf⟩:=rfl
 have hK:rpOk s=((rpL s).all ok32 && decide (rpE s=0)):=rfl
 have hn:=raL_len' (c:=112) (many:=16) (most:=32) (s:=rpS2 s) (b:=rpB2 s) (by decide)
 rw [ri5] at hn
 rw [rpdV,rpdE,hK,hV,hE]
 generalize rpL s=L at *
 generalize rsT 112 16777215 (rpS2 s) (rpB2 s)=S5 at *
 generalize raB 112 16 32 (rpS2 s) (rpB2 s)=B5 at *
 generalize riI 105 2000 s false=a at *
 generalize riI 109 2000 (rpS1 s) (rpB1 s)=m at *
 have hml:(L.map str).length=L.length:=llm _
 rename_i g2 g5
 refine ac_asV (g:=g5) (v':=.agg 3 [int a,int m,.sl 32 [] (some (.slice none 0 0))]) imp_pvar ?_
 refine ac_st (fun ok w h=>h.full 42 32 none 0) ?_
 refine ac_midB (α:={q:List Hsh × Value // L.all ok32=true->q.1=L.map hOf}) (fun _=>[(2,ptr g2),(4,ptr gr),(5,ptr g5),(6,int (if L.all ok32=true then 0 else 10))])
  (fun q=>[.var g5 93 (.agg 3 [int a,int m,.sl 32 (q.1.1.map hA) (some q.1.2)]),.var gr 172 (rdA S5 B5),.var g2 93 (.agg 3 [int 0,int 0,nils])]) ?_ (fun q=>?_)
 ·refine ac_loop (α:=Nat × Value) (fun q=>[(2,ptr g2),(4,ptr gr),(5,ptr g5),(6,int 0),(19,.sl 1 (L.map str) none),(20,int L.length),(21,int q.1)])
   (fun q=>[.tail 42 32 q.2,.var g5 93 (.agg 3 [int a,int m,.sl 32 (((L.take q.1).map hOf).map hA) (some q.2)]),.var gr 172 (rdA S5 B5),.var g2 93 (.agg 3 [int 0,int 0,nils])])
   (fun q=>q.1<=L.length/\(L.take q.1).all ok32=true) (fun q=>L.length - q.1) (0,.slice none 0 0) ⟨rfl,rfl,rfl,rfl,rfl,by rw [<- hml];rfl,rfl,trivial⟩ slr ⟨Nat.zero_le _,rfl⟩ ?_
  rintro⟨i,v⟩ ⟨h1,h2⟩
  dsimp only at h1 h2 ⊢
  repeat' first|refine Yz ?_|intro _
  refine ac_cond (fun hlt=>?_) (fun hlt=>?_)
  ·have hil:i < L.length:=by omega
   have hml2:((L.take i).map hOf).length<=16:=by simp;omega
   repeat' first|refine Yz ?_|intro _
   by_cases h32:L[i].length=32
   ·rw [if_pos h32]
    repeat' first|refine Yz ?_|intro _
    refine al_append (fun v'=>?_)
    repeat' first|refine Yz ?_|intro _
    refine ae_round (i + 1,v') ⟨rfl,rfl,rfl,rfl,rfl,rfl,rfl,trivial⟩ ?_ ⟨hil,all32_take hil h2 (dT h32)⟩ (by dsimp only;omega)
    dsimp only
    rw [List.take_succ_eq_append_getElem hil,List.map_append,List.map_append]
    exact List.Sublist.cons _ slr
   ·rw [if_neg h32]
    repeat' first|refine Yz ?_|intro _
    have hno:=all32_not hil (show ok32 L[i]=false from dZ h32)
    refine ae_cut ⟨((L.take i).map hOf,v),fun h=>by rw [hno] at h;cases h⟩ ⟨rfl,rfl,rfl,?_,trivial⟩ ?_
    ·rw [hno]
     rfl
    ·exact sbl
  ·obtain rfl:i=L.length:=by omega
   rw [List.take_length] at h2 ⊢
   repeat' first|refine Yz ?_|intro _
   refine ae_cut ⟨(L.map hOf,v),fun _=>rfl⟩ ⟨rfl,rfl,rfl,?_,trivial⟩ ?_
   ·rw [h2]
    rfl
   ·exact sbl
 obtain⟨⟨ps,v⟩,hq⟩:=q
 dsimp only at hq ⊢
 cases ha:L.all ok32
 ·repeat' first|refine Yz ?_|intro _
  refine reI ?_
  exact imp_rp0
 rw [hq ha]
 by_cases hE0:reE' S5 B5=0
 ·rw [dT hE0]
  repeat' first|refine Yz ?_|intro _
  refine reI ?_
  exact imp_rp
 ·rw [dZ hE0]
  repeat' first|refine Yz ?_|intro _
  refine reI ?_
  exact imp_rp0⟩


def sdX (s:Bs)(b:Bool):List Bs:=raL 101 2 4000 s b
def sdS1 (s:Bs)(b:Bool):Bs:=rsT 101 16777215 s b
def sdB1 (s:Bs)(b:Bool):Bool:=raB 101 2 4000 s b
def sdT (s:Bs)(b:Bool):Bs:=rtT 80 4000 (sdS1 s b) (sdB1 s b)
def sdS2 (s:Bs)(b:Bool):Bs:=rsT 80 4000 (sdS1 s b) (sdB1 s b)
def sdB2 (s:Bs)(b:Bool):Bool:=rbT 80 4000 (sdS1 s b) (sdB1 s b)
def sdOk (s:Bs)(b:Bool):Bool:=decide (rpdE (sdT s b)=0) && (!sdB2 s b && decide ((sdX s b).length≠1))
def sdE:List Bs->List Ent
 | [k,v]=>[⟨k,v⟩]
 | _=>[]
def sdL (s:Bs)(b:Bool):List Ent:=if sdOk s b=true then sdE (sdX s b) else []
def sdP (s:Bs)(b:Bool):Prf:=if sdOk s b=true then rpdV (sdT s b) else zeroP
theorem rj1 {s:Bs}{b:Bool}:rsT 101 16777215 s b=sdS1 s b:=rfl
theorem rj2 {s:Bs}{b:Bool}:raB 101 2 4000 s b=sdB1 s b:=rfl
theorem rj3 {s:Bs}{b:Bool}:rtT 80 4000 (sdS1 s b) (sdB1 s b)=sdT s b:=rfl
theorem rj4 {s:Bs}{b:Bool}:rsT 80 4000 (sdS1 s b) (sdB1 s b)=sdS2 s b:=rfl
theorem rj5 {s:Bs}{b:Bool}:rbT 80 4000 (sdS1 s b) (sdB1 s b)=sdB2 s b:=rfl
theorem rj6 {s:Bs}{b:Bool}:raL 101 2 4000 s b=sdX s b:=rfl
theorem sd_lens (s:Bs)(b:Bool):(sdS1 s b).length<=s.length/\(sdS2 s b).length<=s.length/\(sdT s b).length<=4000:=by
 have h1:=(rsT_len 101 16777215 s b).1
 have h2:=(rsT_len 80 4000 (sdS1 s b) (sdB1 s b)).1
 have h3:=(rtT_len 80 4000 (sdS1 s b) (sdB1 s b)).2 (by decide)
 rw [rj1] at h1
 rw [rj4] at h2
 rw [rj3] at h3
 exact⟨h1,by omega,by omega⟩
theorem imp_sd0 {e:Bool}:Imp (.tup [.lit (.slice none 0 0),.agg 3 [.lit (.int .i64 0),.lit (.int .i64 0),.lit (.slice none 0 0)],boo e]) (.tup [.sl 2 [] none,prfA zeroP,boo e]):=(inferInstance:ImpR _ (.tup [.sl 2 [] none,.agg 3 [int 0,int 0,.sl 32 [] none],boo e])).imp
theorem imp_sd1 {e:Bool}{x:AV}:Imp (.tup [.lit (.slice none 0 0),x,boo e]) (.tup [.sl 2 [] none,x,boo e]):=ImpR.imp
set_option maxHeartbeats 1000000 in
instance fnReadSide {g:Nat}{s:Bs}{b:Bool}:AnsM Tryz.prog GL 190 g [] 172 (rdA s b) (s.length<=1000000000) (.tup [.sl 2 ((sdL s b).map entA) none,prfA (sdP s b),boo (sdOk s b)]) (rdA (sdS2 s b) (sdB2 s b)):=⟨fun hl=>by
 obtain⟨l1,l2,l3⟩:=sd_lens s b
 have e1:(sdS1 s b).length=(rsT 101 16777215 s b).length:=rfl
 have e2:(sdT s b).length=(rtT 80 4000 (rsT 101 16777215 s b) (raB 101 2 4000 s b)).length:=rfl
 refine qE Tryz.func190 rfl Tryz.ntmps190 rfl (fun _ hs=>?_)
 repeat' first|refine Yz ?_|intro _
 rw [rj1,rj2,rj3,rj4,rj5,rj6]
 have hX:=raL_len' (c:=101) (many:=2) (most:=4000) (s:=s) (b:=b) (by decide)
 rw [rj6] at hX
 rw [sdL,sdP]
 have hO:sdOk s b=(decide (rpdE (sdT s b)=0) && (!sdB2 s b && decide ((sdX s b).length≠1))):=rfl
 rw [hO]
 generalize sdX s b=X at *
 generalize sdT s b=t at *
 generalize sdS2 s b=S2 at *
 generalize sdB2 s b=B2 at *
 have hml:(X.map str).length=X.length:=llm _
 by_cases hE:rpdE t=0
 rotate_left
 ·rw [dZ hE,Bool.false_and]
  repeat' first|refine Yz ?_|intro _
  refine reIKm (.tup [.sl 2 [] none,prfA zeroP,boo false]) [.var g 172 (rdA S2 B2)] ?_ ⟨rfl,rfl⟩ ?_
  focus
   exact imp_sd0
  exact sbl
 rw [dT hE,Bool.true_and]
 repeat' first|refine Yz ?_|intro _
 cases B2
 rotate_left
 ·repeat' first|refine Yz ?_|intro _
  refine reIKm (.tup [.sl 2 [] none,prfA zeroP,boo false]) [.var g 172 (rdA S2 true)] ?_ ⟨rfl,rfl⟩ ?_
  focus
   exact imp_sd0
  exact sbl
 repeat' first|refine Yz ?_|intro _
 rcases X with _|⟨k,_|⟨v,_|⟨w,X⟩⟩⟩
 ·repeat' first|refine Yz ?_|intro _
  refine reIKm (.tup [.sl 2 [] none,prfA (rpdV t),boo true]) [.var g 172 (rdA S2 false)] ?_ ⟨rfl,rfl⟩ ?_
  focus
   exact imp_sd1
  exact sbl
 ·repeat' first|refine Yz ?_|intro _
  refine reIKm (.tup [.sl 2 [] none,prfA zeroP,boo false]) [.var g 172 (rdA S2 false)] ?_ ⟨rfl,rfl⟩ ?_
  focus
   exact imp_sd0
  exact sbl
 ·repeat' first|refine Yz ?_|intro _
  refine reIKm (.tup [.sl 2 [.agg 2 [str k,str v]] none,prfA (rpdV t),boo true]) [.var g 172 (rdA S2 false)] ?_ ⟨rfl,rfl⟩ ?_
  focus
   exact fun _ _ _ h=>h
  exact sbl
 ·simp at hX
  omega⟩
def rgS1 (s:Bs):Bs:=rsT 109 8 s false
def rgB1 (s:Bs):Bool:=riB 109 2000 s false
def rgS2 (s:Bs):Bs:=sdS2 (rgS1 s) (rgB1 s)
def rgB2 (s:Bs):Bool:=sdB2 (rgS1 s) (rgB1 s)
def rgE (s:Bs):Int:=reE' (sdS2 (rgS2 s) (rgB2 s)) (sdB2 (rgS2 s) (rgB2 s))
def rgV (s:Bs):Gp:=⟨riI 109 2000 s false,sdL (rgS1 s) (rgB1 s),sdL (rgS2 s) (rgB2 s),sdP (rgS1 s) (rgB1 s),sdP (rgS2 s) (rgB2 s)⟩
def rgOk (s:Bs):Bool:=sdOk (rgS1 s) (rgB1 s) && (sdOk (rgS2 s) (rgB2 s) && decide (rgE s=0))
def rgdV (s:Bs):Gp:=if rgOk s=true then rgV s else zeroG
def rgdE (s:Bs):Int:=if rgOk s=true then 0 else 10
theorem rk1 {s:Bs}:rsT 109 8 s false=rgS1 s:=rfl
theorem rk2 {s:Bs}:riB 109 2000 s false=rgB1 s:=rfl
theorem rk3 {s:Bs}:sdS2 (rgS1 s) (rgB1 s)=rgS2 s:=rfl
theorem rk4 {s:Bs}:sdB2 (rgS1 s) (rgB1 s)=rgB2 s:=rfl
theorem rg_lens (s:Bs):(rgS1 s).length<=s.length/\(rgS2 s).length<=s.length:=by
 have h1:=(rsT_len 109 8 s false).1
 have h2:=(sd_lens (rgS1 s) (rgB1 s)).2.1
 rw [rk1] at h1
 rw [rk3] at h2
 exact⟨h1,by omega⟩
theorem imp_rg0:Imp (.tup [.agg 9 [.lit (.int .i64 0),.lit (.slice none 0 0),.lit (.slice none 0 0),.agg 3 [.lit (.int .i64 0),.lit (.int .i64 0),.lit (.slice none 0 0)],.agg 3 [.lit (.int .i64 0),.lit (.int .i64 0),.lit (.slice none 0 0)]],int 10]) (.tup [gpA zeroG,int 10]):=
 (inferInstance:ImpR _ (.tup [.agg 9 [int 0,.sl 2 [] none,.sl 2 [] none,.agg 3 [int 0,int 0,.sl 32 [] none],.agg 3 [int 0,int 0,.sl 32 [] none]],int 10])).imp
set_option maxHeartbeats 1000000 in
instance fnReadGap {s:Bs}:Ans Tryz.prog GL 136 [str s] (s.length<=1000000000) (.tup [gpA (rgdV s),int (rgdE s)]):=⟨fun hl=>by
 obtain⟨l1,l2⟩:=rg_lens s
 have e1:(rgS1 s).length=(rsT 109 8 s false).length:=rfl
 have e2:(rgS2 s).length=(sdS2 (rsT 109 8 s false) (riB 109 2000 s false)).length:=rfl
 refine qE Tryz.func136 rfl Tryz.ntmps136 rfl (fun _ hs=>?_)
 repeat' first|refine Yz ?_|intro _
 refine al_callK (args:=[str s]) [] _ (by rw [hs];exact tlvRead) (fun u m1 hh=>?_) lpr
 obtain⟨gr,rfl,rfl⟩:=hh
 repeat' first|refine Yz ?_|intro _
 rw [rk1,rk2,rk3,rk4]
 have hE:rgE s=reE' (sdS2 (rgS2 s) (rgB2 s)) (sdB2 (rgS2 s) (rgB2 s)):=rfl
 have hV:rgV s=⟨riI 109 2000 s false,sdL (rgS1 s) (rgB1 s),sdL (rgS2 s) (rgB2 s),sdP (rgS1 s) (rgB1 s),sdP (rgS2 s) (rgB2 s)⟩:=rfl
 have hK:rgOk s=(sdOk (rgS1 s) (rgB1 s) && (sdOk (rgS2 s) (rgB2 s) && decide (rgE s=0))):=rfl
 rw [rgdV,rgdE,hK,hV,hE]
 cases h1:sdOk (rgS1 s) (rgB1 s)
 ·repeat' first|refine Yz ?_|intro _
  refine reI ?_
  exact imp_rg0
 cases h2:sdOk (rgS2 s) (rgB2 s)
 ·repeat' first|refine Yz ?_|intro _
  refine reI ?_
  exact imp_rg0
 repeat' first|refine Yz ?_|intro _
 by_cases h3:reE' (sdS2 (rgS2 s) (rgB2 s)) (sdB2 (rgS2 s) (rgB2 s))=0
 ·rw [dT h3]
  repeat' first|refine Yz ?_|intro _
  refine reE ?_
  rfl
 ·rw [dZ h3]
  repeat' first|refine Yz ?_|intro _
  refine reI ?_
  exact imp_rg0⟩
class RgSl (a:AV)(l:List Ent):Prop where
 imp:ImpT a (.sl 2 (l.map entA) none)
instance : RgSl (.lit (.slice none 0 0)) [] := ⟨(inferInstance : ImpT _ (.sl 2 [] none))⟩
instance {k v:Bs}:RgSl (.sl 2 [.agg 2 [str k,str v]] none) [⟨k,v⟩]:=⟨(inferInstance:ImpT _ (.sl 2 [.agg 2 [str k,str v]] none))⟩


structure PG (p:Prf):Prop where
 a:0<=p.a/\p.a<=2000
 m:0<=p.m/\p.m<=2000
 l:p.p.length<=16
theorem hOf_self (h:Hsh):hOf h.l=h:=by
 unfold hOf
 rw [dif_pos h.len]
theorem map_hOf (l:List Hsh):(l.map fun h=>h.l).map hOf=l:=by
 rw [List.map_map]
 conv=>rhs;rw [<- List.map_id l]
 exact List.map_congr_left fun h _=>hOf_self h
theorem rp_parts {p:Prf}(h:PG p)(r:Bs):rpL (prfB p++r)=p.p.map (fun h=>h.l)/\rpE (prfB p++r)=(if r=[] then 0 else 10)/\rpV (prfB p++r)=p:=by
 obtain⟨⟨h1,h2⟩,⟨h3,h4⟩,h5⟩:=h
 have hB:prfB p++r=tlvI 105 p.a++(tlvI 109 p.m++(tlvA 112 (p.p.map fun h=>h.l)++r)):=by
  unfold prfB
  simp only [List.append_assoc]
 have hall:∀ s ∈ p.p.map (fun h=>h.l),(s.length:Int)<=32/\s.length<=16777215:=fun s hs=>by
  obtain⟨q,_,rfl⟩:=List.mem_map.1 hs
  rw [q.len]
  decide
 obtain⟨a1,a2,a3⟩:=rd_tlvI (c:=105) (most:=2000) (n:=p.a) (r:=tlvI 109 p.m++(tlvA 112 (p.p.map fun h=>h.l)++r)) (by decide) (by decide) h1 h2 (by decide)
 obtain⟨b1,b2,b3⟩:=rd_tlvI (c:=109) (most:=2000) (n:=p.m) (r:=tlvA 112 (p.p.map fun h=>h.l)++r) (by decide) (by decide) h3 h4 (by decide)
 obtain⟨d1,d2,d3⟩:=rd_tlvA (c:=112) (many:=16) (most:=32) (l:=p.p.map fun h=>h.l) (r:=r) (by decide) (by decide) (by rw [llm];omega) hall (by
  have:=flat_short (c:=112) (n:=32) (l:=p.p.map fun h=>h.l) (fun s hs=>by have:=hall s hs;omega) (by decide)
  rw [llm] at this
  omega)
 have s1:rpS1 (prfB p++r)=tlvI 109 p.m++(tlvA 112 (p.p.map fun h=>h.l)++r):=by unfold rpS1;rw [hB,a2]
 have t1:rpB1 (prfB p++r)=false:=by unfold rpB1;rw [hB,a3]
 have s2:rpS2 (prfB p++r)=tlvA 112 (p.p.map fun h=>h.l)++r:=by unfold rpS2;rw [s1,t1,b2]
 have t2:rpB2 (prfB p++r)=false:=by unfold rpB2;rw [s1,t1,b3]
 have hL:rpL (prfB p++r)=p.p.map (fun h=>h.l):=by unfold rpL;rw [s2,t2,d1]
 refine⟨hL,?_,?_⟩
 ·unfold rpE
  rw [s2,t2,d2,d3]
  unfold reE'
  by_cases hr:r=[]
  ·simp [hr]
  ·simp [hr]
 ·unfold rpV
  rw [hL,map_hOf,s1,t1,b1,hB,a1]
theorem rp_all (p:Prf):(p.p.map fun h=>h.l).all ok32=true:=by
 rw [List.all_eq_true]
 intro s hs
 obtain⟨q,_,rfl⟩:=List.mem_map.1 hs
 exact dT q.len
theorem rpd_prfB {p:Prf}(h:PG p):rpdV (prfB p)=p/\rpdE (prfB p)=0/\rpdE (prfB p++[120])=10:=by
 obtain⟨a1,a2,a3⟩:=rp_parts h []
 obtain⟨b1,b2,b3⟩:=rp_parts h [120]
 rw [List.append_nil] at a1 a2 a3
 have hk:rpOk (prfB p)=true:=by
  unfold rpOk
  rw [a1,a2,rp_all]
  rfl
 have hk2:rpOk (prfB p++[120])=false:=by
  unfold rpOk
  rw [b2,Bool.and_eq_false_iff]
  exact .inr rfl
 unfold rpdV rpdE
 rw [if_pos hk,if_pos hk,hk2,a3]
 exact⟨rfl,rfl,rfl⟩
theorem prfB_short {p:Prf}(h:PG p):(prfB p).length<=4000:=by
 have h1:(digits p.a.toNat).length<=8:=digitsF_len 8 _
 have h2:(digits p.m.toNat).length<=8:=digitsF_len 8 _
 have h3:=h.l
 have hall:∀ s ∈ p.p.map (fun h=>h.l),s.length<=32:=fun s hs=>by
  obtain⟨q,_,rfl⟩:=List.mem_map.1 hs
  rw [q.len]
  exact Nat.le_refl _
 have h4:=flat_short (c:=112) (n:=32) hall (by decide)
 rw [llm] at h4
 have e:prfB p=tlvT 105 (digits p.a.toNat)++tlvT 109 (digits p.m.toNat)++tlvT 112 ((p.p.map fun h=>h.l).flatMap (tlvT 112)):=rfl
 rw [e,tlvT_cons (by omega),tlvT_cons (by omega),tlvT_cons (by omega)]
 simp only [List.length_append,List.length_cons]
 omega
structure SG (l:List Ent)(p:Prf):Prop where
 n:l.length<=1
 f:∀ x ∈ l,x.key.length<=4000/\x.val.length<=4000
 p:PG p
theorem sd_sidB {l:List Ent}{p:Prf}{r:Bs}(h:SG l p):sdOk (sidB l p++r) false=true/\sdL (sidB l p++r) false=l/\sdP (sidB l p++r) false=p/\sdS2 (sidB l p++r) false=r/\sdB2 (sidB l p++r) false=false:=by
 have hB:sidB l p++r=tlvA 101 (sideT l)++(tlvT 80 (prfB p)++r):=by
  unfold sidB
  simp only [List.append_assoc]
 have hsT:(sideT l).length<=2:=by rw [sideT_len];have:=h.n;omega
 have hall:∀ s ∈ sideT l,s.length<=4000:=fun s hs=>by
  unfold sideT at hs
  obtain⟨x,hx,hs⟩:=List.mem_flatMap.1 hs
  have:=h.f x hx
  simp only [List.mem_cons,List.not_mem_nil,or_false] at hs
  rcases hs with rfl|rfl
  ·exact this.1
  ·exact this.2
 have hps:=prfB_short h.p
 obtain⟨a1,a2,a3⟩:=rd_tlvA (c:=101) (many:=2) (most:=4000) (l:=sideT l) (r:=tlvT 80 (prfB p)++r) (by decide) (by decide) (by omega) (fun s hs=>by have:=hall s hs;omega) (by
  have:=flat_short (c:=101) hall (by decide)
  omega)
 obtain⟨b1,b2,b3⟩:=rd_tlvT (c:=80) (most:=4000) (s:=prfB p) (r:=r) (by decide) (by decide) (by omega) (by omega)
 have s1:sdS1 (sidB l p++r) false=tlvT 80 (prfB p)++r:=by unfold sdS1;rw [hB,a2]
 have t1:sdB1 (sidB l p++r) false=false:=by unfold sdB1;rw [hB,a3]
 have hX:sdX (sidB l p++r) false=sideT l:=by unfold sdX;rw [hB,a1]
 have hT:sdT (sidB l p++r) false=prfB p:=by unfold sdT;rw [s1,t1,b1]
 have hS:sdS2 (sidB l p++r) false=r:=by unfold sdS2;rw [s1,t1,b2]
 have hb:sdB2 (sidB l p++r) false=false:=by unfold sdB2;rw [s1,t1,b3]
 obtain⟨q1,q2,_⟩:=rpd_prfB h.p
 have hne:(sideT l).length≠1:=by rw [sideT_len];omega
 have hk:sdOk (sidB l p++r) false=true:=by
  unfold sdOk
  rw [hT,hb,hX,q2,dT hne]
  rfl
 refine⟨hk,?_,?_,hS,hb⟩
 ·unfold sdL
  rw [if_pos hk,hX]
  have hn:=h.n
  rcases l with _|⟨x,_|⟨y,l⟩⟩
  ·rfl
  ·rfl
  ·simp at hn
 ·unfold sdP
  rw [if_pos hk,hT,q1]
structure GG (g:Gp):Prop where
 n:0<=g.n/\g.n<=2000
 a:SG g.l g.a
 b:SG g.r g.b
theorem rgd_gapB {g:Gp}(h:GG g):rgdV (gapB g)=g/\rgdE (gapB g)=0:=by
 have hB:gapB g=tlvI 109 g.n++(sidB g.l g.a++(sidB g.r g.b++[])):=by
  unfold gapB
  simp only [List.append_assoc,List.append_nil]
 obtain⟨a1,a2,a3⟩:=rd_tlvI (c:=109) (most:=2000) (n:=g.n) (r:=sidB g.l g.a++(sidB g.r g.b++[])) (by decide) (by decide) h.n.1 h.n.2 (by decide)
 obtain⟨b1,b2,b3,b4,b5⟩:=sd_sidB (r:=sidB g.r g.b++[]) h.a
 obtain⟨d1,d2,d3,d4,d5⟩:=sd_sidB (r:=[]) h.b
 have s1:rgS1 (gapB g)=sidB g.l g.a++(sidB g.r g.b++[]):=by unfold rgS1;rw [hB,a2]
 have t1:rgB1 (gapB g)=false:=by unfold rgB1;rw [hB,a3]
 have s2:rgS2 (gapB g)=sidB g.r g.b++[]:=by unfold rgS2;rw [s1,t1,b4]
 have t2:rgB2 (gapB g)=false:=by unfold rgB2;rw [s1,t1,b5]
 have hE:rgE (gapB g)=0:=by unfold rgE;rw [s2,t2,d4,d5];rfl
 have hV:rgV (gapB g)=g:=by
  unfold rgV
  rw [s1,t1,s2,t2,b2,b3,d2,d3,hB,a1]
 have hk:rgOk (gapB g)=true:=by
  unfold rgOk
  rw [s1,t1,s2,t2,b1,d1,hE]
  rfl
 unfold rgdV rgdE
 rw [if_pos hk,if_pos hk,hV]
 exact⟨rfl,rfl⟩
theorem zeroP_pg:PG zeroP:=⟨by decide,by decide,by decide⟩

def hshA (x:H8)(buf:Bs)(n:Nat):AV:=.agg 74 ((hsh x buf n).map fun v=>.lit (id v))
theorem hsh_len74 {x:H8}{buf:Bs}{n:Nat}(hb:buf.length=64):(hsh x buf n).length=74:=hsw_len _ _ _ rfl hb
theorem hshA_rc {ok:Ok}{w:World}{x:H8}{buf:Bs}{n:Nat}(hb:buf.length=64):RC ok w (hshA x buf n) (hsh x buf n):=by
 unfold hshA
 rw [RC]
 refine⟨hsh_len74 hb,?_⟩
 have h1:∀ v ∈ hsh x buf n,v.oneCell'=true:=fun v hv=>hsh_good x.words buf n v (by rw [(hsh_units _ _ _).fl];exact hv)
 generalize hsh x buf n=l at h1
 induction l with
 | nil=>rw [List.map_nil,RCs]
 | cons a l ih=>
  rw [List.map_cons,RCs]
  exact⟨[a],l,rfl,by rw [RC];exact⟨rfl,h1 a (by simp)⟩,ih fun v hv=>h1 v (by simp [hv])⟩
theorem hshA_cs {ok:Ok}{w:World}{x:H8}{buf:Bs}{n:Nat}{cs:List Value}(h:RC ok w (hshA x buf n) cs):cs=fl (hsh x buf n):=by
 unfold hshA at h
 rw [RC] at h
 rw [(hsh_units _ _ _).fl,rcs_lits h.2]
 simp
theorem hnew:Av.Spec Tryz.prog GL 182 [] [] fun u m'=>∃ g,u=ptr g/\m'=[.var g 319 (hshA h0 (zeros 64) 0)]:=
 spec_new (vs:=hsh h0 (zeros 64) 0) (fun ok w=>by rw [(hsh_units _ _ _).fl];exact hshA_rc rfl) fun ok w cargs hg hv=>by
  obtain rfl:=(show cargs=[] from hv)
  exact new_spec w (glo_of hg)
def Hashed (g:Nat)(M:Bs)(m:List Av.Piece):Prop:=∃ x buf,HS M x buf/\m=[.var g 319 (hshA x buf M.length)]
theorem glob_ne {ok:Ok}{w:World}{g:Nat}(h:Glob GL ok w)(hn:∀ j,¬ ok g j):g≠0/\g≠2:=by
 refine⟨?_,?_⟩
 ·rintro rfl
  obtain⟨cs,h1,h2⟩:=h _ (by unfold GL;exact List.mem_cons_self)
  rw [RC] at h2
  have h3:=rcs_lits h2.2
  subst h3
  exact hn _ (h1 0 _ (by simp [H8.words];rfl)).2
 ·rintro rfl
  obtain⟨cs,h1,h2⟩:=h (2,_) (by unfold GL;exact List.mem_cons_of_mem _ List.mem_cons_self)
  rw [RC] at h2
  have h3:=rcs_lits h2.2
  subst h3
  exact hn _ (h1 0 _ (by simp [kTab];rfl)).2
theorem hwrite {g:Nat}{M s:Bs}{x:H8}{buf:Bs}(hH:HS M x buf)(hl:M.length + s.length<=4611686018427387904):Av.Spec Tryz.prog GL 183 [ptr g,str s] [.var g 319 (hshA x buf M.length)] fun u m'=>u=.tup []/\Hashed g (M++s) m':=by
 refine (spec_mod (R:=fun v=>∃ x' buf',HS (M++s) x' buf'/\v=hshA x' buf' (M++s).length) (fun ok w cs h=>hshA_cs h) fun ok w cargs hg hn hv hb=>?_).mono fun u m' hh=>?_
 ·obtain⟨u1,us,rfl,h1,rfl⟩:=hv
  rw [RV0.lit h1]
  obtain⟨n1,n2⟩:=glob_ne hg hn
  refine (write_spec w g M x buf s (glo_of hg) n1 n2 hb hH hl).mono fun v w' hh=>?_
  obtain⟨e,x',buf',h2,h3⟩:=hh
  exact⟨e,_,_,⟨x',buf',h2,rfl⟩,h3,fun ok w=>by rw [(hsh_units _ _ _).fl];exact hshA_rc h2.len⟩
 ·obtain⟨e,v',⟨x',buf',h2,rfl⟩,e2⟩:=hh
  exact⟨e,x',buf',h2,e2⟩
theorem hsum {g:Nat}{M:Bs}{x:H8}{buf:Bs}(hH:HS M x buf)(hl:M.length<=1152921504606846976):Av.Spec Tryz.prog GL 186 [ptr g] [.var g 319 (hshA x buf M.length)] fun u m'=>u=hA (shaH M)/\m'=[.var g 319 (hshA x buf M.length)]:=
 spec_get (fun ok w cs h=>hshA_cs h) fun ok w cargs hg hv hb=>by
  obtain rfl:=(show cargs=[] from hv)
  exact (sum_spec w g M x buf (glo_of hg) hb hH hl).mono fun v w' hh=>⟨fun ok w=>by rw [hh.1];exact RV_hA _,hh.2⟩

theorem keyB_len (k:Bs):(keyB k).length=64:=by rw [keyB,copyB_len];simp [zeros]
theorem ofH1 (a:Bs):ofH [a]=shaH a:=by simp [ofH]
theorem ofH2 (a b:Bs):ofH [a,b]=shaH (a++b):=by simp [ofH]
abbrev kbA (l:Bs):AV:=.agg 64 (l.map u8A)
instance fnSBlock {k:Bs}:Ans Tryz.prog GL 181 [str k] (k.length<=1000000) (kbA (keyB k)):=⟨fun hk=>by
 refine qE Tryz.func181 rfl Tryz.ntmps181 rfl (fun _ hs=>?_)
 repeat' first|refine Vz ?_|intro _
 refine ac_cond (fun h1=>?_) (fun h1=>?_)
 ·have:LenLe k 1000000:=⟨hk⟩
  repeat' first|refine Vz ?_|intro _
  rw [ofH1]
  refine al_copyS (l:=zeros 64) (a:=(shaH k).l) rfl ?_
  repeat' first|refine Vz ?_|intro _
  refine reE ?_
  rw [keyB,if_pos (by omega)]
  rfl
 ·repeat' first|refine Vz ?_|intro _
  refine al_copyS (l:=zeros 64) (a:=k) rfl ?_
  repeat' first|refine Vz ?_|intro _
  refine reE ?_
  rw [keyB,if_neg (by omega)]
  rfl⟩
theorem put1 {g:Nat}{a b:UInt8}{T:TypeId}:Av.Spec Tryz.prog GL 243 [u8A a,ptr g] [.var g T (u8A b)] fun u m=>u=u8A (a ^^^ b)/\m=[.var g T (u8A b)]:=by
 refine qE Tryz.func243 rfl Tryz.ntmps243 rfl (fun _ hs=>?_)
 repeat' first|refine Vz ?_|intro _
 exact reK [.var g T (u8A b)] ⟨rfl,rfl⟩ slr
theorem xor_next {l:Bs}{b:UInt8}{i:Nat}(h:i < l.length):(xorB b (l.take i)++l.drop i).set i (l[i] ^^^ b)=xorB b (l.take (i + 1))++l.drop (i + 1):=by
 have h1:(xorB b (l.take i)).length=i:=by simp [xorB];omega
 rw [List.set_append,if_neg (by omega),h1,Nat.sub_self,List.drop_eq_getElem_cons h,List.set_cons_zero,List.take_succ_eq_append_getElem h,xorB,xorB,List.map_append,laa]
 rfl
theorem sput {l:Bs}(hl:l.length=64)(b:UInt8)(B:Int)(hB:B=b.toNat):SpecE Tryz.prog GL 184 [kbA l,.lit (.int .u8 B)] (str (xorB b l)):=by
 subst hB
 refine qE Tryz.func184 rfl Tryz.ntmps184 rfl (fun _ hs=>?_)
 repeat' first|refine Vz ?_|intro _
 rename_i g2 g3
 refine al_makeFunc (vs:=[.pointer (some ⟨g3,0,none⟩)]) ?_
 repeat' first|refine Vz ?_|intro _
 refine ac_loop (α:=Nat) (fun i=>[(2,ptr g2),(5,fnv 243 [.pointer (some ⟨g3,0,none⟩)]),(9,kbA l),(10,int i)])
  (fun i=>[.var g3 5 (u8A b),.var g2 190 (kbA (xorB b (l.take i)++l.drop i))]) (fun i=>i<=64) (fun i=>64 - i) 0 ⟨rfl,rfl,rfl,rfl,trivial⟩ ?_ (Nat.zero_le _) ?_
 ·exact sbl
 intro i hi
 have hlen:(xorB b (l.take i)++l.drop i).length=64:=by simp [xorB];omega
 repeat' first|refine Vz ?_|intro _
 refine ac_cond (fun hlt=>?_) (fun hlt=>?_)
 ·have hil:i < l.length:=by omega
  repeat' first|refine Vz ?_|intro _
  refine al_index (ps:=l.map u8A) (u:=u8A l[i]) i ?_ rfl (by omega) (by simp [hil]) (by intro p hp;obtain⟨c,_,rfl⟩:=List.mem_map.1 hp;rfl) rfl
  repeat' first|refine Vz ?_|intro _
  refine al_callV (args:=[u8A l[i]]) (cs:=[.pointer (some ⟨g3,0,none⟩)]) [.var g3 5 (u8A b)] _ (by rw [hs];exact put1) (fun u m1 hh=>?_) lpr
  obtain⟨rfl,rfl⟩:=hh
  repeat' first|refine Vz ?_|intro _
  refine al_idxA i ?_
  refine al_storeE (j:=i) (ps:=(xorB b (l.take i)++l.drop i).map u8A) (by simp only [List.length_map];omega) ?_
  repeat' first|refine Vz ?_|intro _
  rw [show ((xorB b (l.take i)++l.drop i).map u8A).set i (u8A (l[i] ^^^ b))=((xorB b (l.take i)++l.drop i).set i (l[i] ^^^ b)).map u8A by rw [List.map_set],xor_next hil]
  refine ae_round (i + 1) ⟨rfl,rfl,rfl,rfl,trivial⟩ ?_ (by omega) (by omega)
  exact sbl
 ·obtain rfl:i=64:=by omega
  rw [List.take_of_length_le (by omega),List.drop_of_length_le (by omega),List.append_nil]
  repeat' first|refine Vz ?_|intro _
  refine reE ?_
  rfl
theorem ImpC.one {n:Nat}{ps:List AV}:ImpC (.agg n [.agg n ps]) (.agg n ps):=fun ok w cs h=>by
 rw [RC] at h
 obtain⟨h1,h2⟩:=h
 rw [RCs] at h2
 obtain⟨c1,c2,rfl,h3,h4⟩:=h2
 rw [RCs] at h4
 subst h4
 rwa [List.append_nil]
theorem snew {k:Bs}(hk:k.length<=1000000):Av.Spec Tryz.prog GL 116 [str k] [] fun u m=>∃ g,u=ptr g/\m=[.var g 279 (kbA (keyB k))]:=by
 refine qE Tryz.func116 rfl Tryz.ntmps116 rfl (fun _ hs=>?_)
 repeat' first|refine Vz ?_|intro _
 rename_i g
 refine ae_asV (g:=g) (v':=kbA (keyB k)) ImpC.one ?_
 exact reK [.var g 279 (kbA (keyB k))] ⟨g,rfl,rfl⟩ slr
theorem xorB_len (b:UInt8)(l:Bs):(xorB b l).length=l.length:=llm _
theorem flat_next {l:List Bs}{i:Nat}(h:i < l.length):(l.take (i + 1)).flatten=(l.take i).flatten++l[i]:=by
 rw [List.take_succ_eq_append_getElem h,List.flatten_append]
 simp
theorem flat_le {l:List Bs}(i:Nat):(l.take i).flatten.length<=l.flatten.length:=by
 have h:=congrArg (fun q=>(List.flatten q).length) (List.take_append_drop i l)
 simp only [List.flatten_append,List.length_append] at h
 omega
theorem sseal {g:Nat}{kb:Bs}{l:List Bs}{id:Option Value}(hk:kb.length=64)(hl:l.flatten.length<=1000000000000)(hn:l.length<=1000000000000):Av.Spec Tryz.prog GL 117 [ptr g,.sl 1 (l.map str) id] [.var g 279 (kbA kb)] fun u m=>u=hA (shaH (xorB 92 kb++(shaH (xorB 54 kb++l.flatten)).l))/\m=[]:=by
 have hlm:(l.map str).length=l.length:=llm _
 refine qE Tryz.func117 rfl Tryz.ntmps117 rfl (fun _ hs=>?_)
 repeat' first|refine Vz ?_|intro _
 refine al_callK [] _ (by rw [hs];exact hnew) (fun u m1 hh=>?_) lpr
 obtain⟨gh,rfl,rfl⟩:=hh
 repeat' first|refine Vz ?_|intro _
 refine al_callK [] _ (by rw [hs];exact sput hk 54 54 rfl) (fun u m1 hh=>?_) lpr
 obtain⟨rfl,rfl⟩:=hh
 refine al_callK [.var gh 319 (hshA h0 (zeros 64) 0)] _ (by rw [hs];exact hwrite (M:=[]) (s:=xorB 54 kb) HS.nil (by simp [xorB_len];omega)) (fun u m1 hh=>?_) lpr
 obtain⟨rfl,x0,b0,hH0,rfl⟩:=hh
 rw [List.nil_append] at hH0 ⊢
 repeat' first|refine Vz ?_|intro _
 rename_i g4 g5
 refine ac_loop (α:=Nat × H8 × Bs) (fun q=>[(4,ptr g4),(5,ptr g5),(6,ptr gh),(20,.sl 1 (l.map str) id),(21,int (l.map str).length),(22,int q.1)])
  (fun q=>[.var gh 319 (hshA q.2.1 q.2.2 (xorB 54 kb++(l.take q.1).flatten).length),.var g5 190 (kbA kb),.var g4 42 (hA zeroH)]) (fun q=>q.1<=l.length/\HS (xorB 54 kb++(l.take q.1).flatten) q.2.1 q.2.2) (fun q=>l.length - q.1) (0,x0,b0) ⟨rfl,rfl,rfl,rfl,rfl,rfl,trivial⟩ ?_ ⟨Nat.zero_le _,by simpa using hH0⟩ ?_
 ·dsimp only
  rw [List.take_zero,List.flatten_nil,List.append_nil]
  exact sbl
 rintro⟨i,x,b⟩ ⟨hi,hH⟩
 dsimp only at hi hH ⊢
 repeat' first|refine Vz ?_|intro _
 have hle:=flat_le (l:=l) i
 refine ac_cond (fun hlt=>?_) (fun hlt=>?_)
 ·have hil:i < l.length:=by omega
  have hle2:=flat_le (l:=l) (i + 1)
  have hfn:=flat_next hil
  rw [hfn,lla] at hle2
  repeat' first|refine Vz ?_|intro _
  refine al_callK [.var gh 319 (hshA x b (xorB 54 kb++(l.take i).flatten).length)] _ (by rw [hs];exact hwrite (s:=l[i]) hH (by rw [lla,xorB_len];omega)) (fun u m1 hh=>?_) lpr
  obtain⟨rfl,x',b',hH',rfl⟩:=hh
  rw [laa,<- hfn] at hH' ⊢
  repeat' first|refine Vz ?_|intro _
  refine ae_round (i + 1,x',b') ⟨rfl,rfl,rfl,rfl,rfl,rfl,trivial⟩ ?_ ⟨hil,hH'⟩ (by dsimp only;omega)
  exact sbl
 ·obtain rfl:i=l.length:=by omega
  rw [List.take_length] at hH ⊢
  repeat' first|refine Vz ?_|intro _
  refine al_callK [] _ (by rw [hs];exact sput hk 92 92 rfl) (fun u m1 hh=>?_) lpr
  obtain⟨rfl,rfl⟩:=hh
  repeat' first|refine Vz ?_|intro _
  refine al_callK [.var gh 319 (hshA x b (xorB 54 kb++l.flatten).length)] _ (by rw [hs];exact hsum hH (by rw [lla,xorB_len];omega)) (fun u m1 hh=>?_) lpr
  obtain⟨rfl,rfl⟩:=hh
  have:LenLe (xorB 92 kb) 64:=⟨by rw [xorB_len];omega⟩
  repeat' first|refine Vz ?_|intro _
  rw [ofH2]
  repeat' first|refine Vz ?_|intro _
  exact reK [] ⟨rfl,rfl⟩ (List.nil_sublist _)
instance fnSeal {k s:Bs}:Ans Tryz.prog GL 75 [str k,str s] (k.length<=1000000/\s.length<=1000000000) (hA (sealH k s)):=⟨fun hp=>by
 obtain⟨hk,hsl⟩:=hp
 refine qE Tryz.func75 rfl Tryz.ntmps75 rfl (fun _ hs=>?_)
 repeat' first|refine Vz ?_|intro _
 refine al_callK [] _ (by rw [hs];exact snew hk) (fun u m1 hh=>?_) lpr
 obtain⟨g,rfl,rfl⟩:=hh
 repeat' first|refine Vz ?_|intro _
 refine al_callK [.var g 279 (kbA (keyB k))] _ (by rw [hs];exact sseal (l:=[s]) (id:=none) (keyB_len k) (by simpa using by omega) (by simp)) (fun u m1 hh=>?_) lpr
 obtain⟨rfl,rfl⟩:=hh
 repeat' first|refine Vz ?_|intro _
 refine reE ?_
 rw [sealH]
 simp [outOf]⟩

instance fnHeader {c:Bs}{h t:Int}{r:Hsh}:Ans Tryz.prog GL 76 [.agg 35 [str c,int h,int t,hA r]] (h<=9223372036854775807/\t<=9223372036854775807) (str (hdrB ⟨c,h,t,r⟩)):=⟨fun hp=>by
 obtain⟨h1,h2⟩:=hp
 refine qE Tryz.func76 rfl Tryz.ntmps76 rfl (fun _ hs=>?_)
 repeat' first|refine Vz ?_|intro _
 refine reE ?_
 rfl⟩
theorem hdrB_len (x:Hdr):(hdrB x).length<=100000000:=by
 have h1:=(inferInstance:LenLe (tlvT 99 x.c++tlvI 104 x.h++tlvI 116 x.t++tlvT 114 x.r.l) _).out
 unfold hdrB
 omega
instance fnCSeal {k c:Bs}{h t:Int}{r:Hsh}:Ans Tryz.prog GL 38 [str k,.agg 35 [str c,int h,int t,hA r]] (k.length<=1000000/\h<=9223372036854775807/\t<=9223372036854775807) (hA (sealOf k ⟨c,h,t,r⟩)):=⟨fun hp=>by
 obtain⟨h0,h1,h2⟩:=hp
 have h3:=hdrB_len ⟨c,h,t,r⟩
 refine qE Tryz.func38 rfl Tryz.ntmps38 rfl (fun _ hs=>?_)
 repeat' first|refine Vz ?_|intro _
 refine reE ?_
 rfl⟩

end Go.Proofs.YtndhpgclmgpmoaaGreatDoor
