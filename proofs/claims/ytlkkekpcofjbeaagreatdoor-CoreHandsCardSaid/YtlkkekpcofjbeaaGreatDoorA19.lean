/- What a law's row asks of this translation, where it names Go's own tables for runes too. -/
import Derived.Test.YtlkkekpcofjbeaaGreatDoorRows
import Derived.Lib.LaidTab
import Derived.LaidLaws
import Derived.Test.YtlkkekpcofjbeaaGreatDoorA16
import Derived.Test.YtlkkekpcofjbeaaGreatDoorA18
namespace Go.Proofs.YtlkkekpcofjbeaaGreatDoor
open Go Go.RowKit Tw Av
def GL:List (Nat × AV):=[(1,.agg 8 (h0.words.map fun x=>.lit (w32v x))),(2,.agg 64 (kTab.map fun x=>.lit (w32v x)))]
theorem rg_of_at {ok:Ok}{w:World}{b:Nat}{cs:List Value}(h:At ok w b 0 cs)(h0:0 < cs.length):Rg w b 0 cs:=by
 have h1:=(h 0 cs[0] (by simp [h0])).1
 unfold World.cell? at h1
 cases hb:w.heap[b]? with
 | none=>simp [hb] at h1
 | some o=>
  cases o with
  | cells C T fr=>
   refine⟨C,T,fr,hb,?_⟩
   apply List.ext_getElem?
   intro j
   rw [List.drop_zero]
   rcases Nat.lt_or_ge j cs.length with hj|hj
   ·have h2:=(h j cs[j] (by simp [hj])).1
    unfold World.cell? at h2
    simp only [hb,Nat.zero_add] at h2
    rw [List.getElem?_take_of_lt hj,List.getElem?_eq_getElem hj]
    simpa using h2
   ·rw [List.getElem?_eq_none hj,List.getElem?_eq_none (by simp;omega)]
  | _=>simp [hb] at h1
theorem rcs_lits {ok:Ok}{w:World}{α:Type}{f:α->Value}:∀ {l:List α} {cs:List Value},RCs ok w (l.map fun x=>.lit (f x)) cs->cs=l.map f
 | [],cs,h=>by rw [List.map_nil,RCs] at h;exact h
 | c::l,cs,h=>by
  rw [List.map_cons,RCs] at h
  obtain⟨c1,c2,rfl,h1,h2⟩:=h
  rw [RC] at h1
  rw [h1.1,rcs_lits h2]
  rfl
theorem glo_of {ok:Ok}{w:World}(h:Glob GL ok w):Glo w:=by
 refine⟨?_,?_⟩
 ·obtain⟨cs,h1,h2⟩:=h _ (by unfold GL;exact List.mem_cons_self)
  rw [RC] at h2
  have h3:=rcs_lits h2.2
  subst h3
  exact rg_of_at h1 (by simp [H8.words])
 ·obtain⟨cs,h1,h2⟩:=h (2,_) (by unfold GL;exact List.mem_cons_of_mem _ List.mem_cons_self)
  rw [RC] at h2
  have h3:=rcs_lits h2.2
  subst h3
  exact rg_of_at h1 (by simp [kTab])
theorem sl_of {ok:Ok}{w:World}{xs:List AV}{id:Option Value}{k:Nat}{v:Value}{vs:List Value}{E:TypeId}(h:RV ok w (.sl k xs id) v)(hx:∀ cs,RCs ok w xs cs->cs=fl vs)(hl:xs.length=vs.length)(hk:∀ x ∈ vs,x.cells.size=k)(hg:Tw.Good vs)(hk0:0 < k):Sl (fun _=>True) w E k v vs:=by
 obtain⟨A,c,rfl,_,h2,h3,h4,_⟩:=sl_run h
 refine⟨hk,hg,A,c,by rw [hl],by omega,h3,fun hn=>?_⟩
 obtain⟨b,o,es,g1,g2,g3,g4⟩:=h4 (by omega)
 have:=hx es g4
 subst this
 refine⟨b,o,g1,trivial,rfl,?_⟩
 have h0:0 < (fl vs).length\/(fl vs).length=0:=by omega
 rcases h0 with h0|h0
 ·have:At ok w b o (fl vs):=g3
  have h1:=(this 0 (fl vs)[0] (by simp [h0])).1
  unfold World.cell? at h1
  cases hb:w.heap[b]? with
  | none=>simp [hb] at h1
  | some ob=>
   cases ob with
   | cells C T fr=>
    refine⟨C,T,fr,hb,?_⟩
    apply List.ext_getElem?
    intro j
    rcases Nat.lt_or_ge j (fl vs).length with hj|hj
    ·have h2:=(this j (fl vs)[j] (by simp [hj])).1
     unfold World.cell? at h2
     simp only [hb] at h2
     rw [List.getElem?_take_of_lt hj,List.getElem?_eq_getElem hj,List.getElem?_drop]
     simpa using h2
    ·rw [List.getElem?_eq_none hj,List.getElem?_eq_none (by simp;omega)]
   | _=>simp [hb] at h1
 ·have hvs:vs.length * k=0:=by rw [<- fl_length hk,h0]
  rcases Nat.mul_eq_zero.1 hvs with h|h
  ·omega
  ·omega
def tlvT (c:Int)(s:Bs):Bs:=tlvText (UInt8.ofNat c.toNat) s
def tlvI (c:Int)(n:Int):Bs:=tlvInt (UInt8.ofNat c.toNat) n
instance {c:Int}{s:Bs}:LenLe (tlvT c s) 16777219:=⟨by simp [tlvT,tlvText,bodyLen,List.length_take];omega⟩
instance {c:Int}{n:Int}:LenLe (tlvI c n) 16777219:=⟨by unfold tlvI tlvInt tlvNum;simp [tlvText,bodyLen,List.length_take];omega⟩
instance {h:Hsh}:LenLe h.l 32:=⟨by rw [h.len];exact Nat.le_refl _⟩
theorem letr {c:Int}(h:0<=c/\c < 256):Value.int .u8 c=u8v (UInt8.ofNat c.toNat):=by
 unfold u8v
 congr 1
 have:(UInt8.ofNat c.toNat).toNat=c.toNat:=by simp;omega
 rw [this]
 omega
instance fnText {c:Int}{s:Bs}:Ans Tryz.prog GL 97 [.lit (.int .u8 c),str s] (0<=c/\c < 256) (str (tlvT c s)):=⟨fun hc=>spec_flat fun ok w cargs hg hv=>by
 obtain⟨u1,us,rfl,h1,u2,us2,rfl,h2,rfl⟩:=hv
 rw [RV0.lit h1,RV0.lit h2,letr hc]
 exact (text_spec _ s w).mono fun v w' hh=>⟨fun ok w=>by rw [hh.1];exact RVl rfl,hh.2⟩⟩
instance fnInt {c:Int}{n:Int}:Ans Tryz.prog GL 178 [.lit (.int .u8 c),int n] ((0<=c/\c < 256)/\n<=9223372036854775807) (str (tlvI c n)):=⟨fun hc=>spec_flat fun ok w cargs hg hv=>by
 obtain⟨u1,us,rfl,h1,u2,us2,rfl,h2,rfl⟩:=hv
 rw [RV0.lit h1,RV0.lit h2,letr hc.1]
 exact (int_spec _ n hc.2 w).mono fun v w' hh=>⟨fun ok w=>by rw [hh.1];exact RVl rfl,hh.2⟩⟩
instance fnHText {h:Hsh}:Ans Tryz.prog GL 200 [hA h] True (str h.l):=⟨fun _=>spec_flat fun ok w cargs hg hv=>by
 obtain⟨u1,us,rfl,h1,rfl⟩:=hv
 rw [hA_RV h1]
 exact (htext_spec w h).mono fun v w' hh=>⟨fun ok w=>by rw [hh.1];exact RVl rfl,hh.2⟩⟩
theorem rcs_strs {ok:Ok}{w:World}:∀ {l:List Bs} {cs:List Value},RCs ok w (l.map str) cs->cs=fl (l.map sv)
 | [],cs,h=>by rw [List.map_nil,RCs] at h;exact h
 | c::l,cs,h=>by
  rw [List.map_cons,RCs] at h
  obtain⟨c1,c2,rfl,h1,h2⟩:=h
  rw [RC] at h1
  rw [h1.1,rcs_strs h2]
  rfl
class LensLe (l:List Bs)(n:outParam Nat):Prop where
 out:l.flatten.length<=n
instance : LensLe [] 0 := ⟨Nat.le_refl _⟩
instance {a:Bs}{l:List Bs}{n k:Nat}[h:LenLe a n][g:LensLe l k]:LensLe (a::l) (n + k):=⟨by have:=h.out;have:=g.out;simp at *;omega⟩
def ofH (l:List Bs):Hsh:=shaH l.flatten
instance fnOf {xs:List AV}{id:Option Value}{l:List Bs}{n:Nat}[hs:Strs xs l][hl:LensLe l n]:Ans Tryz.prog GL 201 [.sl 1 xs id] (n<=1152921504606846976) (hA (ofH l)):=⟨fun hc=>spec_flat fun ok w cargs hg hv=>by
 obtain⟨u1,us,rfl,h1,rfl⟩:=hv
 have hx:=hs.out
 subst hx
 exact (of_spec w l u1 (fun _=>True) (glo_of hg) (sl_of h1 (fun cs h=>rcs_strs h) (by simp) (by intro x hx;obtain⟨b,_,rfl⟩:=List.mem_map.1 hx;rfl) (Tw.Good.map (fun b=>good_all rfl) l) (by decide)) (by have:=hl.out;omega)).mono fun v w' hh=>⟨fun ok w=>by rw [hh.1];exact RV_hA _,hh.2⟩⟩
end Go.Proofs.YtlkkekpcofjbeaaGreatDoor

namespace Go.Proofs.YtlkkekpcofjbeaaGreatDoor
open Go Go.ChangeShapes Go.WideShapes Go.ChangeAt Go.RowKit Tw Av
theorem own:ownKnob Tryz.prog.godebug=none:=by kernel_rfl
theorem laidOut:laidOutB Tryz.prog=true:=by kernel_rfl
def zsF:List Int:=kTab.map fun x=>(x.toNat:Int)
def zsB:List Int:=h0.words.map fun x=>(x.toNat:Int)
theorem laid_tail {P:Program}{x:String × DataW Unit}{r:List (String × DataW Unit)}{w:World}(h:laidMet P (x::r) w):laidMet P r w:=by
 obtain⟨ps,h1,h2,h3⟩:=h
 obtain⟨g,t,cs,fuel,p,q,e1,e2,e3,e4,e5,rfl⟩:=h1
 exact⟨q,e5,(List.nodup_append.1 h2).2.1,fun b off hb=>h3 b off (by simp [hb])⟩
theorem lits_RCs {α:Type}{f:α->Value}{ok:Ok}{w:World}(hf:∀ x,(f x).oneCell'=true):∀ l:List α,RCs ok w (l.map fun x=>.lit (f x)) (l.map f)
 | []=>by rw [List.map_nil,RCs];rfl
 | x::l=>by
  rw [List.map_cons,RCs]
  exact⟨[f x],l.map f,rfl,by rw [RC];exact⟨rfl,hf x⟩,lits_RCs hf l⟩
theorem tab_glob {W:World}{g:Nat}{name:String}{l:List W32}{n:Nat}(hg:Tryz.prog.globalNamed name=some g)(hl:l.length=n)(h:Lib.TabIs Tryz.prog W name .u32 (l.map fun x=>(x.toNat:Int))):∃ cs,At okT W g 0 cs/\RC okT W (.agg n (l.map fun x=>.lit (w32v x))) cs:=by
 refine⟨l.map w32v,fun j v hj=>⟨?_,trivial⟩,?_⟩
 ·have hlt:j < l.length:=by have:=(List.getElem?_eq_some_iff.1 hj).1;simpa using this
  have h1:=Lib.TabIs.cell h hg j (by simpa using hlt)
  rw [Nat.zero_add,h1]
  rw [List.getElem?_map,List.getElem?_eq_getElem hlt] at hj
  simp only [Option.map_some,Option.some.injEq] at hj
  rw [<- hj]
  simp [List.getD,hlt,w32v]
 ·rw [RC]
  exact⟨by simp [hl],lits_RCs (fun _=>rfl) l⟩
def rowOf (c:Array Value):Obj->Obj
 | .cells _ t frozen=>.cells c t frozen
 | o=>o
noncomputable def laidWorld (os:Os):World:=
 { World.holding Tryz.prog os ⟨#[],#[],[]⟩ with heap:=((World.holding Tryz.prog os ⟨#[],#[],[]⟩).heap.modify 1 (rowOf (h0.words.map w32v).toArray)).modify 2 (rowOf (kTab.map w32v).toArray) }
end Go.Proofs.YtlkkekpcofjbeaaGreatDoor

namespace Go.Proofs.YtlkkekpcofjbeaaGreatDoor
open Go Go.ChangeShapes Go.WideShapes Go.ChangeAt Go.RowKit Tw Av
theorem glob_ofU {W : World} (h : laidMet Tryz.prog [("unicode/utf8.acceptRanges", Rows.laid_unicode_utf8_acceptRanges), ("twinspan/hash.factors", Rows.laid_twinspan_hash_factors), ("twinspan/hash.begin", Rows.laid_twinspan_hash_begin), ("unicode/utf8.first", Rows.laid_unicode_utf8_first)] W) : Glob GL okT W := by
 have gF : Tryz.prog.globalNamed "twinspan/hash.factors" = some 2 := by kernel_rfl
 have gB : Tryz.prog.globalNamed "twinspan/hash.begin" = some 1 := by kernel_rfl
 have h1 : Lib.TabIs Tryz.prog W "twinspan/hash.factors" .u32 zsF := Lib.tabIs_of_head (g := 2) (t := 311) (e := 252) (n := 64) gF (by kernel_rfl) (by kernel_rfl) (by kernel_rfl) (by kernel_rfl) (by kernel_rfl) (rest := [("twinspan/hash.begin", Rows.laid_twinspan_hash_begin), ("unicode/utf8.first", Rows.laid_unicode_utf8_first)]) (laid_tail h)
 have h2 : Lib.TabIs Tryz.prog W "twinspan/hash.begin" .u32 zsB := Lib.tabIs_of_head (g := 1) (t := 289) (e := 252) (n := 8) gB (by kernel_rfl) (by kernel_rfl) (by kernel_rfl) (by kernel_rfl) (by kernel_rfl) (rest := [("unicode/utf8.first", Rows.laid_unicode_utf8_first)]) (laid_tail (laid_tail h))
 intro p hp
 unfold GL at hp
 rcases List.mem_cons.1 hp with rfl|hp
 ·exact tab_glob gB rfl h2
 ·obtain rfl:=List.mem_singleton.1 hp
  exact tab_glob gF rfl h1
def rowU8 (l:List Nat):Array Value:=(l.map fun n:Nat=>Value.int .u8 (n:Int)).toArray
noncomputable def laidWorldU (os:Os):World:=
 { laidWorld os with heap:=((laidWorld os).heap.modify 3 (rowOf (rowU8 Go.Pinned.utf8FirstZ))).modify 4 (rowOf (rowU8 ([128,191,160,191,128,159,144,191,128,143]++List.replicate 22 0))) }
end Go.Proofs.YtlkkekpcofjbeaaGreatDoor
