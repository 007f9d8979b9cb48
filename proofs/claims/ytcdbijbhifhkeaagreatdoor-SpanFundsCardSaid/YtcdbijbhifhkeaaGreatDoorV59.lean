/- . -/
import Derived.Test.YtcdbijbhifhkeaaGreatDoorV53
namespace Go.Proofs.Z
open Go Go.RowKit Tw Av
section
variable {N:Nat} {nz:Bs} {z o z':SpX} {bs bs':List BlkX} {ws ws':List Bs} {dd dd' r:Bool} {p:PlX}
theorem SpG.hl (h:SpG N nz z bs ws dd):z.c.hs.length=bs.length:=by
 have o1:=uS (nm:=nz) (ky:=x8 nz) bD h.l.g;rw[h.c];exact o1.hs
theorem SpG.wl (h:SpG N nz z bs ws dd):z.c.ws=ws:=by rw[h.c];rfl
structure RepS (z z':SpX)(k:Int)(r:Bool):Prop where
 s:∃ l,z'.rp=z.rp++l/\(k=3->r=true->l.length=z.c.ws.length)/\(k≠3->l=[])
 c:k=3->r=true->z'.c.hs.length=z.c.hs.length+1/\z'.c.ws.length=0
 h:k≠3->k≠8->z'.c.hs.length=z.c.hs.length
theorem Lg (hz:SpG N nz z bs ws dd)(hz':SpG (N+1) nz z' bs' ws' dd')(h:PlS nz z o bs ws dd p r z' bs' ws' dd'):RepS z z' p.k r:=by
 have h1:=hz.hl;have h2:=hz'.hl;have w1:=hz.wl;have w2:=hz'.wl;cases h with
 | sub s h ws'=>
  have hk:p.k≠3:=by cases h <;> omega
  exact⟨⟨[],(List.append_nil _).symm,λe=>absurd e hk,λ_=>rfl⟩,λe=>absurd e hk,λ_ _=>by omega⟩
 | none h=>exact⟨⟨[],(List.append_nil _).symm,λe=>absurd e h.1,λ_=>rfl⟩,λe=>absurd e h.1,λ_ _=>rfl⟩
 | cut h bs' ws' dd' a1 a2=>
  cases hr:(O4 z (M6 z.c+aT p.n 4)).2
  ·obtain⟨b1,b2,b3⟩:=a2 hr;exact⟨⟨[],by rw[b3,List.append_nil],λ_ e=>(by cases e),λ_=>rfl⟩,λ_ e=>(by cases e),λe=>absurd h e⟩
  obtain⟨b1,b2,b3,b4,b5⟩:=a1 hr;refine⟨⟨_,b5,λ_ _=>?_,λe=>absurd h e⟩,λ_ _=>⟨?_,?_⟩,λe=>absurd h e⟩
  ·rw[w1];exact(yR.1).trans (Nat.zero_add _)
  ·rw[h2,h1,b2,lla,List.length_singleton]
  rw[w2,b3];rfl
 | arm h=>exact⟨⟨[],(List.append_nil _).symm,λe=>(by omega),λ_=>rfl⟩,λe=>(by omega),λ_ _=>rfl⟩
 | crash h l a1 a2=>exact⟨⟨[],(List.append_nil _).symm,λe=>(by omega),λ_=>rfl⟩,λe=>(by omega),λ_ e=>absurd h e⟩
end
end Go.Proofs.Z
