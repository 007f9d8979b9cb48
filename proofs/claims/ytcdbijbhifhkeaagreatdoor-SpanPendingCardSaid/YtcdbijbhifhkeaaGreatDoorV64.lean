/- . -/
import Derived.Test.YtcdbijbhifhkeaaGreatDoorV59
set_option maxHeartbeats 64000000
namespace Go.Proofs.Z
open Go Go.RowKit Tw Av
section
variable {d:List Ent}{k:Bs}
def Kept (d:List Ent)(o:Out18):Prop:=o.2.e≠0->o.1=d
theorem jD {e:Int}:Kept d (K6 d e):=λ_=>rfl
theorem MQ {r:List Ent × Int}{p:Rep}(h:p.e=0):Kept d (jN d r p):=by
 unfold jN;split
 ·exact λh'=>absurd h h'
 exact jD
theorem NL {v:Bs}:Kept d (kQ d k v):=MQ rfl
theorem Zp {x:TxX}{i:Bs}{b:Bool}{t:Int}:Kept d (nS d x i k b t):=by
 unfold nS;repeat' (first|exact jD|exact NL|split)
theorem Qq {x:TxX}{own:EndX}{i:Bs}{b:Bool}{t:Int}:Kept d (rM d x own i k b t):=by
 cases b
 ·rw[OJ];unfold wF;repeat' (first|exact jD|exact NL|split)
 rw[OI];unfold wF;repeat' (first|exact jD|exact NL|split)
theorem Ui {x:Pkt}{b:Bool}{e:Int}:Kept d (jU d x b e):=by
 unfold jU;split
 ·exact jD
 split
 ·exact jD
 split
 ·exact jD
 split
 ·exact jD
 exact λh=>absurd rfl h
theorem Cf (d:List Ent)(x:TxX)(h t:Int):Kept d (u7 d x h t):=by
 unfold u7;split
 ·unfold rQ;split <;> first|exact jD|exact MQ rfl
 split
 ·unfold wC;split <;> first|exact jD|exact MQ rfl
 split
 ·unfold rW;repeat' (first|exact jD|exact NL|split)
 split
 ·unfold lL;repeat' (first|exact jD|exact NL|split)
 split
 ·unfold qK;repeat' (first|exact jD|exact Zp|split)
 split
 ·unfold rY;repeat' (first|exact jD|exact Qq|split)
 split
 ·unfold qG;repeat' (first|exact jD|exact Zp|split)
 split
 ·unfold rF;repeat' (first|exact jD|exact Qq|split)
 split
 ·unfold eX;repeat' (first|exact jD|exact MQ rfl|split)
 split
 ·unfold rA;repeat' (first|exact jD|exact MQ rfl|split)
 split
 ·unfold qR;repeat' (first|exact jD|exact Ui|split)
 split
 ·unfold uA;repeat' (first|exact jD|exact Ui|split)
 exact jD
end

theorem YG {c x:UInt8}{p s:Bs}:preB (c::p) (x::s)=(decide (x=c)&&preB p s):=by
 unfold preB;rw[List.length_cons,List.take_succ_cons];by_cases h:x=c
 ·subst h;simp
 simp[h]
theorem a4z {s:Bs}:preB [] s=true:=by simp[preB]
theorem Nf:∀ {p a b:Bs},blt a p=false->blt a b=true->preB p b=true->preB p a=true
 | [],_,_,_,_,_=>a4z
 | _::_,a,[],_,k,_=>by cases a <;> simp[blt,Op.bytesLess] at k
 | _::_,[],_::_,h,_,_=>by simp[blt,Op.bytesLess] at h
 | c::p,x::a,y::b,h,k,q=>by
  rw[YG,bet,decide_eq_true_eq] at q;rw[YG,bet,decide_eq_true_eq];simp only[blt,Op.bytesLess,Bool.or_eq_false_iff,decide_eq_false_iff_not,Bool.and_eq_false_iff] at h;simp only[blt,Op.bytesLess,Bool.or_eq_true,Bool.and_eq_true,beq_iff_eq,decide_eq_true_eq] at k;obtain⟨rfl,q⟩:=q;rcases k with k|⟨rfl,k⟩
  ·exact absurd k h.1
  have h2:=h.2;simp at h2;exact⟨rfl,Nf h2 k q⟩
theorem Nc:∀ {p a:Bs},preB p a=true->blt a p=false
 | [],a,_=>by cases a <;> simp[blt,Op.bytesLess]
 | _::_,[],h=>by simp[preB] at h
 | c::p,x::a,h=>by
  rw[YG,bet,decide_eq_true_eq] at h;obtain⟨rfl,h⟩:=h;have h2:=Nc h;simp only[blt,Op.bytesLess,Bool.or_eq_false_iff,decide_eq_false_iff_not,Bool.and_eq_false_iff];exact⟨UInt8.lt_irrefl _,.inr h2⟩
theorem Gx {p:Bs}:∀ {E:List Ent},Srt E->(∀ x∈E,blt x.key p=false)->(E.takeWhile λx=>preB p x.key)=E.filter λx=>preB p x.key
 | [],_,_=>rfl
 | a::E,hs,hl=>by
  obtain⟨h1,h2⟩:=List.pairwise_cons.1 hs;rw[List.takeWhile_cons,List.filter_cons];by_cases hp:preB p a.key=true
  ·rw[if_pos hp,if_pos hp,Gx h2 λx hx=>hl x (List.mem_cons_of_mem _ hx)]
  rw[if_neg hp,if_neg hp]
  symm
  rw[List.filter_eq_nil_iff];exact λx hx hq=>hp (Nf (hl a List.mem_cons_self) (h1 x hx) hq)
theorem a1E {d:List Ent}(h:Srt d)(p:Bs):zY d p=d.filter λx=>preB p x.key:=by
 obtain⟨h1,h2⟩:=Ze (k:=p) h;have e:(d.take (G5 d p)).filter (λx=>preB p x.key)=[]:=by
  rw[List.filter_eq_nil_iff];intro x hx hq;have:=h1 x hx;rw[Nc hq] at this;cases this
 unfold zY;rw[Gx (List.Pairwise.sublist (List.drop_sublist _ _) h) h2]
 conv=>rhs;rw[<- List.take_append_drop (G5 d p) d,List.filter_append,e,List.nil_append]
def pK:Bs:=E5 [80] [99]
def vF (d:List Ent):Nat:=(d.filter λx=>preB pK x.key).length
theorem a4U {c:ChX}(h:DOk (j3 c)):iW c=vF (j3 c):=by
 unfold iW vF;rw[a1E h.s];rfl
theorem SB {k:Bs}(h:preB pK k=true):k.head?=some 80:=by
 have h3:k.take 6=[80,105,0,0,1,99]:=of_decide_eq_true h;cases k with
 | nil=>cases h3
 | cons y ys=>
  rw[List.take_succ_cons] at h3;injection h3 with h6 _
  rw[h6];rfl
section
variable {d d':List Ent} {k v:Bs} {c:UInt8} {n:Wd}
theorem Cx {A B:List Ent}:vF (A++⟨k,v⟩::B)=vF (A++B)+(if preB pK k=true then 1 else 0):=by
 unfold vF;rw[List.filter_append,List.filter_append,List.filter_cons];split
 ·rw[lla,lla,List.length_cons];omega
 rfl
theorem Cw (h:Srt d):vF (O8 d k v)=vF d+(if preB pK k=true/\gO d k=none then 1 else 0):=by
 have hi:=xY (k:=k) h;obtain⟨A,B,hA,hB,hl,h1⟩:=wX k h;rw[JL v hl h1,Cx];rcases h1 with⟨h1,rfl⟩|⟨u,h1,rfl⟩
 ·rw[h1] at hi;have hn:gO (A++B) k=none:=by
   cases hg:gO (A++B) k with
   | none=>rfl
   | some _=>rw[hg] at hi;cases hi
  simp[hn]
 rw[h1] at hi;have hn:gO (A++⟨k,u⟩::B) k≠none:=λe=>by rw[e] at hi;cases hi
 rw[Cx];simp[hn]
theorem Xh (h:Srt d):vF (iM d k)+(if preB pK k=true/\gO d k≠none then 1 else 0)=vF d:=by
 have hi:=xY (k:=k) h;obtain⟨A,B,hA,hB,hl,h1⟩:=wX k h;rw[Uv hl h1];rcases h1 with⟨h1,rfl⟩|⟨u,h1,rfl⟩
 ·rw[h1] at hi;have hn:gO (A++B) k=none:=by
   cases hg:gO (A++B) k with
   | none=>rfl
   | some _=>rw[hg] at hi;cases hi
  simp[hn]
 rw[h1] at hi;have hn:gO (A++⟨k,u⟩::B) k≠none:=λe=>by rw[e] at hi;cases hi
 rw[Cx];simp[hn]
structure Off (c:UInt8)(d d':List Ent):Prop where
 ok:DOk d'
 f:∀ k,k.head?=some c->gO d' k=gO d k
 n:c=80->vF d'=vF d
theorem Off.refl (h:DOk d):Off c d d:=⟨h,λ_ _=>rfl,λ_=>rfl⟩
theorem Off.trans {e:List Ent}(h:Off c d e)(h':Off c e d'):Off c d d':=⟨h'.ok,λk hk=>(h'.f k hk).trans (h.f k hk),λhc=>(h'.n hc).trans (h.n hc)⟩
theorem JK (h:DOk d)(hk:k.head?≠some c)(he:(bJ d k v).2=0):Off c d (bJ d k v).1:=by
 rw[Ml] at he;unfold bJ;rw[if_pos he];refine⟨h.put he,λq hq=>?_,λhc=>?_⟩
 ·rw[uX h.s,if_neg (λe=>hk (by rw[<- e];exact hq))]
 rw[Cw h.s,if_neg (λe=>hk (by rw[SB e.1,hc]))];rfl
theorem Cb (h:DOk d)(hk:k.head?≠some c):Off c d (iM d k):=by
 refine⟨h.drp k,λq hq=>?_,λhc=>?_⟩
 ·rw[OV h.s,if_neg (λe=>hk (by rw[<- e];exact hq))]
 have:=Xh (k:=k) h.s;rw[if_neg (λe=>hk (by rw[SB e.1,hc]))] at this;exact this
theorem ZI (h:DOk d)(hk:k.head?≠some c)(he:(iY k n d).2=0):Off c d (iY k n d).1:=by
 unfold iY at he ⊢;split
 ·rename_i h1;rw[if_pos h1] at he;exact JK h hk he
 rename_i h1;rw[if_neg h1] at he;exact absurd he dc
theorem ZW (h:DOk d)(hk:k.head?≠some c)(he:(fZ k n d).2=0):Off c d (fZ k n d).1:=by
 unfold fZ at he ⊢;split
 ·rename_i h1;rw[if_pos h1] at he;exact absurd he dc
 rename_i h1;rw[if_neg h1] at he;split
 ·exact Cb h hk
 rename_i h2;rw[if_neg h2] at he;exact JK h hk he
theorem MM {a b:List Ent->List Ent × Int}(h:DOk d)(ha:∀ d,DOk d->(a d).2=0->Off c d (a d).1)(hb:∀ d,DOk d->(b d).2=0->Off c d (b d).1)(he:(aF a b d).2=0):Off c d (aF a b d).1:=by
 unfold aF at he ⊢;split
 ·rename_i h1;rw[if_pos h1] at he;have o:=ha d h h1;exact o.trans (hb _ o.ok he)
 rename_i h1;rw[if_neg h1] at he;exact absurd he h1
variable {a b t:Bs} {x:Pkt}
theorem ZO (hc:c≠66/\c≠83)(h:DOk d)(he:(aL d a t n).2=0):Off c d (aL d a t n).1:=by
 have k1:(F6 a t).head?≠some c:=λe=>hc.1 (by have e2:=e;injection e2 with e2;exact e2.symm);have k2:(R9 t).head?≠some c:=λe=>hc.2 (by have e2:=e;injection e2 with e2;exact e2.symm);unfold aL at he ⊢;split
 ·rename_i h1;rw[if_pos h1] at he;exact absurd he dc
 rename_i h1;rw[if_neg h1] at he;split
 ·rename_i h2;rw[if_pos h2] at he;exact absurd he dc
 rename_i h2;rw[if_neg h2] at he;exact MM h (λ_ h e=>ZI h k2 e) (λ_ h e=>ZI h k1 e) he
theorem b0Z (hc:c≠66/\c≠83)(h:DOk d)(he:(nR d a t n).2=0):Off c d (nR d a t n).1:=by
 have k1:(F6 a t).head?≠some c:=λe=>hc.1 (by have e2:=e;injection e2 with e2;exact e2.symm);have k2:(R9 t).head?≠some c:=λe=>hc.2 (by have e2:=e;injection e2 with e2;exact e2.symm);unfold nR at he ⊢;split
 ·rename_i h1;rw[if_pos h1] at he;exact absurd he dc
 rename_i h1;rw[if_neg h1] at he;exact MM h (λ_ h e=>ZW h k2 e) (λ_ h e=>ZW h k1 e) he
theorem SX (hc:c≠66/\c≠83)(h:DOk d)(he:(aC d a b t n).2=0):Off c d (aC d a b t n).1:=by
 have k1:(F6 a t).head?≠some c:=λe=>hc.1 (by have e2:=e;injection e2 with e2;exact e2.symm);have k2:(F6 b t).head?≠some c:=λe=>hc.1 (by have e2:=e;injection e2 with e2;exact e2.symm);unfold aC at he ⊢;split
 ·rename_i h1;rw[if_pos h1] at he;exact absurd he dc
 rename_i h1;rw[if_neg h1] at he;split
 ·exact Off.refl h
 rename_i h2;rw[if_neg h2] at he;exact MM h (λ_ h e=>ZW h k1 e) (λ_ h e=>ZI h k2 e) he
theorem Iq (hc:c≠66/\c≠83)(h:DOk d)(he:(Z6 d x).2=0):Off c d (Z6 d x).1:=by
 unfold Z6 at he ⊢;split
 ·rename_i h1;rw[if_pos h1] at he;exact absurd he dc
 rename_i h1;rw[if_neg h1] at he;split
 ·rename_i h2;rw[if_pos h2] at he;exact b0Z hc h he
 rename_i h2;rw[if_neg h2] at he;exact SX hc h he
theorem a3M (hc:c≠66/\c≠83)(h:DOk d)(he:(Y7 d x).2=0):Off c d (Y7 d x).1:=by
 unfold Y7 at he ⊢;split
 ·rename_i h1;rw[if_pos h1] at he;exact absurd he dc
 rename_i h1;rw[if_neg h1] at he;split
 ·rename_i h2;rw[if_pos h2] at he;exact SX hc h he
 rename_i h2;rw[if_neg h2] at he;exact ZO hc h he
theorem Ee (hc:c≠66/\c≠83)(h:DOk d)(he:(nT d x).2=0):Off c d (nT d x).1:=by
 unfold nT at he ⊢;split
 ·rename_i h1;rw[if_pos h1] at he;exact absurd he dc
 rename_i h1;rw[if_neg h1] at he;split
 ·rename_i h2;rw[if_pos h2] at he;exact ZO hc h he
 rename_i h2;rw[if_neg h2] at he;exact SX hc h he
theorem MP {r:List Ent × Int}{p:Rep}(h:DOk d)(hr:r.2=0->Off c d r.1):Off c d (jN d r p).1:=by
 unfold jN;split
 ·rename_i h1;exact hr h1
 exact Off.refl h
theorem JJ (h:DOk d)(hk:k.head?≠some c):Off c d (kQ d k v).1:=MP h λe=>JK h hk e
theorem mD {e:Int}(h:DOk d):Off c d (K6 d e).1:=Off.refl h
theorem Zo {x:TxX}{i k:Bs}{b:Bool}{t:Int}(h:DOk d)(hk:(E5 k x.i).head?≠some c):Off c d (nS d x i k b t).1:=by
 unfold nS;repeat' (first|exact mD h|exact JJ h hk|split)
theorem Qp {x:TxX}{own:EndX}{i k:Bs}{b:Bool}{t:Int}(h:DOk d)(hk:(E5 k x.i).head?≠some c):Off c d (rM d x own i k b t).1:=by
 cases b
 ·rw[OJ];unfold wF;repeat' (first|exact mD h|exact JJ h hk|split)
 rw[OI];unfold wF;repeat' (first|exact mD h|exact JJ h hk|split)
theorem Uh {b:Bool}{e:Int}(hc:c≠66/\c≠83)(h8:c≠80)(h:DOk d):Off c d (jU d x b e).1:=by
 have hk:(G9 [80] x.s x.q).head?≠some c:=λe=>h8 (by have e2:some (80:UInt8)=some c:=e;injection e2 with e2;exact e2.symm);unfold jU;repeat' (first|exact mD h|(rename_i h4;exact if hb:b=true then by subst hb;exact(Ee hc h (Classical.byContradiction λhn=>h4 ⟨rfl,hn⟩)).trans (Cb (Ee hc h (Classical.byContradiction λhn=>h4 ⟨rfl,hn⟩)).ok hk) else by rw[if_neg hb];exact Cb h hk)|split)
theorem a9o {b:Bool}{e:Int}(h:DOk d)(he:(jU d x b e).2.e=0):∃ d1,(∀ c:UInt8,c≠66/\c≠83->Off c d d1)/\gO d (G9 [80] x.s x.q)=some (M9 x)/\(jU d x b e).1=iM d1 (G9 [80] x.s x.q):=by
 unfold jU at he ⊢;split at he
 ·rename_i h1;exact absurd he h1
 rename_i h1;rw[if_neg h1];split at he
 ·exact absurd he (by show ¬ (12:Int)=0;decide)
 rename_i h2;rw[if_neg h2];split at he
 ·rename_i h3;exact absurd he h3
 rename_i h3;rw[if_neg h3];split at he
 ·rename_i h4;exact absurd he h4.2
 rename_i h4;rw[if_neg h4];have hg:gO d (G9 [80] x.s x.q)=some (M9 x):=Classical.byContradiction λhn=>h2 (.inl hn);cases b
 ·exact⟨d,λ_ _=>Off.refl h,hg,rfl⟩
 exact⟨(nT d x).1,λ_ hc=>Ee hc h (Classical.byContradiction λhn=>h4 ⟨rfl,hn⟩),hg,rfl⟩
end

section
variable {i:Bs}{v:EvX}{j:Int}
theorem a6E (n:Int)(h:0<=n/\n<=1099511627776):xV (y9 110 n)=0/\FZ (y9 110 n)=n:=by
 obtain⟨a,b,c⟩:=oI (c:=110) (most:=1099511627776) (n:=n) (r:=[]) dc dc h.1 h.2 dc;rw[List.append_nil] at a b c;have e:xV (y9 110 n)=0:=by
  unfold xV;rw[b,c];rfl
 refine⟨e,?_⟩;unfold FZ;rw[if_pos e,a]
theorem a6y {a b:Int}(ha:0<=a/\a<=1099511627776)(hb:0<=b/\b<=1099511627776)(h:G9 [80] i a=G9 [80] i b):a=b:=by
 have h2:y9 113 a=y9 113 b:=List.append_cancel_left h;have r1:=(oI (c:=113) (most:=1099511627776) (n:=a) (r:=[]) dc dc ha.1 ha.2 dc).1;have r2:=(oI (c:=113) (most:=1099511627776) (n:=b) (r:=[]) dc dc hb.1 hb.2 dc).1;rw[h2] at r1;exact r1.symm.trans r2
theorem a6z {j:Bs}{a b:Int}(hi:i.length<=1000)(hj:j.length<=1000)(h:G9 [80] i a=G9 [80] j b):i=j:=by
 have h':[80]++(r9 105 i++y9 113 a)=[80]++(r9 105 j++y9 113 b):=by
  unfold G9 E5 at h;simpa only [List.append_assoc] using h
 exact(a1T dc dc hi hj (List.append_cancel_left h')).1
section
variable {d:List Ent} {x:Pkt} {k v:Bs}
theorem RY (he:(bJ d k v).2=0):Q0 d k v=0/\(bJ d k v).1=O8 d k v:=by
 rw[Ml] at he;exact⟨he,by unfold bJ;rw[if_pos he]⟩
theorem then_ok {a b:List Ent->List Ent × Int}(h:(aF a b d).2=0):(a d).2=0/\(b (a d).1).2=0/\(aF a b d).1=(b (a d).1).1:=by
 unfold aF at h ⊢;split at h
 ·rename_i h1;rw[if_pos h1];exact⟨h1,h,rfl⟩
 rename_i h1;exact absurd h h1
theorem WN (he:(eX d x).2.e=0):aN (goes d x)=true/\(Z6 d (goes d x)).2=0/\Q0 (Z6 d (goes d x)).1 (G9 [80] x.s (goes d x).q) (M9 (goes d x))=0 /\
  Q0 (O8 (Z6 d (goes d x)).1 (G9 [80] x.s (goes d x).q) (M9 (goes d x))) (E5 [78] x.s) (y9 110 ((goes d x).q+1))=0/\(eX d x).1=O8 (O8 (Z6 d (goes d x)).1 (G9 [80] x.s (goes d x).q) (M9 (goes d x))) (E5 [78] x.s) (y9 110 ((goes d x).q+1)):=by
 unfold eX at he ⊢;split at he
 ·rename_i h1;exact absurd he h1
 rename_i h1;rw[if_neg h1];split at he
 ·exact absurd he (by show ¬ (1:Int)=0;decide)
 rename_i h2;rw[if_neg h2];split at he
 ·exact absurd he (by show ¬ (12:Int)=0;decide)
 rename_i h3;rw[if_neg h3];split at he
 ·exact absurd he (by show ¬ (21:Int)=0;decide)
 rename_i h4;rw[if_neg h4];unfold jN at he ⊢;split at he
 rotate_left
 ·rename_i h5;exact absurd he h5
 rename_i h5;rw[if_pos h5];obtain⟨a1,a2,a3⟩:=then_ok h5;obtain⟨b1,b2,b3⟩:=then_ok a2;obtain⟨c1,c2⟩:=RY b1;have b2':=b2;rw[c2] at b2';obtain⟨c3,c4⟩:=RY b2';refine⟨by simpa using h2,a1,c1,c3,?_⟩;show (aF _ _ d).1=_;rw[a3,b3,c2];exact c4
theorem Xq (h:aN x=true):(1<=x.q/\x.q<=1099511627776)/\x.s.length<=32:=by
 unfold aN at h;rw[bet,bet] at h;obtain⟨h1,h2,_⟩:=h;have h3:=of_decide_eq_true h1;unfold FU I4 at h2;rw[bet,bet] at h2;have h4:=of_decide_eq_true h2.1.2;exact⟨⟨h3.1,h3.2.1⟩,h4.2⟩
end
section
variable {d d':List Ent} {x:TxX} {ht t:Int} {c:UInt8}
theorem Ce (hc:c≠66/\c≠83/\c≠67/\c≠75/\c≠72)(h1:x.k=13->c≠80/\c≠78)(h2:x.k=14->c≠71)(h3:x.k=15\/x.k=16->c≠80)(h:DOk d):Off c d (u7 d x ht t).1:=by
 have hm:c≠66/\c≠83:=⟨hc.1,hc.2.1⟩;have hO:∀ (a:UInt8) (i:Bs),c≠a->(E5 [a] i).head?≠some c:=λa i ha e=>ha (by have e2:some a=some c:=e;injection e2 with e2;exact e2.symm);have hW:∀ (a:UInt8) (i:Bs) (n:Int),c≠a->(G9 [a] i n).head?≠some c:=λa i n ha e=>ha (by have e2:some a=some c:=e;injection e2 with e2;exact e2.symm);unfold u7;split
 ·unfold rQ;split
  ·exact mD h
  exact MP h λe=>ZO hm h e
 split
 ·unfold wC;split
  ·exact mD h
  exact MP h λe=>SX hm h e
 split
 ·unfold rW;repeat' (first|exact mD h|exact JJ h (hO 67 _ hc.2.2.1)|split)
 split
 ·unfold lL;repeat' (first|exact mD h|exact JJ h (hO 67 _ hc.2.2.1)|split)
 split
 ·unfold qK;repeat' (first|exact mD h|exact Zo h (hO 75 _ hc.2.2.2.1)|split)
 split
 ·unfold rY;repeat' (first|exact mD h|exact Qp h (hO 75 _ hc.2.2.2.1)|split)
 split
 ·unfold qG;repeat' (first|exact mD h|exact Zo h (hO 72 _ hc.2.2.2.2)|split)
 split
 ·unfold rF;repeat' (first|exact mD h|exact Qp h (hO 72 _ hc.2.2.2.2)|split)
 split
 ·rename_i hk;obtain⟨n1,n2⟩:=h1 hk;unfold eX;repeat' (first|exact mD h|exact MP h (λe=>MM h (λ_ h e=>Iq hm h e) (λ_ h e=>MM h (λ_ h e=>JK h (hW 80 _ _ n1) e) (λ_ h e=>JK h (hO 78 _ n2) e) e) e)|split)
 split
 ·rename_i hk;have n1:=h2 hk;have hR:Off c d (if (Y7 d x.x).2=0 then (Y7 d x.x).1 else d):=by
   split
   ·rename_i h5;exact a3M hm h h5
   exact Off.refl h
  unfold rA;generalize (if (Y7 d x.x).2=0 then (Y7 d x.x).1 else d)=y at hR ⊢;repeat' (first|exact mD h|exact MP h (λe=>hR.trans (JK hR.ok (hW 71 _ _ n1) e))|split)
 split
 ·rename_i hk;unfold qR;split
  ·exact mD h
  exact Uh hm (h3 (.inl hk)) h
 split
 ·rename_i hk;unfold uA;split
  ·exact mD h
  exact Uh hm (h3 (.inr hk)) h
 exact mD h
theorem Ol (h:gO d' (E5 [78] i)=gO d (E5 [78] i)):X7 d' i=X7 d i:=by
 unfold X7 P7;rw[h]
def rZ (v:EvX):Int:=(if v.k=13 then 1 else 0)-(if v.k=15\/v.k=16 then 1 else 0)
def aW:List EvX->Int
 | []=>0
 | v::l=>rZ v+aW l
theorem Xj:∀ {a b:List EvX},aW (a++b)=aW a+aW b
 | [],b=>by show aW b=0+aW b;omega
 | v::a,b=>by
  show rZ v+aW (a++b)=rZ v+aW a+aW b;rw[Xj];omega
theorem UN {ev:List EvX}:aW (ev++[v])=aW ev+rZ v:=by
 rw[Xj];show aW ev+(rZ v+0)=_;omega
structure PenI (d:List Ent)(ev:List EvX):Prop where
 ok:DOk d
 n:(vF d:Int)=aW ev
 x:1<=X7 d [99]/\X7 d [99]<=1+ev.length
 q:∀ j,X7 d [99]<=j->j<=1099511627776->gO d (G9 [80] [99] j)=none
 o:∀ s j,s.length<=32->s≠[99]->gO d (G9 [80] s j)=none
theorem DZ {s:Bs}:(G9 [80] s j).head?=some 80:=rfl
theorem a6A {s:Bs}:G9 [80] s j≠E5 [78] i:=λe=>by
 have h:(G9 [80] s j).head?=(E5 [78] i).head?:=by rw[e]
 have h2:some (80:UInt8)=some 78:=h;cases h2
theorem Qj :preB pK (G9 [80] [99] j)=true:=dT (show (pK++y9 113 j).take pK.length=pK from List.take_left)
theorem a6D :¬ preB pK (E5 [78] i)=true:=λh=>by
 have h2:some (78:UInt8)=some 80:=SB h;cases h2
variable {ev:List EvX}
theorem PenI.snd {x:Pkt}(h:PenI d ev)(hl:ev.length<=1000000)(hs:x.s=[99])(he:(eX d x).2.e=0)(hv:v.k=13):PenI (eX d x).1 (ev++[v]):=by
 obtain⟨c1,c2,c3,c4,c5⟩:=WN he;obtain⟨⟨q1,q2⟩,_⟩:=Xq c1;have hx:=h.x;have hq:(goes d x).q=X7 d [99]:=by show X7 d x.s=_;rw[hs]
 rw[hq,hs] at c3 c4 c5;rw[hq] at q1 q2;have o80:=Iq (c:=80) dc h.ok c2;generalize (Z6 d (goes d x)).1=d1 at *;generalize M9 (goes d x)=w at *;have hqj:=h.q;generalize X7 d [99]=q at *;have p1:=o80.ok.put c3;have p2:=p1.put c4;rw[c5];have hK:∀ k,k.head?=some 80->gO (O8 (O8 d1 (G9 [80] [99] q) w) (E5 [78] [99]) (y9 110 (q+1))) k=if k=G9 [80] [99] q then some w else gO d k:=λk hk=>by
  rw[uX p1.s,if_neg (λe=>by rw[e] at hk;exact absurd hk (by show ¬ some (78:UInt8)=some 80;decide)),uX o80.ok.s,o80.f k hk]
 have hN:X7 (O8 (O8 d1 (G9 [80] [99] q) w) (E5 [78] [99]) (y9 110 (q+1))) [99]=q+1:=by
  obtain⟨k1,k2⟩:=a6E (q+1) om;have hv:P7 (O8 (O8 d1 (G9 [80] [99] q) w) (E5 [78] [99]) (y9 110 (q+1))) (E5 [78] [99])=y9 110 (q+1):=by
   rw[WA p1.s,if_pos rfl]
  unfold X7;rw[hv,if_pos k1,k2]
 have hn:=h.n;refine⟨p2,?_,?_,λj j1 j2=>?_,λs j s1 s2=>?_⟩
 ·rw[Cw p1.s,if_neg (λe=>a6D e.1),Cw o80.ok.s,if_pos ⟨Qj,by rw[o80.f _ DZ];exact hqj q (Int.le_refl _) q2⟩,o80.n rfl,UN];unfold rZ;rw[if_pos hv,if_neg om];omega
 ·rw[hN,lla,List.length_singleton];omega
 ·rw[hN] at j1;rw[hK _ DZ,if_neg (λe=>by have:=a6y om om e;omega)];exact hqj j om j2
 rw[hK _ DZ,if_neg (λe=>s2 (a6z om dc e))];exact h.o s j s1 s2
theorem PenI.end {x:Pkt}{b:Bool}{e:Int}(h:PenI d ev)(hc:aN x=true)(he:(jU d x b e).2.e=0)(hv:v.k=15\/v.k=16):PenI (jU d x b e).1 (ev++[v]):=by
 obtain⟨_,hsl⟩:=Xq hc;obtain⟨d1,ho,hg,e2⟩:=a9o h.ok he;have hs:x.s=[99]:=Classical.byContradiction λhn=>by
  rw[h.o x.s x.q hsl hn] at hg;cases hg
 rw[hs] at hg e2;have o80:=ho 80 dc;have o78:=ho 78 dc;rw[e2];have hN:X7 (iM d1 (G9 [80] [99] x.q)) [99]=X7 d [99]:=Ol (by rw[OV o80.ok.s,if_neg (λe=>a6A e.symm),o78.f _ rfl]);have hK:∀ k,k.head?=some 80->gO d k=none->gO (iM d1 (G9 [80] [99] x.q)) k=none:=λk hk hn=>by
  rw[OV o80.ok.s];split
  ·rfl
  rw[o80.f k hk,hn]
 have hx:=h.x;have hn:=h.n;refine⟨o80.ok.drp _,?_,?_,λj j1 j2=>?_,λs j s1 s2=>?_⟩
 ·have hd:=Xh (k:=G9 [80] [99] x.q) o80.ok.s;rw[if_pos ⟨Qj,by rw[o80.f _ DZ,hg];exact λe=>by cases e⟩,o80.n rfl] at hd;rw[UN];unfold rZ;rw[if_neg om,if_pos hv];omega
 ·rw[hN,lla,List.length_singleton];omega
 ·rw[hN] at j1;exact hK _ DZ (h.q j j1 j2)
 exact hK _ DZ (h.o s j s1 s2)
theorem PenI.do (h:PenI d ev)(hl:ev.length<=1000000)(hx:x.k=13->x.x.s=[99]):PenI (u7 d x ht t).1 (if (u7 d x ht t).2.e=0/\13<=x.k then ev++[jF (u7 d x ht t).1 ht x (u7 d x ht t).2] else ev):=by
 by_cases he:(u7 d x ht t).2.e=0
 rotate_left
 ·rw[if_neg (λe=>he e.1),Cf d x ht t he];exact h
 by_cases h13:x.k=13
 ·have e1:u7 d x ht t=eX d x.x:=by
   unfold u7;rw[if_neg om,if_neg om,if_neg om,if_neg om,if_neg om,if_neg om,if_neg om,if_neg om,if_pos h13]
  rw[if_pos ⟨he,om⟩];have hv:(jF (u7 d x ht t).1 ht x (u7 d x ht t).2).k=13:=h13;generalize jF (u7 d x ht t).1 ht x (u7 d x ht t).2=v at hv ⊢;rw[e1] at he ⊢;exact h.snd hl (hx h13) he hv
 by_cases h15:x.k=15\/x.k=16
 ·have e1:∃ b e,u7 d x ht t=jU d x.x b e/\aN x.x=true:=by
   rcases h15 with h15|h16
   ·have e2:u7 d x ht t=qR d x t:=by
     unfold u7;rw[if_neg om,if_neg om,if_neg om,if_neg om,if_neg om,if_neg om,if_neg om,if_neg om,if_neg om,if_neg om,if_pos h15]
    rw[e2] at he ⊢;unfold qR at he ⊢;split at he
    ·exact absurd he (by show ¬ (1:Int)=0;decide)
    rename_i hn;rw[if_neg hn];exact⟨_,_,rfl,by cases hc:aN x.x;exact absurd (.inl hc) hn;rfl⟩
   have e2:u7 d x ht t=uA d x t:=by
    unfold u7;rw[if_neg om,if_neg om,if_neg om,if_neg om,if_neg om,if_neg om,if_neg om,if_neg om,if_neg om,if_neg om,if_neg om,if_pos h16]
   rw[e2] at he ⊢;unfold uA at he ⊢;split at he
   ·exact absurd he (by show ¬ (1:Int)=0;decide)
   rename_i hn;rw[if_neg hn];exact⟨_,_,rfl,by cases hc:aN x.x;exact absurd hc hn;rfl⟩
  obtain⟨b,e,e2,hc⟩:=e1;rw[if_pos ⟨he,om⟩];have hv:(jF (u7 d x ht t).1 ht x (u7 d x ht t).2).k=15\/(jF (u7 d x ht t).1 ht x (u7 d x ht t).2).k=16:=h15;generalize jF (u7 d x ht t).1 ht x (u7 d x ht t).2=v at hv ⊢;rw[e2] at he ⊢;exact h.end hc he hv
 have o80:=Ce (c:=80) (x:=x) (ht:=ht) (t:=t) dc (λe=>absurd e h13) (λ_=>by decide) (λe=>absurd e h15) h.ok;have o78:=Ce (c:=78) (x:=x) (ht:=ht) (t:=t) dc (λe=>absurd e h13) (λ_=>by decide) (λe=>absurd e h15) h.ok;have hN:X7 (u7 d x ht t).1 [99]=X7 d [99]:=Ol (o78.f _ rfl);have hk:∀ ev':List EvX,aW ev'=aW ev->ev.length<=ev'.length->PenI (u7 d x ht t).1 ev':=λev' a1 a2=>by
  have b1:=h.x;refine⟨o80.ok,by rw[o80.n rfl,h.n,a1],by rw[hN];omega,λj j1 j2=>?_,λs j s1 s2=>?_⟩
  ·rw[hN] at j1;rw[o80.f _ DZ];exact h.q j j1 j2
  rw[o80.f _ DZ];exact h.o s j s1 s2
 split
 ·rename_i hs;have h14:x.k=14:=Classical.byContradiction λhn=>by
   have e2:u7 d x ht t=K6 d 1:=by
    unfold u7;rw[if_neg om,if_neg om,if_neg om,if_neg om,if_neg om,if_neg om,if_neg om,if_neg om,if_neg om,if_neg om,if_neg om,if_neg om]
   rw[e2] at he;exact absurd he (by show ¬ (1:Int)=0;decide)
  refine hk _ ?_ (by rw[lla];omega);rw[UN];show aW ev+((if x.k=13 then 1 else 0)-(if x.k=15\/x.k=16 then 1 else 0))=aW ev;rw[if_neg h13,if_neg h15];omega
 exact hk ev rfl (Nat.le_refl _)
end
def lW (s:Bs):Prop:=Y0 (I9 s)=0->(J9 (I9 s)).k=13->(J9 (I9 s)).x.s=[99]
theorem PenI.run {ev0:List EvX}{h t:Int}:∀ {l:List Bs} {q:Run3},PenI q.1 (ev0++q.2.2)->(∀ s∈l,lW s)->(ev0++q.2.2).length+l.length<=1000000->PenI (Z7 h t q l).1 (ev0++(Z7 h t q l).2.2)
 | [],_,hp,_,_=>hp
 | s::l,q,hp,hl,hb=>by
  rw[List.length_cons] at hb;have hle:=(Jk (h:=h) (t:=t) (q:=q) (s:=s)).2;rw[CO];refine PenI.run (l:=l) ?_ (λs hs=>hl s (List.mem_cons_of_mem _ hs)) (by rw[lla] at hb ⊢;omega);unfold bP;split
  ·rename_i h0;have hd:=hp.do (x:=J9 (I9 s)) (ht:=h) (t:=t) om (hl s List.mem_cons_self h0);unfold xN;dsimp only;split
   ·rename_i hc;rw[if_pos hc,laa] at hd;exact hd
   rename_i hc;rw[if_neg hc] at hd;exact hd
  exact hp
section
variable {nm:Bs} {bs:List BlkX} {b:BlkX}
abbrev yB (nm:Bs)(bs:List BlkX):List EvX:=(opC nm (x8 nm) w9 bs).ev
theorem a9k (hb:BsG bs):(yB nm bs).length<=16000:=by
 have h1:=(uS (nm:=nm) (ky:=x8 nm) bD hb).ev;have h2:=hb.l;show (opC nm (x8 nm) w9 bs).ev.length<=_;omega
theorem Ns (hb:BsG bs)(hp:PenI (Dm nm bs) (yB nm bs))(hw:∀ s∈b.x,lW s)(hl:b.x.length<=16):PenI (Dm nm (bs++[b])) (yB nm (bs++[b])):=by
 have h1:(opC nm (x8 nm) w9 bs).ev.length<=16000:=a9k hb;show PenI _ (opC nm (x8 nm) w9 (bs++[b])).ev;rw[EM hb,GM];exact PenI.run (q:=(Dm nm bs,[],[])) (by rw[List.append_nil];exact hp) hw (by rw[List.append_nil];omega)
end
end
end Go.Proofs.Z

namespace Go.Proofs.Z
open Go Go.RowKit Tw Av Go.Proofs.Tryz
theorem Mf {c m:Int}{s:Bs}:F8 c m s true=true:=by
 unfold F8 bO;split
 ·rw[if_neg sm];rfl
 rfl
theorem WU {c m:Int}{σ:RS}(h:σ.1.2=true):(sT c m σ).1.2=true:=by
 show F8 c m σ.1.1 σ.1.2=true;rw[h];exact Mf
theorem Jc {c m:Int}{σ:RS}(h:σ.1.2=true):(sI c m σ).1.2=true:=by
 show (F8 c 8 σ.1.1 σ.1.2 || nM (I7 c 8 σ.1.1 σ.1.2) || decide (m<(vU c σ.1.1 σ.1.2:Int)))=true;rw[h,Mf];rfl
theorem a3G {c m n:Int}{r:Bs}(h0:0<=c)(h1:c<256)(h2:0<=m)(h3:m<n)(h4:n<=9223372036854775807):O1 c m (y9 c n++r) false=true:=by
 have e:=(oI (c:=c) (most:=9223372036854775807) (n:=n) (r:=r) h0 h1 om h4 dc).1;unfold N7 at e;unfold O1;split at e
 ·omega
 rw[dT om,Bool.or_true]
theorem a3s {x:TxX}(h:TxG { x with x:={ x.x with h:=0 } })(hh:1099511627776<x.x.h/\x.x.h<=9223372036854775807):Y0 (I9 (j6 x))=10:=by
 have e0:(I9 (j6 x)).1=(j6 x,false):=by
  unfold I9;rw[dif_pos (QC x)]
 generalize I9 (j6 x)=σ at *;have hB:∃ r,j6 x=y9 75 x.k++(r9 73 x.i++(r9 79 x.o++(r9 81 x.p++(r9 82 x.q++(r9 89 x.y++(y9 69 x.e++(r9 99 x.h.c++(y9 104 x.h.h++(y9 116 x.h.t++(r9 114 x.h.r.l++(r9 77 x.m.l++(y9 113 x.x.q++(r9 115 x.x.s++(r9 107 x.x.k++(r9 100 x.x.d++(r9 97 (bF x.x.a.n)++(r9 102 x.x.f++(r9 103 x.x.g++(y9 117 x.x.h++r))))))))))))))))))):=by
  unfold j6;simp only[List.append_assoc];exact⟨_,rfl⟩
 obtain⟨r,hr⟩:=hB;rw[hr] at e0;clear hr;have s1:(qV σ).1=_:=(uE (c:=75) (m:=16) e0 dc dc h.k.1 h.k.2 dc).2;have s2:(tN σ).1=_:=(aQ (c:=73) (m:=4000) s1 dc dc h.i dc).2;have s3:(tH σ).1=_:=(aQ (c:=79) (m:=4000) s2 dc dc h.o dc).2;have s4:(tF σ).1=_:=(aQ (c:=81) (m:=4000) s3 dc dc h.p dc).2;have s5:(tC σ).1=_:=(aQ (c:=82) (m:=4000) s4 dc dc h.q dc).2;have s6:(sZ σ).1=_:=(aQ (c:=89) (m:=4000) s5 dc dc h.y dc).2;have s7:(sW σ).1=_:=(uE (c:=69) (m:=1099511627776) s6 dc dc h.e.1 h.e.2 dc).2;have s8:(sV σ).1=_:=(aQ (c:=99) (m:=4000) s7 dc dc h.c dc).2;have s9:(sU σ).1=_:=(uE (c:=104) (m:=1099511627776) s8 dc dc h.hh.1 h.hh.2 dc).2;have s10:(lJ σ).1=_:=(uE (c:=116) (m:=1099511627776) s9 dc dc h.ht.1 h.ht.2 dc).2;have s11:(lI σ).1=_:=(aQ (c:=114) (m:=32) s10 dc dc (Nat.le_of_eq x.h.r.len) dc).2;have s12:(tZ σ).1=_:=(aQ (c:=77) (m:=32) s11 dc dc (Nat.le_of_eq x.m.len) dc).2;have s13:(tY σ).1=_:=(uE (c:=113) (m:=1099511627776) s12 dc dc h.xq.1 h.xq.2 dc).2;have s14:(tX σ).1=_:=(aQ (c:=115) (m:=4000) s13 dc dc h.xs dc).2;have s15:(tV σ).1=_:=(aQ (c:=107) (m:=4000) s14 dc dc h.xk dc).2;have s16:(lH σ).1=_:=(aQ (c:=100) (m:=4000) s15 dc dc h.xd dc).2;have s17:(tQ σ).1=_:=(aQ (c:=97) (m:=32) s16 dc dc (Nat.le_of_eq (yG _)) dc).2;have s18:(tO σ).1=_:=(aQ (c:=102) (m:=4000) s17 dc dc h.xf dc).2;have s19:(pJ σ).1=_:=(aQ (c:=103) (m:=4000) s18 dc dc h.xg dc).2;have b20:(tL σ).1.2=true:=by
  show O1 117 1099511627776 (pJ σ).1.1 (pJ σ).1.2=true;rw[s19];exact a3G dc dc dc hh.1 hh.2
 have b21:(tK σ).1.2=true:=Jc b20;have b22:(tJ σ).1.2=true:=WU b21;have b23:(lG σ).1.2=true:=Jc b22;have b24:(lF σ).1.2=true:=WU b23;have b25:(qU σ).1.2=true:=WU b24;have hE:decide (gZ (qU σ)=0)=false:=by
  refine dZ ?_;unfold gZ X6;rw[if_pos (.inl b25)];decide
 unfold Y0;rw[if_neg];unfold vN;rw[hE];simp
section
variable {d f g:Bs} {a:Wd} {n k h:Int}
theorem Ib (hs:vP d f g)(hh:0<=h/\h<=1099511627776):TxG { X0 with k:=13,x:=⟨0,[99],[],d,a,f,g,h,0⟩ }:=by
 obtain⟨s1,s2,s3⟩:=hs;exact⟨by show (0:Int)<=13/\(13:Int)<=16;decide,J8,J8,J8,J8,J8,zi,J8,zi,zi,zi,hh,zi,zi,by show 1<=4000;decide,J8,by show d.length<=4000;omega,by show f.length<=4000;omega,by show g.length<=4000;omega,J8,zU,zV,Nat.le_trans pF dc⟩
theorem QM (hs:vP d f g)(hk:0<=k/\k<=1099511627776)(he:Y0 (I9 (j6 (U1 d f g n k)))=0):J9 (I9 (j6 (U1 d f g n k)))=U1 d f g n k:=by
 by_cases h:k+20<=1099511627776
 ·exact(XB (Ib (a:=H9 (O5 n)) (h:=k+20) hs om) (QC _)).1
 have h2:=a3s (x:=U1 d f g n k) (Ib (a:=H9 (O5 n)) (h:=0) hs dc) (by show 1099511627776<k+20/\k+20<=9223372036854775807;omega);rw[h2] at he;exact absurd he dc
theorem a7X:J9 (I9 (j6 (uY n)))=uY n:=by
 refine(XB (x:=uY n) ?_ (QC _)).1;exact⟨by show (0:Int)<=1/\(1:Int)<=16;decide,J8,J8,J8,J8,J8,zi,J8,zi,zi,zi,zi,zi,zi,J8,J8,by show 1<=4000;decide,J8,by show 3<=4000;decide,J8,zU,zV,Nat.le_trans pF dc⟩
end
section
variable {N M:Nat} {nz no:Bs} {z z' o:SpX} {bs bs' bo:List BlkX} {ws ws' wo:List Bs} {dd dd' d2:Bool} {p:PlX} {s:Bs} {t:Int}
theorem Kc {x:TxX}{n:Int}{c e:ChX}(h:JF c e n=some x):x∈lU c e [107]:=by
 unfold JF at h;split at h
 ·cases h
 exact List.mem_of_getElem? h
theorem a2k (hz:CG z.c)(ho:CG o.c)(hk:p.k≠6)(h:SubT z o p s):lW s:=by
 have hr:=KD (j3 z.c) [107];cases h with
 | send h=>
  intro he _;rw[QM ⟨dc,dc,dc⟩ hr he];rfl
 | home h=>
  intro he _;rw[QM ⟨dc,dc,dc⟩ hr he];rfl
 | header h=>
  intro he h13;rw[QW (by show (0:Int)<=4/\(4:Int)<=16;decide) he] at h13;exact absurd h13 (by show ¬ (4:Int)=13;decide)
 | relay x h hx=>
  intro he h13;obtain⟨_,_,h3⟩:=YK hz ho x (Kc hx);rw[QW om he] at h13;omega
 | tx h=>exact absurd h hk
 | fund h=>
  intro he h13;rw[QW (by show (0:Int)<=1/\(1:Int)<=16;decide) he] at h13;exact absurd h13 (by show ¬ (1:Int)=13;decide)
def CrT (x:DvX)(bs:List BlkX)(dd:Bool):Prop:=∀ k torn cut,∃ l,Ro (Y3 x k torn cut) (bs++l)/\l.length<=OY dd/\∀ b∈l,∀ s∈b.x,lW s
theorem Cm {x:DvX}(h:Ro x bs):CrT x bs false:=λk torn cut=>⟨[],by rw[List.append_nil];exact Jy h,Nat.zero_le _,sm⟩
theorem CrT.arm {x:DvX}{k:Int}(h:CrT x bs dd)(hn:x.n≠0)(hk:k<=1000):CrT (wM x k) bs dd:=λkp torn cut=>by
 obtain⟨l,h1,h2⟩:=h kp torn cut;refine⟨l,?_,h2⟩;rw[Wt hn];exact Jw h1 om
structure SpP (N:Nat)(nm:Bs)(z:SpX)(bs:List BlkX)(ws:List Bs)(dd:Bool):Prop where
 g:SpG N nm z bs ws dd
 p:PenI (Dm nm bs) (yB nm bs)
 w:∀ s∈ws,lW s
 c:CrT z.x bs dd
theorem SpP.up (h:SpP N nz z bs ws dd):SpP (N+1) nz z bs ws dd:=⟨h.g.up,h.p,h.w,h.c⟩
theorem Ho (h:SpG N nz z bs ws dd)(hg:SpG M nz (K7 z s) bs' ws' dd'){Q:Bs->Prop}(hw:∀ s∈ws,Q s)(hs:Q s):∀ s∈ws',Q s:=λq hq=>by
 have e1:(pY z.c s).ws=ws':=hg.wl;have e2:=h.wl;rw[<- e1] at hq;unfold pY at hq;split at hq
 ·rcases List.mem_append.1 hq with hq|hq
  ·exact hw q (by rw[<- e2];exact hq)
  rw[List.mem_singleton.1 hq];exact hs
 exact hw q (by rw[<- e2];exact hq)
theorem SpP.cut (h:SpP N nz z bs ws dd)(hN:N<=180):∃ bs' ws' dd',SpP (N+1) nz (O4 z t).1 bs' ws' dd':=by
 have hbi:=h.g.l.bi;have hr:=h.g.r;cases dd;rotate_left
 ·have e:O4 z t=(z,false):=by
   unfold O4;rw[if_pos (by rw[h.g.c];rfl)]
  rw[e];exact⟨bs,ws,true,h.up⟩
 have hR:=h.g.l.al rfl;have hl:bs.length<189:=by omega
 have hc:=UK (nm:=nz) (ky:=x8 nz) bD hR hl h.g.l.ws t;have hin:=Re (nm:=nz) (ky:=x8 nz) (t:=t) bD hR hl h.g.l.ws;have hs:z.s=J3 bs:=h.g.s;have hrl:(fG z.x (J3 bs) (F5 nz (x8 nz) w9 bs ws false) t).length<=16:=by
  have h1:=(yR (h:=(dP (F5 nz (x8 nz) w9 bs ws false) t).h) (t:=(dP (F5 nz (x8 nz) w9 bs ws false) t).t) (l:=(dP (F5 nz (x8 nz) w9 bs ws false) t).x) (q:=(j3 (F5 nz (x8 nz) w9 bs ws false),[],[]))).1;have h2:(dP (F5 nz (x8 nz) w9 bs ws false) t).x.length<=16:=h.g.l.ws.l;have h3:(M4 (j3 (F5 nz (x8 nz) w9 bs ws false)) (dP (F5 nz (x8 nz) w9 bs ws false) t)).2.1.length=(dP (F5 nz (x8 nz) w9 bs ws false) t).x.length:=h1.trans (Nat.zero_add _);unfold fG;split
  ·omega
  exact Nat.zero_le _
 have e:O4 z t=({ z with x:=(R5 z.x (J3 bs) (F5 nz (x8 nz) w9 bs ws false) t).1,s:=(R5 z.x (J3 bs) (F5 nz (x8 nz) w9 bs ws false) t).2.1,c:=wO z.x (J3 bs) (F5 nz (x8 nz) w9 bs ws false) t,rp:=z.rp++fG z.x (J3 bs) (F5 nz (x8 nz) w9 bs ws false) t },decide ((R5 z.x (J3 bs) (F5 nz (x8 nz) w9 bs ws false) t).2.2=0)):=by
  unfold O4;rw[if_neg (by rw[h.g.c];show ¬ (false=true);decide),hs,h.g.c]
 rw[e];dsimp only;have hR':(z.rp++fG z.x (J3 bs) (F5 nz (x8 nz) w9 bs ws false) t).length<=16*(N+1):=by
  rw[lla];omega
 have hgn:=h.g.n;generalize hA:(R5 z.x (J3 bs) (F5 nz (x8 nz) w9 bs ws false) t).1=A at *;generalize hB:(R5 z.x (J3 bs) (F5 nz (x8 nz) w9 bs ws false) t).2.1=B at *;generalize hE:(R5 z.x (J3 bs) (F5 nz (x8 nz) w9 bs ws false) t).2.2=E at *;generalize wO z.x (J3 bs) (F5 nz (x8 nz) w9 bs ws false) t=C at *;generalize fG z.x (J3 bs) (F5 nz (x8 nz) w9 bs ws false) t=R at *;have hng:=SL hR.bg om h.g.l.ws t;cases hc with
 | full hf=>exact⟨bs,ws,false,⟨⟨h.g.l.up,rfl,rfl,h.g.b,hR',hgn⟩,h.p,h.w,h.c⟩⟩
 | lost y hy ha ho hrm=>
  refine⟨bs,ws,true,⟨⟨Qa hR hl h.g.l.ws hy ho hrm hin (by have h5:=hbi;show bs.length+1<=N+1;exact Nat.succ_le_succ (Nat.le_trans (Nat.le_add_right _ _) h5)),rfl,rfl,h.g.b,hR',by show 3<=A.n;rw[hy];exact hgn⟩,h.p,h.w,λk torn cut=>?_⟩⟩;rcases Jv hR hl hng hy ho hrm k torn cut with h1|h1
  ·exact⟨[],(List.append_nil bs).symm ▸ h1,Nat.zero_le _,sm⟩
  exact⟨[J7 bs ws t],h1,Nat.le_refl _,λb hb=>by rw[List.mem_singleton.1 hb];exact h.w⟩
 | yes y hy ha hRo=>exact⟨_,[],false,⟨⟨TD hRo (by rw[List.length_append,List.length_singleton];exact Nat.succ_le_succ (Nat.le_trans (Nat.le_add_right _ _) hbi)) MG,rfl,rfl,by rw[List.length_append,List.length_singleton];omega,hR',by show 3<=A.n;rw[hy];exact hgn⟩,Ns hR.bg h.p h.w h.g.l.ws.l,sm,Cm hRo⟩⟩
theorem SpP.crash (h:SpP N nz z bs ws dd)(k:List Bool)(torn cut:Int):∃ l,Ro (Y3 z.x k torn cut) (bs++l)/\SpP (N+1) nz (mR (Y3 z.x k torn cut) nz (bs++l) z.rp) (bs++l) [] false:=by
 obtain⟨l,h1,h2,h3⟩:=h.c k torn cut;have hbi:=h.g.l.bi;have hb:=h.g.b;have hr:=h.g.r;refine⟨l,h1,SpG.live h1 (by rw[List.length_append];omega) om,?_,sm,Cm h1⟩;have hd:OY dd<=1:=by cases dd <;> decide
 match l,h1,h2,h3 with
 | [],_,_,_=>rw[List.append_nil];exact h.p
 | [b],h1,_,h3=>exact Ns h.g.l.g h.p (h3 b sm) (h1.bg.g b sm).1.l
 | _::_::_,_,h2,_=>simp at h2;omega
theorem Ux (hz:SpP N nz z bs ws dd)(ho:SpG M no o bo wo d2)(hnz:1<=nz.length/\nz.length<=32)(hno:no.length<=32)(hN:N<=180)(hM:M<=180)(hk6:p.k≠6) :
  ∃ b z' bs' ws' dd',SpP (N+1) nz z' bs' ws' dd'/\∀ (q qo:SpI) (gx ga gb:Nat) (id:Option Value),(p.s=0/\ga=q.g/\gb=qo.g\/p.s=1/\ga=qo.g/\gb=q.g) ->
   Av.Spec prog GL 11 [ptr gx,K9 p id] (C8 gx ga gb nz no q qo z o) λu m=>∃ q':SpI,q'.g=q.g/\u=d9 b/\m=C8 gx ga gb nz no q' qo z' o:=by
 have hC:=hz.g.sc hnz.2 hN;by_cases h3:p.k=3
 ·obtain⟨bs',ws',dd',hg⟩:=hz.cut (t:=M6 z.c+aT p.n 4) hN;refine⟨(O4 z (M6 z.c+aT p.n 4)).2,_,bs',ws',dd',hg,λq qo gx ga gb id hi=>rT (D6 nz q z) (D6 no qo o) hi (by rw[h3];rfl) lpr ((Te (qo:=qo) hC).mono ?_)⟩;rintro u m ⟨v,r,hu,rfl⟩;exact⟨{ q with v:=v,r:=r },rfl,hu,rfl⟩
 by_cases h8:p.k=8
 ·obtain⟨l,h1,hg⟩:=hz.crash p.keep p.torn p.cut;refine⟨true,_,bs++l,[],false,hg,λq qo gx ga gb id hi=>rT (D6 nz q z) (D6 no qo o) hi (by rw[h8];rfl) lpr ((Tf (qo:=qo) hC hnz h1).mono ?_)⟩;rintro u m ⟨q',hg,hu,rfl⟩;exact⟨q',hg,hu,rfl⟩
 obtain⟨r,z',b1,w1,d1,hpl,hg,hS⟩:=JN (p:=p) hz.g ho hnz hno hN hM;refine⟨r,z',b1,w1,d1,?_,hS⟩;cases hpl with
 | sub s h ws'=>exact⟨hg,hz.p,Ho hz.g hg hz.w (a2k (hz.g.cg hnz.2) (ho.cg hno) hk6 h),hz.c⟩
 | none h=>exact hz.up
 | cut h=>exact absurd h h3
 | arm h=>
  have hrs:=JE p.n (m:=64) dc;exact⟨hg,hz.p,hz.w,hz.c.arm (by have:=hz.g.n;omega) om⟩
 | crash h=>exact absurd h h8
end
structure PrP (N:Nat)(a b:SpX):Prop where
 a:∃ bs ws dd,SpP N [97] a bs ws dd
 b:∃ bs ws dd,SpP N [98] b bs ws dd
theorem SpP.pen {N:Nat}{nm:Bs}{z:SpX}{bs:List BlkX}{ws:List Bs}{dd:Bool}(h:SpP N nm z bs ws dd)(hn:nm.length<=32):(iW z.c:Int)=aW z.c.ev:=by
 rw[a4U (h.g.cg hn).k.2,show j3 z.c=Dm nm bs from by rw[h.g.c];rfl,show z.c.ev=yB nm bs from by rw[h.g.c];rfl];exact h.p.n
theorem a4X {N:Nat}{a b:SpX}{p:PlX}(h:PrP N a b)(hN:N<=180)(hp:p.s=0\/p.s=1)(hk:p.k≠6):∃ r a' b',PrP (N+1) a' b'/\∀ (q q':SpI) (gx:Nat) (id:Option Value),
  Av.Spec prog GL 11 [ptr gx,K9 p id] (C8 gx q.g q'.g [97] [98] q q' a b) λu m=>∃ t t':SpI,u=d9 r/\m=C8 gx t.g t'.g [97] [98] t t' a' b':=by
 obtain⟨bA,wA,dA,hA⟩:=h.a;obtain⟨bB,wB,dB,hB⟩:=h.b;rcases hp with hp|hp
 ·obtain⟨r,a',b1,w1,d1,hg,hS⟩:=Ux (p:=p) hA hB.g dc dc hN hN hk;refine⟨r,a',b,⟨⟨b1,w1,d1,hg⟩,⟨bB,wB,dB,hB.up⟩⟩,λq q' gx id=>(hS q q' gx q.g q'.g id (.inl ⟨hp,rfl,rfl⟩)).mono ?_⟩;rintro u m ⟨t,e,rfl,rfl⟩;exact⟨t,q',rfl,by rw[e]⟩
 obtain⟨r,b',b1,w1,d1,hg,hS⟩:=Ux (p:=p) hB hA.g dc dc hN hN hk;refine⟨r,a,b',⟨⟨bA,wA,dA,hA.up⟩,⟨b1,w1,d1,hg⟩⟩,λq q' gx id=>?_⟩;refine QL (hS q' q gx q.g q'.g id (.inr ⟨hp,rfl,rfl⟩)) (List.Perm.cons _ List.perm_append_comm) ?_;rintro u m ⟨t,e,rfl,rfl⟩;exact⟨C8 gx q.g t.g [97] [98] q t a b',by rw[e];exact List.Perm.cons _ List.perm_append_comm,q,t,rfl,rfl⟩
theorem SdS.spp {nm no:Bs}{z:SpX}{bs:List BlkX}{l:List Sta}{s:Sta}{m:Nat}(h:SdS nm no z bs l s (some (E9 (Q5 3))) (some (E9 (U6 3))) m)(hb:bs.length<=10):SpP 10 nm z bs [] false:=by
 have hN:gO (Dm nm bs) kN=none:=by rw[h.o _ dc dc dc,Wj]
 have h0:∀ k:Bs,k.head?=some 80->gO (Dm nm bs) k=none:=h.np;have hx:=Al hN;refine⟨h.L.spg ⟨h.b.1,hb⟩,⟨wN h.L.ro.bg,?_,by rw[hx];omega,λj _ _=>h0 _ rfl,λs j _ _=>h0 _ rfl⟩,sm,Cm h.L.ro⟩;rw[show yB nm bs=[] from h.ev];have e:(Dm nm bs).filter (λx=>preB pK x.key)=[]:=by
  rw[List.filter_eq_nil_iff];intro x hx hq;exact TW.1 (h0 _ (SB hq)) x hx rfl
 unfold vF;rw[e];rfl
theorem a4v {n:Int}(hn:400<=n/\n<=4096):∃ a0 b0 a1 b1 a2 b2 a3 b3 a4 b4 a5 b5,NewOk n a0 b0 a1 b1 a2 b2 a3 b3 a4 b4 a5 b5/\PrP 10 a5 b5:=by
 obtain⟨a0,b0,a1,b1,a2,b2,a3,b3,a4,b4,a5,b5,hN,bA,bB,lA,lB,sA,sB,A,B,hl,hs,hlA,hlB,nA,nB⟩:=JU (n:=n) hn;exact⟨a0,b0,a1,b1,a2,b2,a3,b3,a4,b4,a5,b5,hN,⟨_,_,_,A.spp om⟩,⟨_,_,_,B.spp om⟩⟩
end Go.Proofs.Z
