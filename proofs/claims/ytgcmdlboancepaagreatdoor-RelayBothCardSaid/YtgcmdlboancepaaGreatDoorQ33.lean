/- . -/
import Derived.Test.YtgcmdlboancepaaGreatDoorQ32
set_option maxHeartbeats 64000000
namespace Go.Proofs.Z
open Go Go.RowKit Tw Av Go.Proofs.Tryz
section
variable {h q t:Int}{d f g k s:Bs}{a:Wd}{xs:List AV}{e:List Ent}
section
variable {e:List Ent} {q:Int} {s k d:Bs} {a:Wd} {f g:Bs} {h t:Int} {g1 g2 g3:Nat} {z:Bs}
abbrev gE (g:Nat)(e:List Ent):Av.Piece:=.var g 64 (dA e)
abbrev gP (g:Nat)(q:Int)(s k d:Bs)(a:Wd)(f g':Bs)(h t:Int):Av.Piece:=.var g 49 (.agg 12 [int q,str s,str k,.agg 7 [str d,z8 a,str f,str g'],int h,int t])
theorem a0Q (hd:DOk e):Goes 306 [.pointer (some ⟨g1,0,none⟩)] [gP g2 q s k d a f g h t,gE g1 e] (fO d a f g) (rR e f d a):=by
 show Av.Spec _ _ _ [fO d a f g,ptr g1] _ _;refine ze func306 ntmps306 λ_ hs=>?_;repeat' first|refine Z ?_|intro
 refine l9 _ ⟨rfl,rfl⟩ ?_;exact u7
theorem a0P (hd:DOk e)(hs1:s.length<=1000000000):Goes 308 [.pointer (some ⟨g1,0,none⟩),.pointer (some ⟨g2,0,none⟩)] [gP g2 q s k d a f g h t,gE g1 e] (fO d a f g) (bC e f (rP s) d a):=by
 show Av.Spec _ _ _ [fO d a f g,ptr g1,ptr g2] _ _;refine ze func308 ntmps308 λ_ hs=>?_;repeat' first|refine Z ?_|intro
 refine l9 _ ⟨rfl,rfl⟩ ?_;exact u7
theorem a8z (hd:DOk e):Goes 379 [.pointer (some ⟨g1,0,none⟩)] [gP g2 q s k d a f g h t,gE g1 e] (fO d a f g) (aJ e f d a):=by
 show Av.Spec _ _ _ [fO d a f g,ptr g1] _ _;refine ze func379 ntmps379 λ_ hs=>?_;repeat' first|refine Z ?_|intro
 refine l9 _ ⟨rfl,rfl⟩ ?_;exact u7
theorem a8y (hd:DOk e)(hs1:s.length<=1000000000):Goes 380 [.pointer (some ⟨g1,0,none⟩),.pointer (some ⟨g2,0,none⟩)] [gP g2 q s k d a f g h t,gE g1 e] (fO d a f g) (bC e (rP s) f d a):=by
 show Av.Spec _ _ _ [fO d a f g,ptr g1,ptr g2] _ _;refine ze func380 ntmps380 λ_ hs=>?_;repeat' first|refine Z ?_|intro
 refine l9 _ ⟨rfl,rfl⟩ ?_;exact u7
theorem a1G (hd:DOk e)(hs1:k.length<=1000000000):Goes 315 [.pointer (some ⟨g1,0,none⟩),.pointer (some ⟨g2,0,none⟩),.pointer (some ⟨g3,0,none⟩)] [.var g3 9 (str z),gP g2 q s k d a f g h t,gE g1 e] (fO d a f g) (bC e (rP k) g z a):=by
 show Av.Spec _ _ _ [fO d a f g,ptr g1,ptr g2,ptr g3] _ _;refine ze func315 ntmps315 λ_ hs=>?_;repeat' first|refine Z ?_|intro
 refine l9 _ ⟨rfl,rfl⟩ ?_;exact u7
theorem a1F (hd:DOk e):Goes 316 [.pointer (some ⟨g1,0,none⟩),.pointer (some ⟨g3,0,none⟩)] [.var g3 9 (str z),gP g2 q s k d a f g h t,gE g1 e] (fO d a f g) (aJ e g z a):=by
 show Av.Spec _ _ _ [fO d a f g,ptr g1,ptr g3] _ _;refine ze func316 ntmps316 λ_ hs=>?_;repeat' first|refine Z ?_|intro
 refine l9 _ ⟨rfl,rfl⟩ ?_;exact u7
end
theorem Jv {c:Bool}{α:Type}{a b:α}:(if true=false\/c=false then a else b)=if c=false then a else b:=by cases c <;> rfl
theorem Vo (h1:d.length<=400000000)(h2:k.length<=400000000):(vX ⟨q,s,k,d,a,f,g,h,t⟩).length<=1000000000:=by
 unfold vX;split
 ·rw[List.length_drop];show d.length-_<=_;omega
 rw[lla,lla];show k.length+1+d.length<=_;omega
instance b6r [hx:Ents xs e]:Ans prog GL 212 [.agg 1 [.sl 2 xs none],.agg 12 [int q,str s,str k,.agg 7 [str d,z8 a,str f,str g],int h,int t]] (DOk e/\s.length<=1000000000/\d.length<=1000000000) (.tup [dA (eU e ⟨q,s,k,d,a,f,g,h,t⟩).1,int (eU e ⟨q,s,k,d,a,f,g,h,t⟩).2]):=⟨λhp=>by
 obtain⟨hd,hs1,hd1⟩:=hp;have h':=hx.out;subst h';refine ze func212 ntmps212 λ_ hs=>?_;repeat' first|refine Z ?_|intro
 rename_i g1 g2 g3;refine Y3 (vs:=[.pointer (some ⟨g1,0,none⟩)]) ?_;refine Y3 (vs:=[.pointer (some ⟨g1,0,none⟩),.pointer (some ⟨g2,0,none⟩)]) ?_;refine H6 (args:=[.agg 12 [int q,str s,str k,.agg 7 [str d,z8 a,str f,str g],int h,int t],E5 306 [.pointer (some ⟨g1,0,none⟩)],E5 308 [.pointer (some ⟨g1,0,none⟩),.pointer (some ⟨g2,0,none⟩)]]) [gP g2 q s k d a f g h t,gE g1 e] [.var g3 64 (.agg 1 [.lit (.slice none 0 0)])] (by rw[hs];exact TP (a0Q hd) (a0P hd hs1) (by simp[Value.oneCell']) (by simp[Value.oneCell']) ⟨hs1,hd1⟩ (R:=eU e ⟨q,s,k,d,a,f,g,h,t⟩) rfl) (λu m1 hh=>?_) (List.perm_append_comm (l₁:=[Av.Piece.var g3 64 (.agg 1 [.lit (.slice none 0 0)])]) (l₂:=[gP g2 q s k d a f g h t,gE g1 e]));obtain⟨rfl,rfl⟩:=hh;exact j4⟩
instance b6s [hx:Ents xs e]:Ans prog GL 319 [.agg 1 [.sl 2 xs none],.agg 12 [int q,str s,str k,.agg 7 [str d,z8 a,str f,str g],int h,int t]] (DOk e/\s.length<=1000000000/\d.length<=1000000000) (.tup [dA (jZ e ⟨q,s,k,d,a,f,g,h,t⟩).1,int (jZ e ⟨q,s,k,d,a,f,g,h,t⟩).2]):=⟨λhp=>by
 obtain⟨hd,hs1,hd1⟩:=hp;have h':=hx.out;subst h';refine ze func319 ntmps319 λ_ hs=>?_;repeat' first|refine Z ?_|intro
 rename_i g1 g2 g3;refine Y3 (vs:=[.pointer (some ⟨g1,0,none⟩)]) ?_;refine Y3 (vs:=[.pointer (some ⟨g1,0,none⟩),.pointer (some ⟨g2,0,none⟩)]) ?_;refine H6 (args:=[.agg 12 [int q,str s,str k,.agg 7 [str d,z8 a,str f,str g],int h,int t],E5 379 [.pointer (some ⟨g1,0,none⟩)],E5 380 [.pointer (some ⟨g1,0,none⟩),.pointer (some ⟨g2,0,none⟩)]]) [gP g2 q s k d a f g h t,gE g1 e] [.var g3 64 (.agg 1 [.lit (.slice none 0 0)])] (by rw[hs];exact TP (a8z hd) (a8y hd hs1) (by simp[Value.oneCell']) (by simp[Value.oneCell']) ⟨hs1,hd1⟩ (R:=jZ e ⟨q,s,k,d,a,f,g,h,t⟩) rfl) (λu m1 hh=>?_) (List.perm_append_comm (l₁:=[Av.Piece.var g3 64 (.agg 1 [.lit (.slice none 0 0)])]) (l₂:=[gP g2 q s k d a f g h t,gE g1 e]));obtain⟨rfl,rfl⟩:=hh;exact j4⟩
instance b6t [hx:Ents xs e]:Ans prog GL 219 [.agg 1 [.sl 2 xs none],.agg 12 [int q,str s,str k,.agg 7 [str d,z8 a,str f,str g],int h,int t]] (DOk e/\s.length<=400000000/\d.length<=400000000/\k.length<=400000000) (.tup [dA (aI e ⟨q,s,k,d,a,f,g,h,t⟩).1,int (aI e ⟨q,s,k,d,a,f,g,h,t⟩).2]):=⟨λhp=>by
 obtain⟨hd,hs1,hd1,hk1⟩:=hp;have h':=hx.out;subst h';have hal:(vX ⟨q,s,k,d,a,f,g,h,t⟩).length<=1000000000:=Vo hd1 hk1;refine ze func219 ntmps219 λ_ hs=>?_;repeat' first|refine Z ?_|intro
 generalize hz:vX ⟨q,s,k,d,a,f,g,h,t⟩=z at hal ⊢;repeat' first|refine Z ?_|intro
 rename_i g1 g2 g3 g4;have hR:aI e ⟨q,s,k,d,a,f,g,h,t⟩=if bD z=false\/X3 ⟨q,s,k,d,a,f,g,h,t⟩=false then ([],1) else if lK ⟨q,s,k,d,a,f,g,h,t⟩=true then bC e (rP k) g z a else aJ e g z a:=by
  unfold aI;rw[hz]
 rw[hR];cases hb:bD z
 ·rw[if_pos (.inl rfl)];repeat' first|refine Z ?_|intro
  refine F9 ?_;exact AQ _
 rw[Jv];repeat' first|refine Z ?_|intro
 refine Y3 (vs:=[.pointer (some ⟨g1,0,none⟩),.pointer (some ⟨g2,0,none⟩),.pointer (some ⟨g4,0,none⟩)]) ?_;refine Y3 (vs:=[.pointer (some ⟨g1,0,none⟩),.pointer (some ⟨g4,0,none⟩)]) ?_;refine H6 (args:=[.agg 12 [int q,str s,str k,.agg 7 [str d,z8 a,str f,str g],int h,int t],E5 315 [.pointer (some ⟨g1,0,none⟩),.pointer (some ⟨g2,0,none⟩),.pointer (some ⟨g4,0,none⟩)],E5 316 [.pointer (some ⟨g1,0,none⟩),.pointer (some ⟨g4,0,none⟩)]]) [.var g4 9 (str z),gP g2 q s k d a f g h t,gE g1 e] [.var g3 64 (.agg 1 [.lit (.slice none 0 0)])] (by rw[hs];exact TP (a1G hd om) (a1F hd) (by simp[Value.oneCell']) (by simp[Value.oneCell']) ⟨om,om⟩ rfl) (λu m1 hh=>?_) (List.Perm.cons _ (List.perm_append_comm (l₁:=[Av.Piece.var g3 64 (.agg 1 [.lit (.slice none 0 0)])]) (l₂:=[gP g2 q s k d a f g h t,gE g1 e])));obtain⟨rfl,rfl⟩:=hh;exact j4⟩
instance b8S {id:Option Value}[hx:Ents xs e]:Ans prog GL 440 [.sl 2 xs id,.agg 12 [int q,str s,str k,.agg 7 [str d,z8 a,str f,str g],int h,int t]] (DOk e/\s.length<=1000000000/\k.length<=1000000000/\d.length<=1000000000/\f.length<=1000000000/\g.length<=1000000000) (.tup [U4 (eU e ⟨q,s,k,d,a,f,g,h,t⟩).1,int (eU e ⟨q,s,k,d,a,f,g,h,t⟩).2]):=⟨λhp=>by
 obtain⟨hd,hs1,hk1,hd1,hf1,hg1⟩:=hp;show Av.Spec _ _ _ _ _ λv m'=>v=.tup [U4 (if X3 ⟨q,s,k,d,a,f,g,h,t⟩=false then ([],1) else if lK ⟨q,s,k,d,a,f,g,h,t⟩=true then rR e f d a else bC e f (rP s) d a).1,int (if X3 ⟨q,s,k,d,a,f,g,h,t⟩=false then ([],1) else if lK ⟨q,s,k,d,a,f,g,h,t⟩=true then rR e f d a else bC e f (rP s) d a).2]/\m'=[];refine ze func440 ntmps440 λ_ hs=>?_;repeat' first|refine Z ?_|intro
 unfold iL;cases hc:X3 ⟨q,s,k,d,a,f,g,h,t⟩
 ·rw[if_neg (show ¬ false=true by decide),if_pos rfl,dT (show (1:Int)≠0 by decide)];repeat' first|refine Z ?_|intro
  refine F9 ?_;exact fM _
 rw[if_pos rfl,if_neg (show ¬ true=false by decide),dZ (show ¬ (0:Int)≠0 by decide)];repeat' first|refine Z ?_|intro
 cases hh:lK ⟨q,s,k,d,a,f,g,h,t⟩
 ·rw[if_neg (show ¬ false=true by decide)];exact j4
 rw[if_pos rfl];exact j4⟩
instance b8T {id:Option Value}[hx:Ents xs e]:Ans prog GL 447 [.sl 2 xs id,.agg 12 [int q,str s,str k,.agg 7 [str d,z8 a,str f,str g],int h,int t]] (DOk e/\s.length<=1000000000/\k.length<=1000000000/\d.length<=1000000000/\f.length<=1000000000/\g.length<=1000000000) (.tup [U4 (jZ e ⟨q,s,k,d,a,f,g,h,t⟩).1,int (jZ e ⟨q,s,k,d,a,f,g,h,t⟩).2]):=⟨λhp=>by
 obtain⟨hd,hs1,hk1,hd1,hf1,hg1⟩:=hp;show Av.Spec _ _ _ _ _ λv m'=>v=.tup [U4 (if X3 ⟨q,s,k,d,a,f,g,h,t⟩=false then ([],1) else if lK ⟨q,s,k,d,a,f,g,h,t⟩=true then aJ e f d a else bC e (rP s) f d a).1,int (if X3 ⟨q,s,k,d,a,f,g,h,t⟩=false then ([],1) else if lK ⟨q,s,k,d,a,f,g,h,t⟩=true then aJ e f d a else bC e (rP s) f d a).2]/\m'=[];refine ze func447 ntmps447 λ_ hs=>?_;repeat' first|refine Z ?_|intro
 unfold iL;cases hc:X3 ⟨q,s,k,d,a,f,g,h,t⟩
 ·rw[if_neg (show ¬ false=true by decide),if_pos rfl,dT (show (1:Int)≠0 by decide)];repeat' first|refine Z ?_|intro
  refine F9 ?_;exact fM _
 rw[if_pos rfl,if_neg (show ¬ true=false by decide),dZ (show ¬ (0:Int)≠0 by decide)];repeat' first|refine Z ?_|intro
 cases hh:lK ⟨q,s,k,d,a,f,g,h,t⟩
 ·rw[if_neg (show ¬ false=true by decide)];exact j4
 rw[if_pos rfl];exact j4⟩
instance b8U {id:Option Value}[hx:Ents xs e]:Ans prog GL 442 [.sl 2 xs id,.agg 12 [int q,str s,str k,.agg 7 [str d,z8 a,str f,str g],int h,int t]] (DOk e/\s.length<=400000000/\k.length<=400000000/\d.length<=400000000/\f.length<=400000000/\g.length<=400000000) (.tup [U4 (aI e ⟨q,s,k,d,a,f,g,h,t⟩).1,int (aI e ⟨q,s,k,d,a,f,g,h,t⟩).2]):=⟨λhp=>by
 obtain⟨hd,hs1,hk1,hd1,hf1,hg1⟩:=hp;have hal:(vX ⟨q,s,k,d,a,f,g,h,t⟩).length<=1000000000:=Vo hd1 hk1;refine ze func442 ntmps442 λ_ hs=>?_;repeat' first|refine Z ?_|intro
 generalize hz:vX ⟨q,s,k,d,a,f,g,h,t⟩=z at hal ⊢;have hR:aI e ⟨q,s,k,d,a,f,g,h,t⟩=if bD z=false\/X3 ⟨q,s,k,d,a,f,g,h,t⟩=false then ([],1) else if lK ⟨q,s,k,d,a,f,g,h,t⟩=true then bC e (rP k) g z a else aJ e g z a:=by
  unfold aI;rw[hz]
 rw[hR];repeat' first|refine Z ?_|intro
 unfold iL;cases hc:X3 ⟨q,s,k,d,a,f,g,h,t⟩
 ·rw[if_neg (show ¬ false=true by decide),if_pos (.inr rfl),dT (show (1:Int)≠0 by decide)];repeat' first|refine Z ?_|intro
  refine F9 ?_;exact fM _
 rw[if_pos rfl,dZ (show ¬ (0:Int)≠0 by decide)];cases hb:bD z
 ·rw[if_pos (.inl rfl)];repeat' first|refine Z ?_|intro
  refine F9 ?_;exact fM _
 rw[Jv,if_neg (show ¬ true=false by decide)];repeat' first|refine Z ?_|intro
 cases hh:lK ⟨q,s,k,d,a,f,g,h,t⟩
 ·rw[if_neg (show ¬ false=true by decide)];exact j4
 rw[if_pos rfl];exact j4⟩
end

section
variable {i k s:Bs}{d:List Ent}{xs:List AV}
theorem Ik:iQ []=10:=by rfl
theorem Ho:tV []=10:=by rfl
theorem a3Z:vM []=10:=by rfl
theorem TG (h:(gO d k).isSome=false):N8 d k=[]:=by
 unfold N8;cases hg:gO d k with
 | none=>rfl
 | some v=>rw[hg] at h;cases h
theorem VI (h:iQ s≠0):oK s=pY:=by
 unfold iQ at h;unfold oK;split at h
 ·exact(h rfl).elim
 rename_i hn;rw[if_neg hn]
theorem Hl (h:tV s≠0):nJ s=yR:=by
 unfold tV at h;unfold nJ;split at h
 ·exact(h rfl).elim
 rename_i hn;rw[if_neg hn]
theorem a1Q (h:iQ s=0):aK (oK s)=true:=by
 unfold iQ at h;unfold oK;split at h
 ·rename_i hn;rw[if_pos hn];unfold BV at hn;rw[bet,bet] at hn;exact hn.2.2
 cases h
theorem Ij (s:Bs):aK (oK s)=true\/oK s=pY:=by
 by_cases h:iQ s=0
 ·exact .inl (a1Q h)
 exact .inr (VI h)
theorem Lx {l:List Sta}(h:l≠[]):dK l∈l:=by
 rcases List.eq_nil_or_concat l with rfl|⟨l',a,rfl⟩
 ·exact(h rfl).elim
 unfold dK;simp
structure CliF (x:Cli):Prop where
 ok:CliOk x
 w:CliW x
 r:Rise x.l
 n:x.l.length<=32
theorem ML:CliF pY:=⟨⟨dc,dc,dc,dc⟩,⟨dc,dc,λs h=>by cases h⟩,List.Pairwise.nil,dc⟩
theorem WU {x:Cli}(h:aK x=true):CliF x:=by
 obtain⟨⟨h1,h2,h3,h4,h5⟩,h6⟩:=LZ.1 h;have hc:=PO h;have hb:∀ s∈x.l,1<=s.h/\s.h<=1099511627776/\0<=s.t/\s.t<=1099511627776:=λs hs=>by
  obtain⟨_,_,c3,c4,c5,c6⟩:=LH.1 (hc s hs);exact⟨c3,c4,c5,c6⟩
 have hne:x.l≠[]:=λe=>by rw[e] at h4;simp at h4
 have hl:=hb _ (Lx hne);have step:∀ i (hi:i+1<x.l.length),x.l[i].h<x.l[i+1].h/\x.l[i].t<=x.l[i+1].t:=λi hi=>by
  have:=h6 (i+1) hi;unfold rJ at this;rw[bet,Bool.or_eq_true] at this;rcases this.2 with h|h
  ·simp at h
  rw[show x.l.getD (i+1-1) R8=x.l[i] by simp[List.getD,show i<x.l.length by omega],show x.l.getD (i+1) R8=x.l[i+1] by simp[List.getD,hi]] at h;unfold fA at h;simpa using h
 have far:∀ d i (hi:i+1+d<x.l.length),x.l[i].h<x.l[i+1+d].h/\x.l[i].t<=x.l[i+1+d].t:=by
  intro d
  induction d with
  | zero=>exact λi hi=>step i hi
  | succ d ih=>
   intro i hi;have a:=ih i om;have b:=step (i+1+d) om;exact⟨Int.lt_trans a.1 b.1,Int.le_trans a.2 b.2⟩
 refine⟨⟨om,om,om,om⟩,⟨om,om,λs hs=>by
  have:=hb s hs;omega⟩,?_,h5⟩
 unfold Rise;rw[List.pairwise_iff_getElem];intro i j hi hj hij;have:=far (j-i-1) i om;simpa[show i+1+(j-i-1)=j by omega] using this
theorem LG (d:List Ent)(i:Bs):CliF (U9 d i):=by
 unfold U9;rcases Ij (N8 d (I9 [67] i)) with h|h
 ·exact WU h
 rw[h];exact ML
theorem Nr {b:Bool}:Imp (D8 [.agg 5 [.lit (.string ⟨#[]⟩),.lit (.string ⟨#[]⟩),.lit (.int .i64 0),.lit (.bool false),.lit (.slice none 0 0)],d9 b]) (.tup [nT pY,d9 b]):=(inferInstance:ImpR (.tup [.agg 5 [.lit (.string ⟨#[]⟩),.lit (.string ⟨#[]⟩),.lit (.int .i64 0),.lit (.bool false),.lit (.slice none 0 0)],d9 b]) (.tup [.agg 5 [str [],str [],int 0,d9 false,.sl 34 [] none],d9 b])).imp
instance c1b {id:Option Value}[hx:Ents xs d]:Ans prog GL 38 [.agg 1 [.sl 2 xs id],str i] (DOk d) (.tup [nT (U9 d i),d9 (Q4 d i)]):=⟨λhd=>by
 have hv:=hd.val (I9 [67] i);refine ze func38 ntmps38 λ_ hs=>?_;exact j4⟩
instance b8Q {id:Option Value}[hx:Ents xs d]:Ans prog GL 74 [.sl 2 xs id,str i] (DOk d) (.tup [nT (U9 d i),d9 (Q4 d i)]):=⟨λhd=>by
 have hv:=hd.val (I9 [67] i);unfold U9 Q4;refine ze func74 ntmps74 λ_ hs=>?_;repeat' first|refine Z ?_|intro
 cases hg:(gO d (I9 [67] i)).isSome
 ·have hn:=TG hg;rw[hn,Ik,VI (by rw[Ik];decide)];repeat' first|refine Z ?_|intro
  refine F9 ?_;exact Nr
 by_cases he:iQ (N8 d (I9 [67] i))=0
 ·rw[dT he];repeat' first|refine Z ?_|intro
  rw[dZ (nni he)];exact j4
 rw[dZ he,VI he];repeat' first|refine Z ?_|intro
 rw[dT he];repeat' first|refine Z ?_|intro
 refine F9 ?_;exact Nr⟩
instance c0Y {id:Option Value}[hx:Ents xs d]:Ans prog GL 296 [.agg 1 [.sl 2 xs id],str k] (DOk d) (.tup [pF (nJ (N8 d k)),d9 (decide (tV (N8 d k)=0))]):=⟨λhd=>by
 have hv:=hd.val k;refine ze func296 ntmps296 λ_ hs=>?_;exact j4⟩
instance c0Z {id:Option Value}[hx:Ents xs d]:Ans prog GL 202 [.agg 1 [.sl 2 xs id],str i] (DOk d) (.tup [pF (C9 d [75] i),d9 (M0 d [75] i)]):=⟨λhd=>by
 refine ze func202 ntmps202 λ_ hs=>?_;exact j4⟩
instance c1c {id:Option Value}[hx:Ents xs d]:Ans prog GL 206 [.agg 1 [.sl 2 xs id],str i] (DOk d) (.tup [pF (C9 d [72] i),d9 (M0 d [72] i)]):=⟨λhd=>by
 refine ze func206 ntmps206 λ_ hs=>?_;exact j4⟩
instance b8N {id:Option Value}[hx:Ents xs d]:Ans prog GL 262 [.sl 2 xs id,str k,str i] (DOk d/\k.length<=1000000000) (.tup [pF (C9 d k i),d9 (M0 d k i)]):=⟨λhp=>by
 obtain⟨hd,hk⟩:=hp;have hv:=hd.val (I9 k i);unfold C9 M0;refine ze func262 ntmps262 λ_ hs=>?_;repeat' first|refine Z ?_|intro
 cases hg:(gO d (I9 k i)).isSome
 ·have hn:=TG hg;rw[hn,Ho,Hl (by rw[Ho];decide)];exact j4
 by_cases he:tV (N8 d (I9 k i))=0
 ·rw[dT he];repeat' first|refine Z ?_|intro
  rw[dZ (nni he)];exact j4
 rw[dZ he,Hl he];repeat' first|refine Z ?_|intro
 rw[dT he];exact j4⟩
instance c0W {id:Option Value}[hx:Ents xs d]:Ans prog GL 210 [.agg 1 [.sl 2 xs id],str i] (DOk d) (int (V8 d i)):=⟨λhd=>by
 have hv:=hd.val (I9 [78] i);unfold V8;refine ze func210 ntmps210 λ_ hs=>?_;repeat' first|refine Z ?_|intro
 by_cases he:vM (N8 d (I9 [78] i))=0
 ·rw[if_pos he,dZ (nni he)];exact j4
 rw[if_neg he,dT he];exact j4⟩
instance b8I {id:Option Value}[hx:Ents xs d]:Ans prog GL 438 [.sl 2 xs id,str i] (DOk d) (int (V8 d i)):=⟨λhd=>by
 have hv:=hd.val (I9 [78] i);unfold V8;refine ze func438 ntmps438 λ_ hs=>?_;repeat' first|refine Z ?_|intro
 cases hg:(gO d (I9 [78] i)).isSome
 ·have hn:=TG hg;rw[hn,if_neg (by rw[a3Z];decide)];exact j4
 by_cases he:vM (N8 d (I9 [78] i))=0
 ·rw[if_pos he];repeat' first|refine Z ?_|intro
  rw[dZ (nni he)];exact j4
 rw[if_neg he];repeat' first|refine Z ?_|intro
 rw[dT he];exact j4⟩
end

section
variable {xs:List AV}{h t:Int}{i k v:Bs}{d:List Ent}{p:List Hsh}
attribute [local irreducible] Q4 M0
instance c0U {hh:Int}{id:Option Value}[hx:Ents xs d]:Ans prog GL 321 [.agg 3 [.agg 1 [.sl 2 xs id],int hh,int t],str i,int h] (DOk d) (.tup [G8 (kQ d i h t),int (gY d i h t)]):=⟨λhd=>by
 obtain⟨⟨_,_,c1,c2⟩,_⟩:=LG d i;refine ze func321 ntmps321 λ_ hs=>?_;repeat' first|refine Z ?_|intro
 unfold kQ gY;generalize hC:U9 d i=C at *;obtain⟨c,k,p,f,l⟩:=C;dsimp only at c1 c2;cases h1:Q4 d i
 ·exact j4
 rw[if_neg (show ¬ true=false by decide)];repeat' first|refine Z ?_|intro
 cases h2:nZ ⟨c,k,p,f,l⟩ t
 ·exact j4
 rw[if_neg (show ¬ true=false by decide)];repeat' first|refine Z ?_|intro
 cases h3:(vQ l h).isSome
 ·exact j4
 rw[if_neg (show ¬ true=false by decide),if_pos rfl];exact j4⟩
instance b8B {id:Option Value}[hx:Ents xs d]:Ans prog GL 464 [.sl 2 xs id,str i,int h,int t] (DOk d) (.tup [G8 (kQ d i h t),int (gY d i h t)]):=⟨λhd=>by
 obtain⟨⟨_,_,c1,c2⟩,_,hr,_⟩:=LG d i;refine ze func464 ntmps464 λ_ hs=>?_;repeat' first|refine Z ?_|intro
 unfold kQ gY;generalize hC:U9 d i=C at *;obtain⟨c,k,p,f,l⟩:=C;dsimp only at c1 c2 hr;cases h1:Q4 d i
 ·exact j4
 rw[if_neg (show ¬ true=false by decide)];repeat' first|refine Z ?_|intro
 cases h2:nZ ⟨c,k,p,f,l⟩ t
 ·exact j4
 rw[if_neg (show ¬ true=false by decide)];repeat' first|refine Z ?_|intro
 rw[YF h hr];cases h3:(vQ l h).isSome
 ·exact j4
 rw[if_neg (show ¬ true=false by decide),if_pos rfl];exact j4⟩
theorem Jg {p:Prf}(h0:gY d i h t=0):bK d i h t k v p=if mU (kQ d i h t).r ⟨k,v⟩ p=false then 18 else 0:=by
 unfold bK;rw[h0];cases mU (kQ d i h t).r ⟨k,v⟩ p <;> rfl
theorem Jh {p:Prf}(h0:gY d i h t≠0):bK d i h t k v p=gY d i h t:=by
 unfold bK;rw[if_neg (λe=>h0 e.1)]
theorem Od {g:Gp}(h0:gY d i h t=0):lL d i h t k g=if xV (kQ d i h t).r k g=false then 18 else 0:=by
 unfold lL;rw[h0];cases xV (kQ d i h t).r k g <;> rfl
theorem QD {g:Gp}(h0:gY d i h t≠0):lL d i h t k g=gY d i h t/\mV d i h t k g=R8:=by
 have:lL d i h t k g=gY d i h t:=by
  unfold lL;rw[if_neg (λe=>h0 e.1)]
 exact⟨this,by unfold mV;rw[this,if_neg h0]⟩
theorem a0n (h0:gY d i h t≠0):kQ d i h t=R8:=by
 unfold kQ;rw[if_neg h0]
instance c0V {a m:Int}{ps:List AV}{id id2:Option Value}[hx:Ents xs d][hp:Hshs ps p]:Ans prog GL 313 [.agg 1 [.sl 2 xs id],str i,int h,int t,str k,str v,.agg 3 [int a,int m,.sl 32 ps id2]] (DOk d/\m<=9223372036854775807) (int (bK d i h t k v ⟨a,m,p⟩)):=⟨λhq=>by
 obtain⟨hd,hm⟩:=hq;refine ze func313 ntmps313 λ_ hs=>?_;repeat' first|refine Z ?_|intro
 by_cases h0:gY d i h t=0
 ·rw[dT h0,Jg h0];repeat' first|refine Z ?_|intro
  cases h1:mU (kQ d i h t).r ⟨k,v⟩ ⟨a,m,p⟩
  ·exact j4
  repeat' first|refine Z ?_|intro
  refine j6 ?_;rw[h0];rfl
 rw[dZ h0,Jh h0];exact j4⟩
instance b8H {a m:Int}{ps:List AV}{id id2:Option Value}[hx:Ents xs d][hp:Hshs ps p]:Ans prog GL 434 [.sl 2 xs id,str i,int h,int t,str k,str v,.agg 3 [int a,int m,.sl 32 ps id2]] (DOk d/\m<=9223372036854775807) (int (bK d i h t k v ⟨a,m,p⟩)):=⟨λhq=>by
 obtain⟨hd,hm⟩:=hq;refine ze func434 ntmps434 λ_ hs=>?_;repeat' first|refine Z ?_|intro
 by_cases h0:gY d i h t=0
 ·rw[dZ (nni h0),Jg h0];repeat' first|refine Z ?_|intro
  cases h1:mU (kQ d i h t).r ⟨k,v⟩ ⟨a,m,p⟩
  ·exact j4
  exact j4
 rw[dT h0,Jh h0];exact j4⟩
instance c0X {n i1 m1 i2 m2:Int}{l r:List Ent}{q:List Hsh}{xl xr x1 x2:List AV}{id:Option Value}[hx:Ents xs d][hl:Ents xl l][hr:Ents xr r][hp:Hshs x1 p][hq:Hshs x2 q]:Ans prog GL 226 [.agg 1 [.sl 2 xs id],str i,int h,int t,str k,.agg 9 [int n,.sl 2 xl none,.sl 2 xr none,.agg 3 [int i1,int m1,.sl 32 x1 none],.agg 3 [int i2,int m2,.sl 32 x2 none]]] (DOk d/\m1<=9223372036854775807/\m2<=9223372036854775807) (.tup [G8 (mV d i h t k ⟨n,l,r,⟨i1,m1,p⟩,⟨i2,m2,q⟩⟩),int (lL d i h t k ⟨n,l,r,⟨i1,m1,p⟩,⟨i2,m2,q⟩⟩)]):=⟨λhqq=>by
 obtain⟨hd,hm1,hm2⟩:=hqq;refine ze func226 ntmps226 λ_ hs=>?_;repeat' first|refine Z ?_|intro
 by_cases h0:gY d i h t=0
 ·unfold mV;rw[dT h0,Od h0];repeat' first|refine Z ?_|intro
  cases h1:xV (kQ d i h t).r k ⟨n,l,r,⟨i1,m1,p⟩,⟨i2,m2,q⟩⟩
  ·exact j4
  repeat' first|refine Z ?_|intro
  refine j6 ?_;rw[h0];rfl
 rw[dZ h0,(QD h0).1,(QD h0).2];repeat' first|refine Z ?_|intro
 refine j6 ?_;rw[a0n h0];rfl⟩
instance b8K {n i1 m1 i2 m2:Int}{l r:List Ent}{q:List Hsh}{xl xr x1 x2:List AV}{id:Option Value}[hx:Ents xs d][hl:Ents xl l][hr:Ents xr r][hp:Hshs x1 p][hq:Hshs x2 q]:Ans prog GL 446 [.sl 2 xs id,str i,int h,int t,str k,.agg 9 [int n,.sl 2 xl none,.sl 2 xr none,.agg 3 [int i1,int m1,.sl 32 x1 none],.agg 3 [int i2,int m2,.sl 32 x2 none]]] (DOk d/\m1<=9223372036854775807/\m2<=9223372036854775807) (.tup [G8 (mV d i h t k ⟨n,l,r,⟨i1,m1,p⟩,⟨i2,m2,q⟩⟩),int (lL d i h t k ⟨n,l,r,⟨i1,m1,p⟩,⟨i2,m2,q⟩⟩)]):=⟨λhqq=>by
 obtain⟨hd,hm1,hm2⟩:=hqq;refine ze func446 ntmps446 λ_ hs=>?_;repeat' first|refine Z ?_|intro
 by_cases h0:gY d i h t=0
 ·unfold mV;rw[dZ (nni h0),Od h0];repeat' first|refine Z ?_|intro
  cases h1:xV (kQ d i h t).r k ⟨n,l,r,⟨i1,m1,p⟩,⟨i2,m2,q⟩⟩
  ·exact j4
  exact j4
 rw[dT h0,(QD h0).1,(QD h0).2];exact j4⟩
end

section
variable {xs:List AV}{h t:Int}{d:List Ent}
attribute [local irreducible] Q4 M0
structure TxB (x:TxX):Prop where
 i:x.i.length<=400000000
 o:x.o.length<=400000000
 p:x.p.length<=400000000
 q:x.q.length<=400000000
 y:x.y.length<=400000000
 a:x.a.length<=400000000
 s:x.x.s.length<=400000000
 k:x.x.k.length<=400000000
 d:x.x.d.length<=400000000
 f:x.x.f.length<=400000000
 g:x.x.g.length<=400000000
 hh:x.h.h<=9223372036854775807
 ht:x.h.t<=9223372036854775807
 fm:x.f.m<=9223372036854775807
 gm:x.g.a.m<=9223372036854775807/\x.g.b.m<=9223372036854775807
instance b9X {e:Int}[hx:Ents xs d]:Ans prog GL 46 [.agg 3 [.agg 1 [.sl 2 xs none],int h,int t],int e] True (.tup [dA (O6 d e).1,P5 (O6 d e).2]):=⟨λ_=>by
 have h':=hx.out;subst h';refine ze func46 ntmps46 λ_ hs=>?_;exact j4⟩
instance b9P {r:List Ent}{e a b:Int}{c:Bs}{ys:List AV}[hx:Ents xs d][hy:Ents ys r]:Ans prog GL 195 [.agg 3 [.agg 1 [.sl 2 xs none],int h,int t],.agg 1 [.sl 2 ys none],int e,.agg 3 [int a,int b,str c]] True (.tup [dA (iO d (r,e) ⟨a,b,c⟩).1,P5 (iO d (r,e) ⟨a,b,c⟩).2]):=⟨λ_=>by
 have h':=hx.out;subst h';have h':=hy.out;subst h';unfold iO;refine ze func195 ntmps195 λ_ hs=>?_;repeat' first|refine Z ?_|intro
 by_cases he:e=0
 ·rw[if_pos he,dZ (nni he)];exact j4
 rw[if_neg he,dT he];exact j4⟩
instance b9U {k v:Bs}[hx:Ents xs d]:Ans prog GL 199 [.agg 3 [.agg 1 [.sl 2 xs none],int h,int t],str k,str v] (DOk d) (.tup [dA (rC d k v).1,P5 (rC d k v).2]):=⟨λhd=>by
 have h':=hx.out;subst h';refine ze func199 ntmps199 λ_ hs=>?_;exact j4⟩
instance b9Y {x:TxX}[hx:Ents xs d]:Ans prog GL 100 [.agg 3 [.agg 1 [.sl 2 xs none],int h,int t],x9 x] (DOk d/\TxB x) (.tup [dA (pI d x).1,P5 (pI d x).2]):=⟨λhp=>by
 obtain⟨hd,hb⟩:=hp;have b1:=hb.i;have h':=hx.out;subst h';have hw:CliW (uD x.y x.e x.h):=by
  unfold uD;split
  ·rename_i h;exact(WU h).w
  exact ML.w
 refine ze func100 ntmps100 λ_ hs=>?_;repeat' first|refine Z ?_|intro
 unfold pI;cases h1:J6 x.i
 ·rw[if_pos rfl];exact j4
 rw[if_neg (show ¬ true=false by decide)];repeat' first|refine Z ?_|intro
 cases h2:Q4 d x.i;rotate_left
 ·rw[if_pos rfl];exact j4
 rw[if_neg (show ¬ false=true by decide)];repeat' first|refine Z ?_|intro
 by_cases h3:uE x.y x.e x.h=0
 rotate_left
 ·rw[if_pos h3,dT h3];exact j4
 rw[if_neg (nni h3),dZ (nni h3)];exact j4⟩
theorem Cm {x:Cli}{h:Hdr}{m:Hsh}(hx:CliF x)(h1:h.h<=9223372036854775807)(h2:h.t<=9223372036854775807):CliW (kN x h m t):=by
 unfold kN;split
 ·unfold nK;split
  ·exact hx.w
  split
  ·exact⟨hx.w.n,hx.w.p,hx.w.s⟩
  have hn:=hx.n;refine⟨?_,hx.w.p,λs hs=>?_⟩
  ·show (CJ x.l (jE h)).length<=_;unfold CJ;simp;omega
  have hs:s∈CJ x.l (jE h):=hs;unfold CJ at hs;rcases List.mem_append.1 (List.mem_of_mem_drop hs) with hs|hs
  ·exact hx.w.s s (List.mem_of_mem_take hs)
  rcases List.mem_cons.1 hs with rfl|hs
  ·exact⟨by show h.h<=_;omega,by show h.t<=_;omega⟩
  exact hx.w.s s (List.mem_of_mem_drop hs)
 exact ML.w
instance b9O {x:TxX}[hx:Ents xs d]:Ans prog GL 101 [.agg 3 [.agg 1 [.sl 2 xs none],int h,int t],x9 x] (DOk d/\TxB x) (.tup [dA (qG d x t).1,P5 (qG d x t).2]):=⟨λhp=>by
 obtain⟨hd,hb⟩:=hp;have b1:=hb.i;have b2:=hb.hh;have b3:=hb.ht;have h':=hx.out;subst h';have hC:CliOk (U9 d x.i)/\x.h.h<=9223372036854775807/\x.h.t<=9223372036854775807:=⟨(LG d x.i).ok,om,om⟩;refine ze func101 ntmps101 λ_ hs=>?_;repeat' first|refine Z ?_|intro
 unfold qG;cases h1:Q4 d x.i
 ·rw[if_pos rfl];exact j4
 rw[if_neg (show ¬ true=false by decide)];repeat' first|refine Z ?_|intro
 by_cases h3:gV (U9 d x.i) x.h x.m t=0
 rotate_left
 ·rw[if_pos h3,dT h3];exact j4
 rw[if_neg (nni h3),dZ (nni h3)];have hw:CliW (kN (U9 d x.i) x.h x.m t):=Cm (LG d x.i) b2 b3;exact j4⟩
end
end Go.Proofs.Z

namespace Go.Proofs.Z
open Go Go.RowKit Tw Av
section
variable {σ:RS}{c m:Int}
theorem Ol (h:0<=m):((gT c m σ).length:Int)<=m:=(xJ c m σ.1.1 σ.1.2).2 h
theorem Gj {s:Bs}{b:Bool}(h:0<=m):L9 c m s b<=m:=by
 unfold L9;split <;> omega
theorem Fw (s:Bs):(jH s).m<=2000:=by
 unfold jH;split
 ·exact Gj dc
 decide
theorem Ep (s:Bs)(b:Bool):(oH s b).m<=2000:=by
 unfold oH;split
 ·exact Fw _
 decide
theorem Gr (s:Bs):(nI s).a.m<=2000/\(nI s).b.m<=2000:=by
 unfold nI;split
 ·exact⟨Ep _ _,Ep _ _⟩
 decide
theorem Ze (σ:RS):TxB (EH σ):=by
 have ht:∀ (c:Int) (τ:RS),(gT c 4000 τ).length<=400000000:=λc τ=>by
  have:=Ol (c:=c) (m:=4000) (σ:=τ) dc;omega
 have hi:∀ (c:Int) (τ:RS),gI c 1099511627776 τ<=9223372036854775807:=λc τ=>Int.le_trans (XT dc).2 dc;exact⟨ht _ _,ht _ _,ht _ _,ht _ _,ht _ _,ht _ _,ht _ _,ht _ _,ht _ _,ht _ _,ht _ _,hi _ _,hi _ _,Int.le_trans (Fw _) dc,Int.le_trans (Gr _).1 dc,Int.le_trans (Gr _).2 dc⟩
theorem Fu (σ:RS):TxB (K6 σ):=by
 unfold K6;split
 ·exact Ze σ
 exact⟨dc,dc,dc,dc,dc,dc,dc,dc,dc,dc,dc,dc,dc,dc,dc⟩
theorem kU {t r:Bs}(hσ:σ.1=(r9 c t++r,false))(h0:0<=c)(h1:c<256){n:Nat}(h2:t.length<=n)(h3:(n:Int)<=m/\n<=16777215):gT c m σ=t/\(sT c m σ).1=(r,false):=by
 obtain⟨a,b,e⟩:=vF (c:=c) (most:=m) (s:=t) (r:=r) h0 h1 om om;unfold gT sT;dsimp only;rw[hσ];dsimp only;rw[a,b,e];exact⟨rfl,rfl⟩
theorem zC {n:Int}{r:Bs}(hσ:σ.1=(D7 c n++r,false))(h0:0<=c)(h1:c<256)(h2:0<=n)(h3:n<=m)(h4:m<=9223372036854775807):gI c m σ=n/\(sI c m σ).1=(r,false):=by
 obtain⟨a,b,e⟩:=tX (c:=c) (most:=m) (n:=n) (r:=r) h0 h1 h2 h3 h4;unfold gI sI;dsimp only;rw[hσ];dsimp only;rw[a,b,e];exact⟨rfl,rfl⟩
structure TxG (x:TxX):Prop where
 k:0<=x.k/\x.k<=16
 i:x.i.length<=4000
 o:x.o.length<=4000
 p:x.p.length<=4000
 q:x.q.length<=4000
 y:x.y.length<=4000
 e:0<=x.e/\x.e<=1099511627776
 c:x.h.c.length<=4000
 hh:0<=x.h.h/\x.h.h<=1099511627776
 ht:0<=x.h.t/\x.h.t<=1099511627776
 xq:0<=x.x.q/\x.x.q<=1099511627776
 xh:0<=x.x.h/\x.x.h<=1099511627776
 xt:0<=x.x.t/\x.x.t<=1099511627776
 t:0<=x.t/\x.t<=1099511627776
 xs:x.x.s.length<=4000
 xk:x.x.k.length<=4000
 xd:x.x.d.length<=4000
 xf:x.x.f.length<=4000
 xg:x.x.g.length<=4000
 a:x.a.length<=4000
 f:PG x.f
 g:GG x.g
 gl:(mW x.g).length<=4000
theorem Fq {x:TxX}(h:TxG x)(hl:(F8 x).length<=1000000000):K6 (I6 (F8 x))=x/\aG (I6 (F8 x))=0:=by
 have hB:F8 x=D7 75 x.k++(r9 73 x.i++(r9 79 x.o++(r9 81 x.p++(r9 82 x.q++(r9 89 x.y++(D7 69 x.e++(r9 99 x.h.c++(D7 104 x.h.h++(D7 116 x.h.t++(r9 114 x.h.r.l++(r9 77 x.m.l++(D7 113 x.x.q++(r9 115 x.x.s++(r9 107 x.x.k++(r9 100 x.x.d++(r9 97 (bT x.x.a.n)++(r9 102 x.x.f++(r9 103 x.x.g++(D7 117 x.x.h++(D7 118 x.x.t++(r9 65 x.a++(D7 84 x.t++(r9 70 (aR x.f)++(r9 71 (mW x.g)++[])))))))))))))))))))))))):=by
  unfold F8;simp only[List.append_assoc,List.append_nil]
 have e0:(I6 (F8 x)).1=(F8 x,false):=by
  unfold I6;rw[dif_pos hl]
 generalize I6 (F8 x)=σ at *;rw[hB] at e0;clear hB hl;obtain⟨g1,s1⟩:=zC (c:=75) (m:=16) e0 dc dc h.k.1 h.k.2 dc;change (qB σ).1=_ at s1
 obtain⟨g2,s2⟩:=kU (c:=73) (m:=4000) s1 dc dc h.i dc;change (nC σ).1=_ at s2
 obtain⟨g3,s3⟩:=kU (c:=79) (m:=4000) s2 dc dc h.o dc;change (sG σ).1=_ at s3
 obtain⟨g4,s4⟩:=kU (c:=81) (m:=4000) s3 dc dc h.p dc;change (sF σ).1=_ at s4
 obtain⟨g5,s5⟩:=kU (c:=82) (m:=4000) s4 dc dc h.q dc;change (sD σ).1=_ at s5
 obtain⟨g6,s6⟩:=kU (c:=89) (m:=4000) s5 dc dc h.y dc;change (rZ σ).1=_ at s6
 obtain⟨g7,s7⟩:=zC (c:=69) (m:=1099511627776) s6 dc dc h.e.1 h.e.2 dc;change (rY σ).1=_ at s7
 obtain⟨g8,s8⟩:=kU (c:=99) (m:=4000) s7 dc dc h.c dc;change (rX σ).1=_ at s8
 obtain⟨g9,s9⟩:=zC (c:=104) (m:=1099511627776) s8 dc dc h.hh.1 h.hh.2 dc;change (rW σ).1=_ at s9
 obtain⟨g10,s10⟩:=zC (c:=116) (m:=1099511627776) s9 dc dc h.ht.1 h.ht.2 dc;change (kM σ).1=_ at s10
 obtain⟨g11,s11⟩:=kU (c:=114) (m:=32) s10 dc dc (Nat.le_of_eq x.h.r.len) dc;change (kK σ).1=_ at s11
 obtain⟨g12,s12⟩:=kU (c:=77) (m:=32) s11 dc dc (Nat.le_of_eq x.m.len) dc;change (sW σ).1=_ at s12
 obtain⟨g13,s13⟩:=zC (c:=113) (m:=1099511627776) s12 dc dc h.xq.1 h.xq.2 dc;change (sV σ).1=_ at s13
 obtain⟨g14,s14⟩:=kU (c:=115) (m:=4000) s13 dc dc h.xs dc;change (sU σ).1=_ at s14
 obtain⟨g15,s15⟩:=kU (c:=107) (m:=4000) s14 dc dc h.xk dc;change (sS σ).1=_ at s15
 obtain⟨g16,s16⟩:=kU (c:=100) (m:=4000) s15 dc dc h.xd dc;change (kJ σ).1=_ at s16
 obtain⟨g17,s17⟩:=kU (c:=97) (m:=32) s16 dc dc (Nat.le_of_eq (DT _)) dc;change (sP σ).1=_ at s17
 obtain⟨g18,s18⟩:=kU (c:=102) (m:=4000) s17 dc dc h.xf dc;change (sO σ).1=_ at s18
 obtain⟨g19,s19⟩:=kU (c:=103) (m:=4000) s18 dc dc h.xg dc;change (sN σ).1=_ at s19
 obtain⟨g20,s20⟩:=zC (c:=117) (m:=1099511627776) s19 dc dc h.xh.1 h.xh.2 dc;change (sM σ).1=_ at s20
 obtain⟨g21,s21⟩:=zC (c:=118) (m:=1099511627776) s20 dc dc h.xt.1 h.xt.2 dc;change (sK σ).1=_ at s21
 obtain⟨g22,s22⟩:=kU (c:=65) (m:=4000) s21 dc dc h.a dc;change (sJ σ).1=_ at s22
 obtain⟨g23,s23⟩:=zC (c:=84) (m:=1099511627776) s22 dc dc h.t.1 h.t.2 dc;change (kI σ).1=_ at s23
 obtain⟨g24,s24⟩:=kU (c:=70) (m:=4000) s23 dc dc (Jf h.f) dc;change (kH σ).1=_ at s24
 obtain⟨g25,s25⟩:=kU (c:=71) (m:=4000) s24 dc dc h.gl dc;change (sH σ).1=_ at s25
 have hE:gZ (sH σ)=0:=by
  unfold gZ;rw[s25];rfl
 have hk:uP σ=true:=by
  unfold uP IK IM IQ IL IP;rw[g11,g12,g17,g24,g25,hE,x.h.r.len,x.m.len,DT,(UN h.f).2.1,(Gs h.g).2];rfl
 have hV:EH σ=x:=by
  show (⟨gI 75 16 σ,gT 73 4000 (qB σ),gT 79 4000 (nC σ),gT 81 4000 (sG σ),gT 82 4000 (sF σ),gT 89 4000 (sD σ),gI 69 1099511627776 (rZ σ),⟨gT 99 4000 (rY σ),gI 104 1099511627776 (rX σ),gI 116 1099511627776 (rW σ),W9 (gT 114 32 (kM σ))⟩,W9 (gT 77 32 (kK σ)),⟨gI 113 1099511627776 (sW σ),gT 115 4000 (sV σ),gT 107 4000 (sU σ),gT 100 4000 (sS σ),wV (gT 97 32 (kJ σ)),gT 102 4000 (sP σ),gT 103 4000 (sO σ),gI 117 1099511627776 (sN σ),gI 118 1099511627776 (sM σ)⟩,gT 65 4000 (sK σ),gI 84 1099511627776 (sJ σ),jH (gT 70 4000 (kI σ)),nI (gT 71 4000 (kH σ))⟩:TxX)=x;rw[g1,g2,g3,g4,g5,g6,g7,g8,g9,g10,g11,g12,g13,g14,g15,g16,g17,g18,g19,g20,g21,g22,g23,g24,g25,XO,XO,(UN h.f).1,(Gs h.g).1,wV,if_pos (DT _),a8o,Yn]
 unfold K6 aG;rw[hk,if_pos rfl,if_pos rfl];exact⟨hV,rfl⟩
end
end Go.Proofs.Z

namespace Go.Proofs.Z
open Go Go.RowKit Tw Av Go.Proofs.Tryz
section
variable {x:TxX}{i k:Bs}{t:Int}{d:List Ent}
attribute [local irreducible] Q4 M0
instance b9V {h:Int}{v:Bs}{xs:List AV}[hx:Ents xs d]:Ans prog GL 217 [.agg 3 [.agg 1 [.sl 2 xs none],int h,int t],str i,x9 x,str k,str v] (DOk d/\TxB x) (int (bK d i x.t t k v x.f)):=⟨λhp=>by
 obtain⟨hd,hb⟩:=hp;have b1:DOk d/\x.f.m<=9223372036854775807:=⟨hd,by have:=hb.fm;omega⟩;refine ze func217 ntmps217 λ_ hs=>?_;exact j4⟩
def FX (d:List Ent)(x:TxX)(i k pp:Bs)(th:EndX)(r:EndX × Int)(t:Int):Out18:=if bK d i x.t t (I9 k pp) (lM th) x.f≠0 then O6 d (bK d i x.t t (I9 k pp) (lM th) x.f) else if r.2≠0 then O6 d r.2 else rC d (I9 k x.i) (lM r.1)
theorem Mm {own:EndX}:FW d x own i k true t=FX d x i k x.p ⟨2,own.q,own.o,x.i⟩ (MG own x.i x.p ⟨2,own.q,own.o,x.i⟩) t:=rfl
theorem Mo {own:EndX}:FW d x own i k false t=FX d x i k own.p ⟨3,own.q,own.o,x.i⟩ (LF own x.i ⟨3,own.q,own.o,x.i⟩) t:=rfl
end
end Go.Proofs.Z
