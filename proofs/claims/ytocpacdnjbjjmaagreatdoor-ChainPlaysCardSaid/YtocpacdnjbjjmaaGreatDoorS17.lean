/- . -/
import Derived.Shelf.Strings.Repeat
import Derived.Test.YtocpacdnjbjjmaaGreatDoorS16
namespace Go.Proofs.YtocpacdnjbjjmaaGreatDoor
open Go Go.RowKit Tw Go.Proofs.Tryz
theorem mixed:(prog).follows .mixedOrders=true:=by kernel_rfl
theorem Zy:∀ n:Fin 32,0<n.val->(BitVec.ofInt 64 (IntKind.u64.wrap (-(n.val:Int))) &&& BitVec.ofInt 64 31).toNat=32-n.val:=by decide +kernel
theorem sH (x:W32)(n:Nat)(h0:0<n)(h1:n<32)(w:World):Ret prog 345 [y8 x,.int .i64 (-(n:Int))] w fun v w'=>v=y8 (aH x n)/\Ext w w':=by
 refine oZ func345 rfl ntmps345 rfl ?_;have hS:=St.start w (fun _=>True) (fun _ _=>trivial);repeat (first|refine wk ?_|refine l9 ?_|intro _)
 apply Uq (v:=.int .u64 ((32-n:Nat):Int));exact rfl;exact rfl;intro w
 ·have h:=Zy ⟨n,h1⟩ h0;simp only[Op.intBits];show Result.ok (Value.int .u64 (IntKind.u64.wrap ((BitVec.ofInt 64 (IntKind.u64.wrap (-(n:Int))) &&& BitVec.ofInt 64 31).toNat:Int))) w=_;rw[h,IntKind.wrap_u64];dsimp only;congr 2
  omega
 exact .inl rfl;exact rfl;repeat (first|refine wk ?_|refine l9 ?_|intro _)
 refine XQ (32-n) rfl rfl rfl om rfl ?_;repeat (first|refine wk ?_|refine l9 ?_|intro _)
 refine JD n rfl rfl (by rw[IntKind.wrap_u64];omega) h1 rfl ?_;apply XX;exact rfl;exact rfl;exact rfl;exact rfl;repeat (first|refine wk ?_|refine l9 ?_|intro _)
 (apply rT;exact rfl;apply kY;exact rfl)
 refine⟨?_,hS.out⟩;rw[aH,BitVec.or_comm]
structure Glo (w:World):Prop where
 begin:Rg w 0 0 (h0.words.map y8)
 factors:Rg w 2 0 (jI.map y8)
theorem St.glo {s:Base}{ok:Nat->Prop}{m:List Piece}{w:World}(hS:St s ok m w)(h:Glo s.w)(h0:¬ s.md 0)(h2:¬ s.md 2):Glo w:=⟨hS.keepRg h.begin h0,hS.keepRg h.factors h2⟩
def Y4 (l:List W32)(buf:Bs)(n:Nat):List Value:=l.map y8++buf.map j6++[.int .i64 n,.bool true]
abbrev M8 (x:H8)(buf:Bs)(n:Nat):List Value:=Y4 x.words buf n
theorem dC (l:List W32)(buf:Bs)(n:Nat):Units (Y4 l buf n):=
 ((Units.map JH _).append (Units.map JL _)).append (Units.cons rfl (Units.cons rfl Units.nil))
theorem GI (l:List W32)(buf:Bs)(n:Nat):Tw.Good (Y4 l buf n):=
 ((Tw.Good.map JI _).append (Tw.Good.map JM _)).append (uJ rfl)
theorem Wu:TyZ prog 350 [st (List.replicate 8 (.int .u32 0)),st (List.replicate 64 (.int .u8 0)),.int .i64 0,.bool false]:=⟨kr,rfl⟩
theorem TA (w:World)(hg:Glo w):Ret prog 234 [] w fun v w'=>∃ g,v=.pointer (some ⟨g,0,none⟩)/\New g 350 (M8 h0 (zeros 64) 0) w w':=by
 refine oZ func234 rfl ntmps234 rfl ?_;have hS:=St.start w (fun _=>True) (fun _ _=>trivial);repeat (first|refine wk ?_|refine l9 ?_|intro _)
 apply PT (v:=st (h0.words.map y8));exact rfl;exact hg.begin;exact rfl;exact rfl;exact rfl;apply XV (tz:=Wu);exact rfl;exact rfl;exact rfl;exact rfl;apply XW (xs:=M8 h0 (zeros 64) 0);exact hS;exact rfl;exact rfl;exact GI _ _ _;exact rfl;intro g ok' w' hS' _ hlt;repeat (first|refine wk ?_|refine l9 ?_|intro _)
 (apply rT;exact rfl;apply kY;exact rfl)
 exact⟨g,rfl,New.of hS' .here hlt⟩
theorem a3v (x:H8)(buf:Bs)(n j:Nat)(h:j<8):(M8 x buf n)[j]?=some (y8 (x.words.getD j 0)):=by
 have hl:x.words.length=8:=rfl;simp[M8,Y4,List.getElem?_append,hl,h]
theorem a3x (x:H8)(buf:Bs)(n j:Nat)(hb:buf.length=64)(h:j<64):(M8 x buf n)[8+j]?=some (j6 (buf.getD j 0)):=by
 have hl:x.words.length=8:=rfl;simp[M8,Y4,List.getElem?_append,hl,hb,h]
theorem MS (x:H8)(buf:Bs)(n:Nat)(hb:buf.length=64):(M8 x buf n)[72]?=some (.int .i64 n):=by
 have hl:x.words.length=8:=rfl;simp[M8,Y4,hl,hb]
theorem a3s (l:List W32)(buf:Bs)(n i:Nat)(v:W32)(h:i<l.length):(Y4 l buf n).set i (y8 v)=Y4 (l.set i v) buf n:=by
 unfold Y4;rw[List.append_assoc,List.set_append,if_pos (by simpa using h),<- List.map_set,List.append_assoc]
theorem DK (blk:Bs):∀ k,(ws blk k).length=k
 | 0=>rfl
 | k+1=>by simp[ws,DK blk k]
def wv (blk:Bs)(k:Nat):List Value:=(ws blk k).map y8++List.replicate (64-k) (y8 0)
theorem PK (blk:Bs)(k:Nat)(h:k<=64):(wv blk k).length=64:=by simp[wv,DK];omega
theorem vF (blk:Bs)(k:Nat):Units (wv blk k):=(Units.map JH _).append fun x hx=>by rw[List.eq_of_mem_replicate hx];rfl
theorem DJ (blk:Bs)(k j:Nat)(h:j<k):(wv blk k)[j]?=some (y8 ((ws blk k).getD j 0)):=by
 have hl:=DK blk k;simp[wv,List.getElem?_append,hl,h]
theorem XG (blk:Bs)(k:Nat)(h:k<64)(x:W32)(hx:ws blk (k+1)=ws blk k++[x]):(wv blk k).set k (y8 x)=wv blk (k+1):=by
 have hl:=DK blk k;unfold wv;rw[hx,List.set_append,if_neg (by simp[hl]),List.map_append,List.length_map,hl,Nat.sub_self,show 64-k=(64-(k+1))+1 by omega,List.replicate_succ];simp
theorem Sn (blk:Bs)(k:Nat)(h:k<64):(wv blk k).set k (y8 0)=wv blk k:=by
 have hl:=DK blk k;unfold wv;rw[List.set_append,if_neg (by simp[hl]),List.length_map,hl,Nat.sub_self,show 64-k=(64-(k+1))+1 by omega,List.replicate_succ];simp
theorem a6M (w:World)(g:Nat)(x:H8)(buf:Bs)(n:Nat)(hg:Glo w)(h0:g≠0)(h2:g≠2)(hb:w.heap[g]?=some (.cells (fl (M8 x buf n)).toArray 350 (0,0)))(hl:buf.length=64) :
  Ret prog 290 [.pointer (some ⟨g,0,none⟩)] w fun v w'=>v=.tuple #[]/\Mod g 350 (M8 (wF x buf) buf n) w w':=by
 refine oZ func290 rfl ntmps290 rfl ?_;have hgl:g<w.heap.size:=by
  rcases Nat.lt_or_ge g w.heap.size with h|h
  ·exact h
  ·simp[Array.getElem?_eq_none h] at hb
 have hS:=St.startM (·≠g) (fun b hb=>by omega) hb (GI x.words buf n) (fun h=>h rfl);apply YD;apply YE;apply YB;assumption;exact rfl;intro g1 ok w1 hS1 _ _;repeat (first|refine wk ?_|refine l9 ?_|intro _)
 clear hS
 replace hS1:St ⟨w,(·≠g),(·=g)⟩ ok [.var g1 354 (wv buf 0),.var g 350 (M8 x buf n)] w1:=hS1
 refine rU (α:=Nat) (fun i=>[(0,.pointer (some ⟨g,0,none⟩)),(2,.pointer (some ⟨g1,0,none⟩)),(22,.int .i64 (i:Int))])
  (fun i w'=>i<=16/\St ⟨w,(·≠g),(·=g)⟩ ok [.var g1 354 (wv buf i),.var g 350 (M8 x buf n)] w') (fun i=>16-i) 0 ⟨rfl,rfl,rfl,trivial⟩ ⟨om,hS1⟩ ?_
 intro i w2 ⟨hi,hS⟩;repeat (first|refine wk ?_|refine l9 ?_|intro _)
 refine oJ rfl (fun hlt=>?_) (fun hlt=>?_)
 ·repeat (first|refine wk ?_|refine l9 ?_|intro _)
  apply XP (4*i) (4*i+4);exact rfl;exact rfl;exact rfl;omega;omega;omega;omega;omega;exact rfl;repeat (first|refine wk ?_|refine l9 ?_|intro _)
  refine YF 34 rfl (show Value.int .i64 _=.int .i64 4 by congr 1;omega) ?_;refine rU (α:=Nat) (fun j=>[(0,.pointer (some ⟨g,0,none⟩)),(2,.pointer (some ⟨g1,0,none⟩)),(22,.int .i64 (i:Int)),(3,.int .i64 (i:Int)),(33,.slice (some ⟨g,8+4*i*1,none⟩) (4*i+4-4*i) (64-4*i)),(34,.int .i64 4),(35,.int .i64 (j:Int))])
   (fun j w'=>j<=4/\St ⟨w,(·≠g),(·=g)⟩ ok [.var g1 354 ((wv buf i).set i (y8 (FO buf i j))),.var g 350 (M8 x buf n)] w') (fun j=>4-j) 0 ⟨rfl,rfl,rfl,rfl,rfl,rfl,rfl,trivial⟩ ⟨om,?_⟩ ?_
  ·have:(wv buf i).set i (y8 (FO buf i 0))=wv buf i:=Sn buf i om;rw[this];exact hS
  intro j w3 ⟨hj,hS⟩;repeat (first|refine wk ?_|refine l9 ?_|intro _)
  refine oJ rfl (fun hjl=>?_) (fun hjl=>?_)
  ·repeat (first|refine wk ?_|refine l9 ?_|intro _)
   apply Ub j;exact rfl;exact rfl;exact rfl;omega;exact rfl;apply kQ;assumption;exact rfl;(repeat (first|exact Has.here|apply Has.there));exact dC _ _ _;rw[show 8+4*i*1+j*1=8+(4*i+j) by omega];exact a3x x buf n (4*i+j) hl om;exact rfl;repeat (first|refine wk ?_|refine l9 ?_|intro _)
   apply jQ i;exact rfl;exact rfl;exact rfl;omega;exact rfl;apply kQ;assumption;exact rfl;(repeat (first|exact Has.here|apply Has.there));exact(vF _ _).set rfl _;rw[show 0+i*1=i by omega,List.getElem?_set_self (by rw[PK _ _ om];omega)];exact rfl;apply XQ 8;exact rfl;exact rfl;exact rfl;omega;exact rfl;repeat (first|refine wk ?_|refine l9 ?_|intro _)
   apply jQ i;exact rfl;exact rfl;exact rfl;omega;exact rfl;apply zD;assumption;exact rfl;exact rfl;(repeat (first|exact Upd.here|apply Upd.there));exact(vF _ _).set rfl _;exact rfl;exact JI _;rw[List.length_set,PK _ _ om];omega;intro w4 hS4 _;repeat (first|refine wk ?_|refine l9 ?_|intro _)
   refine mF (j+1) ⟨rfl,rfl,rfl,rfl,rfl,rfl,rfl,trivial⟩ ⟨om,?_⟩ om;rw[show 0+i*1=i by omega,List.set_set] at hS4;exact hS4
  ·repeat (first|refine wk ?_|refine l9 ?_|intro _)
   refine mF (i+1) ⟨rfl,rfl,rfl,trivial⟩ ⟨om,?_⟩ om;obtain rfl:j=4:=by omega
   rw[a1d,XG buf i om (zC buf i) (by rw[ws,if_pos om])] at hS;exact hS
 ·obtain rfl:i=16:=by omega
  repeat (first|refine wk ?_|refine l9 ?_|intro _)
  refine rU (α:=Nat) (fun i=>[(0,.pointer (some ⟨g,0,none⟩)),(2,.pointer (some ⟨g1,0,none⟩)),(6,.int .i64 (i:Int))])
   (fun i w'=>16<=i/\i<=64/\∃ ok,St ⟨w,(·≠g),(·=g)⟩ ok [.var g1 354 (wv buf i),.var g 350 (M8 x buf n)] w') (fun i=>64-i) 16 ⟨rfl,rfl,rfl,trivial⟩ ⟨om,om,ok,hS⟩ ?_
  clear hS hS1 hi hlt;intro i w2 ⟨hi1,hi2,ok,hS⟩;repeat (first|refine wk ?_|refine l9 ?_|intro _)
  refine oJ rfl (fun hlt=>?_) (fun hlt=>?_)
  ·repeat (first|refine wk ?_|refine l9 ?_|intro _)
   apply zH 10 [54,55,56,57,58,59,60,61,7,8] [] [.eqv ?_,.eqv ?_,.eqv ?_,.eqv ?_,.eqv ?_,.eqv ?_,.eqv ?_,.eqv ?_,.eqv ?_,.eqv ?_] mixed;assumption;kernel_rfl;exact rfl;exact rfl;exact rfl;apply G7;intro _ _ _ _;repeat (first|(apply F3;exact rfl;exact rfl;exact rfl)|(apply E8;exact rfl))
   repeat (first|refine wk ?_|refine l9 ?_|intro _)
   first|(apply G9;assumption;exact rfl)|(apply G8;assumption;assumption;exact rfl)
   apply G7;intro _ _ _ _;repeat (first|(apply F3;exact rfl;exact rfl;exact rfl)|(apply E8;exact rfl))
   repeat (first|refine wk ?_|refine l9 ?_|intro _)
   first|(apply G9;assumption;exact rfl)|(apply G8;assumption;assumption;exact rfl)
   apply G7;intro _ _ _ _;repeat (first|(apply F3;exact rfl;exact rfl;exact rfl)|(apply E8;exact rfl))
   apply jQ (i-15);exact rfl;exact rfl;omega;omega;exact rfl;repeat (first|refine wk ?_|refine l9 ?_|intro _)
   first|(apply G9;assumption;exact rfl)|(apply G8;assumption;assumption;exact rfl)
   apply G7;intro _ _ _ _;repeat (first|(apply F3;exact rfl;exact rfl;exact rfl)|(apply E8;exact rfl))
   apply kQ;assumption;exact rfl;(repeat (first|exact Has.here|apply Has.there));exact vF _ _;exact DJ buf i (0+(i-15)*1) om;exact rfl;repeat (first|refine wk ?_|refine l9 ?_|intro _)
   first|(apply G9;assumption;exact rfl)|(apply G8;assumption;assumption;exact rfl)
   apply G7;intro _ _ _ _;repeat (first|(apply F3;exact rfl;exact rfl;exact rfl)|(apply E8;exact rfl))
   repeat (first|refine wk ?_|refine l9 ?_|intro _)
   first|(apply G9;assumption;exact rfl)|(apply G8;assumption;assumption;exact rfl)
   apply G7;intro _ _ _ _;repeat (first|(apply F3;exact rfl;exact rfl;exact rfl)|(apply E8;exact rfl))
   repeat (first|refine wk ?_|refine l9 ?_|intro _)
   first|(apply G9;assumption;exact rfl)|(apply G8;assumption;assumption;exact rfl)
   apply G7;intro _ _ _ _;repeat (first|(apply F3;exact rfl;exact rfl;exact rfl)|(apply E8;exact rfl))
   apply jQ (i-2);exact rfl;exact rfl;omega;omega;exact rfl;repeat (first|refine wk ?_|refine l9 ?_|intro _)
   first|(apply G9;assumption;exact rfl)|(apply G8;assumption;assumption;exact rfl)
   apply G7;intro _ _ _ _;repeat (first|(apply F3;exact rfl;exact rfl;exact rfl)|(apply E8;exact rfl))
   apply kQ;assumption;exact rfl;(repeat (first|exact Has.here|apply Has.there));exact vF _ _;exact DJ buf i (0+(i-2)*1) om;exact rfl;repeat (first|refine wk ?_|refine l9 ?_|intro _)
   first|(apply G9;assumption;exact rfl)|(apply G8;assumption;assumption;exact rfl)
   apply G7;intro _ _ _ _;repeat (first|(apply F3;exact rfl;exact rfl;exact rfl)|(apply E8;exact rfl))
   repeat (first|refine wk ?_|refine l9 ?_|intro _)
   first|(apply G9;assumption;exact rfl)|(apply G8;assumption;assumption;exact rfl)
   apply G7;intro _ _ _ _;repeat (first|(apply F3;exact rfl;exact rfl;exact rfl)|(apply E8;exact rfl))
   repeat (first|refine wk ?_|refine l9 ?_|intro _)
   first|(apply G9;assumption;exact rfl)|(apply G8;assumption;assumption;exact rfl)
   apply AY;intro _ _ _ _;repeat (first|(apply F3;exact rfl;exact rfl;exact rfl)|(apply E8;exact rfl))
   repeat (first|refine wk ?_|refine l9 ?_|intro _)
   apply iU;assumption;exact rfl;exact sH _ 7 dc dc _;exact rfl;rintro _ _ rfl _ _;repeat (first|refine wk ?_|refine l9 ?_|intro _)
   apply iU;assumption;exact rfl;exact sH _ 18 dc dc _;exact rfl;rintro _ _ rfl _ _;repeat (first|refine wk ?_|refine l9 ?_|intro _)
   refine JD 3 rfl rfl rfl dc rfl ?_;repeat (first|refine wk ?_|refine l9 ?_|intro _)
   apply iU;assumption;exact rfl;exact sH _ 17 dc dc _;exact rfl;rintro _ _ rfl _ _;repeat (first|refine wk ?_|refine l9 ?_|intro _)
   apply iU;assumption;exact rfl;exact sH _ 19 dc dc _;exact rfl;rintro _ _ rfl _ _;repeat (first|refine wk ?_|refine l9 ?_|intro _)
   refine JD 10 rfl rfl rfl dc rfl ?_;repeat (first|refine wk ?_|refine l9 ?_|intro _)
   apply zH 15 [78,79,80,81,82,83,84,85,86,87,88,89,90,91,92] [] [.eqv ?_,.eqv ?_,.eqv ?_,.eqv ?_,.eqv ?_,.eqv ?_,.eqv ?_,.eqv ?_,.eqv ?_,.eqv ?_,.eqv ?_,.eqv ?_,.eqv ?_,.eqv ?_,.eqv ?_] mixed;assumption;kernel_rfl;exact rfl;exact rfl;exact rfl;apply G7;intro _ _ _ _;repeat (first|(apply F3;exact rfl;exact rfl;exact rfl)|(apply E8;exact rfl))
   repeat (first|refine wk ?_|refine l9 ?_|intro _)
   first|(apply G9;assumption;exact rfl)|(apply G8;assumption;assumption;exact rfl)
   apply G7;intro _ _ _ _;repeat (first|(apply F3;exact rfl;exact rfl;exact rfl)|(apply E8;exact rfl))
   repeat (first|refine wk ?_|refine l9 ?_|intro _)
   first|(apply G9;assumption;exact rfl)|(apply G8;assumption;assumption;exact rfl)
   apply G7;intro _ _ _ _;repeat (first|(apply F3;exact rfl;exact rfl;exact rfl)|(apply E8;exact rfl))
   repeat (first|refine wk ?_|refine l9 ?_|intro _)
   first|(apply G9;assumption;exact rfl)|(apply G8;assumption;assumption;exact rfl)
   apply G7;intro _ _ _ _;repeat (first|(apply F3;exact rfl;exact rfl;exact rfl)|(apply E8;exact rfl))
   apply jQ (i-16);exact rfl;exact rfl;omega;omega;exact rfl;repeat (first|refine wk ?_|refine l9 ?_|intro _)
   first|(apply G9;assumption;exact rfl)|(apply G8;assumption;assumption;exact rfl)
   apply G7;intro _ _ _ _;repeat (first|(apply F3;exact rfl;exact rfl;exact rfl)|(apply E8;exact rfl))
   apply kQ;assumption;exact rfl;(repeat (first|exact Has.here|apply Has.there));exact vF _ _;exact DJ buf i (0+(i-16)*1) om;exact rfl;repeat (first|refine wk ?_|refine l9 ?_|intro _)
   first|(apply G9;assumption;exact rfl)|(apply G8;assumption;assumption;exact rfl)
   apply G7;intro _ _ _ _;repeat (first|(apply F3;exact rfl;exact rfl;exact rfl)|(apply E8;exact rfl))
   repeat (first|refine wk ?_|refine l9 ?_|intro _)
   first|(apply G9;assumption;exact rfl)|(apply G8;assumption;assumption;exact rfl)
   apply G7;intro _ _ _ _;repeat (first|(apply F3;exact rfl;exact rfl;exact rfl)|(apply E8;exact rfl))
   repeat (first|refine wk ?_|refine l9 ?_|intro _)
   first|(apply G9;assumption;exact rfl)|(apply G8;assumption;assumption;exact rfl)
   apply G7;intro _ _ _ _;repeat (first|(apply F3;exact rfl;exact rfl;exact rfl)|(apply E8;exact rfl))
   repeat (first|refine wk ?_|refine l9 ?_|intro _)
   first|(apply G9;assumption;exact rfl)|(apply G8;assumption;assumption;exact rfl)
   apply G7;intro _ _ _ _;repeat (first|(apply F3;exact rfl;exact rfl;exact rfl)|(apply E8;exact rfl))
   repeat (first|refine wk ?_|refine l9 ?_|intro _)
   first|(apply G9;assumption;exact rfl)|(apply G8;assumption;assumption;exact rfl)
   apply G7;intro _ _ _ _;repeat (first|(apply F3;exact rfl;exact rfl;exact rfl)|(apply E8;exact rfl))
   apply jQ (i-7);exact rfl;exact rfl;omega;omega;exact rfl;repeat (first|refine wk ?_|refine l9 ?_|intro _)
   first|(apply G9;assumption;exact rfl)|(apply G8;assumption;assumption;exact rfl)
   apply G7;intro _ _ _ _;repeat (first|(apply F3;exact rfl;exact rfl;exact rfl)|(apply E8;exact rfl))
   apply kQ;assumption;exact rfl;(repeat (first|exact Has.here|apply Has.there));exact vF _ _;exact DJ buf i (0+(i-7)*1) om;exact rfl;repeat (first|refine wk ?_|refine l9 ?_|intro _)
   first|(apply G9;assumption;exact rfl)|(apply G8;assumption;assumption;exact rfl)
   apply G7;intro _ _ _ _;repeat (first|(apply F3;exact rfl;exact rfl;exact rfl)|(apply E8;exact rfl))
   repeat (first|refine wk ?_|refine l9 ?_|intro _)
   first|(apply G9;assumption;exact rfl)|(apply G8;assumption;assumption;exact rfl)
   apply G7;intro _ _ _ _;repeat (first|(apply F3;exact rfl;exact rfl;exact rfl)|(apply E8;exact rfl))
   repeat (first|refine wk ?_|refine l9 ?_|intro _)
   first|(apply G9;assumption;exact rfl)|(apply G8;assumption;assumption;exact rfl)
   apply G7;intro _ _ _ _;repeat (first|(apply F3;exact rfl;exact rfl;exact rfl)|(apply E8;exact rfl))
   repeat (first|refine wk ?_|refine l9 ?_|intro _)
   first|(apply G9;assumption;exact rfl)|(apply G8;assumption;assumption;exact rfl)
   apply G7;intro _ _ _ _;repeat (first|(apply F3;exact rfl;exact rfl;exact rfl)|(apply E8;exact rfl))
   apply jQ i;exact rfl;exact rfl;omega;omega;exact rfl;repeat (first|refine wk ?_|refine l9 ?_|intro _)
   first|(apply G9;assumption;exact rfl)|(apply G8;assumption;assumption;exact rfl)
   apply AY;intro _ _ _ _;repeat (first|(apply F3;exact rfl;exact rfl;exact rfl)|(apply E8;exact rfl))
   repeat (first|refine wk ?_|refine l9 ?_|intro _)
   apply zD;assumption;exact rfl;exact rfl;(repeat (first|exact Upd.here|apply Upd.there));exact vF _ _;exact rfl;exact JI _;rw[PK _ _ om];omega;intro w4 hS4 _;repeat (first|refine wk ?_|refine l9 ?_|intro _)
   have hnx:=XG buf i om (FU (ws buf i) i) (by rw[ws,if_neg om]);simp only[Nat.zero_add,Nat.mul_one] at hS4;unfold FU QM QL at hnx;rw[hnx] at hS4;exact mF (i+1) ⟨rfl,rfl,rfl,trivial⟩ ⟨om,om,_,hS4⟩ om
  ·obtain rfl:i=64:=by omega
   repeat (first|refine wk ?_|refine l9 ?_|intro _)
   apply Tt (xs:=[y8 x.a,y8 x.b,y8 x.c,y8 x.d,y8 x.e,y8 x.f,y8 x.g,y8 x.h]);assumption;exact rfl;(repeat (first|exact Has.here|apply Has.there));exact dC _ _ _;exact rfl;exact rfl;exact rfl;repeat (first|refine wk ?_|refine l9 ?_|intro _)
   rename_i g2 okx _ _ _ _ _ hS2 _;refine rU (α:=Nat) (fun k=>[(0,.pointer (some ⟨g,0,none⟩)),(2,.pointer (some ⟨g1,0,none⟩)),(11,.pointer (some ⟨g2,0,none⟩)),(97,.int .i64 (k:Int))])
    (fun k w'=>k<=64/\∃ ok,St ⟨w,(·≠g),(·=g)⟩ ok [.var g2 317 [y8 (Y1 buf x k).a,y8 (Y1 buf x k).b,y8 (Y1 buf x k).c,y8 (Y1 buf x k).d,y8 (Y1 buf x k).e,y8 (Y1 buf x k).f,y8 (Y1 buf x k).g,y8 (Y1 buf x k).h],.var g1 354 (wv buf 64),.var g 350 (M8 x buf n)] w') (fun k=>64-k) 0 ⟨rfl,rfl,rfl,rfl,trivial⟩ ⟨om,okx,hS2⟩ ?_
   clear hS hS2 hi1 hi2 hlt;intro k w3 ⟨hk,ok,hS⟩;generalize hy:Y1 buf x k=y at hS;repeat (first|refine wk ?_|refine l9 ?_|intro _)
   refine oJ rfl (fun hlt=>?_) (fun hlt=>?_)
   ·repeat (first|refine wk ?_|refine l9 ?_|intro _)
    apply zH 6 [100,101,102,103,13,14] [] [.eqv ?_,.eqv ?_,.eqv ?_,.eqv ?_,.eqv ?_,.eqv ?_] mixed;assumption;kernel_rfl;exact rfl;exact rfl;exact rfl;apply G7;intro _ _ _ _;repeat (first|(apply F3;exact rfl;exact rfl;exact rfl)|(apply E8;exact rfl))
    repeat (first|refine wk ?_|refine l9 ?_|intro _)
    first|(apply G9;assumption;exact rfl)|(apply G8;assumption;assumption;exact rfl)
    apply G7;intro _ _ _ _;repeat (first|(apply F3;exact rfl;exact rfl;exact rfl)|(apply E8;exact rfl))
    repeat (first|refine wk ?_|refine l9 ?_|intro _)
    first|(apply G9;assumption;exact rfl)|(apply G8;assumption;assumption;exact rfl)
    apply G7;intro _ _ _ _;repeat (first|(apply F3;exact rfl;exact rfl;exact rfl)|(apply E8;exact rfl))
    repeat (first|refine wk ?_|refine l9 ?_|intro _)
    first|(apply G9;assumption;exact rfl)|(apply G8;assumption;assumption;exact rfl)
    apply G7;intro _ _ _ _;repeat (first|(apply F3;exact rfl;exact rfl;exact rfl)|(apply E8;exact rfl))
    repeat (first|refine wk ?_|refine l9 ?_|intro _)
    first|(apply G9;assumption;exact rfl)|(apply G8;assumption;assumption;exact rfl)
    apply G7;intro _ _ _ _;repeat (first|(apply F3;exact rfl;exact rfl;exact rfl)|(apply E8;exact rfl))
    repeat (first|refine wk ?_|refine l9 ?_|intro _)
    first|(apply G9;assumption;exact rfl)|(apply G8;assumption;assumption;exact rfl)
    apply G7;intro _ _ _ _;repeat (first|(apply F3;exact rfl;exact rfl;exact rfl)|(apply E8;exact rfl))
    repeat (first|refine wk ?_|refine l9 ?_|intro _)
    first|(apply G9;assumption;exact rfl)|(apply G8;assumption;assumption;exact rfl)
    apply AY;intro _ _ _ _;repeat (first|(apply F3;exact rfl;exact rfl;exact rfl)|(apply E8;exact rfl))
    repeat (first|refine wk ?_|refine l9 ?_|intro _)
    apply iU;assumption;exact rfl;exact sH _ 6 dc dc _;exact rfl;rintro _ _ rfl _ _;repeat (first|refine wk ?_|refine l9 ?_|intro _)
    apply iU;assumption;exact rfl;exact sH _ 11 dc dc _;exact rfl;rintro _ _ rfl _ _;repeat (first|refine wk ?_|refine l9 ?_|intro _)
    apply iU;assumption;exact rfl;exact sH _ 25 dc dc _;exact rfl;rintro _ _ rfl _ _;repeat (first|refine wk ?_|refine l9 ?_|intro _)
    apply iU;assumption;exact rfl;exact sH _ 2 dc dc _;exact rfl;rintro _ _ rfl _ _;repeat (first|refine wk ?_|refine l9 ?_|intro _)
    apply iU;assumption;exact rfl;exact sH _ 13 dc dc _;exact rfl;rintro _ _ rfl _ _;repeat (first|refine wk ?_|refine l9 ?_|intro _)
    apply iU;assumption;exact rfl;exact sH _ 22 dc dc _;exact rfl;rintro _ _ rfl _ _;repeat (first|refine wk ?_|refine l9 ?_|intro _)
    apply zH 15 [142,143,144,145,146,147,148,149,150,151,152,153,154,155,19] [] [.eqv ?_,.eqv ?_,.eqv ?_,.eqv ?_,.eqv ?_,.eqv ?_,.eqv ?_,.eqv ?_,.eqv ?_,.eqv ?_,.eqv ?_,.eqv ?_,.eqv ?_,.eqv ?_,.eqv ?_] mixed;assumption;kernel_rfl;exact rfl;exact rfl;exact rfl;apply G7;intro _ _ _ _;repeat (first|(apply F3;exact rfl;exact rfl;exact rfl)|(apply E8;exact rfl))
    repeat (first|refine wk ?_|refine l9 ?_|intro _)
    first|(apply G9;assumption;exact rfl)|(apply G8;assumption;assumption;exact rfl)
    apply G7;intro _ _ _ _;repeat (first|(apply F3;exact rfl;exact rfl;exact rfl)|(apply E8;exact rfl))
    repeat (first|refine wk ?_|refine l9 ?_|intro _)
    first|(apply G9;assumption;exact rfl)|(apply G8;assumption;assumption;exact rfl)
    apply G7;intro _ _ _ _;repeat (first|(apply F3;exact rfl;exact rfl;exact rfl)|(apply E8;exact rfl))
    repeat (first|refine wk ?_|refine l9 ?_|intro _)
    first|(apply G9;assumption;exact rfl)|(apply G8;assumption;assumption;exact rfl)
    apply G7;intro _ _ _ _;repeat (first|(apply F3;exact rfl;exact rfl;exact rfl)|(apply E8;exact rfl))
    repeat (first|refine wk ?_|refine l9 ?_|intro _)
    first|(apply G9;assumption;exact rfl)|(apply G8;assumption;assumption;exact rfl)
    apply G7;intro _ _ _ _;repeat (first|(apply F3;exact rfl;exact rfl;exact rfl)|(apply E8;exact rfl))
    repeat (first|refine wk ?_|refine l9 ?_|intro _)
    first|(apply G9;assumption;exact rfl)|(apply G8;assumption;assumption;exact rfl)
    apply G7;intro _ _ _ _;repeat (first|(apply F3;exact rfl;exact rfl;exact rfl)|(apply E8;exact rfl))
    repeat (first|refine wk ?_|refine l9 ?_|intro _)
    first|(apply G9;assumption;exact rfl)|(apply G8;assumption;assumption;exact rfl)
    apply G7;intro _ _ _ _;repeat (first|(apply F3;exact rfl;exact rfl;exact rfl)|(apply E8;exact rfl))
    repeat (first|refine wk ?_|refine l9 ?_|intro _)
    first|(apply G9;assumption;exact rfl)|(apply G8;assumption;assumption;exact rfl)
    apply G7;intro _ _ _ _;repeat (first|(apply F3;exact rfl;exact rfl;exact rfl)|(apply E8;exact rfl))
    apply jQ k;exact rfl;exact rfl;exact rfl;omega;exact rfl;repeat (first|refine wk ?_|refine l9 ?_|intro _)
    first|(apply G9;assumption;exact rfl)|(apply G8;assumption;assumption;exact rfl)
    apply G7;intro _ _ _ _;repeat (first|(apply F3;exact rfl;exact rfl;exact rfl)|(apply E8;exact rfl))
    apply XU (cs:=jI.map y8) (v:=y8 (jI.getD k 0));exact rfl
    ·rename_i hS' _;exact(St.glo hS' hg (fun h=>h0 h.symm) (fun h=>h2 h.symm)).factors
    ·exact Units.map JH _
    ·have hlen:jI.length=64:=rfl;rw[Nat.zero_add,Nat.mul_one];simp[hlen,show k<64 by omega]
    ·exact rfl
    repeat (first|refine wk ?_|refine l9 ?_|intro _)
    first|(apply G9;assumption;exact rfl)|(apply G8;assumption;assumption;exact rfl)
    apply G7;intro _ _ _ _;repeat (first|(apply F3;exact rfl;exact rfl;exact rfl)|(apply E8;exact rfl))
    repeat (first|refine wk ?_|refine l9 ?_|intro _)
    first|(apply G9;assumption;exact rfl)|(apply G8;assumption;assumption;exact rfl)
    apply G7;intro _ _ _ _;repeat (first|(apply F3;exact rfl;exact rfl;exact rfl)|(apply E8;exact rfl))
    repeat (first|refine wk ?_|refine l9 ?_|intro _)
    first|(apply G9;assumption;exact rfl)|(apply G8;assumption;assumption;exact rfl)
    apply G7;intro _ _ _ _;repeat (first|(apply F3;exact rfl;exact rfl;exact rfl)|(apply E8;exact rfl))
    apply jQ k;exact rfl;exact rfl;exact rfl;omega;exact rfl;repeat (first|refine wk ?_|refine l9 ?_|intro _)
    first|(apply G9;assumption;exact rfl)|(apply G8;assumption;assumption;exact rfl)
    apply G7;intro _ _ _ _;repeat (first|(apply F3;exact rfl;exact rfl;exact rfl)|(apply E8;exact rfl))
    apply kQ;assumption;exact rfl;(repeat (first|exact Has.here|apply Has.there));exact vF _ _;exact DJ buf 64 (0+k*1) om;exact rfl;repeat (first|refine wk ?_|refine l9 ?_|intro _)
    first|(apply G9;assumption;exact rfl)|(apply G8;assumption;assumption;exact rfl)
    apply G7;intro _ _ _ _;repeat (first|(apply F3;exact rfl;exact rfl;exact rfl)|(apply E8;exact rfl))
    repeat (first|refine wk ?_|refine l9 ?_|intro _)
    first|(apply G9;assumption;exact rfl)|(apply G8;assumption;assumption;exact rfl)
    apply G7;intro _ _ _ _;repeat (first|(apply F3;exact rfl;exact rfl;exact rfl)|(apply E8;exact rfl))
    repeat (first|refine wk ?_|refine l9 ?_|intro _)
    first|(apply G9;assumption;exact rfl)|(apply G8;assumption;assumption;exact rfl)
    apply AY;intro _ _ _ _;repeat (first|(apply F3;exact rfl;exact rfl;exact rfl)|(apply E8;exact rfl))
    repeat (first|refine wk ?_|refine l9 ?_|intro _)
    rename_i wz hS5 _;have hr:Y1 buf x (k+1)=round (jI.getD k 0) ((ws buf 64).getD k 0) y:=by rw[Y1,hy]
    rw[Nat.zero_add,Nat.mul_one] at hS5;have hS6:∃ ok,St ⟨w,(·≠g),(·=g)⟩ ok [.var g2 317 [y8 (Y1 buf x (k+1)).a,y8 (Y1 buf x (k+1)).b,y8 (Y1 buf x (k+1)).c,y8 (Y1 buf x (k+1)).d,y8 (Y1 buf x (k+1)).e,y8 (Y1 buf x (k+1)).f,y8 (Y1 buf x (k+1)).g,y8 (Y1 buf x (k+1)).h],.var g1 354 (wv buf 64),.var g 350 (M8 x buf n)] wz:=by
     rw[hr];exact⟨_,hS5⟩
    exact mF (k+1) ⟨rfl,rfl,rfl,rfl,trivial⟩ ⟨om,hS6⟩ om
   ·obtain rfl:k=64:=by omega
    repeat (first|refine wk ?_|refine l9 ?_|intro _)
    refine rU (α:=Nat) (fun i=>[(0,.pointer (some ⟨g,0,none⟩)),(177,st (y.words.map y8)),(178,.int .i64 (i:Int))])
     (fun i w'=>i<=8/\∃ ok,St ⟨w,(·≠g),(·=g)⟩ ok [.var g2 317 [y8 y.a,y8 y.b,y8 y.c,y8 y.d,y8 y.e,y8 y.f,y8 y.g,y8 y.h],.var g1 354 (wv buf 64),.var g 350 (Y4 (tK x y i) buf n)] w') (fun i=>8-i) 0 ⟨rfl,rfl,rfl,trivial⟩ ⟨om,ok,hS⟩ ?_
    clear hS hk hlt;intro i w4 ⟨hi,ok,hS⟩;repeat (first|refine wk ?_|refine l9 ?_|intro _)
    refine oJ rfl (fun hlt=>?_) (fun hlt=>?_)
    ·repeat (first|refine wk ?_|refine l9 ?_|intro _)
     apply Ua i;exact rfl;exact rfl;exact rfl;omega;exact Units.map JH _
     ·rw[List.getElem?_map,PP y i om];exact rfl
     exact rfl;repeat (first|refine wk ?_|refine l9 ?_|intro _)
     apply zH 11 [182,183,184,185,186,187,188,189,190,191,192] [] [.eqv ?_,.eqv ?_,.eqv ?_,.eqv ?_,.eqv ?_,.eqv ?_,.eqv ?_,.eqv ?_,.eqv ?_,.eqv ?_,.eqv ?_] mixed;assumption;kernel_rfl;exact rfl;exact rfl;exact rfl;apply G7;intro _ _ _ _;repeat (first|(apply F3;exact rfl;exact rfl;exact rfl)|(apply E8;exact rfl))
     repeat (first|refine wk ?_|refine l9 ?_|intro _)
     first|(apply G9;assumption;exact rfl)|(apply G8;assumption;assumption;exact rfl)
     apply G7;intro _ _ _ _;repeat (first|(apply F3;exact rfl;exact rfl;exact rfl)|(apply E8;exact rfl))
     repeat (first|refine wk ?_|refine l9 ?_|intro _)
     first|(apply G9;assumption;exact rfl)|(apply G8;assumption;assumption;exact rfl)
     apply G7;intro _ _ _ _;repeat (first|(apply F3;exact rfl;exact rfl;exact rfl)|(apply E8;exact rfl))
     repeat (first|refine wk ?_|refine l9 ?_|intro _)
     first|(apply G9;assumption;exact rfl)|(apply G8;assumption;assumption;exact rfl)
     apply G7;intro _ _ _ _;repeat (first|(apply F3;exact rfl;exact rfl;exact rfl)|(apply E8;exact rfl))
     repeat (first|refine wk ?_|refine l9 ?_|intro _)
     first|(apply G9;assumption;exact rfl)|(apply G8;assumption;assumption;exact rfl)
     apply G7;intro _ _ _ _;repeat (first|(apply F3;exact rfl;exact rfl;exact rfl)|(apply E8;exact rfl))
     apply jQ i;exact rfl;exact rfl;exact rfl;omega;exact rfl;repeat (first|refine wk ?_|refine l9 ?_|intro _)
     first|(apply G9;assumption;exact rfl)|(apply G8;assumption;assumption;exact rfl)
     apply G7;intro _ _ _ _;repeat (first|(apply F3;exact rfl;exact rfl;exact rfl)|(apply E8;exact rfl))
     apply kQ;assumption;exact rfl;(repeat (first|exact Has.here|apply Has.there));exact dC _ _ _
     ·rw[show 0+0+i*1=i by omega,Y4,laa,List.getElem?_append_left (by rw[llm,OY x y i hi];omega),List.getElem?_map,Rl x y i om];exact rfl
     exact rfl;repeat (first|refine wk ?_|refine l9 ?_|intro _)
     first|(apply G9;assumption;exact rfl)|(apply G8;assumption;assumption;exact rfl)
     apply G7;intro _ _ _ _;repeat (first|(apply F3;exact rfl;exact rfl;exact rfl)|(apply E8;exact rfl))
     repeat (first|refine wk ?_|refine l9 ?_|intro _)
     first|(apply G9;assumption;exact rfl)|(apply G8;assumption;assumption;exact rfl)
     apply G7;intro _ _ _ _;repeat (first|(apply F3;exact rfl;exact rfl;exact rfl)|(apply E8;exact rfl))
     repeat (first|refine wk ?_|refine l9 ?_|intro _)
     first|(apply G9;assumption;exact rfl)|(apply G8;assumption;assumption;exact rfl)
     apply G7;intro _ _ _ _;repeat (first|(apply F3;exact rfl;exact rfl;exact rfl)|(apply E8;exact rfl))
     repeat (first|refine wk ?_|refine l9 ?_|intro _)
     first|(apply G9;assumption;exact rfl)|(apply G8;assumption;assumption;exact rfl)
     apply G7;intro _ _ _ _;repeat (first|(apply F3;exact rfl;exact rfl;exact rfl)|(apply E8;exact rfl))
     repeat (first|refine wk ?_|refine l9 ?_|intro _)
     first|(apply G9;assumption;exact rfl)|(apply G8;assumption;assumption;exact rfl)
     apply G7;intro _ _ _ _;repeat (first|(apply F3;exact rfl;exact rfl;exact rfl)|(apply E8;exact rfl))
     apply jQ i;exact rfl;exact rfl;exact rfl;omega;exact rfl;repeat (first|refine wk ?_|refine l9 ?_|intro _)
     first|(apply G9;assumption;exact rfl)|(apply G8;assumption;assumption;exact rfl)
     apply AY;intro _ _ _ _;repeat (first|(apply F3;exact rfl;exact rfl;exact rfl)|(apply E8;exact rfl))
     repeat (first|refine wk ?_|refine l9 ?_|intro _)
     apply zD;assumption;exact rfl;exact rfl;(repeat (first|exact Upd.here|apply Upd.there));exact dC _ _ _;exact rfl;exact JI _
     ·simp[Y4,OY x y i hi];omega
     intro w5 hS5 _;repeat (first|refine wk ?_|refine l9 ?_|intro _)
     rw[show 0+0+i*1=i by omega,a3s _ _ _ _ _ (by rw[OY x y i hi];omega),Rk x y i om] at hS5;exact mF (i+1) ⟨rfl,rfl,rfl,trivial⟩ ⟨om,_,hS5⟩ om
    ·obtain rfl:i=8:=by omega
     repeat (first|refine wk ?_|refine l9 ?_|intro _)
     apply YC;exact rfl;refine⟨rfl,?_⟩;rw[<- hy] at hS;exact hS.outM (.there (.there .here))
end Go.Proofs.YtocpacdnjbjjmaaGreatDoor

namespace Go.Proofs.YtocpacdnjbjjmaaGreatDoor
open Go Go.RowKit Tw Go.Proofs.Tryz
theorem a3t (l:List W32)(buf:Bs)(n at_:Nat)(s:Bs)(hl:l.length=8)(hb:buf.length=64)(h:at_+s.length<=64) :
  (Y4 l buf n).take (8+at_)++s.map j6++(Y4 l buf n).drop (8+at_+s.length)=Y4 l (jJ buf at_ s) n:=by
 have h1:(l.map y8).length=8:=by simpa using hl
 unfold Y4 jJ;rw[laa (l.map y8),List.take_append,List.take_of_length_le om,h1,show 8+at_-8=at_ by omega,
  List.take_append_of_le_length (by simp;omega),<- List.map_take,List.drop_append,List.drop_of_length_le (l:=l.map y8) om,h1,show 8+at_+s.length-8=at_+s.length by omega,
  List.drop_append_of_le_length (by simp;omega),<- List.map_drop]
 simp[List.append_assoc]
theorem a3r (l:List W32)(buf:Bs)(n n':Nat)(hl:l.length=8)(hb:buf.length=64):(Y4 l buf n).set 72 (.int .i64 n')=Y4 l buf n':=by
 unfold Y4;rw[List.set_append,if_neg (by simp[hl,hb])];simp[hl,hb]
theorem Hu (x:H8)(buf:Bs)(n:Nat)(hb:buf.length=64):(M8 x buf n)[0+73]?=some (.bool true):=by
 have hl:x.words.length=8:=rfl;simp[M8,Y4,hl,hb]
theorem PM (w:World)(g:Nat)(M:Bs)(x:H8)(buf s:Bs)(hg:Glo w)(h0:g≠0)(h2:g≠2)(hb:w.heap[g]?=some (.cells (fl (M8 x buf M.length)).toArray 350 (0,0)))
  (hH:HS M x buf) (hlen:M.length+s.length<=4611686018427387904) :
  Ret prog 235 [.pointer (some ⟨g,0,none⟩),sv s] w fun v w'=>v=.tuple #[]/\∃ x' buf',HS (M++s) x' buf'/\Mod g 350 (M8 x' buf' (M++s).length) w w':=by
 refine oZ func235 rfl ntmps235 rfl ?_;have hgl:g<w.heap.size:=by
  rcases Nat.lt_or_ge g w.heap.size with h|h
  ·exact h
  ·simp[Array.getElem?_eq_none h] at hb
 have hS:=St.startM (·≠g) (fun b hb=>by omega) hb (GI x.words buf M.length) (fun h=>h rfl);repeat (first|refine wk ?_|refine l9 ?_|intro _)
 apply kQ;assumption;exact rfl;(repeat (first|exact Has.here|apply Has.there));exact dC _ _ _;exact Hu _ _ _ hH.len;exact rfl;repeat (first|refine wk ?_|refine l9 ?_|intro _)
 refine rU (α:=Bs × Bs × H8 × Bs) (fun q=>[(0,.pointer (some ⟨g,0,none⟩)),(1,sv q.2.1)])
  (fun q w'=>q.1++q.2.1=M++s/\HS q.1 q.2.2.1 q.2.2.2/\∃ ok,St ⟨w,(·≠g),(·=g)⟩ ok [.var g 350 (M8 q.2.2.1 q.2.2.2 q.1.length)] w') (fun q=>q.2.1.length) (M,s,x,buf) ⟨rfl,rfl,trivial⟩ ⟨rfl,hH,_,hS⟩ ?_
 clear hS hH hb;rintro⟨M1,s1,x1,b1⟩ w1 ⟨hMs,hH,ok,hS⟩;dsimp only at hMs hH hS ⊢;have hb1:=hH.len;have hle:M1.length+s1.length<=4611686018427387904:=by
  have:=congrArg List.length hMs;simp only[List.length_append] at this;omega
 repeat (first|refine wk ?_|refine l9 ?_|intro _)
 refine oJ rfl (fun hne=>?_) (fun hne=>?_)
 ·repeat (first|refine wk ?_|refine l9 ?_|intro _)
  apply kQ;assumption;exact rfl;(repeat (first|exact Has.here|apply Has.there));exact dC _ _ _;rw[Nat.zero_add];exact MS _ _ _ hb1;exact rfl;apply DT;exact rfl;exact rfl;exact rfl;omega;omega;(intro c _ _;exact rR om om);exact rfl;repeat (first|refine wk ?_|refine l9 ?_|intro _)
  apply XP (M1.length%64) 64;exact rfl;exact rfl;exact rfl;omega;omega;omega;omega;omega;exact rfl;repeat (first|refine wk ?_|refine l9 ?_|intro _)
  apply Ug;assumption;exact rfl;exact rfl;exact .here;exact dC _ _ _
  ·simp[Y4,hb1];rw[show x1.words.length=8 from rfl];omega
  ·exact rfl
  intro w2 hS2 _;rw[show 0+8+M1.length%64*1=8+M1.length%64 by omega,a3t _ _ _ _ _ rfl hb1 (by rw[List.length_take];omega)] at hS2;generalize hp:s1.take (64-M1.length%64)=p at hS2;have hpl:p.length<=s1.length/\p.length<=64-M1.length%64:=by rw[<- hp,List.length_take];omega
  have hps:p++s1.drop p.length=s1:=by
   rw[<- hp,List.length_take];rcases Nat.le_total (64-M1.length%64) s1.length with h|h
   ·rw[Nat.min_eq_left h,List.take_append_drop]
   ·rw[Nat.min_eq_right h,List.take_of_length_le h,List.drop_length,List.append_nil]
  repeat (first|refine wk ?_|refine l9 ?_|intro _)
  apply XO p.length s1.length;exact rfl;exact rfl;exact rfl;exact rfl;exact rfl;exact hpl.1;omega;exact rfl;rw[List.take_length];have hbl:(jJ b1 (M1.length%64) p).length=64:=by rw[UE om];exact hb1
  repeat (first|refine wk ?_|refine l9 ?_|intro _)
  apply kQ;assumption;exact rfl;(repeat (first|exact Has.here|apply Has.there));exact dC _ _ _;rw[Nat.zero_add];exact MS _ _ _ hbl;exact rfl;repeat (first|refine wk ?_|refine l9 ?_|intro _)
  apply zD;assumption;exact rfl;exact rfl;(repeat (first|exact Upd.here|apply Upd.there));exact dC _ _ _;exact rfl;exact uJ rfl
  ·simp[Y4,hbl];rw[show x1.words.length=8 from rfl];omega
  intro w3 hS3 _;rw[Nat.zero_add,<- Int.natCast_add,<- lla,a3r _ _ _ _ rfl hbl] at hS3;have hp0:0<p.length:=by
   rw[<- hp,List.length_take];have:0<s1.length:=List.length_pos_iff.2 hne;omega
  have hMp:M1++p++s1.drop p.length=M++s:=by rw[laa,hps,hMs]
  have hdr:(s1.drop p.length).length<s1.length:=by rw[List.length_drop];omega
  repeat (first|refine wk ?_|refine l9 ?_|intro _)
  refine oJ rfl (fun hf=>?_) (fun hf=>?_)
  ·repeat (first|refine wk ?_|refine l9 ?_|intro _)
   apply Ul;exact hS3;exact rfl;exact .here
   ·exact a6M _ g x1 _ _ (St.glo hS3 hg (fun h=>h0 h.symm) (fun h=>h2 h.symm)) h0 h2 (hS3.varAt .here) hbl
   ·exact rfl
   intro v w4 _ hS4 _;repeat (first|refine wk ?_|refine l9 ?_|intro _)
   exact mF (M1++p,s1.drop p.length,_,jJ b1 (M1.length%64) p) ⟨rfl,rfl,trivial⟩ ⟨hMp,hH.full om,_,hS4⟩ hdr
  ·repeat (first|refine wk ?_|refine l9 ?_|intro _)
   exact mF (M1++p,s1.drop p.length,x1,jJ b1 (M1.length%64) p) ⟨rfl,rfl,trivial⟩ ⟨hMp,hH.part om,_,hS3⟩ hdr
 ·obtain rfl:s1=[]:=by simpa using hne
  rw[List.append_nil] at hMs;subst hMs;repeat (first|refine wk ?_|refine l9 ?_|intro _)
  apply YC;exact rfl;exact⟨rfl,x1,b1,hH,hS.outM .here⟩
end Go.Proofs.YtocpacdnjbjjmaaGreatDoor

namespace Go.Proofs
open Go.Shelf
def Tryz.laysRepeat_ren:Go.Shelf.Ren:=⟨fun|105=>292|212=>346|99=>347|165=>348|166=>66|170=>67|169=>68|263=>399|264=>400|206=>401|240=>122|241=>402|276=>169|277=>434|n=>n,fun|9=>9|3=>3|4=>4|20=>20|0=>0|46=>116|109=>380|5=>5|72=>139|76=>142|51=>222|146=>412|53=>92|148=>414|70=>137|37=>74|75=>141|127=>194|164=>235|80=>130|n=>n,fun|n=>n⟩
theorem Tryz.laysRepeat:Go.Proofs.Lays.n105 Tryz.prog Tryz.laysRepeat_ren:={
 mixed:=by kernel_rfl
 f99:=Tryz.func347.trans (congrArg some (by kernel_rfl))
 f105:=Tryz.func292.trans (congrArg some (by kernel_rfl))
 f165:=Tryz.func348.trans (congrArg some (by kernel_rfl))
 f166:=Tryz.func66.trans (congrArg some (by kernel_rfl))
 f169:=Tryz.func68.trans (congrArg some (by kernel_rfl))
 f170:=Tryz.func67.trans (congrArg some (by kernel_rfl))
 f206:=Tryz.func401.trans (congrArg some (by kernel_rfl))
 f212:=Tryz.func346.trans (congrArg some (by kernel_rfl))
 f240:=Tryz.func122.trans (congrArg some (by kernel_rfl))
 f241:=Tryz.func402.trans (congrArg some (by kernel_rfl))
 f263:=Tryz.func399.trans (congrArg some (by kernel_rfl))
 f264:=Tryz.func400.trans (congrArg some (by kernel_rfl))
 f276:=Tryz.func169.trans (congrArg some (by kernel_rfl))
 f277:=Tryz.func434.trans (congrArg some (by kernel_rfl))
 t0:=Tryz.underlying0
 a0:=Tryz.isAgg0
 z0:=Tryz.sizeOf0
 v0:=Tryz.zeroValue0
 t3:=Tryz.underlying3
 a3:=Tryz.isAgg3
 z3:=Tryz.sizeOf3
 v3:=Tryz.zeroValue3
 t4:=Tryz.underlying4
 a4:=Tryz.isAgg4
 z4:=Tryz.sizeOf4
 v4:=Tryz.zeroValue4
 t5:=Tryz.underlying5
 a5:=Tryz.isAgg5
 z5:=Tryz.sizeOf5
 v5:=Tryz.zeroValue5
 t9:=Tryz.underlying9
 a9:=Tryz.isAgg9
 z9:=Tryz.sizeOf9
 v9:=Tryz.zeroValue9
 t20:=Tryz.underlying20
 a20:=Tryz.isAgg20
 z20:=Tryz.sizeOf20
 v20:=Tryz.zeroValue20
 t37:=Tryz.underlying74
 a37:=Tryz.isAgg74
 z37:=Tryz.sizeOf74
 v37:=Tryz.zeroValue74
 t46:=Tryz.underlying116
 a46:=Tryz.isAgg116
 z46:=Tryz.sizeOf116
 v46:=Tryz.zeroValue116
 t51:=Tryz.underlying222
 a51:=Tryz.isAgg222
 z51:=Tryz.sizeOf222
 v51:=Tryz.zeroValue222
 t53:=Tryz.underlying92
 a53:=Tryz.isAgg92
 z53:=Tryz.sizeOf92
 v53:=Tryz.zeroValue92
 t70:=Tryz.underlying137
 a70:=Tryz.isAgg137
 z70:=Tryz.sizeOf137
 v70:=Tryz.zeroValue137
 t72:=Tryz.underlying139
 a72:=Tryz.isAgg139
 z72:=Tryz.sizeOf139
 v72:=Tryz.zeroValue139
 t75:=Tryz.underlying141
 a75:=Tryz.isAgg141
 z75:=Tryz.sizeOf141
 v75:=Tryz.zeroValue141
 t76:=Tryz.underlying142
 a76:=Tryz.isAgg142
 z76:=Tryz.sizeOf142
 v76:=Tryz.zeroValue142
 t109:=Tryz.underlying380
 a109:=Tryz.isAgg380
 z109:=Tryz.sizeOf380
 v109:=Tryz.zeroValue380
 t127:=Tryz.underlying194
 a127:=Tryz.isAgg194
 z127:=Tryz.sizeOf194
 v127:=Tryz.zeroValue194
 t146:=Tryz.underlying412
 a146:=Tryz.isAgg412
 z146:=Tryz.sizeOf412
 v146:=Tryz.zeroValue412
 t148:=Tryz.underlying414
 a148:=Tryz.isAgg414
 z148:=Tryz.sizeOf414
 v148:=Tryz.zeroValue414
 t164:=Tryz.underlying235
 a164:=Tryz.isAgg235
 z164:=Tryz.sizeOf235
 v164:=Tryz.zeroValue235 }
end Go.Proofs
