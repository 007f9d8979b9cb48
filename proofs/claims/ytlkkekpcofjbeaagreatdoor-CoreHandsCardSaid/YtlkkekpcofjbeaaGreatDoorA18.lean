/- tlv -/
import Derived.Shelf.Strings.Repeat
import Derived.Test.YtlkkekpcofjbeaaGreatDoorProg
import Derived.Test.YtlkkekpcofjbeaaGreatDoorA04
import Derived.Test.YtlkkekpcofjbeaaGreatDoorA14
import Derived.Test.YtlkkekpcofjbeaaGreatDoorA16
import Derived.Test.YtlkkekpcofjbeaaGreatDoorA17
namespace Go.Proofs.YtlkkekpcofjbeaaGreatDoor
open Go Go.RowKit Tw
theorem hsw_copy (l:List W32)(buf:Bs)(n at_:Nat)(s:Bs)(hl:l.length=8)(hb:buf.length=64)(h:at_ + s.length<=64) :
  (hsw l buf n).take (8 + at_)++s.map u8v++(hsw l buf n).drop (8 + at_ + s.length)=hsw l (into buf at_ s) n:=by
 have h1:(l.map w32v).length=8:=by simpa using hl
 unfold hsw into
 rw [laa (l.map w32v),List.take_append,List.take_of_length_le (by omega),h1,show 8 + at_ - 8=at_ by omega,
  List.take_append_of_le_length (by simp;omega),<- List.map_take,List.drop_append,List.drop_of_length_le (l:=l.map w32v) (by omega),h1,show 8 + at_ + s.length - 8=at_ + s.length by omega,
  List.drop_append_of_le_length (by simp;omega),<- List.map_drop]
 simp [List.append_assoc]
theorem hsw_setn (l:List W32)(buf:Bs)(n n':Nat)(hl:l.length=8)(hb:buf.length=64):(hsw l buf n).set 72 (.int .i64 n')=hsw l buf n':=by
 unfold hsw
 rw [List.set_append,if_neg (by simp [hl,hb])]
 simp [hl,hb]
theorem hsh_made (x:H8)(buf:Bs)(n:Nat)(hb:buf.length=64):(hsh x buf n)[0 + 73]?=some (.bool true):=by
 have hl:x.words.length=8:=rfl
 simp [hsh,hsw,hl,hb]
theorem write_spec (w:World)(g:Nat)(M:Bs)(x:H8)(buf s:Bs)(hg:Glo w)(h0:g≠1)(h2:g≠2)(hb:w.heap[g]?=some (.cells (fl (hsh x buf M.length)).toArray 305 (0,0)))
  (hH:HS M x buf) (hlen:M.length + s.length<=4611686018427387904) :
  Ret Tryz.prog 244 [.pointer (some ⟨g,0,none⟩),sv s] w fun v w'=>v=.tuple #[]/\∃ x' buf',HS (M++s) x' buf'/\Mod g 305 (hsh x' buf' (M++s).length) w w':=by
 refine ret_enter Tryz.func244 rfl Tryz.ntmps244 rfl ?_
 have hgl:g < w.heap.size:=by
  rcases Nat.lt_or_ge g w.heap.size with h|h
  ·exact h
  ·simp [Array.getElem?_eq_none h] at hb
 have hS:=St.startM (·≠g) (fun b hb=>by omega) hb (hsh_good x.words buf M.length) (fun h=>h rfl)
 repeat (first|refine wk ?_|refine wkI ?_|intro _)
 apply wl_loadU;assumption;exact rfl;(repeat (first|exact Has.here|apply Has.there));exact hsh_units _ _ _;exact hsh_made _ _ _ hH.len;exact rfl
 repeat (first|refine wk ?_|refine wkI ?_|intro _)
 refine wc_loop (α:=Bs × Bs × H8 × Bs) (fun q=>[(0,.pointer (some ⟨g,0,none⟩)),(1,sv q.2.1)])
  (fun q w'=>q.1++q.2.1=M++s/\HS q.1 q.2.2.1 q.2.2.2/\∃ ok,St ⟨w,(·≠g),(·=g)⟩ ok [.var g 305 (hsh q.2.2.1 q.2.2.2 q.1.length)] w') (fun q=>q.2.1.length) (M,s,x,buf) ⟨rfl,rfl,trivial⟩ ⟨rfl,hH,_,hS⟩ ?_
 clear hS hH hb
 rintro⟨M1,s1,x1,b1⟩ w1 ⟨hMs,hH,ok,hS⟩
 dsimp only at hMs hH hS ⊢
 have hb1:=hH.len
 have hle:M1.length + s1.length<=4611686018427387904:=by
  have:=congrArg List.length hMs
  simp only [List.length_append] at this
  omega
 repeat (first|refine wk ?_|refine wkI ?_|intro _)
 refine wc_cond rfl (fun hne=>?_) (fun hne=>?_)
 ·repeat (first|refine wk ?_|refine wkI ?_|intro _)
  apply wl_loadU;assumption;exact rfl;(repeat (first|exact Has.here|apply Has.there));exact hsh_units _ _ _;rw [Nat.zero_add];exact hsh_n _ _ _ hb1;exact rfl
  apply wl_div;exact rfl;exact rfl;exact rfl;omega;omega;(intro c _ _;exact wrap64_id (by omega) (by omega));exact rfl
  repeat (first|refine wk ?_|refine wkI ?_|intro _)
  apply wl_sliceAA (M1.length % 64) 64;exact rfl;exact rfl;exact rfl;omega;omega;omega;omega;omega;exact rfl
  repeat (first|refine wk ?_|refine wkI ?_|intro _)
  apply wl_copyS;assumption;exact rfl;exact rfl;exact .here;exact hsh_units _ _ _
  ·simp [hsw,hb1];rw [show x1.words.length=8 from rfl];omega
  ·exact rfl
  intro w2 hS2 _
  rw [show 0 + 8 + M1.length % 64 * 1=8 + M1.length % 64 by omega,hsw_copy _ _ _ _ _ rfl hb1 (by rw [List.length_take];omega)] at hS2
  generalize hp:s1.take (64 - M1.length % 64)=p at hS2
  have hpl:p.length<=s1.length/\p.length<=64 - M1.length % 64:=by rw [<- hp,List.length_take];omega
  have hps:p++s1.drop p.length=s1:=by
   rw [<- hp,List.length_take]
   rcases Nat.le_total (64 - M1.length % 64) s1.length with h|h
   ·rw [Nat.min_eq_left h,List.take_append_drop]
   ·rw [Nat.min_eq_right h,List.take_of_length_le h,List.drop_length,List.append_nil]
  repeat (first|refine wk ?_|refine wkI ?_|intro _)
  apply wl_sliceS p.length s1.length;exact rfl;exact rfl;exact rfl;exact rfl;exact rfl;exact hpl.1;omega;exact rfl
  rw [List.take_length]
  have hbl:(into b1 (M1.length % 64) p).length=64:=by rw [into_len (by omega)];exact hb1
  repeat (first|refine wk ?_|refine wkI ?_|intro _)
  apply wl_loadU;assumption;exact rfl;(repeat (first|exact Has.here|apply Has.there));exact hsh_units _ _ _;rw [Nat.zero_add];exact hsh_n _ _ _ hbl;exact rfl
  repeat (first|refine wk ?_|refine wkI ?_|intro _)
  apply wl_storeU;assumption;exact rfl;exact rfl;(repeat (first|exact Upd.here|apply Upd.there));exact hsh_units _ _ _;exact rfl;exact good_all rfl
  ·simp [hsw,hbl];rw [show x1.words.length=8 from rfl];omega
  intro w3 hS3 _
  rw [Nat.zero_add,<- Int.natCast_add,<- lla,hsw_setn _ _ _ _ rfl hbl] at hS3
  have hp0:0 < p.length:=by
   rw [<- hp,List.length_take]
   have:0 < s1.length:=List.length_pos_iff.2 hne
   omega
  have hMp:M1++p++s1.drop p.length=M++s:=by rw [laa,hps,hMs]
  have hdr:(s1.drop p.length).length < s1.length:=by rw [List.length_drop];omega
  repeat (first|refine wk ?_|refine wkI ?_|intro _)
  refine wc_cond rfl (fun hf=>?_) (fun hf=>?_)
  ·repeat (first|refine wk ?_|refine wkI ?_|intro _)
   apply wl_callM;exact hS3;exact rfl;exact .here
   ·exact block_spec _ g x1 _ _ (St.glo hS3 hg (fun h=>h0 h.symm) (fun h=>h2 h.symm)) h0 h2 (hS3.varAt .here) hbl
   ·exact rfl
   intro v w4 _ hS4 _
   repeat (first|refine wk ?_|refine wkI ?_|intro _)
   exact we_round (M1++p,s1.drop p.length,_,into b1 (M1.length % 64) p) ⟨rfl,rfl,trivial⟩ ⟨hMp,hH.full (by omega),_,hS4⟩ hdr
  ·repeat (first|refine wk ?_|refine wkI ?_|intro _)
   exact we_round (M1++p,s1.drop p.length,x1,into b1 (M1.length % 64) p) ⟨rfl,rfl,trivial⟩ ⟨hMp,hH.part (by omega),_,hS3⟩ hdr
 ·obtain rfl:s1=[]:=by simpa using hne
  rw [List.append_nil] at hMs
  subst hMs
  repeat (first|refine wk ?_|refine wkI ?_|intro _)
  apply we_end0;exact rfl
  exact⟨rfl,x1,b1,hH,hS.outM .here⟩
end Go.Proofs.YtlkkekpcofjbeaaGreatDoor

namespace Go.Proofs
open Go.Shelf
def Tryz.laysRepeat_ren:Go.Shelf.Ren:=⟨fun|105=>276|212=>295|99=>296|165=>297|166=>234|170=>298|169=>235|263=>308|264=>309|206=>310|240=>267|241=>311|276=>290|277=>312|n=>n,fun|9=>9|3=>3|4=>4|20=>20|0=>0|46=>191|109=>320|5=>5|72=>267|76=>270|51=>252|146=>332|53=>43|148=>259|70=>265|37=>139|75=>269|127=>296|164=>313|80=>184|n=>n,fun|n=>n⟩
theorem Tryz.laysRepeat:Go.Proofs.Lays.n105 Tryz.prog Tryz.laysRepeat_ren:={
 mixed:=by kernel_rfl
 f99:=Tryz.func296.trans (congrArg some (by kernel_rfl))
 f105:=Tryz.func276.trans (congrArg some (by kernel_rfl))
 f165:=Tryz.func297.trans (congrArg some (by kernel_rfl))
 f166:=Tryz.func234.trans (congrArg some (by kernel_rfl))
 f169:=Tryz.func235.trans (congrArg some (by kernel_rfl))
 f170:=Tryz.func298.trans (congrArg some (by kernel_rfl))
 f206:=Tryz.func310.trans (congrArg some (by kernel_rfl))
 f212:=Tryz.func295.trans (congrArg some (by kernel_rfl))
 f240:=Tryz.func267.trans (congrArg some (by kernel_rfl))
 f241:=Tryz.func311.trans (congrArg some (by kernel_rfl))
 f263:=Tryz.func308.trans (congrArg some (by kernel_rfl))
 f264:=Tryz.func309.trans (congrArg some (by kernel_rfl))
 f276:=Tryz.func290.trans (congrArg some (by kernel_rfl))
 f277:=Tryz.func312.trans (congrArg some (by kernel_rfl))
 t0:=Tryz.underlying0
 a0:=Tryz.isAgg0
 z0:=Tryz.sizeOf0
 v0:=Tryz.zeroValue0
 t3:=Tryz.underlying3
 a3:=Tryz.isAgg3
 z3:=Tryz.sizeOf3
 v3:=Tryz.zeroValue3
 t4:=Tryz.underlying4
 a4:=Tryz.isAgg4
 z4:=Tryz.sizeOf4
 v4:=Tryz.zeroValue4
 t5:=Tryz.underlying5
 a5:=Tryz.isAgg5
 z5:=Tryz.sizeOf5
 v5:=Tryz.zeroValue5
 t9:=Tryz.underlying9
 a9:=Tryz.isAgg9
 z9:=Tryz.sizeOf9
 v9:=Tryz.zeroValue9
 t20:=Tryz.underlying20
 a20:=Tryz.isAgg20
 z20:=Tryz.sizeOf20
 v20:=Tryz.zeroValue20
 t37:=Tryz.underlying139
 a37:=Tryz.isAgg139
 z37:=Tryz.sizeOf139
 v37:=Tryz.zeroValue139
 t46:=Tryz.underlying191
 a46:=Tryz.isAgg191
 z46:=Tryz.sizeOf191
 v46:=Tryz.zeroValue191
 t51:=Tryz.underlying252
 a51:=Tryz.isAgg252
 z51:=Tryz.sizeOf252
 v51:=Tryz.zeroValue252
 t53:=Tryz.underlying43
 a53:=Tryz.isAgg43
 z53:=Tryz.sizeOf43
 v53:=Tryz.zeroValue43
 t70:=Tryz.underlying265
 a70:=Tryz.isAgg265
 z70:=Tryz.sizeOf265
 v70:=Tryz.zeroValue265
 t72:=Tryz.underlying267
 a72:=Tryz.isAgg267
 z72:=Tryz.sizeOf267
 v72:=Tryz.zeroValue267
 t75:=Tryz.underlying269
 a75:=Tryz.isAgg269
 z75:=Tryz.sizeOf269
 v75:=Tryz.zeroValue269
 t76:=Tryz.underlying270
 a76:=Tryz.isAgg270
 z76:=Tryz.sizeOf270
 v76:=Tryz.zeroValue270
 t109:=Tryz.underlying320
 a109:=Tryz.isAgg320
 z109:=Tryz.sizeOf320
 v109:=Tryz.zeroValue320
 t127:=Tryz.underlying296
 a127:=Tryz.isAgg296
 z127:=Tryz.sizeOf296
 v127:=Tryz.zeroValue296
 t146:=Tryz.underlying332
 a146:=Tryz.isAgg332
 z146:=Tryz.sizeOf332
 v146:=Tryz.zeroValue332
 t148:=Tryz.underlying259
 a148:=Tryz.isAgg259
 z148:=Tryz.sizeOf259
 v148:=Tryz.zeroValue259
 t164:=Tryz.underlying313
 a164:=Tryz.isAgg313
 z164:=Tryz.sizeOf313
 v164:=Tryz.zeroValue313 }
end Go.Proofs

namespace Go.Proofs
open Go.Shelf Go.RowKit
theorem Tryz.extraRepeat:Builder.Extra Tryz.prog Tryz.laysRepeat_ren where
 sizeBuilder:=by kernel_rfl
 liesBuilder:=by kernel_rfl
 t5:=Tryz.laysRepeat.t5
 a5:=Tryz.laysRepeat.a5
 z5:=Tryz.laysRepeat.z5
 v5:=Tryz.laysRepeat.v5
 infoByte:=by kernel_rfl
 cellsByte:=by kernel_rfl
 sizeByte:=by kernel_rfl
 neB5:=by decide
theorem Tryz.fRepeat:Tryz.laysRepeat_ren.f 105=276:=by kernel_rfl
end Go.Proofs
namespace Go.Proofs.YtlkkekpcofjbeaaGreatDoor
open Go Go.RowKit Tw
theorem repeatL_eq (l:Bs):∀ c,Lib.repeatL l c=(List.replicate c l).flatten
 | 0=>rfl
 | c + 1=>by rw [Lib.repeatL,repeatL_eq l c,List.replicate_succ,List.flatten_cons]
theorem repeat_spec (s:Bs)(c:Nat)(hc:s.length * c<=140737488355328)(hc2:c<=9223372036854775807)(w:World):Ret Tryz.prog 276 [sv s,.int .i64 c] w fun v w'=>v=sv (List.replicate c s).flatten/\Ext w w':=by
 have h:=Any.strings_Repeat Tryz.laysRepeat Tryz.extraRepeat ⟨s.toArray⟩ c w hc2 hc
 rw [Tryz.fRepeat] at h
 unfold Ret
 refine Calls.mono h fun e w' ⟨h1,h2⟩=>⟨_,h1,?_,h2.os,h2.tape,h2.output,h2.size,h2.block⟩
 rw [<- repeatL_eq]
end Go.Proofs.YtlkkekpcofjbeaaGreatDoor

namespace Go.Proofs.YtlkkekpcofjbeaaGreatDoor
open Go Go.RowKit Tw
theorem hsw_len (l:List W32)(buf:Bs)(n:Nat)(hl:l.length=8)(hb:buf.length=64):(hsw l buf n).length=74:=by simp [hsw,hl,hb]
def lenB (N i:Nat):Bs:=zeros (8 - i)++(be64 N).drop (8 - i)
theorem lenB_len (N i:Nat)(_h:i<=8):(lenB N i).length=8:=by
 have:(be64 N).length=8:=rfl
 simp [lenB,zeros,this]
theorem lenB_next (N i:Nat)(h:i < 8):(lenB N i).set (7 - i) (UInt8.ofNat (N / 2 ^ (8 * i)))=lenB N (i + 1):=by
 have h8:(be64 N).length=8:=rfl
 have hg:=be64_get N i h
 have e1:(be64 N).drop (8 - (i + 1))=UInt8.ofNat (N / 2 ^ (8 * i))::(be64 N).drop (8 - i):=by
  rw [show 8 - (i + 1)=7 - i by omega,List.drop_eq_getElem_cons (by omega),show 7 - i + 1=8 - i by omega]
  congr 1
  rw [List.getElem?_eq_getElem (by omega)] at hg
  exact Option.some.inj hg
 unfold lenB
 rw [e1,zeros,zeros,show 8 - i=(8 - (i + 1)) + 1 by omega,List.replicate_succ',List.append_assoc,List.set_append,if_neg (by simp)]
 simp only [List.length_replicate]
 rw [show 7 - i - (8 - (i + 1))=0 by omega]
 rfl
theorem fill_next (B:Bs)(n i:Nat)(b:UInt8)(hB:B.length=n)(hi:i < n)(h:B[i]?=some b):(B.take i++zeros (n - i)).set i b=B.take (i + 1)++zeros (n - (i + 1)):=by
 rw [List.set_append,if_neg (by simp;omega),List.take_add_one,h,show n - i=(n - (i + 1)) + 1 by omega,zeros,List.replicate_succ]
 rw [show i - (B.take i).length=0 by simp;omega]
 simp [zeros]
theorem sum_spec (w:World)(g:Nat)(M:Bs)(x:H8)(buf:Bs)(hg:Glo w)(hb:w.heap[g]?=some (.cells (fl (hsh x buf M.length)).toArray 305 (0,0)))
  (hH:HS M x buf) (hlen:M.length<=1152921504606846976) :
  Ret Tryz.prog 245 [.pointer (some ⟨g,0,none⟩)] w fun v w'=>v=hv (shaH M)/\Ext w w':=by
 refine ret_enter Tryz.func245 rfl Tryz.ntmps245 rfl ?_
 have hS:=St.start w (fun _=>True) (fun _ _=>trivial)
 have hr:Rg w g 0 (hsh x buf M.length):=by
  have:=Rg.of_block hb
  rwa [(hsh_units _ _ _).fl] at this
 repeat (first|refine wk ?_|refine wkI ?_|intro _)
 apply wl_call;exact rfl;exact new_spec _ (St.glo (by assumption) hg (fun h=>h) (fun h=>h));exact rfl
 rintro _ w2 ⟨g2,rfl,hN⟩
 rename_i g1 ok1 w1 hS1 _ _
 obtain⟨hS2,_⟩:=hS1.newOf hN
 clear hS hS1
 repeat (first|refine wk ?_|refine wkI ?_|intro _)
 apply wl_loadG;exact rfl;exact hS2.keepRg hr (fun h=>h);exact hsh_units _ _ _;exact hsh_made _ _ _ hH.len;exact rfl
 repeat (first|refine wk ?_|refine wkI ?_|intro _)
 apply wl_loadD (v:=st (hsh x buf M.length));exact rfl
 ·simp only [st,Value.cells,(hsh_units _ _ _).fl];exact hS2.keepRg hr (fun h=>h)
 ·show (fl (hsh x buf M.length)).toArray.size=74
  rw [(hsh_units _ _ _).fl]
  exact hsw_len _ _ _ rfl hH.len
 ·exact rfl
 ·exact rfl
 repeat (first|refine wk ?_|refine wkI ?_|intro _)
 apply wl_storeUA;exact hS2;exact rfl;exact rfl;exact .here;exact hsh_units _ _ _;exact hsh_units _ _ _;exact hsh_good _ _ _
 ·exact hsw_len _ _ _ rfl hH.len
 ·rw [hsw_len _ _ _ rfl rfl];decide
 intro w3 hS3 _
 rw [List.take_zero,List.nil_append,List.drop_of_length_le (by rw [hsw_len _ _ _ rfl rfl];decide),List.append_nil] at hS3
 clear hS2
 repeat (first|refine wk ?_|refine wkI ?_|intro _)
 rename_i g3 ok3 w4 hS4 _ _
 refine wc_loop (α:=Nat) (fun i=>[(0,.pointer (some ⟨g,0,none⟩)),(2,.pointer (some ⟨g1,0,none⟩)),(3,.pointer (some ⟨g2,0,none⟩)),(4,.pointer (some ⟨g3,0,none⟩)),(23,.int .i64 (i:Int))])
  (fun i w'=>i<=8/\∃ ok,St ⟨w,fun _=>True,fun _=>False⟩ ok [.var g3 306 ((lenB (8 * M.length) i).map u8v),.var g2 305 (hsh x buf M.length),.var g1 40 [hv zeroH]] w') (fun i=>8 - i) 0 ⟨rfl,rfl,rfl,rfl,rfl,trivial⟩ ⟨by omega,ok3,hS4⟩ ?_
 clear hS3 hS4
 intro i w5 ⟨hi,ok,hS⟩
 repeat (first|refine wk ?_|refine wkI ?_|intro _)
 refine wc_cond rfl (fun hlt=>?_) (fun hlt=>?_)
 ·repeat (first|refine wk ?_|refine wkI ?_|intro _)
  apply wl_loadU;assumption;exact rfl;(repeat (first|exact Has.here|apply Has.there));exact hsh_units _ _ _;rw [Nat.zero_add];exact hsh_n _ _ _ hH.len;exact rfl
  repeat (first|refine wk ?_|refine wkI ?_|intro _)
  apply wl_as 33 rfl (show Value.int .u64 _=.int .u64 ((8 * M.length:Nat):Int) by
   rw [IntKind.wrap_u64,IntKind.wrap_u64];congr 1;omega)
  apply wl_shr (8 * i) (2 ^ (8 * i));exact rfl;exact rfl;omega
  ·rw [show min (8 * i) IntKind.u64.bits=8 * i by show min (8 * i) 64=8 * i;omega]
  ·exact rfl
  repeat (first|refine wk ?_|refine wkI ?_|intro _)
  apply wl_idxA (7 - i);exact rfl;exact rfl;omega;omega;exact rfl
  apply wl_as 37 rfl (show _=u8v (UInt8.ofNat (8 * M.length / 2 ^ (8 * i))) by
   have h:=u8w (8 * M.length / 2 ^ (8 * i))
   simp only [Int.natCast_ediv,Int.natCast_pow] at h
   exact h)
  apply wl_storeU;assumption;exact rfl;exact rfl;(repeat (first|exact Upd.here|apply Upd.there));exact Units.map u8v_unit _;exact rfl;exact u8v_good _
  ·rw [llm,lenB_len _ _ hi];omega
  intro w6 hS6 _
  rw [<- List.map_set,show 0 + (7 - i) * 1=7 - i by omega,lenB_next _ _ (by omega)] at hS6
  repeat (first|refine wk ?_|refine wkI ?_|intro _)
  exact we_round (i + 1) ⟨rfl,rfl,rfl,rfl,rfl,trivial⟩ ⟨by omega,_,hS6⟩ (by omega)
 ·obtain rfl:i=8:=by omega
  rw [show lenB (8 * M.length) 8=be64 (8 * M.length) from rfl] at hS
  repeat (first|refine wk ?_|refine wkI ?_|intro _)
  apply wl_loadU;assumption;exact rfl;(repeat (first|exact Has.here|apply Has.there));exact hsh_units _ _ _;rw [Nat.zero_add];exact hsh_n _ _ _ hH.len;exact rfl
  apply wl_div;exact rfl;exact rfl;exact rfl;omega;omega;(intro c _ _;exact wrap64_id (by omega) (by omega));exact rfl
  repeat (first|refine wk ?_|refine wkI ?_|intro _)
  apply wl_div;exact rfl;exact rfl;exact rfl;omega;omega;(intro c _ _;exact wrap64_id (by omega) (by omega));exact rfl
  repeat (first|refine wk ?_|refine wkI ?_|intro _)
  refine wc_as 6 rfl (show _=Value.int .i64 (((119 - M.length % 64) % 64:Nat):Int) by congr 1;omega) ?_
  generalize hz:(119 - M.length % 64) % 64=z
  apply wc_draw 9 [48,49,50,51,52,53,54,55,56] [] [.eqv ?_,.is (fun v ok w=>Sl ok w 5 1 v [u8v 128]),.eqv ?_,.eqv ?_,.eqv ?_,.eqv ?_,.eqv ?_,.eqv ?_,.eqv ?_] mixed;assumption;kernel_rfl;exact rfl;exact rfl;exact rfl
  apply obls_cons
  intro _ _ _ _
  repeat (first|(apply given_eqv;exact rfl;exact rfl;exact rfl)|(apply given_nil;exact rfl))
  repeat (first|refine wk ?_|refine wkI ?_|intro _)
  first|(apply we_gotE;assumption;exact rfl)|(apply we_gotX;assumption;assumption;exact rfl)
  apply obls_cons
  intro _ _ _ _
  repeat (first|(apply given_eqv;exact rfl;exact rfl;exact rfl)|(apply given_nil;exact rfl))
  repeat (first|refine wk ?_|refine wkI ?_|intro _)
  ·apply we_got;exact rfl;assumption;assumption;show Sl _ _ _ _ _ _;assumption
  ·apply obls_cons
   intro okA wA hSA hEA
   apply given_is;exact rfl;exact rfl;exact rfl
   intro v hv
   apply given_nil;exact rfl
   have hsl:=hv.sl
   obtain⟨A,c,rfl⟩:=hsl.shape
   apply wl_strD (l:=[128]);exact rfl;exact hsl;exact rfl
   repeat (first|refine wk ?_|refine wkI ?_|intro _)
   first|(apply we_gotE;assumption;exact rfl)|(apply we_gotX;assumption;assumption;exact rfl)
   apply obls_cons
   intro _ _ _ _
   repeat (first|(apply given_eqv;exact rfl;exact rfl;exact rfl)|(apply given_nil;exact rfl))
   repeat (first|refine wk ?_|refine wkI ?_|intro _)
   first|(apply we_gotE;assumption;exact rfl)|(apply we_gotX;assumption;assumption;exact rfl)
   apply obls_cons
   intro _ _ _ _
   repeat (first|(apply given_eqv;exact rfl;exact rfl;exact rfl)|(apply given_nil;exact rfl))
   apply wl_callE;assumption;exact rfl
   exact repeat_spec [0] z (by simp;omega) (by omega) _
   exact rfl
   rintro _ _ rfl _ _
   repeat (first|refine wk ?_|refine wkI ?_|intro _)
   first|(apply we_gotE;assumption;exact rfl)|(apply we_gotX;assumption;assumption;exact rfl)
   apply obls_cons
   intro _ _ _ _
   repeat (first|(apply given_eqv;exact rfl;exact rfl;exact rfl)|(apply given_nil;exact rfl))
   apply wl_cat;exact rfl;exact rfl;simp;omega;exact rfl
   repeat (first|refine wk ?_|refine wkI ?_|intro _)
   first|(apply we_gotE;assumption;exact rfl)|(apply we_gotX;assumption;assumption;exact rfl)
   apply obls_cons
   intro _ _ _ _
   repeat (first|(apply given_eqv;exact rfl;exact rfl;exact rfl)|(apply given_nil;exact rfl))
   repeat (first|refine wk ?_|refine wkI ?_|intro _)
   first|(apply we_gotE;assumption;exact rfl)|(apply we_gotX;assumption;assumption;exact rfl)
   apply obls_cons
   intro _ _ _ _
   repeat (first|(apply given_eqv;exact rfl;exact rfl;exact rfl)|(apply given_nil;exact rfl))
   apply wl_strA;assumption;exact rfl;(repeat (first|exact Has.here|apply Has.there))
   ·rw [fl_u8v];exact bytesL_u8v _
   ·exact rfl
   ·exact rfl
   repeat (first|refine wk ?_|refine wkI ?_|intro _)
   first|(apply we_gotE;assumption;exact rfl)|(apply we_gotX;assumption;assumption;exact rfl)
   apply obls_cons
   intro _ _ _ _
   repeat (first|(apply given_eqv;exact rfl;exact rfl;exact rfl)|(apply given_nil;exact rfl))
   apply wl_cat;exact rfl;exact rfl;simp [be64];omega;exact rfl
   repeat (first|refine wk ?_|refine wkI ?_|intro _)
   first|(apply we_gotE;assumption;exact rfl)|(apply we_gotX;assumption;assumption;exact rfl)
   apply obls_nil
   intro okB wB hSB hEB
   repeat (first|(apply given_eqv;exact rfl;exact rfl;exact rfl)|(apply given_nil;exact rfl))
   apply given_is;exact rfl;exact rfl;exact rfl
   intro _ _
   repeat (first|(apply given_eqv;exact rfl;exact rfl;exact rfl)|(apply given_nil;exact rfl))
   have hg2:w.heap.size<=g2:=by
    rcases (hSB.own (.var g2 305 (hsh x buf M.length)) (by simp) g2 rfl).2.2 with h|h
    ·exact h
    ·exact h.elim
   have hn0:g2≠1:=fun h=>by have:=hg.begin.lt;omega
   have hn2:g2≠2:=fun h=>by have:=hg.factors.lt;omega
   have hpad:M++([128]++(List.replicate z [(0:UInt8)]).flatten++be64 (8 * M.length))=pad M:=by
    have:(List.replicate z [(0:UInt8)]).flatten=zeros z:=by simp [zeros]
    rw [this]
    simp [pad,hz]
   apply wl_call;exact rfl;exact write_spec _ g2 M x buf _ (St.glo hSB hg (fun h=>h) (fun h=>h)) hn0 hn2 (hSB.varAt (.there .here)) hH (by simp [be64];omega);exact rfl
   rintro _ w6 ⟨rfl,x',buf',hH',hM⟩
   obtain⟨hS6,_⟩:=hSB.mod (.there .here) hM
   rw [hpad] at hH' hS6
   clear hS hSB hM
   repeat (first|refine wk ?_|refine wkI ?_|intro _)
   rename_i g5 ok5 w7 hS7 _ _
   replace hS7:=hS7.reseg (vs':=(zeros 32).map u8v) .here (by rw [hv_fl,fl_u8v];rfl)
   refine wc_loop (α:=Nat) (fun i=>[(2,.pointer (some ⟨g1,0,none⟩)),(3,.pointer (some ⟨g2,0,none⟩)),(7,.pointer (some ⟨g5,0,none⟩)),(58,.int .i64 (i:Int))])
    (fun i w'=>i<=32/\∃ ok,St ⟨w,fun _=>True,fun _=>False⟩ ok [.var g5 40 ((x'.bytes.take i++zeros (32 - i)).map u8v),.var g3 306 ((be64 (8 * M.length)).map u8v),.var g2 305 (hsh x' buf' (pad M).length),.var g1 40 [hv zeroH]] w') (fun i=>32 - i) 0 ⟨rfl,rfl,rfl,rfl,trivial⟩ ⟨by omega,ok5,hS7⟩ ?_
   clear hS6 hS7
   intro i w8 ⟨hi,ok,hS⟩
   repeat (first|refine wk ?_|refine wkI ?_|intro _)
   refine wc_cond rfl (fun hlt=>?_) (fun hlt=>?_)
   ·repeat (first|refine wk ?_|refine wkI ?_|intro _)
    apply wl_div;exact rfl;exact rfl;exact rfl;omega;omega;(intro c _ _;exact wrap64_id (by omega) (by omega));exact rfl
    repeat (first|refine wk ?_|refine wkI ?_|intro _)
    apply wl_idxA (i / 4);exact rfl;exact rfl;omega;omega;exact rfl
    apply wl_loadU;assumption;exact rfl;(repeat (first|exact Has.here|apply Has.there));exact hsh_units _ _ _;rw [show 0 + 0 + i / 4 * 1=i / 4 by omega];exact hsh_x _ _ _ _ (by omega);exact rfl
    repeat (first|refine wk ?_|refine wkI ?_|intro _)
    apply wl_div;exact rfl;exact rfl;exact rfl;omega;omega;(intro c _ _;exact wrap64_id (by omega) (by omega));exact rfl
    repeat (first|refine wk ?_|refine wkI ?_|intro _)
    apply wl_shr32 (24 - 8 * (i % 4));exact rfl;exact rfl;omega;omega;exact rfl
    apply wl_convI';exact rfl;exact rfl
    apply wl_as 74 rfl (show _=u8v (UInt8.ofNat ((x'.words.getD (i / 4) 0).toNat / 2 ^ (24 - 8 * (i % 4)))) by
     rw [<- u8w,BitVec.toNat_ushiftRight,Nat.shiftRight_eq_div_pow])
    apply wl_idxA i;exact rfl;exact rfl;exact rfl;omega;exact rfl
    apply wl_storeU;assumption;exact rfl;exact rfl;(repeat (first|exact Upd.here|apply Upd.there));exact Units.map u8v_unit _;exact rfl;exact u8v_good _
    ·simp [zeros,H8.bytes_len];omega
    intro w9 hS9 _
    rw [<- List.map_set,show 0 + i * 1=i by omega,fill_next _ 32 i _ rfl (by omega) (bytes_get x' i (by omega))] at hS9
    repeat (first|refine wk ?_|refine wkI ?_|intro _)
    exact we_round (i + 1) ⟨rfl,rfl,rfl,rfl,trivial⟩ ⟨by omega,_,hS9⟩ (by omega)
   ·obtain rfl:i=32:=by omega
    have hb:=sha_of hH'
    replace hS:=hS.reseg (vs':=[hv (shaH M)]) .here (by
     rw [hv_fl,fl_u8v]
     show (x'.bytes.take 32++zeros 0).map u8v=(sha M).map u8v
     rw [<- hb]
     rfl)
    repeat (first|refine wk ?_|refine wkI ?_|intro _)
    (apply we_ret1;exact rfl;apply res_cell;assumption;exact rfl;(repeat (first|exact Has.here|apply Has.there));exact rfl)
    exact⟨rfl,St.out (by assumption)⟩
theorem of_spec (w:World)(l:List Bs)(v:Value)(ok0:Nat->Prop)(hg:Glo w)(hsl:Sl ok0 w 9 1 v (l.map sv))(hlen:l.flatten.length<=1152921504606846976) :
  Ret Tryz.prog 201 [v] w fun v w'=>v=hv (shaH l.flatten)/\Ext w w':=by
 refine ret_enter Tryz.func201 rfl Tryz.ntmps201 rfl ?_
 have hS:=St.start w (fun _=>True) (fun _ _=>trivial)
 obtain⟨A,c,rfl,_⟩:=hsl.form
 have hmx:=hsl.cap
 simp only [maxLen] at hmx
 repeat (first|refine wk ?_|refine wkI ?_|intro _)
 apply wl_call;exact rfl;exact new_spec _ (St.glo (by assumption) hg (fun h=>h) (fun h=>h));exact rfl
 rintro _ w2 ⟨g2,rfl,hN⟩
 rename_i g1 ok1 w1 hS1 _ _
 obtain⟨hS2,_⟩:=hS1.newOf hN
 clear hS hS1
 repeat (first|refine wk ?_|refine wkI ?_|intro _)
 refine wc_loop (α:=Nat × H8 × Bs) (fun q=>[(2,.pointer (some ⟨g1,0,none⟩)),(3,.pointer (some ⟨g2,0,none⟩)),(7,.slice A l.length c),(8,.int .i64 (l.length:Nat)),(9,.int .i64 (q.1:Int))])
  (fun q w'=>q.1<=l.length/\HS (l.take q.1).flatten q.2.1 q.2.2/\∃ ok,St ⟨w,fun _=>True,fun _=>False⟩ ok [.var g2 305 (hsh q.2.1 q.2.2 (l.take q.1).flatten.length),.var g1 40 [hv zeroH]] w') (fun q=>l.length - q.1) (0,h0,zeros 64) ⟨rfl,rfl,rfl,rfl,rfl,trivial⟩ ⟨by omega,HS.nil,_,hS2⟩ ?_
 clear hS2
 rintro⟨i,x,b⟩ w3 ⟨hi,hH,ok,hS⟩
 dsimp only at hi hH hS ⊢
 have hg2:w.heap.size<=g2:=by
  rcases (hS.own (.var g2 305 (hsh x b (l.take i).flatten.length)) (by simp) g2 rfl).2.2 with h|h
  ·exact h
  ·exact h.elim
 have hn0:g2≠1:=fun h=>by have:=hg.begin.lt;omega
 have hn2:g2≠2:=fun h=>by have:=hg.factors.lt;omega
 repeat (first|refine wk ?_|refine wkI ?_|intro _)
 refine wc_cond rfl (fun hlt=>?_) (fun hlt=>?_)
 ·have hlt:i < l.length:=by omega
  repeat (first|refine wk ?_|refine wkI ?_|intro _)
  apply wl_idxD i (hlt:=hlt);exact rfl;exact rfl;exact hS.keepSl hsl (fun _ _ h=>h);exact rfl;exact rfl
  intro b0 o0 _ hr0
  repeat (first|refine wk ?_|refine wkI ?_|intro _)
  have htk:(l.take (i + 1)).flatten=(l.take i).flatten++l[i]:=by
   rw [List.take_add_one,List.getElem?_eq_getElem hlt,Option.toList_some,List.flatten_append]
   simp only [List.flatten_cons,List.flatten_nil,List.append_nil]
  have hle:(l.take (i + 1)).flatten.length<=l.flatten.length:=by
   have h:=congrArg (fun q=>(List.flatten q).length) (List.take_append_drop (i + 1) l)
   simp only [List.flatten_append,List.length_append] at h
   omega
  apply wl_call;exact rfl;exact write_spec _ g2 _ _ _ l[i] (St.glo hS hg (fun h=>h) (fun h=>h)) hn0 hn2 (hS.varAt .here) hH (by rw [htk,lla] at hle;omega);exact rfl
  rintro _ w6 ⟨rfl,x',b',hH',hM⟩
  obtain⟨hS6,_⟩:=hS.mod .here hM
  rw [<- htk] at hH' hS6
  repeat (first|refine wk ?_|refine wkI ?_|intro _)
  exact we_round (i + 1,x',b') ⟨rfl,rfl,rfl,rfl,rfl,trivial⟩ ⟨hlt,hH',_,hS6⟩ (by simp only;omega)
 ·obtain rfl:i=l.length:=by omega
  rw [List.take_length] at hS hH
  repeat (first|refine wk ?_|refine wkI ?_|intro _)
  apply wl_callE;assumption;exact rfl
  exact sum_spec _ g2 _ _ _ (St.glo hS hg (fun h=>h) (fun h=>h)) (hS.varAt .here) hH hlen
  exact rfl
  rintro _ _ rfl _ _
  repeat (first|refine wk ?_|refine wkI ?_|intro _)
  (apply we_ret1;exact rfl;apply res_cell;assumption;exact rfl;(repeat (first|exact Has.here|apply Has.there));exact rfl)
  exact⟨rfl,St.out (by assumption)⟩
theorem htext_spec (w:World)(h:Hsh):Ret Tryz.prog 200 [hv h] w fun v w'=>v=sv h.l/\Ext w w':=by
 refine ret_enter Tryz.func200 rfl Tryz.ntmps200 rfl ?_
 have hS:=St.start w (fun _=>True) (fun _ _=>trivial)
 repeat (first|refine wk ?_|refine wkI ?_|intro _)
 apply wl_strA;assumption;exact rfl;(repeat (first|exact Has.here|apply Has.there))
 ·rw [hv_fl];exact bytesL_u8v _
 ·exact h.len
 ·exact rfl
 repeat (first|refine wk ?_|refine wkI ?_|intro _)
 (apply we_ret1;exact rfl;apply res_tmp;exact rfl)
 exact⟨rfl,St.out (by assumption)⟩
end Go.Proofs.YtlkkekpcofjbeaaGreatDoor

namespace Go.Proofs.YtlkkekpcofjbeaaGreatDoor
open Go Go.RowKit Tw
theorem heads_spec (c:UInt8)(n:Nat)(w:World):Ret Tryz.prog 157 [u8v c,.int .i64 n] w fun v w'=>v=st [u8v c,u8v (UInt8.ofNat (n / 65536)),u8v (UInt8.ofNat (n / 256)),u8v (UInt8.ofNat n)]/\Ext w w':=by
 refine ret_enter Tryz.func157 rfl Tryz.ntmps157 rfl ?_
 have hS:=St.start w (fun _=>True) (fun _ _=>trivial)
 repeat (first|refine wk ?_|refine wkI ?_|intro _)
 (apply we_ret1;exact rfl;apply res_cell;assumption;exact rfl;(repeat (first|exact Has.here|apply Has.there));exact rfl)
 refine⟨?_,St.out (by assumption)⟩
 have e1:=u8w (n / 65536)
 have e2:=u8w (n / 256)
 have e3:=u8w n
 simp only [Int.natCast_ediv] at e1 e2
 rw [<- e1,<- e2,<- e3]
 rfl
theorem text_spec (c:UInt8)(s:Bs)(w:World):Ret Tryz.prog 97 [u8v c,sv s] w fun v w'=>v=sv (tlvText c s)/\Ext w w':=by
 refine ret_enter Tryz.func97 rfl Tryz.ntmps97 rfl ?_
 have hS:=St.start w (fun _=>True) (fun _ _=>trivial)
 repeat (first|refine wk ?_|refine wkI ?_|intro _)
 apply wl_min;exact rfl;exact rfl;exact rfl
 refine wl_sliceS 0 (min s.length 16777215) rfl rfl rfl rfl (by omega) (by omega) (by omega) rfl ?_
 repeat (first|refine wk ?_|refine wkI ?_|intro _)
 apply wl_callE;assumption;exact rfl;apply heads_spec c _;exact rfl
 intro v w1 hv _ _
 subst hv
 repeat (first|refine wk ?_|refine wkI ?_|intro _)
 apply wl_strA;assumption;exact rfl;(repeat (first|exact Has.here|apply Has.there));exact bytesL_u8v [_,_,_,_];exact rfl;exact rfl
 apply wl_move;exact rfl;exact rfl
 apply wl_cat;exact rfl;exact rfl;simp;omega;exact rfl
 repeat (first|refine wk ?_|refine wkI ?_|intro _)
 (apply we_ret1;exact rfl;apply res_tmp;exact rfl)
 refine⟨?_,St.out (by assumption)⟩
 have e1:(s.take (min s.length 16777215)).drop 0=s.take bodyLen:=by
  unfold bodyLen
  rw [List.drop_zero]
  rcases Nat.le_total s.length 16777215 with h|h
  ·rw [Nat.min_eq_left h,List.take_length,List.take_of_length_le h]
  ·rw [Nat.min_eq_right h]
 rw [e1]
 rfl
theorem digitsF_more:∀ (f n:Nat),n < 256 ^ f->digitsF (f + 1) n=digitsF f n
 | 0,n,h=>by
  have:n=0:=by simpa using h
  subst this
  rfl
 | f + 1,n,h=>by
  have h1:=digitsF_more f (n / 256) (by rw [Nat.pow_succ] at h;omega)
  show (if n=0 then [] else digitsF (f + 1) (n / 256)++[UInt8.ofNat n])=if n=0 then [] else digitsF f (n / 256)++[UInt8.ofNat n]
  rw [h1]
theorem digitsF_step {x:Nat}(h:x < 256 ^ 8):digitsF 8 x=if x=0 then [] else digitsF 8 (x / 256)++[UInt8.ofNat x]:=by
 have h1:=digitsF_more 7 (x / 256) (by omega)
 show (if x=0 then [] else digitsF 7 (x / 256)++[UInt8.ofNat x])=_
 rw [<- h1]
theorem digitsF_some {x:Nat}(h:x < 256 ^ 8):0 < (digitsF 8 x).length↔x≠0:=by
 rw [digitsF_step h]
 by_cases h0:x=0 <;> simp [h0]
theorem digits_spec (n:Nat)(hn:n < 256 ^ 8)(w:World):Ret Tryz.prog 266 [.int .u64 n] w fun v w'=>v=sv (digits n)/\Ext w w':=by
 refine ret_enter Tryz.func266 rfl Tryz.ntmps266 rfl ?_
 have hS:=(St.start w (fun _=>True) (fun _ _=>trivial)).nilRow 5 1
 repeat (first|refine wk ?_|refine wkI ?_|intro _)
 refine wc_loop (α:=Nat × Value × Bs) (fun x=>[(0,.int .u64 n),(3,x.2.1),(4,.int .i64 ((x.1:Int) * 8 - 8))])
  (fun x w'=>x.1<=8/\x.2.2.length + x.1<=8/\x.2.2=digitsF 8 (n / 256 ^ x.1)/\∃ ok,St ⟨w,fun _=>True,fun _=>False⟩ ok [.row x.2.1 5 1 (x.2.2.map u8v)] w')
  (fun x=>x.1) (8,.slice none 0 0,[]) ⟨rfl,rfl,rfl,trivial⟩ ?_ ?_
 ·exact⟨Nat.le_refl _,Nat.le_refl _,by rw [Nat.div_eq_of_lt hn];rfl,_,hS⟩
 ·rintro⟨r,v,l⟩ w1 ⟨h1,h2,h3,ok,hS⟩
  dsimp only at h1 h2 h3 hS ⊢
  repeat (first|refine wk ?_|refine wkI ?_|intro _)
  refine wc_cond rfl (fun hr=>?_) (fun hr=>?_)
  ·obtain⟨r,rfl⟩:∃ q,r=q + 1:=⟨r - 1,by omega⟩
   obtain⟨A,c,rfl⟩:=(hS.rowSl 0 rfl).shape
   repeat (first|refine wk ?_|refine wkI ?_|intro _)
   refine wl_shr (8 * r) (256 ^ r) rfl rfl (by omega) ?_ rfl ?_
   ·rw [show min (8 * r) IntKind.u64.bits=8 * r by show min (8 * r) 64=8 * r;omega,Int.pow_mul]
    rfl
   apply wl_convI';exact rfl;exact rfl
   apply wl_assign;exact rfl;exact rfl
   apply wl_as 5 rfl (by have h:=u8w (n / 256 ^ r);simp only [Int.natCast_ediv,Int.natCast_pow] at h;exact h)
   generalize hx:n / 256 ^ r=x at *
   have h3':l=digitsF 8 (x / 256):=by rw [h3,<- hx,Nat.div_div_eq_div_mul,Nat.pow_succ]
   have hx8:x < 256 ^ 8:=by rw [<- hx];exact Nat.lt_of_le_of_lt (Nat.div_le_self _ _) hn
   repeat (first|refine wk ?_|refine wkI ?_|intro _)
   have hmod:(UInt8.ofNat x).toNat=x % 256:=by simp
   have hst:=digitsF_step hx8
   have hsm:=digitsF_some (x:=x / 256) (by omega)
   refine wl_guard 16 rfl ?_ ?_
   ·intro hz
    have hz:x % 256=0:=by
     rw [hmod] at hz
     have:=of_decide_eq_false hz
     omega
    repeat (first|refine wk ?_|refine wkI ?_|intro _)
    refine wc_cond rfl (fun hl=>?_) (fun hl=>?_)
    ·have hl:0 < l.length:=by simpa using hl
     rw [<- h3'] at hsm hst
     have hx0:x≠0:=by have:=hsm.1 hl;omega
     repeat (first|refine wk ?_|refine wkI ?_|intro _)
     refine wl_append 0 (by assumption) rfl rfl rfl (by assumption) rfl rfl rfl (by simp;omega) (by simp [maxLen];omega) ?_
     intro v' ok' w' hS' _
     repeat (first|refine wk ?_|refine wkI ?_|intro _)
     refine we_round (r,v',l++[UInt8.ofNat x]) ⟨rfl,rfl,?_,trivial⟩ ⟨by omega,by simp;omega,?_,ok',by simpa using hS'⟩ (Nat.lt_succ_self r)
     ·show some (Value.int .i64 _)=some (Value.int .i64 _)
      congr 2
      omega
     ·show l++[UInt8.ofNat x]=digitsF 8 (n / 256 ^ r)
      rw [hx,hst,if_neg hx0]
    ·have hl:¬ 0 < l.length:=by simpa using hl
     rw [<- h3'] at hsm hst
     have hx0:x=0:=by have:=mt hsm.2 hl;omega
     repeat (first|refine wk ?_|refine wkI ?_|intro _)
     refine we_round (r,_,l) ⟨rfl,rfl,?_,trivial⟩ ⟨Nat.le_of_succ_le h1,Nat.le_of_succ_le h2,?_,ok,hS⟩ (Nat.lt_succ_self r)
     ·show some (Value.int .i64 _)=some (Value.int .i64 _)
      congr 2
      omega
     ·show l=digitsF 8 (n / 256 ^ r)
      rw [hx,hst,if_pos hx0]
      exact List.eq_nil_of_length_eq_zero (by omega)
   ·intro hz
    have hz:x % 256≠0:=by
     rw [hmod] at hz
     have:=of_decide_eq_true hz
     omega
    have hx0:x≠0:=by omega
    repeat (first|refine wk ?_|refine wkI ?_|intro _)
    refine wl_append 0 (by assumption) rfl rfl rfl (by assumption) rfl rfl rfl (by simp;omega) (by simp [maxLen];omega) ?_
    intro v' ok' w' hS' _
    repeat (first|refine wk ?_|refine wkI ?_|intro _)
    refine we_round (r,v',l++[UInt8.ofNat x]) ⟨rfl,rfl,?_,trivial⟩ ⟨by omega,by simp;omega,?_,ok',by simpa using hS'⟩ (Nat.lt_succ_self r)
    ·show some (Value.int .i64 _)=some (Value.int .i64 _)
     congr 2
     omega
    ·show l++[UInt8.ofNat x]=digitsF 8 (n / 256 ^ r)
     rw [hx,hst,if_neg hx0,<- h3']
  ·obtain rfl:r=0:=by omega
   repeat (first|refine wk ?_|refine wkI ?_|intro _)
   obtain⟨A,c,rfl⟩:=(hS.rowSl 0 rfl).shape
   apply wl_strD;exact rfl;exact hS.rowSl 0 rfl;exact rfl
   repeat (first|refine wk ?_|refine wkI ?_|intro _)
   (apply we_ret1;exact rfl;apply res_tmp;exact rfl)
   refine⟨?_,hS.out⟩
   rw [h3]
   simp [digits]
theorem num_spec (c:UInt8)(n:Nat)(hn:n < 256 ^ 8)(w:World):Ret Tryz.prog 233 [u8v c,.int .u64 n] w fun v w'=>v=sv (tlvNum c n)/\Ext w w':=by
 refine ret_enter Tryz.func233 rfl Tryz.ntmps233 rfl ?_
 have hS:=St.start w (fun _=>True) (fun _ _=>trivial)
 repeat (first|refine wk ?_|refine wkI ?_|intro _)
 apply wl_callE;assumption;exact rfl
 exact digits_spec n hn _
 exact rfl
 rintro _ _ rfl _ _
 apply wl_callE;assumption;exact rfl
 exact text_spec c _ _
 exact rfl
 rintro _ _ rfl _ _
 repeat (first|refine wk ?_|refine wkI ?_|intro _)
 (apply we_ret1;exact rfl;apply res_tmp;exact rfl)
 exact⟨rfl,St.out (by assumption)⟩
theorem int_spec (c:UInt8)(n:Int)(hn:n<=9223372036854775807)(w:World):Ret Tryz.prog 178 [u8v c,.int .i64 n] w fun v w'=>v=sv (tlvInt c n)/\Ext w w':=by
 refine ret_enter Tryz.func178 rfl Tryz.ntmps178 rfl ?_
 have hS:=St.start w (fun _=>True) (fun _ _=>trivial)
 repeat (first|refine wk ?_|refine wkI ?_|intro _)
 apply wl_max;exact rfl;exact rfl;exact rfl
 repeat (first|refine wk ?_|refine wkI ?_|intro _)
 apply wl_as 8 rfl (show Value.int .u64 _=.int .u64 (n.toNat:Nat) by
  rw [IntKind.wrap_u64]
  congr 1
  omega)
 apply wl_callE;assumption;exact rfl
 exact num_spec c n.toNat (by omega) _
 exact rfl
 rintro _ _ rfl _ _
 repeat (first|refine wk ?_|refine wkI ?_|intro _)
 (apply we_ret1;exact rfl;apply res_tmp;exact rfl)
 exact⟨rfl,St.out (by assumption)⟩
end Go.Proofs.YtlkkekpcofjbeaaGreatDoor
