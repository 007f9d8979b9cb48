/- numbers of 256 bits, walked: the program's -/
import Derived.Test.YtlmcongmglfaeaaGreatDoorD17
import Derived.Test.YtlmcongmglfaeaaGreatDoorD26
import Derived.Test.YtlmcongmglfaeaaGreatDoorD28
import Derived.Test.YtlmcongmglfaeaaGreatDoorD30
import Derived.Test.YtlmcongmglfaeaaGreatDoorD32
namespace Go.Proofs.YtlmcongmglfaeaaGreatDoor
open Go Go.RowKit Tw Av
def rcC (s:Bs):Bs:=rtT 99 32 s false
def rcS1 (s:Bs):Bs:=rsT 99 32 s false
def rcB1 (s:Bs):Bool:=rbT 99 32 s false
def rcK (s:Bs):Bs:=rtT 107 64 (rcS1 s) (rcB1 s)
def rcS2 (s:Bs):Bs:=rsT 107 64 (rcS1 s) (rcB1 s)
def rcB2 (s:Bs):Bool:=rbT 107 64 (rcS1 s) (rcB1 s)
def rcP (s:Bs):Int:=riI 112 1099511627776 (rcS2 s) (rcB2 s)
def rcS3 (s:Bs):Bs:=rsT 112 8 (rcS2 s) (rcB2 s)
def rcB3 (s:Bs):Bool:=riB 112 1099511627776 (rcS2 s) (rcB2 s)
def rcF (s:Bs):Bool:=decide (riI 102 1 (rcS3 s) (rcB3 s)=1)
def rcS4 (s:Bs):Bs:=rsT 102 8 (rcS3 s) (rcB3 s)
def rcB4 (s:Bs):Bool:=riB 102 1 (rcS3 s) (rcB3 s)
def rcL (s:Bs):List Bs:=raL 115 32 200 (rcS4 s) (rcB4 s)
def rcE (s:Bs):Int:=reE' (rsT 115 16777215 (rcS4 s) (rcB4 s)) (raB 115 32 200 (rcS4 s) (rcB4 s))
def rcT (C t:Bs):Bool:=decide (rhdE t=0) && decide ((rhdV t).c=C)
def rcV (s:Bs):Cli:=⟨rcC s,rcK s,rcP s,rcF s,(rcL s).map fun t=>stOf (rhdV t)⟩
def rcOk (s:Bs):Bool:=(rcL s).all (rcT (rcC s)) && (decide (rcE s=0) && mayC (rcV s))
def rcdV (s:Bs):Cli:=if rcOk s=true then rcV s else zeroC
def rcdE (s:Bs):Int:=if rcOk s=true then 0 else 10
theorem rg1 {s:Bs}:rsT 99 32 s false=rcS1 s:=rfl
theorem rg2 {s:Bs}:rbT 99 32 s false=rcB1 s:=rfl
theorem rg3 {s:Bs}:rsT 107 64 (rcS1 s) (rcB1 s)=rcS2 s:=rfl
theorem rg4 {s:Bs}:rbT 107 64 (rcS1 s) (rcB1 s)=rcB2 s:=rfl
theorem rg5 {s:Bs}:rsT 112 8 (rcS2 s) (rcB2 s)=rcS3 s:=rfl
theorem rg6 {s:Bs}:riB 112 1099511627776 (rcS2 s) (rcB2 s)=rcB3 s:=rfl
theorem rg7 {s:Bs}:rsT 102 8 (rcS3 s) (rcB3 s)=rcS4 s:=rfl
theorem rg8 {s:Bs}:riB 102 1 (rcS3 s) (rcB3 s)=rcB4 s:=rfl
theorem rg9 {s:Bs}:raL 115 32 200 (rcS4 s) (rcB4 s)=rcL s:=rfl
theorem rc_lens (s:Bs):(rcS1 s).length<=s.length/\(rcS2 s).length<=s.length/\(rcS3 s).length<=s.length/\(rcS4 s).length<=s.length:=by
 have h1:=(rsT_len 99 32 s false).1
 have h2:=(rsT_len 107 64 (rcS1 s) (rcB1 s)).1
 have h3:=(rsT_len 112 8 (rcS2 s) (rcB2 s)).1
 have h4:=(rsT_len 102 8 (rcS3 s) (rcB3 s)).1
 rw [rg1] at h1
 rw [rg3] at h2
 rw [rg5] at h3
 rw [rg7] at h4
 exact⟨h1,by omega,by omega,by omega⟩
theorem all_take {α:Type}{l:List α}{p:α->Bool}{i:Nat}(hi:i < l.length)(h:(l.take i).all p=true)(h2:p l[i]=true):(l.take (i + 1)).all p=true:=by
 rw [List.take_succ_eq_append_getElem hi,List.all_append,h]
 simp [h2]
theorem all_not {α:Type}{l:List α}{p:α->Bool}{i:Nat}(hi:i < l.length)(h2:p l[i]=false):l.all p=false:=by
 rw [List.all_eq_false]
 exact⟨l[i],List.getElem_mem hi,by simp [h2]⟩
theorem bods_len {c most:Int}(h:0<=most):∀ {f:Nat} {s:Bs} {b:Bool} {x:Bs},x ∈ (bods c most f s b).1->(x.length:Int)<=most
 | 0,_,_,_,hx=>by simp [bods] at hx
 | f + 1,s,b,x,hx=>by
  rw [bods] at hx
  split at hx
  ·simp at hx
  ·rcases List.mem_cons.1 hx with rfl|hx
   ·exact (rtT_len c most s b).2 h
   ·exact bods_len h hx
theorem raL_mem {c many most:Int}{s:Bs}{b:Bool}{x:Bs}(h:0<=most)(hx:x ∈ raL c many most s b):(x.length:Int)<=most:=by
 unfold raL outA at hx
 split at hx
 ·simp at hx
 ·exact bods_len h hx
theorem raL_len {c many most:Int}{s:Bs}{b:Bool}(h0:0<=many):((raL c many most s b).length:Int)<=many:=by
 unfold raL outA
 split
 ·simpa using h0
 ·rename_i h
  unfold badA at h
  by_cases hm:many < ((allX c most (rtT c 16777215 s b)).1.length:Int)
  ·rw [dT hm] at h
   simp at h
  ·omega
theorem imp_rzC:Imp (.tup [.agg 5 [.lit (.string ⟨#[]⟩),.lit (.string ⟨#[]⟩),.lit (.int .i64 0),.lit (.bool false),.lit (.slice none 0 0)],int 10]) (.tup [cliA zeroC,int 10]):=(inferInstance:ImpR _ (.tup [.agg 5 [str [],str [],int 0,boo false,.sl 34 [] none],int 10])).imp
theorem imp_rcl {C K:Bs}{Pd:Int}{Fr:Bool}{xs:List AV}{v:Value}:Imp (.tup [.agg 5 [str C,str K,int Pd,boo Fr,.sl 34 xs (some v)],int 0]) (.tup [.agg 5 [str C,str K,int Pd,boo Fr,.sl 34 xs none],int 0]):=ImpR.imp
theorem imp_rvar {C K:Bs}{Pd:Int}{Fr:Bool}:ImpC (.agg 5 [str C,str K,int Pd,boo Fr,.lit (.slice none 0 0)]) (.agg 5 [str C,str K,int Pd,boo Fr,.sl 34 [] (some (.slice none 0 0))]):=fun ok w cs h=>by
 rw [RC] at h ⊢
 refine⟨h.1,?_⟩
 have h:=h.2
 rw [RCs] at h ⊢
 obtain⟨a1,b1,e1,f1,h⟩:=h
 refine⟨a1,b1,e1,f1,?_⟩
 rw [RCs] at h ⊢
 obtain⟨a1,b1,e1,f1,h⟩:=h
 refine⟨a1,b1,e1,f1,?_⟩
 rw [RCs] at h ⊢
 obtain⟨a1,b1,e1,f1,h⟩:=h
 refine⟨a1,b1,e1,f1,?_⟩
 rw [RCs] at h ⊢
 obtain⟨a1,b1,e1,f1,h⟩:=h
 refine⟨a1,b1,e1,f1,?_⟩
 rw [RCs] at h ⊢
 obtain⟨a1,b1,e1,f1,h⟩:=h
 exact⟨a1,b1,e1,ImpC.nilT _ _ _ f1,h⟩
set_option maxHeartbeats 1000000 in
instance fnCRead {s:Bs}:Ans Tryz.prog GL 55 [str s] (s.length<=1000000000) (.tup [cliA (rcdV s),int (rcdE s)]):=⟨fun hl=>by
 obtain⟨l1,l2,l3,l4⟩:=rc_lens s
 have e1:(rcS1 s).length=(rsT 99 32 s false).length:=rfl
 have e2:(rcS2 s).length=(rsT 107 64 (rsT 99 32 s false) (rbT 99 32 s false)).length:=rfl
 have e3:(rcS3 s).length=(rsT 112 8 (rsT 107 64 (rsT 99 32 s false) (rbT 99 32 s false)) (rbT 107 64 (rsT 99 32 s false) (rbT 99 32 s false))).length:=rfl
 have e4:(rcS4 s).length=(rsT 102 8 (rsT 112 8 (rsT 107 64 (rsT 99 32 s false) (rbT 99 32 s false)) (rbT 107 64 (rsT 99 32 s false) (rbT 99 32 s false))) (riB 112 1099511627776 (rsT 107 64 (rsT 99 32 s false) (rbT 99 32 s false)) (rbT 107 64 (rsT 99 32 s false) (rbT 99 32 s false)))).length:=rfl
 refine qE Tryz.func55 rfl Tryz.ntmps55 rfl (fun _ hs=>?_)
 repeat' first|refine Yz ?_|intro _
 refine al_callK (args:=[str s]) [] _ (by rw [hs];exact tlvRead) (fun u m1 hh=>?_) lpr
 obtain⟨gr,rfl,rfl⟩:=hh
 repeat' first|refine Yz ?_|intro _
 rw [rg1,rg2,rg3,rg4,rg5,rg6,rg7,rg8,rg9]
 have hE:rcE s=reE' (rsT 115 16777215 (rcS4 s) (rcB4 s)) (raB 115 32 200 (rcS4 s) (rcB4 s)):=rfl
 have hV:rcV s=⟨rtT 99 32 s false,rtT 107 64 (rcS1 s) (rcB1 s),riI 112 1099511627776 (rcS2 s) (rcB2 s),decide (riI 102 1 (rcS3 s) (rcB3 s)=1),(rcL s).map fun t=>stOf (rhdV t)⟩:=rfl
 have hK:rcOk s=((rcL s).all (rcT (rtT 99 32 s false)) && (decide (rcE s=0) && mayC (rcV s))):=rfl
 have hm:=fun t (ht:t ∈ rcL s)=>raL_mem (c:=115) (many:=32) (most:=200) (by decide) ht
 have hn:=raL_len (c:=115) (many:=32) (most:=200) (s:=rcS4 s) (b:=rcB4 s) (by decide)
 rw [rg9] at hn
 rw [rcdV,rcdE,hK,hV]
 rw [hE]
 generalize rcL s=L at *
 generalize rsT 115 16777215 (rcS4 s) (rcB4 s)=S5 at *
 generalize raB 115 32 200 (rcS4 s) (rcB4 s)=B5 at *
 generalize rtT 99 32 s false=C at *
 generalize rtT 107 64 (rcS1 s) (rcB1 s)=K at *
 generalize riI 112 1099511627776 (rcS2 s) (rcB2 s)=Pd at *
 generalize decide (riI 102 1 (rcS3 s) (rcB3 s)=1)=Fr at *
 have hml:(L.map str).length=L.length:=llm _
 rename_i g2 g5
 refine ac_asV (g:=g5) (v':=.agg 5 [str C,str K,int Pd,boo Fr,.sl 34 [] (some (.slice none 0 0))]) imp_rvar ?_
 refine ac_st (fun ok w h=>h.full 93 34 none 0) ?_
 refine ac_loop (α:=Nat × Value) (fun q=>[(2,ptr g2),(4,ptr gr),(5,ptr g5),(26,.sl 1 (L.map str) none),(27,int L.length),(28,int q.1)])
  (fun q=>[.tail 93 34 q.2,.var g5 79 (.agg 5 [str C,str K,int Pd,boo Fr,.sl 34 (((L.take q.1).map fun t=>stOf (rhdV t)).map staA) (some q.2)]),.var gr 219 (rdA S5 B5),.var g2 79 (.agg 5 [str [],str [],int 0,boo false,nils])])
  (fun q=>q.1<=L.length/\(L.take q.1).all (rcT C)=true) (fun q=>L.length - q.1) (0,.slice none 0 0) ⟨rfl,rfl,rfl,rfl,by rw [<- hml];rfl,rfl,trivial⟩ slr ⟨Nat.zero_le _,rfl⟩ ?_
 rintro⟨i,v⟩ ⟨h1,h2⟩
 dsimp only at h1 h2 ⊢
 repeat' first|refine Yz ?_|intro _
 refine ac_cond (fun hlt=>?_) (fun hlt=>?_)
 ·have hil:i < L.length:=by omega
  have ht:=hm L[i] (List.getElem_mem hil)
  have hml2:((L.take i).map fun t=>stOf (rhdV t)).length<=32:=by simp;omega
  repeat' first|refine Yz ?_|intro _
  by_cases he:rhdE L[i]=0
  rotate_left
  ·rw [all_not hil (show rcT C L[i]=false by unfold rcT;rw [dZ he];rfl),Bool.false_and]
   repeat' first|refine Yz ?_|intro _
   refine reI ?_
   exact imp_rzC
  by_cases hcc:(rhdV L[i]).c=C
  rotate_left
  ·rw [all_not hil (show rcT C L[i]=false by unfold rcT;rw [dZ hcc,Bool.and_false]),Bool.false_and]
   repeat' first|refine Yz ?_|intro _
   rw [dT (show (rhdV L[i]).c≠C from hcc)]
   repeat' first|refine Yz ?_|intro _
   refine reI ?_
   exact imp_rzC
  ·repeat' first|refine Yz ?_|intro _
   rw [dZ (show ¬ (rhdV L[i]).c≠C from fun h=>h hcc)]
   repeat' first|refine Yz ?_|intro _
   apply obl_fresh [1];exact rfl;exact rfl;exact rfl;kernel_rfl;intro _ _
   refine al_append (fun v'=>?_)
   refine al_nil (ae_fresh [.tail 93 34 v'] [] rfl rfl lpr rfl ?_)
   repeat' first|refine Yz ?_|intro _
   refine ae_round (i + 1,v') ⟨rfl,rfl,rfl,rfl,rfl,rfl,trivial⟩ ?_ ⟨hil,all_take hil h2 (by unfold rcT;rw [dT he,dT hcc];rfl)⟩ (by dsimp only;omega)
   dsimp only
   rw [List.take_succ_eq_append_getElem hil,List.map_append,List.map_append]
   exact List.Sublist.cons _ slr
 ·obtain rfl:i=L.length:=by omega
  rw [List.take_length] at h2 ⊢
  rw [h2,Bool.true_and]
  repeat' first|refine Yz ?_|intro _
  by_cases hE0:reE' S5 B5=0
  rotate_left
  ·rw [dZ hE0,Bool.false_and]
   repeat' first|refine Yz ?_|intro _
   refine reI ?_
   exact imp_rzC
  rw [dT hE0,Bool.true_and]
  repeat' first|refine Yz ?_|intro _
  cases hmc:mayC ⟨C,K,Pd,Fr,L.map fun t=>stOf (rhdV t)⟩
  ·repeat' first|refine Yz ?_|intro _
   refine reI ?_
   exact imp_rzC
  ·repeat' first|refine Yz ?_|intro _
   refine reI ?_
   exact imp_rcl⟩
set_option maxHeartbeats 1000000 in
instance fnRCRead {s:Bs}:Ans Tryz.prog GL 58 [str s] (s.length<=1000000000) (.tup [cliA (rcdV s),int (rcdE s)]):=⟨fun hl=>by
 obtain⟨l1,l2,l3,l4⟩:=rc_lens s
 have e1:(rcS1 s).length=(rsT 99 32 s false).length:=rfl
 have e2:(rcS2 s).length=(rsT 107 64 (rsT 99 32 s false) (rbT 99 32 s false)).length:=rfl
 have e3:(rcS3 s).length=(rsT 112 8 (rsT 107 64 (rsT 99 32 s false) (rbT 99 32 s false)) (rbT 107 64 (rsT 99 32 s false) (rbT 99 32 s false))).length:=rfl
 have e4:(rcS4 s).length=(rsT 102 8 (rsT 112 8 (rsT 107 64 (rsT 99 32 s false) (rbT 99 32 s false)) (rbT 107 64 (rsT 99 32 s false) (rbT 99 32 s false))) (riB 112 1099511627776 (rsT 107 64 (rsT 99 32 s false) (rbT 99 32 s false)) (rbT 107 64 (rsT 99 32 s false) (rbT 99 32 s false)))).length:=rfl
 refine qE Tryz.func58 rfl Tryz.ntmps58 rfl (fun _ hs=>?_)
 repeat' first|refine Yz ?_|intro _
 rw [rg1,rg2,rg3,rg4,rg5,rg6,rg7,rg8,rg9]
 have hE:rcE s=reE' (rsT 115 16777215 (rcS4 s) (rcB4 s)) (raB 115 32 200 (rcS4 s) (rcB4 s)):=rfl
 have hV:rcV s=⟨rtT 99 32 s false,rtT 107 64 (rcS1 s) (rcB1 s),riI 112 1099511627776 (rcS2 s) (rcB2 s),decide (riI 102 1 (rcS3 s) (rcB3 s)=1),(rcL s).map fun t=>stOf (rhdV t)⟩:=rfl
 have hK:rcOk s=((rcL s).all (rcT (rtT 99 32 s false)) && (decide (rcE s=0) && mayC (rcV s))):=rfl
 have hm:=fun t (ht:t ∈ rcL s)=>raL_mem (c:=115) (many:=32) (most:=200) (by decide) ht
 have hn:=raL_len (c:=115) (many:=32) (most:=200) (s:=rcS4 s) (b:=rcB4 s) (by decide)
 rw [rg9] at hn
 rw [rcdV,rcdE,hK,hV]
 rw [hE]
 generalize rcL s=L at *
 generalize rsT 115 16777215 (rcS4 s) (rcB4 s)=S5 at *
 generalize raB 115 32 200 (rcS4 s) (rcB4 s)=B5 at *
 generalize rtT 99 32 s false=C at *
 generalize rtT 107 64 (rcS1 s) (rcB1 s)=K at *
 generalize riI 112 1099511627776 (rcS2 s) (rcB2 s)=Pd at *
 generalize decide (riI 102 1 (rcS3 s) (rcB3 s)=1)=Fr at *
 have hml:(L.map str).length=L.length:=llm _
 by_cases hE0:reE' S5 B5=0
 rotate_left
 ·rw [dZ hE0,Bool.false_and,Bool.and_false]
  repeat' first|refine Yz ?_|intro _
  refine reI ?_
  exact imp_rzC
 rw [dT hE0,Bool.true_and]
 repeat' first|refine Yz ?_|intro _
 rename_i g2 gr g5
 refine ac_asV (g:=g5) (v':=.agg 5 [str C,str K,int Pd,boo Fr,.sl 34 [] (some (.slice none 0 0))]) imp_rvar ?_
 refine ac_st (fun ok w h=>h.full 93 34 none 0) ?_
 refine ac_loop (α:=Nat × Value) (fun q=>[(2,ptr g2),(4,ptr gr),(5,ptr g5),(6,.sl 1 (L.map str) none),(7,int q.1)])
  (fun q=>[.tail 93 34 q.2,.var g5 79 (.agg 5 [str C,str K,int Pd,boo Fr,.sl 34 (((L.take q.1).map fun t=>stOf (rhdV t)).map staA) (some q.2)]),.var gr 169 (rdA S5 B5),.var g2 79 (.agg 5 [str [],str [],int 0,boo false,nils])])
  (fun q=>q.1<=L.length/\(L.take q.1).all (rcT C)=true) (fun q=>L.length - q.1) (0,.slice none 0 0) ⟨rfl,rfl,rfl,rfl,rfl,trivial⟩ slr ⟨Nat.zero_le _,rfl⟩ ?_
 rintro⟨i,v⟩ ⟨h1,h2⟩
 dsimp only at h1 h2 ⊢
 repeat' first|refine Yz ?_|intro _
 refine ac_cond (fun hlt=>?_) (fun hlt=>?_)
 ·have hil:i < L.length:=by omega
  have ht:=hm L[i] (List.getElem_mem hil)
  have hml2:((L.take i).map fun t=>stOf (rhdV t)).length<=32:=by simp;omega
  repeat' first|refine Yz ?_|intro _
  by_cases he:rhdE L[i]=0
  rotate_left
  ·rw [all_not hil (show rcT C L[i]=false by unfold rcT;rw [dZ he];rfl),Bool.false_and]
   repeat' first|refine Yz ?_|intro _
   refine reI ?_
   exact imp_rzC
  by_cases hcc:(rhdV L[i]).c=C
  rotate_left
  ·rw [all_not hil (show rcT C L[i]=false by unfold rcT;rw [dZ hcc,Bool.and_false]),Bool.false_and]
   repeat' first|refine Yz ?_|intro _
   rw [dT (show (rhdV L[i]).c≠C from hcc)]
   repeat' first|refine Yz ?_|intro _
   refine reI ?_
   exact imp_rzC
  ·repeat' first|refine Yz ?_|intro _
   rw [dZ (show ¬ (rhdV L[i]).c≠C from fun h=>h hcc)]
   repeat' first|refine Yz ?_|intro _
   refine al_append (fun v'=>?_)
   repeat' first|refine Yz ?_|intro _
   refine ae_round (i + 1,v') ⟨rfl,rfl,rfl,rfl,rfl,trivial⟩ ?_ ⟨hil,all_take hil h2 (by unfold rcT;rw [dT he,dT hcc];rfl)⟩ (by dsimp only;omega)
   dsimp only
   rw [List.take_succ_eq_append_getElem hil,List.map_append,List.map_append]
   exact List.Sublist.cons _ slr
 ·obtain rfl:i=L.length:=by omega
  rw [List.take_length] at h2 ⊢
  rw [h2,Bool.true_and]
  repeat' first|refine Yz ?_|intro _
  cases hmc:mayC ⟨C,K,Pd,Fr,L.map fun t=>stOf (rhdV t)⟩
  ·repeat' first|refine Yz ?_|intro _
   refine reI ?_
   exact imp_rzC
  ·repeat' first|refine Yz ?_|intro _
   refine reI ?_
   exact imp_rcl⟩

theorem chkH_iff {x:Hdr}:chkH x=true↔(1<=x.c.length/\x.c.length<=32/\1<=x.h/\x.h<=1099511627776/\0<=x.t/\x.t<=1099511627776):=by
 unfold chkH
 exact decide_eq_true_iff
theorem all_iff {x:Cli}:mayC x=true↔((x.k.length<=64/\1<=x.p/\x.p<=1099511627776/\1<=x.l.length/\x.l.length<=32)/\∀ i,i < x.l.length->mayAt x.c x.l i=true):=by
 unfold mayC
 rw [bet,decide_eq_true_iff,List.all_eq_true]
 simp
theorem may_chk {x:Cli}(h:mayC x=true):∀ s ∈ x.l,chkH (hdOf x.c s)=true:=by
 intro s hs
 obtain⟨i,hi,rfl⟩:=List.getElem_of_mem hs
 have:=(all_iff.1 h).2 i hi
 unfold mayAt at this
 rw [Bool.and_eq_true,show x.l.getD i zeroS=x.l[i] by simp [List.getD,hi]] at this
 exact this.1

structure TxX where
 k:Int
 i:Bs
 o:Bs
 p:Bs
 q:Bs
 y:Bs
 e:Int
 h:Hdr
 m:Hsh
 x:Pkt
 a:Bs
 t:Int
 f:Prf
 g:Gp
abbrev txA (x:TxX):AV:=.agg 100 [int x.k,str x.i,str x.o,str x.p,str x.q,str x.y,int x.e,hdrA x.h,hA x.m,pktA x.x,str x.a,int x.t,prfA x.f,gpA x.g]
structure Rep where
 e:Int
 q:Int
 a:Bs
deriving DecidableEq
abbrev repA (r:Rep):AV:=.agg 3 [int r.e,int r.q,str r.a]
def rep0:Rep:=⟨0,0,[]⟩
def repE (e:Int):Rep:=⟨e,0,[]⟩
def clR (d:List Ent)(i:Bs):Cli:=rcdV (valE d (kyO [67] i))
def clB (d:List Ent)(i:Bs):Bool:=decide (rcdE (valE d (kyO [67] i))=0)
def enR (d:List Ent)(k i:Bs):EndX:=redV (valE d (kyO k i))
def enB (d:List Ent)(k i:Bs):Bool:=decide (redE (valE d (kyO k i))=0)
def nxR (d:List Ent)(i:Bs):Int:=if knE (valE d (kyO [78] i))=0 then knV (valE d (kyO [78] i)) else 1
def stE (d:List Ent)(i:Bs)(h t:Int):Int:=if clB d i=false then 12 else if actC (clR d i) t=false then 19 else if (findC (clR d i).l h).isSome=false then 18 else 0
def stR (d:List Ent)(i:Bs)(h t:Int):Sta:=if stE d i h t=0 then (findC (clR d i).l h).getD zeroS else zeroS
def prE (d:List Ent)(i:Bs)(h t:Int)(k v:Bs)(p:Prf):Int:=if stE d i h t=0/\holdsB (stR d i h t).r ⟨k,v⟩ p=false then 18 else stE d i h t
def goE (d:List Ent)(i:Bs)(h t:Int)(k:Bs)(g:Gp):Int:=if stE d i h t=0/\missB (stR d i h t).r k g=false then 18 else stE d i h t
def goR (d:List Ent)(i:Bs)(h t:Int)(k:Bs)(g:Gp):Sta:=if goE d i h t k g=0 then stR d i h t else zeroS
abbrev Out18:=List Ent × Rep
def failR (d:List Ent)(e:Int):Out18:=(d,repE e)
def tellR (d:List Ent)(r:List Ent × Int)(p:Rep):Out18:=if r.2=0 then (r.1,p) else failR d r.2
def putsR (d:List Ent)(k v:Bs):Out18:=tellR d (putR d k v) rep0
def fundR (d:List Ent)(x:Pkt):Out18:=if denB x.d=false\/0 < hopN x.d\/plainB x.g=false then failR d 1 else tellR d (mintR d x.g x.d x.a) rep0
def movR (d:List Ent)(x:Pkt):Out18:=if denB x.d=false\/plainB x.f=false\/plainB x.g=false then failR d 1 else tellR d (moveR d x.f x.g x.d x.a) rep0
def creR (d:List Ent)(x:TxX):Out18:=if partB x.i=false then failR d 1 else if clB d x.i=true then failR d 13 else if newE x.y x.e x.h≠0 then failR d (newE x.y x.e x.h) else putsR d (kyO [67] x.i) (cliB (newR x.y x.e x.h))
def updR (d:List Ent)(x:TxX)(t:Int):Out18:=if clB d x.i=false then failR d 12 else if updE (clR d x.i) x.h x.m t≠0 then failR d (updE (clR d x.i) x.h x.m t) else putsR d (kyO [67] x.i) (cliB (updC (clR d x.i) x.h x.m t))
def begR (d:List Ent)(x:TxX)(i k:Bs)(try':Bool)(t:Int):Out18:=
 if try'=false then (if (initE x.o x.q).2≠0 then failR d (initE x.o x.q).2 else putsR d (kyO k x.i) (enxB (initE x.o x.q).1))
 else if prE d i x.t t (kyO k x.p) (enxB ⟨1,x.q,x.o,[]⟩) x.f≠0 then failR d (prE d i x.t t (kyO k x.p) (enxB ⟨1,x.q,x.o,[]⟩) x.f)
 else if (tryE x.o x.p ⟨1,x.q,x.o,[]⟩).2≠0 then failR d (tryE x.o x.p ⟨1,x.q,x.o,[]⟩).2
 else putsR d (kyO k x.i) (enxB (tryE x.o x.p ⟨1,x.q,x.o,[]⟩).1)
def conR (d:List Ent)(x:TxX)(t:Int):Out18:=if partB x.i=false then failR d 1 else if enB d [75] x.i=true then failR d 13 else if clB d x.o=false then failR d 12 else begR d x x.o [75] (decide (x.k=6)) t
def opnR (d:List Ent)(x:TxX)(t:Int):Out18:=if partB x.i=false then failR d 1 else if enB d [72] x.i=true then failR d 13 else if enB d [75] x.o=false then failR d 12 else if (enR d [75] x.o).s≠3 then failR d 13 else begR d x (enR d [75] x.o).o [72] (decide (x.k=10)) t
def thrE (own:EndX)(i:Bs)(ack:Bool):EndX:=⟨if ack=true then 2 else 3,own.q,own.o,i⟩
def joiR (d:List Ent)(x:TxX)(own:EndX)(i k:Bs)(ack:Bool)(t:Int):Out18:=
 if prE d i x.t t (kyO k (if ack=true then x.p else own.p)) (enxB (thrE own x.i ack)) x.f≠0 then failR d (prE d i x.t t (kyO k (if ack=true then x.p else own.p)) (enxB (thrE own x.i ack)) x.f)
 else if (if ack=true then ackE own x.i x.p (thrE own x.i ack) else cnfE own x.i (thrE own x.i ack)).2≠0 then failR d (if ack=true then ackE own x.i x.p (thrE own x.i ack) else cnfE own x.i (thrE own x.i ack)).2
 else putsR d (kyO k x.i) (enxB (if ack=true then ackE own x.i x.p (thrE own x.i ack) else cnfE own x.i (thrE own x.i ack)).1)
def codR (d:List Ent)(x:TxX)(t:Int):Out18:=if enB d [75] x.i=false then failR d 12 else joiR d x (enR d [75] x.i) (enR d [75] x.i).o [75] (decide (x.k=7)) t
def opdR (d:List Ent)(x:TxX)(t:Int):Out18:=if enB d [72] x.i=false\/enB d [75] (enR d [72] x.i).o=false then failR d 12 else joiR d x (enR d [72] x.i) (enR d [75] (enR d [72] x.i).o).o [72] (decide (x.k=11)) t
def chaE (d:List Ent)(i:Bs)(asked:EndX->Bool):Int:=if enB d [72] i=false then 12 else if (enR d [72] i).s≠3\/asked (enR d [72] i)=false then 13 else 0
def chaK (d:List Ent)(i:Bs):Bool:=enB d [75] (enR d [72] i).o
def chaN (d:List Ent)(i:Bs):Bs:=(enR d [75] (enR d [72] i).o).o
def goes (d:List Ent)(x:Pkt):Pkt:={ x with q:=nxR d x.s,k:=(enR d [72] x.s).p }
def sndR (d:List Ent)(x:Pkt):Out18:=
 if chaE d x.s (fun _=>true)≠0 then failR d (chaE d x.s fun _=>true)
 else if chkP (goes d x)=false then failR d 1
 else if chaK d x.s=false\/clB d (chaN d x.s)=false then failR d 12
 else if lateP (goes d x) (latC (clR d (chaN d x.s)).l).h (latC (clR d (chaN d x.s)).l).t=true then failR d 21
 else tellR d (thenR (fun d=>sendR d (goes d x)) (thenR (fun y=>putR y (kyW [80] x.s (goes d x).q) (comP (goes d x))) (fun y=>putR y (kyO [78] x.s) (tlvI 110 ((goes d x).q + 1)))) d) ⟨0,(goes d x).q,[]⟩
def ackR (d:List Ent)(x:Pkt):Bs:=if (recvR d x).2=0 then [43] else failB (recvR d x).2
def rcvR (d:List Ent)(x:TxX)(h t:Int):Out18:=
 if chkP x.x=false then failR d 1
 else if chaE d x.x.k (fun c=>decide (c.p=x.x.s))≠0 then failR d (chaE d x.x.k fun c=>decide (c.p=x.x.s))
 else if lateP x.x h t=true then failR d 21
 else if (gO d (kyW [71] x.x.k x.x.q)).isSome=true then failR d 20
 else if chaK d x.x.k=false then failR d 12
 else if prE d (chaN d x.x.k) x.t t (kyW [80] x.x.s x.x.q) (comP x.x) x.f≠0 then failR d (prE d (chaN d x.x.k) x.t t (kyW [80] x.x.s x.x.q) (comP x.x) x.f)
 else tellR d (putR (if (recvR d x.x).2=0 then (recvR d x.x).1 else d) (kyW [71] x.x.k x.x.q) (rcpB (ackR d x.x))) ⟨0,0,ackR d x.x⟩
def endR (d:List Ent)(x:Pkt)(b:Bool)(e:Int):Out18:=
 if chaE d x.s (fun c=>decide (c.p=x.k))≠0 then failR d (chaE d x.s fun c=>decide (c.p=x.k))
 else if gO d (kyW [80] x.s x.q)≠some (comP x)\/chaK d x.s=false then failR d 12
 else if e≠0 then failR d e
 else if b=true/\(backR d x).2≠0 then failR d (backR d x).2
 else (drpL (if b=true then (backR d x).1 else d) (kyW [80] x.s x.q),rep0)
def acksR (d:List Ent)(x:TxX)(t:Int):Out18:=if chkP x.x=false\/ackIs x.a=false then failR d 1 else endR d x.x (decide (ackV x.a≠0)) (prE d (chaN d x.x.s) x.t t (kyW [71] x.x.k x.x.q) (rcpB x.a) x.f)
def timE (d:List Ent)(x:TxX)(t:Int):Int:=if goE d (chaN d x.x.s) x.t t (kyW [71] x.x.k x.x.q) x.g=0/\lateP x.x (goR d (chaN d x.x.s) x.t t (kyW [71] x.x.k x.x.q) x.g).h (goR d (chaN d x.x.s) x.t t (kyW [71] x.x.k x.x.q) x.g).t=false then 21 else goE d (chaN d x.x.s) x.t t (kyW [71] x.x.k x.x.q) x.g
def timR (d:List Ent)(x:TxX)(t:Int):Out18:=if chkP x.x=false then failR d 1 else endR d x.x true (timE d x t)
def doR (d:List Ent)(x:TxX)(h t:Int):Out18:=
 if x.k=1 then fundR d x.x else if x.k=2 then movR d x.x else if x.k=3 then creR d x else if x.k=4 then updR d x t
 else if x.k=5\/x.k=6 then conR d x t else if x.k=7\/x.k=8 then codR d x t else if x.k=9\/x.k=10 then opnR d x t else if x.k=11\/x.k=12 then opdR d x t
 else if x.k=13 then sndR d x.x else if x.k=14 then rcvR d x h t else if x.k=15 then acksR d x t else if x.k=16 then timR d x t else failR d 1
end Go.Proofs.YtlmcongmglfaeaaGreatDoor

namespace Av
open Go Go.RowKit Tw
theorem eqItems_int {P:Program}{e:TypeId}{k:IntKind}(he:P.underlying e=some (.int k))(w:World)(d:Nat):∀ (n o:Nat) (la lb:List Int),la.length=o + n->lb.length=o + n ->
  (Op.eqItems (d + 1) e 1 (la.map (Value.int k)).toArray (lb.map (Value.int k)).toArray (List.range' o n)).run P w=.ok (decide (la.drop o=lb.drop o)) w
 | 0,o,la,lb,h1,h2=>by
  rw [List.drop_of_length_le (l:=la) (by omega),List.drop_of_length_le (l:=lb) (by omega)]
  simp [Op.eqItems]
 | n + 1,o,la,lb,h1,h2=>by
  have hp:P.plainKey e=true:=by simp [Program.plainKey,he]
  have hla:o < la.length:=by omega
  have hlb:o < lb.length:=by omega
  have ea:(la.map (Value.int k)).toArray[o * 1]?=some (Value.int k la[o]):=by simp [hla]
  have eb:(lb.map (Value.int k)).toArray[o * 1]?=some (Value.int k lb[o]):=by simp [hlb]
  have hq:(Op.equalIn (d + 1) e (Value.int k la[o]) (Value.int k lb[o])).run P w=.ok (decide (la[o]=lb[o])) w:=by
   rw [run_equalIn_int _ d e _ _ _ _ he]
   rfl
  rw [List.range'_succ]
  simp only [Op.eqItems,Sem.run_bind,run_part_plain w hp ea,run_part_plain w hp eb,Result.andThen_ok,hq]
  rw [List.drop_eq_getElem_cons hla,List.drop_eq_getElem_cons hlb]
  by_cases h:la[o]=lb[o]
  ·simp only [h,decide_true,Bool.not_true,Bool.false_eq_true,if_false,eqItems_int he w d n (o + 1) la lb (by omega) (by omega),List.cons.injEq,true_and]
  ·have hf:decide (la[o]::la.drop (o + 1)=lb[o]::lb.drop (o + 1))=false:=by
    rw [decide_eq_false_iff_not,List.cons.injEq]
    exact fun e=>h e.1
   rw [hf]
   simp [h]
theorem four_val {ok:Ok}{w:World}{k:IntKind}{a b c d:Int}{v:Value}(hr:RV0 ok w (.agg 4 [.lit (.int k a),.lit (.int k b),.lit (.int k c),.lit (.int k d)]) v):v=.agg ([a,b,c,d].map (Value.int k)).toArray:=by
 obtain⟨cs,rfl,h⟩:=agg_run (RV.of0 hr)
 rw [RC,RCs] at h
 obtain⟨_,c1,d1,rfl,g1,h⟩:=h
 rw [RCs] at h
 obtain⟨c2,d2,rfl,g2,h⟩:=h
 rw [RCs] at h
 obtain⟨c3,d3,rfl,g3,h⟩:=h
 rw [RCs] at h
 obtain⟨c4,d4,rfl,g4,h⟩:=h
 rw [RCs] at h
 subst h
 rw [RC] at g1 g2 g3 g4
 rw [g1.1,g2.1,g3.1,g4.1]
 rfl
instance {P:Program}{T e:TypeId}{k:IntKind}[t:TyA P T 4 e 1][te:TyI P e k]{a b c d a' b' c' d':Int}:Eqv P T (.agg 4 [.lit (.int k a),.lit (.int k b),.lit (.int k c),.lit (.int k d)]) (.agg 4 [.lit (.int k a'),.lit (.int k b'),.lit (.int k c'),.lit (.int k d')]) 1 (decide ([a,b,c,d]=[a',b',c',d'])):=⟨fun {ok w va vb} d hd ha hb=>by
 rw [four_val ha,four_val hb]
 obtain⟨i,hi,hc⟩:=info_of_sz t.sz
 obtain⟨d,rfl⟩:∃ d',d=d' + 1:=⟨d - 1,by omega⟩
 rw [run_equalIn_array w (d + 1) _ _ t.out hi,hc,List.range_eq_range',eqItems_int te.out w d 4 0 _ _ rfl rfl]
 rfl⟩
theorem wd_eq (a b:Wd):decide ([((lm a.n 0:Nat):Int),(lm a.n 1:Nat),(lm a.n 2:Nat),(lm a.n 3:Nat)]=[((lm b.n 0:Nat):Int),(lm b.n 1:Nat),(lm b.n 2:Nat),(lm b.n 3:Nat)])=decide (a=b):=by
 rw [decide_eq_decide]
 constructor
 ·intro h
  simp only [List.cons.injEq] at h
  exact Wd.ext' (of_lms a.lt b.lt (by omega) (by omega) (by omega) (by omega))
 ·rintro rfl
  rfl
theorem wd_z (a:Wd):decide ([((lm a.n 0:Nat):Int),(lm a.n 1:Nat),(lm a.n 2:Nat),(lm a.n 3:Nat)]=[0,0,0,0])=decide (a.n=0):=by
 rw [decide_eq_decide]
 constructor
 ·intro h
  simp only [List.cons.injEq] at h
  exact of_lms a.lt wZ.lt (by rw [lm_z];omega) (by rw [lm_z];omega) (by rw [lm_z];omega) (by rw [lm_z];omega)
 ·intro h
  rw [h,lm_z,lm_z,lm_z,lm_z]
  rfl
def mixN (n m i:Nat):List AV:=(List.range 4).map fun j=>u6 (lm (if j < i then n else m) j)
instance {n m i:Nat}:Siz (mixN n m i) 1:=by unfold mixN;infer_instance
theorem mix_len (n m i:Nat):(mixN n m i).length=4:=rfl
theorem mix_get {n m i:Nat}(h:i < 4):(mixN n m i)[i]?=some (u6 (lm m i)):=by
 rcases i with _|_|_|_|i <;> first|rfl|omega
theorem mix_set {n m i:Nat}(h:i < 4):(mixN n m i).set i (u6 (lm n i))=mixN n m (i + 1):=by
 rcases i with _|_|_|_|i <;> first|rfl|omega
def mixF (X Y:Nat->Nat)(i:Nat):List AV:=(List.range 4).map fun j=>u6 (if j < i then X j else Y j)
instance {X Y:Nat->Nat}{i:Nat}:Siz (mixF X Y i) 1:=by unfold mixF;infer_instance
theorem mixF_len (X Y:Nat->Nat)(i:Nat):(mixF X Y i).length=4:=rfl
theorem mixF_0 (X Y:Nat->Nat):mixF X Y 0=[u6 (Y 0),u6 (Y 1),u6 (Y 2),u6 (Y 3)]:=rfl
theorem mixF_4 (X Y:Nat->Nat):mixF X Y 4=[u6 (X 0),u6 (X 1),u6 (X 2),u6 (X 3)]:=rfl
theorem mixF_get {X Y:Nat->Nat}{i:Nat}(h:i < 4):(mixF X Y i)[i]?=some (u6 (Y i)):=by
 rcases i with _|_|_|_|i <;> first|rfl|omega
theorem mixF_set {X Y:Nat->Nat}{i:Nat}(h:i < 4):(mixF X Y i).set i (u6 (X i))=mixF X Y (i + 1):=by
 rcases i with _|_|_|_|i <;> first|rfl|omega
theorem mixF_wid {X Y:Nat->Nat}(h:∀ i,X i < 18446744073709551616):∃ n:Nat,n < 115792089237316195423570985008687907853269984665640564039457584007913129639936/\AV.agg 4 (mixF X Y 4)=widN n:=by
 obtain⟨h1,h2,h3,h4,h5⟩:=wj_lm (h 0) (h 1) (h 2) (h 3)
 refine⟨_,h1,?_⟩
 rw [mixF_4]
 unfold widN
 rw [h2,h3,h4,h5]
theorem wid_get {n i:Nat}(h:i < 4):[u6 (lm n 0),u6 (lm n 1),u6 (lm n 2),u6 (lm n 3)][i]?=some (u6 (lm n i)):=by
 rcases i with _|_|_|_|i <;> first|rfl|omega
def crL (a b:Nat):Nat->Nat
 | 0=>0
 | i + 1=>(lm a i + lm b i + crL a b i) / 18446744073709551616
def boL (a b:Nat):Nat->Nat
 | 0=>0
 | i + 1=>bor (lm a i) (lm b i) (boL a b i)
theorem cr_all (a b:Wd):(∀ i,i < 4->crL a.n b.n i<=1/\lm (a.n + b.n) i=(lm a.n i + lm b.n i + crL a.n b.n i) % 18446744073709551616)/\crL a.n b.n 4<=1/\(crL a.n b.n 4=0↔wIs (a.n + b.n)=true):=by
 obtain⟨c0,c1,c2,c3,rfl,rfl,rfl,rfl,h0,h1,h2,h3,h4,g0,g1,g2,g3⟩:=add_lm a b
 refine⟨fun i hi=>?_,h3,by rw [wIs,decide_eq_true_iff];exact h4⟩
 rcases i with _|_|_|_|i
 ·exact⟨Nat.zero_le _,g0⟩
 ·exact⟨h0,g1⟩
 ·exact⟨h1,g2⟩
 ·exact⟨h2,g3⟩
 ·omega
theorem bo_all (a b:Wd):(∀ i,i < 4->boL a.n b.n i<=1)/\boL a.n b.n 4<=1/\(boL a.n b.n 4=0↔b.n<=a.n)/\(b.n<=a.n->∀ i,i < 4->lm (a.n - b.n) i=(lm a.n i + 18446744073709551616 - lm b.n i - boL a.n b.n i) % 18446744073709551616):=by
 obtain⟨c0,c1,c2,c3,rfl,rfl,rfl,rfl,h0,h1,h2,h3,h4,h5⟩:=sub_lm a b
 refine⟨fun i hi=>?_,h3,h4,fun hle i hi=>?_⟩
 ·rcases i with _|_|_|_|i
  ·exact Nat.zero_le _
  ·exact h0
  ·exact h1
  ·exact h2
  ·omega
 ·obtain⟨g0,g1,g2,g3⟩:=h5 hle
  rcases i with _|_|_|_|i
  ·exact g0
  ·exact g1
  ·exact g2
  ·exact g3
  ·omega
end Av
namespace Go.Proofs.YtlmcongmglfaeaaGreatDoor
open Go Go.RowKit Tw Av
instance fnWZero {a:Wd}:Ans Tryz.prog GL 300 [widA a] True (boo (decide (a.n=0))):=⟨fun _=>by
 refine qE Tryz.func300 rfl Tryz.ntmps300 rfl (fun _ hs=>?_)
 repeat' (first|refine W ?_|refine op3 ?_|refine ob5 ?_|refine opE ?_|refine obE ?_|refine ob2 (fun _=>?_)|intro _)
 refine reE ?_
 show boo _=_
 rw [wd_z]⟩
instance fnWRight {n:Nat}{c:Nat}:Ans Tryz.prog GL 343 [widN n,u6 c] True (.tup [widN (if c=0 then n else 0),boo (decide (c=0))]):=⟨fun _=>by
 refine qE Tryz.func343 rfl Tryz.ntmps343 rfl (fun _ hs=>?_)
 repeat' first|refine Vz ?_|intro _
 refine ac_cond (fun h=>?_) (fun h=>?_)
 ·repeat' first|refine Vz ?_|intro _
  refine reE ?_
  have h0:¬ c=0:=by omega
  rw [if_neg h0,dZ h0]
  rfl
 ·repeat' first|refine Vz ?_|intro _
  refine reE ?_
  have h0:c=0:=by omega
  rw [if_pos h0,dT h0]
  rfl⟩
section
variable {N:Nat} {ops:Array Oper} {Q:Exit->Act->World->Prop} {rest:List Oper} {s:Av.Base} {e:Av.Env} {m:List Av.Piece} {d:Nat} {ty:TypeId} {pos:String} {af:Array Edge}
theorem al_add64 {x y c:Nat}{xs:List Operand}{ts:Array TypeId}(hc:c<=1)(h:AL Tryz.prog N ops Q s rest ((d,.tup [u6 ((x + y + c) % 18446744073709551616),u6 ((x + y + c) / 18446744073709551616)])::e) m)(hx:evs e xs=some [u6 x,u6 y,u6 c]:=by exact rfl)(hd:Nat.blt d N=true:=by exact rfl):AL Tryz.prog N ops Q s (⟨some d,.call ⟨.value (.func 342),xs.toArray,ts⟩,ty,pos,af,none⟩::rest) e m:=by
 apply al_ext (en := (Extern.MathBitsCarry.rows.getD 0 ("", fun _ => pure undef)).2) (v := .tup [u6 ((x + y + c) % 18446744073709551616), u6 ((x + y + c) / 18446744073709551616)]) Tryz.func342; kernel_rfl; exact rfl; kernel_rfl; kernel_rfl; exact hx; exact rfl; exact hd
 ·rintro ok w cs _ ⟨u1,us,rfl,h1,u2,us2,rfl,h2,u3,us3,rfl,h3,rfl⟩
  rw [RV0.lit h1,RV0.lit h2,RV0.lit h3]
  rcases (by omega:c=0\/c=1) with rfl|rfl
  ·exact⟨_,rfl,⟨_,rfl,_,_,rfl,RV0.of_lit rfl,_,_,rfl,RV0.of_lit rfl,rfl⟩⟩
  ·exact⟨_,rfl,⟨_,rfl,_,_,rfl,RV0.of_lit rfl,_,_,rfl,RV0.of_lit rfl,rfl⟩⟩
 ·exact h
theorem al_sub64 {x y c:Nat}{xs:List Operand}{ts:Array TypeId}(hc:c<=1)(h:AL Tryz.prog N ops Q s rest ((d,.tup [u6 ((x + 18446744073709551616 - y - c) % 18446744073709551616),u6 (bor x y c)])::e) m)(hx:evs e xs=some [u6 x,u6 y,u6 c]:=by exact rfl)(hd:Nat.blt d N=true:=by exact rfl):AL Tryz.prog N ops Q s (⟨some d,.call ⟨.value (.func 368),xs.toArray,ts⟩,ty,pos,af,none⟩::rest) e m:=by
 apply al_ext (en := (Extern.MathBitsCarry.rows.getD 1 ("", fun _ => pure undef)).2) (v := .tup [u6 ((x + 18446744073709551616 - y - c) % 18446744073709551616), u6 (bor x y c)]) Tryz.func368; kernel_rfl; exact rfl; kernel_rfl; kernel_rfl; exact hx; exact rfl; exact hd
 ·rintro ok w cs _ ⟨u1,us,rfl,h1,u2,us2,rfl,h2,u3,us3,rfl,h3,rfl⟩
  rw [RV0.lit h1,RV0.lit h2,RV0.lit h3]
  rcases (by omega:c=0\/c=1) with rfl|rfl
  ·exact⟨_,rfl,⟨_,rfl,_,_,rfl,RV0.of_lit rfl,_,_,rfl,RV0.of_lit rfl,rfl⟩⟩
  ·exact⟨_,rfl,⟨_,rfl,_,_,rfl,RV0.of_lit rfl,_,_,rfl,RV0.of_lit rfl,rfl⟩⟩
 ·exact h
end
instance fnWAdd {a b:Wd}:Ans Tryz.prog GL 284 [widA a,widA b] True (.tup [widA (wOf (a.n + b.n)),boo (wIs (a.n + b.n))]):=⟨fun _=>by
 obtain⟨hcr,h4,h40⟩:=cr_all a b
 refine qE Tryz.func284 rfl Tryz.ntmps284 rfl (fun _ hs=>?_)
 repeat' first|refine Vz ?_|intro _
 rename_i g2 g3 g4
 refine ac_asV (g:=g2) (v':=.agg 4 (mixN (a.n + b.n) a.n 0)) (fun ok w cs h=>h) ?_
 refine ac_loop (α:=Nat) (fun i=>[(2,ptr g2),(3,ptr g3),(4,ptr g4),(6,u6 (crL a.n b.n i)),(8,int i)])
   (fun i=>[.var g4 43 (widN 0),.var g3 43 (widA b),.var g2 43 (.agg 4 (mixN (a.n + b.n) a.n i))]) (fun i=>i<=4) (fun i=>4 - i) 0 ⟨rfl,rfl,rfl,rfl,rfl,trivial⟩ slr (Nat.zero_le _) ?_
 intro i hi
 repeat' first|refine Vz ?_|intro _
 refine ac_cond (fun hlt=>?_) (fun hlt=>?_)
 ·have hl:i < 4:=by omega
  obtain⟨c1,c2⟩:=hcr i hl
  have hln:=mix_len (a.n + b.n) a.n i
  repeat' first|refine Vz ?_|intro _
  apply obl_read [];exact rfl;exact rfl;kernel_rfl;intro _ _
  refine al_idxA i ?_
  exact al_nil (ae_got rfl rfl)
  apply obl_read [2];exact rfl;exact rfl;kernel_rfl;intro _ _
  refine al_loadE (mix_get hl) ?_
  exact al_nil (ae_got rfl rfl)
  repeat' first|refine Vz ?_|intro _
  apply obl_read [];exact rfl;exact rfl;kernel_rfl;intro _ _
  refine al_idxA i ?_
  exact al_nil (ae_got rfl rfl)
  apply obl_read [1];exact rfl;exact rfl;kernel_rfl;intro _ _
  refine al_loadE (wid_get hl) ?_
  exact al_nil (ae_got rfl rfl)
  repeat' first|refine Vz ?_|intro _
  apply obl_read [];exact rfl;exact rfl;kernel_rfl;intro _ _
  refine al_add64 c1 ?_
  exact al_nil (ae_got rfl rfl)
  repeat' first|refine Vz ?_|intro _
  apply obl_read [];exact rfl;exact rfl;kernel_rfl;intro _ _
  refine al_idxA i ?_
  exact al_nil (ae_got rfl rfl)
  apply obl_writeN [2];exact rfl;exact rfl;kernel_rfl
  intro _ _
  refine al_storeE (j:=i) (by rw [hln];exact hl) ?_
  exact al_nil (ae_gotN rfl)
  exact rfl
  exact rfl
  rw [<- c2,mix_set hl]
  repeat' first|refine Vz ?_|intro _
  refine ae_round (i + 1) ⟨rfl,rfl,rfl,rfl,rfl,trivial⟩ ?_ hl (by omega)
  exact sbl
 ·obtain rfl:i=4:=by omega
  refine ac_asV (g:=g2) (v':=widN (a.n + b.n)) (fun ok w cs h=>h) ?_
  repeat' first|refine Vz ?_|intro _
  refine reE ?_
  by_cases h0:crL a.n b.n 4=0
  ·have h1:=h40.1 h0
   rw [if_pos h0,h1,dT h0]
   show AV.tup [widN _,_]=.tup [widN _,_]
   rw [wOf_n (of_decide_eq_true h1)]
  ·have h1:wIs (a.n + b.n)=false:=by
    cases h:wIs (a.n + b.n)
    ·rfl
    ·exact absurd (h40.2 h) h0
   rw [if_neg h0,h1,dZ h0]
   show AV.tup [widN _,_]=.tup [widN _,_]
   rw [wOf_big (of_decide_eq_false h1)]
   rfl⟩
instance fnWSub {a b:Wd}:Ans Tryz.prog GL 347 [widA a,widA b] True (.tup [widA (wOf (a.n - b.n)),boo (decide (b.n<=a.n))]):=⟨fun _=>by
 obtain⟨hbo,h4,h40,hlm⟩:=bo_all a b
 refine qE Tryz.func347 rfl Tryz.ntmps347 rfl (fun _ hs=>?_)
 repeat' first|refine Vz ?_|intro _
 rename_i g2 g3 g4
 generalize hX:(fun i=>(lm a.n i + 18446744073709551616 - lm b.n i - boL a.n b.n i) % 18446744073709551616)=X at *
 refine ac_asV (g:=g2) (v':=.agg 4 (mixF X (lm a.n) 0)) (fun ok w cs h=>by rw [mixF_0];exact h) ?_
 refine ac_loop (α:=Nat) (fun i=>[(2,ptr g2),(3,ptr g3),(4,ptr g4),(6,u6 (boL a.n b.n i)),(8,int i)])
   (fun i=>[.var g4 43 (widN 0),.var g3 43 (widA b),.var g2 43 (.agg 4 (mixF X (lm a.n) i))]) (fun i=>i<=4) (fun i=>4 - i) 0 ⟨rfl,rfl,rfl,rfl,rfl,trivial⟩ slr (Nat.zero_le _) ?_
 intro i hi
 repeat' first|refine Vz ?_|intro _
 refine ac_cond (fun hlt=>?_) (fun hlt=>?_)
 ·have hl:i < 4:=by omega
  have c1:=hbo i hl
  have hln:=mixF_len X (lm a.n) i
  repeat' first|refine Vz ?_|intro _
  apply obl_read [];exact rfl;exact rfl;kernel_rfl;intro _ _
  refine al_idxA i ?_
  exact al_nil (ae_got rfl rfl)
  apply obl_read [2];exact rfl;exact rfl;kernel_rfl;intro _ _
  refine al_loadE (mixF_get hl) ?_
  exact al_nil (ae_got rfl rfl)
  repeat' first|refine Vz ?_|intro _
  apply obl_read [];exact rfl;exact rfl;kernel_rfl;intro _ _
  refine al_idxA i ?_
  exact al_nil (ae_got rfl rfl)
  apply obl_read [1];exact rfl;exact rfl;kernel_rfl;intro _ _
  refine al_loadE (wid_get hl) ?_
  exact al_nil (ae_got rfl rfl)
  repeat' first|refine Vz ?_|intro _
  apply obl_read [];exact rfl;exact rfl;kernel_rfl;intro _ _
  refine al_sub64 c1 ?_
  exact al_nil (ae_got rfl rfl)
  repeat' first|refine Vz ?_|intro _
  apply obl_read [];exact rfl;exact rfl;kernel_rfl;intro _ _
  refine al_idxA i ?_
  exact al_nil (ae_got rfl rfl)
  apply obl_writeN [2];exact rfl;exact rfl;kernel_rfl
  intro _ _
  refine al_storeE (j:=i) (by rw [hln];exact hl) ?_
  exact al_nil (ae_gotN rfl)
  exact rfl
  exact rfl
  rw [show (lm a.n i + 18446744073709551616 - lm b.n i - boL a.n b.n i) % 18446744073709551616=X i by rw [<- hX],mixF_set hl]
  repeat' first|refine Vz ?_|intro _
  refine ae_round (i + 1) ⟨rfl,rfl,rfl,rfl,rfl,trivial⟩ ?_ hl (by omega)
  exact sbl
 ·obtain rfl:i=4:=by omega
  by_cases h0:boL a.n b.n 4=0
  ·have h1:=h40.1 h0
   have h2:=hlm h1
   have e:AV.agg 4 (mixF X (lm a.n) 4)=widN (a.n - b.n):=by
    have hX':∀ i,i < 4->X i=lm (a.n - b.n) i:=fun i hi=>by rw [h2 i hi,<- hX]
    rw [mixF_4,hX' 0 (by omega),hX' 1 (by omega),hX' 2 (by omega),hX' 3 (by omega)]
   rw [e]
   repeat' first|refine Vz ?_|intro _
   refine reE ?_
   rw [if_pos h0,dT h0,dT h1]
   show AV.tup [widN _,_]=.tup [widN _,_]
   rw [wOf_n (Nat.lt_of_le_of_lt (Nat.sub_le _ _) a.lt)]
  ·have h1:¬ b.n<=a.n:=fun h=>h0 (h40.2 h)
   obtain⟨n,hn,e⟩:=mixF_wid (X:=X) (Y:=lm a.n) (by rw [<- hX];exact fun i=>Nat.mod_lt _ (by decide))
   rw [e]
   repeat' first|refine Vz ?_|intro _
   refine reE ?_
   rw [if_neg h0,dZ h0,dZ h1]
   show AV.tup [widN _,_]=.tup [widN _,_]
   rw [show a.n - b.n=0 by omega]
   rfl⟩
end Go.Proofs.YtlmcongmglfaeaaGreatDoor
