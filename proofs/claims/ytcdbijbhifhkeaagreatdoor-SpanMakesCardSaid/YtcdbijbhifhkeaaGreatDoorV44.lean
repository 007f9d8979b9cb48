/- . -/
import Derived.Test.YtcdbijbhifhkeaaGreatDoorV43
namespace Go.Proofs.Z
open Go Go.RowKit Tw Av Go.Proofs.Tryz
section
variable {i:Int}
instance b8T :Ans prog GL 35 [rH,int i] True rH:=⟨λ_=>by
 refine zc func35 ntmps35 λ_ hs=>?_;repeat' first|refine O ?_|intro
 repeat ((first|refine H6 ?_|refine D5 ?_);(repeat' (first|refine Za ?_|refine p9 (λ_=>?_)|intro _|simp only[List.set]|fail)))
 exact x9 rfl⟩
instance b8S :Ans prog GL 13 [rH,int i] True rH:=⟨λ_=>by
 refine zc func13 ntmps13 λ_ hs=>?_;exact o8⟩
instance b8R :Ans prog GL 26 [rH,int i] True rH:=⟨λ_=>by
 refine zc func26 ntmps26 λ_ hs=>?_;exact o8⟩
instance b8P :Ans prog GL 20 [rH,int i] True (int 0):=⟨λ_=>by
 refine zc func20 ntmps20 λ_ hs=>?_;exact o8⟩
instance b8N :Ans prog GL 12 [rH,int i] True (int 0):=⟨λ_=>by
 refine zc func12 ntmps12 λ_ hs=>?_;exact o8⟩
instance b8O :Ans prog GL 21 [rH,int i] True (.lit (.slice none 0 0)):=⟨λ_=>by
 refine zc func21 ntmps21 λ_ hs=>?_;exact o8⟩
instance Oz {k s n t c:Int}{xs:List AV}{tx:Bs}{id:Option Value}:Ans prog GL 11 [rH,.agg 7 [int k,int s,int n,int t,int c,.sl 1 xs id,str tx]] True (d9 false):=⟨λ_=>by
 refine zc func11 ntmps11 λ_ hs=>?_;exact o8⟩
instance b8Q {n:Int}:Ans prog GL 10 [int n] (¬ (400<=n/\n<=4096)) rH:=⟨λhn=>by
 refine zc func10 ntmps10 λ_ hs=>?_;by_cases h:n<400
 ·repeat' first|refine O ?_|intro
  repeat ((first|refine H6 ?_|refine D5 ?_);(repeat' (first|refine Za ?_|refine p9 (λ_=>?_)|intro _|simp only[List.set]|fail)))
  exact x9 rfl
 repeat' first|refine O ?_|intro
 repeat ((first|refine H6 ?_|refine D5 ?_);(repeat' (first|refine Za ?_|refine p9 (λ_=>?_)|intro _|simp only[List.set]|fail)))
 exact x9 rfl⟩
section
variable {nz no:Bs} {q qo:SpI} {z o:SpX} {gx ga gb:Nat} {g a b:Nat}
set_option maxRecDepth 100000 in
set_option maxHeartbeats 8000000 in
theorem Sy (hi:i=0/\ga=q.g/\gb=qo.g\/i=1/\ga=qo.g/\gb=q.g) :
  Av.Spec prog GL 26 [ptr gx,int i] (C8 gx ga gb nz no q qo z o) λu m=>u=ptr q.gd/\m=C8 gx ga gb nz no q qo z o:=by
 rcases hi with⟨rfl,rfl,rfl⟩|⟨rfl,rfl,rfl⟩
 ·refine zc func26 ntmps26 λ_ hs=>?_;repeat' first|refine O ?_|intro
  exact j4 _ ⟨rfl,rfl⟩ slr
 refine zc func26 ntmps26 λ_ hs=>?_;repeat' first|refine O ?_|intro
 exact j4 _ ⟨rfl,rfl⟩ slr
instance b9F :AnsM prog GL 35 g [int i] 75 (xA a b) (¬ (0<=i/\i<2)) rH (xA a b):=⟨λhi=>by
 refine zc func35 ntmps35 λ_ hs=>?_;by_cases h:i<0
 ·repeat' first|refine O ?_|intro
  repeat ((first|refine H6 ?_|refine D5 ?_);(repeat' (first|refine Za ?_|refine p9 (λ_=>?_)|intro _|simp only[List.set]|fail)))
  exact j4 _ ⟨rfl,rfl⟩ slr
 repeat' first|refine O ?_|intro
 repeat ((first|refine H6 ?_|refine D5 ?_);(repeat' (first|refine Za ?_|refine p9 (λ_=>?_)|intro _|simp only[List.set]|fail)))
 exact j4 _ ⟨rfl,rfl⟩ slr⟩
instance b9E :AnsM prog GL 13 g [int i] 75 (xA a b) (¬ (0<=i/\i<2)) rH (xA a b):=⟨λhi=>by
 refine zc func13 ntmps13 λ_ hs=>?_;repeat' first|refine O ?_|intro
 exact j4 _ ⟨rfl,rfl⟩ slr⟩
instance b9D :AnsM prog GL 26 g [int i] 75 (xA a b) (¬ (0<=i/\i<2)) rH (xA a b):=⟨λhi=>by
 refine zc func26 ntmps26 λ_ hs=>?_;repeat' first|refine O ?_|intro
 exact j4 _ ⟨rfl,rfl⟩ slr⟩
end
end
end Go.Proofs.Z
