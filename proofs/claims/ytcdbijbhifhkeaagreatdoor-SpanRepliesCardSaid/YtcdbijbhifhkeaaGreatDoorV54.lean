/- . -/
import Derived.Test.YtcdbijbhifhkeaaGreatDoorV53
namespace Go.Proofs.Z
open Go Go.RowKit Tw Av Go.Proofs.Tryz
theorem Rl {xs:List AV}{v:Value}:Imp (L6 [.sl 3 xs (some v)]) (.sl 3 xs none):=(ImpR.imp:Imp (.sl 3 xs (some v)) (.sl 3 xs none))
section
variable {nz no:Bs} {q qo:SpI} {z o:SpX} {gx ga gb:Nat}
set_option maxRecDepth 100000 in
set_option maxHeartbeats 8000000 in
theorem EJ {i:Int}(hr:z.rp.length<=100000)(hi:i=0/\ga=q.g/\gb=qo.g\/i=1/\ga=qo.g/\gb=q.g) :
  Av.Spec prog GL 21 [ptr gx,int i] (C8 gx ga gb nz no q qo z o) λu m=>u=.sl 3 (z.rp.map K3) none/\m=C8 gx ga gb nz no q qo z o:=by
 have hm:(z.rp.map K3).length=z.rp.length:=llm _;rcases hi with⟨rfl,rfl,rfl⟩|⟨rfl,rfl,rfl⟩
 ·refine zc func21 ntmps21 λ_ hs=>?_;repeat' first|refine O ?_|intro
  refine a0L (λg=>?_);repeat' first|refine O ?_|intro
  refine aP (λv'=>?_);repeat' first|refine O ?_|intro
  rw[List.nil_append];refine Y1 (.sl 3 (z.rp.map K3) none) (C8 gx q.g qo.g nz no q qo z o) Rl ⟨rfl,rfl⟩ zb
 refine zc func21 ntmps21 λ_ hs=>?_;repeat' first|refine O ?_|intro
 refine a0L (λg=>?_);repeat' first|refine O ?_|intro
 refine aP (λv'=>?_);repeat' first|refine O ?_|intro
 rw[List.nil_append];refine Y1 (.sl 3 (z.rp.map K3) none) (C8 gx qo.g q.g nz no q qo z o) Rl ⟨rfl,rfl⟩ zb
end
end Go.Proofs.Z
