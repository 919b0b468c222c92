/- A part of the proof: PmT. -/
import Derived.Test.YtboocdbmnfjomaaGreatV01
import Derived.Test.YtboocdbmnfjomaaGreatProg
import Derived.KernelRfl
set_option linter.all false
namespace Go.Proofs.YtboocdbmnfjomaaGreat
open Go
set_option maxRecDepth 100000
@[irreducible] noncomputable def Pg:Program:=Go.Proofs.Tryz.prog
theorem vI:Pg=Go.Proofs.Tryz.prog:=by unfold Pg;rfl
@[irreducible] def ty:Nat->Ty
 |3=>.sc (.int .i64 (λ_=>0))| 4=>.sc .ff| 5=>.sc (.int .u8 (λ_=>0))| 22=>.sli 1 1 [.int .u8 (λ_=>0)]| 23=>.sli 4 64 [.int .i64 (λ_=>0),.ff,.nil,.nil]| 24=>.sli 1 4 [.int .u32 (λ_=>0)]| 25=>.sli 1 4 [.int .u32 (λ_=>0)]| 27=>.st 3 [(0,1,false),(1,1,false),(2,1,false)] [.ff,.nil,.nil]| 29=>.st 4 [(0,1,false),(1,3,true)] [.nil,.ff,.nil,.nil]| 32=>.sli 4 80 [.nil,.ff,.nil,.nil]| 34=>.st 3 [(0,1,false),(1,1,false),(2,1,false)] [.int .i64 (λ_=>0),.nil,.nil]| 35=>.sli 3 56 [.ff,.nil,.nil]| 37=>.st 3 [(0,1,false),(1,1,false),(2,1,false)] [.nil,.nil,.nil]| 39=>.st 10 [(0,3,true),(3,3,true),(6,4,true)] [.int .i64 (λ_=>0),.nil,.nil,.nil,.nil,.nil,.nil,.ff,.nil,.nil]| 40=>.sli 5 72 [.int .i64 (λ_=>0),.int .i64 (λ_=>0),.ff,.nil,.nil]| 41=>.sli 6 96 [.int .i64 (λ_=>0),.ff,.ff,.nil,.nil,.nil]| 43=>.st 12 [(0,10,true),(10,1,false),(11,1,false)] [.int .i64 (λ_=>0),.nil,.nil,.nil,.nil,.nil,.nil,.ff,.nil,.nil,.nil,.nil]| 46=>.st 6 [(0,1,false),(1,1,false),(2,4,true)] [.int .i64 (λ_=>0),.nil,.nil,.ff,.nil,.nil]| 47=>.sli 4 32 [.int .i64 (λ_=>0),.int .i64 (λ_=>0),.int .i64 (λ_=>0),.int .i64 (λ_=>0)]| 48=>.sc (.int .i64 (λ_=>0))| 66=>.sli 7 88 [.int .i64 (λ_=>0),.int .i64 (λ_=>0),.int .i64 (λ_=>0),.int .i64 (λ_=>0),.ff,.nil,.nil]| 68=>.st 6 [(0,1,false),(1,3,true),(4,1,false),(5,1,false)] [.int .i64 (λ_=>0),.ff,.nil,.nil,.nil,.nil]| 75=>.st 4 [(0,1,false),(1,1,false),(2,1,false),(3,1,false)] [.int .i64 (λ_=>0),.int .i64 (λ_=>0),.int .i64 (λ_=>0),.int .i64 (λ_=>0)]| 79=>.st 4 [(0,1,false),(1,3,true)] [.int .i64 (λ_=>0),.ff,.nil,.nil]| 86=>.sc .nilf| 89=>.sli 7 88 [.int .i64 (λ_=>0),.int .i64 (λ_=>0),.int .i64 (λ_=>0),.int .i64 (λ_=>0),.ff,.nil,.nil]| 93=>.st 7 [(0,4,true),(4,3,true)] [.int .i64 (λ_=>0),.int .i64 (λ_=>0),.int .i64 (λ_=>0),.int .i64 (λ_=>0),.ff,.nil,.nil]| 99=>.st 5 [(0,1,false),(1,1,false),(2,3,true)] [.int .i64 (λ_=>0),.int .i64 (λ_=>0),.ff,.nil,.nil]| 102=>.st 6 [(0,1,false),(1,1,false),(2,3,true),(5,1,false)] [.int .i64 (λ_=>0),.ff,.ff,.nil,.nil,.nil]| 110=>.sc .nilp| 113=>.sli 1 1 [.ff]| 117=>.sli 1 8 [.int .i64 (λ_=>0)]| 119=>.st 9 [(0,1,false),(1,3,true),(4,1,false),(5,1,false),(6,1,false),(7,1,false),(8,1,false)] [.int .i64 (λ_=>0),.ff,.nil,.nil,.nil,.nil,.nil,.nil,.int .i64 (λ_=>0)]| 126=>.st 2 [(0,1,false),(1,1,false)] [.ff,.nil]| 139=>.arr 14 1 false [.nilf,.nilf,.nilf,.nilf,.nilf,.nilf,.nilf,.nilf,.nilf,.nilf,.nilf,.nilf,.nilf,.nilf]| 160=>.st 17 [(0,6,true),(6,1,false),(7,9,true),(16,1,false)] [.int .i64 (λ_=>0),.nil,.nil,.ff,.nil,.nil,.ff,.int .i64 (λ_=>0),.ff,.nil,.nil,.nil,.nil,.nil,.nil,.int .i64 (λ_=>0),.int .i64 (λ_=>0)]| 166=>.st 7 [(0,4,true),(4,3,true)] [.int .i64 (λ_=>0),.int .i64 (λ_=>0),.int .i64 (λ_=>0),.int .i64 (λ_=>0),.ff,.nil,.nil]| 171=>.sc (.int .u64 (λ_=>0))| 174=>.st 2 [(0,1,false),(1,1,false)] [.nil,.int .i64 (λ_=>0)]| 177=>.arr 4 1 false [.int .i64 (λ_=>0),.int .i64 (λ_=>0),.int .i64 (λ_=>0),.int .i64 (λ_=>0)]| 190=>.st 32 [(0,12,true),(12,4,true),(16,4,true),(20,4,true),(24,3,true),(27,3,true),(30,1,false),(31,1,false)] [.int .i64 (λ_=>0),.nil,.nil,.nil,.nil,.nil,.nil,.ff,.nil,.nil,.nil,.nil,.int .i64 (λ_=>0),.int .i64 (λ_=>0),.int .i64 (λ_=>0),.int .i64 (λ_=>0),.nil,.ff,.nil,.nil,.nil,.ff,.nil,.nil,.ff,.nil,.nil,.ff,.nil,.nil,.ff,.ff]| 196=>.sc (.int .u32 (λ_=>0))| 198=>.sc (.int .u64 (λ_=>0))| 206=>.sc .nilp| 210=>.sli 1 24 [.nil]| 212=>.st 7 [(0,1,false),(1,1,false),(2,1,false),(3,1,false),(4,1,false),(5,1,false),(6,1,false)] [.int .i64 (λ_=>0),.int .i64 (λ_=>0),.nil,.nil,.nil,.nil,.int .i64 (λ_=>0)]| _=>.no
theorem Mn:vN Go.Proofs.Tryz.prog 3=(.sc (.int .i64 (λ_=>0)):Ty):=by kernel_rfl
theorem Mm:vN Go.Proofs.Tryz.prog 4=(.sc .ff:Ty):=by kernel_rfl
theorem Ml:vN Go.Proofs.Tryz.prog 5=(.sc (.int .u8 (λ_=>0)):Ty):=by kernel_rfl
theorem Pb:vN Go.Proofs.Tryz.prog 22=(.sli 1 1 [.int .u8 (λ_=>0)]:Ty):=by kernel_rfl
theorem Pa:vN Go.Proofs.Tryz.prog 23=(.sli 4 64 [.int .i64 (λ_=>0),.ff,.nil,.nil]:Ty):=by kernel_rfl
theorem R9:vN Go.Proofs.Tryz.prog 24=(.sli 1 4 [.int .u32 (λ_=>0)]:Ty):=by kernel_rfl
theorem R8:vN Go.Proofs.Tryz.prog 25=(.sli 1 4 [.int .u32 (λ_=>0)]:Ty):=by kernel_rfl
theorem R7:vN Go.Proofs.Tryz.prog 27=(.st 3 [(0,1,false),(1,1,false),(2,1,false)] [.ff,.nil,.nil]:Ty):=by kernel_rfl
theorem R6:vN Go.Proofs.Tryz.prog 29=(.st 4 [(0,1,false),(1,3,true)] [.nil,.ff,.nil,.nil]:Ty):=by kernel_rfl
theorem R5:vN Go.Proofs.Tryz.prog 32=(.sli 4 80 [.nil,.ff,.nil,.nil]:Ty):=by kernel_rfl
theorem R4:vN Go.Proofs.Tryz.prog 34=(.st 3 [(0,1,false),(1,1,false),(2,1,false)] [.int .i64 (λ_=>0),.nil,.nil]:Ty):=by kernel_rfl
theorem R3:vN Go.Proofs.Tryz.prog 35=(.sli 3 56 [.ff,.nil,.nil]:Ty):=by kernel_rfl
theorem R2:vN Go.Proofs.Tryz.prog 37=(.st 3 [(0,1,false),(1,1,false),(2,1,false)] [.nil,.nil,.nil]:Ty):=by kernel_rfl
theorem R1:vN Go.Proofs.Tryz.prog 39=(.st 10 [(0,3,true),(3,3,true),(6,4,true)] [.int .i64 (λ_=>0),.nil,.nil,.nil,.nil,.nil,.nil,.ff,.nil,.nil]:Ty):=by kernel_rfl
theorem RZ:vN Go.Proofs.Tryz.prog 40=(.sli 5 72 [.int .i64 (λ_=>0),.int .i64 (λ_=>0),.ff,.nil,.nil]:Ty):=by kernel_rfl
theorem RX:vN Go.Proofs.Tryz.prog 41=(.sli 6 96 [.int .i64 (λ_=>0),.ff,.ff,.nil,.nil,.nil]:Ty):=by kernel_rfl
theorem RW:vN Go.Proofs.Tryz.prog 43=(.st 12 [(0,10,true),(10,1,false),(11,1,false)] [.int .i64 (λ_=>0),.nil,.nil,.nil,.nil,.nil,.nil,.ff,.nil,.nil,.nil,.nil]:Ty):=by kernel_rfl
theorem RV:vN Go.Proofs.Tryz.prog 46=(.st 6 [(0,1,false),(1,1,false),(2,4,true)] [.int .i64 (λ_=>0),.nil,.nil,.ff,.nil,.nil]:Ty):=by kernel_rfl
theorem RU:vN Go.Proofs.Tryz.prog 47=(.sli 4 32 [.int .i64 (λ_=>0),.int .i64 (λ_=>0),.int .i64 (λ_=>0),.int .i64 (λ_=>0)]:Ty):=by kernel_rfl
theorem RT:vN Go.Proofs.Tryz.prog 48=(.sc (.int .i64 (λ_=>0)):Ty):=by kernel_rfl
theorem RS:vN Go.Proofs.Tryz.prog 66=(.sli 7 88 [.int .i64 (λ_=>0),.int .i64 (λ_=>0),.int .i64 (λ_=>0),.int .i64 (λ_=>0),.ff,.nil,.nil]:Ty):=by kernel_rfl
theorem RQ:vN Go.Proofs.Tryz.prog 68=(.st 6 [(0,1,false),(1,3,true),(4,1,false),(5,1,false)] [.int .i64 (λ_=>0),.ff,.nil,.nil,.nil,.nil]:Ty):=by kernel_rfl
theorem RP:vN Go.Proofs.Tryz.prog 75=(.st 4 [(0,1,false),(1,1,false),(2,1,false),(3,1,false)] [.int .i64 (λ_=>0),.int .i64 (λ_=>0),.int .i64 (λ_=>0),.int .i64 (λ_=>0)]:Ty):=by kernel_rfl
theorem RO:vN Go.Proofs.Tryz.prog 79=(.st 4 [(0,1,false),(1,3,true)] [.int .i64 (λ_=>0),.ff,.nil,.nil]:Ty):=by kernel_rfl
theorem RN:vN Go.Proofs.Tryz.prog 86=(.sc .nilf:Ty):=by kernel_rfl
theorem RM:vN Go.Proofs.Tryz.prog 89=(.sli 7 88 [.int .i64 (λ_=>0),.int .i64 (λ_=>0),.int .i64 (λ_=>0),.int .i64 (λ_=>0),.ff,.nil,.nil]:Ty):=by kernel_rfl
theorem RK:vN Go.Proofs.Tryz.prog 93=(.st 7 [(0,4,true),(4,3,true)] [.int .i64 (λ_=>0),.int .i64 (λ_=>0),.int .i64 (λ_=>0),.int .i64 (λ_=>0),.ff,.nil,.nil]:Ty):=by kernel_rfl
theorem RJ:vN Go.Proofs.Tryz.prog 99=(.st 5 [(0,1,false),(1,1,false),(2,3,true)] [.int .i64 (λ_=>0),.int .i64 (λ_=>0),.ff,.nil,.nil]:Ty):=by kernel_rfl
theorem AI:vN Go.Proofs.Tryz.prog 102=(.st 6 [(0,1,false),(1,1,false),(2,3,true),(5,1,false)] [.int .i64 (λ_=>0),.ff,.ff,.nil,.nil,.nil]:Ty):=by kernel_rfl
theorem AH:vN Go.Proofs.Tryz.prog 110=(.sc .nilp:Ty):=by kernel_rfl
theorem AG:vN Go.Proofs.Tryz.prog 113=(.sli 1 1 [.ff]:Ty):=by kernel_rfl
theorem AF:vN Go.Proofs.Tryz.prog 117=(.sli 1 8 [.int .i64 (λ_=>0)]:Ty):=by kernel_rfl
theorem AE:vN Go.Proofs.Tryz.prog 119=(.st 9 [(0,1,false),(1,3,true),(4,1,false),(5,1,false),(6,1,false),(7,1,false),(8,1,false)] [.int .i64 (λ_=>0),.ff,.nil,.nil,.nil,.nil,.nil,.nil,.int .i64 (λ_=>0)]:Ty):=by kernel_rfl
theorem AD:vN Go.Proofs.Tryz.prog 126=(.st 2 [(0,1,false),(1,1,false)] [.ff,.nil]:Ty):=by kernel_rfl
theorem AC:vN Go.Proofs.Tryz.prog 139=(.arr 14 1 false [.nilf,.nilf,.nilf,.nilf,.nilf,.nilf,.nilf,.nilf,.nilf,.nilf,.nilf,.nilf,.nilf,.nilf]:Ty):=by kernel_rfl
theorem AB:vN Go.Proofs.Tryz.prog 160=(.st 17 [(0,6,true),(6,1,false),(7,9,true),(16,1,false)] [.int .i64 (λ_=>0),.nil,.nil,.ff,.nil,.nil,.ff,.int .i64 (λ_=>0),.ff,.nil,.nil,.nil,.nil,.nil,.nil,.int .i64 (λ_=>0),.int .i64 (λ_=>0)]:Ty):=by kernel_rfl
theorem AA:vN Go.Proofs.Tryz.prog 166=(.st 7 [(0,4,true),(4,3,true)] [.int .i64 (λ_=>0),.int .i64 (λ_=>0),.int .i64 (λ_=>0),.int .i64 (λ_=>0),.ff,.nil,.nil]:Ty):=by kernel_rfl
theorem Az:vN Go.Proofs.Tryz.prog 171=(.sc (.int .u64 (λ_=>0)):Ty):=by kernel_rfl
theorem Ay:vN Go.Proofs.Tryz.prog 174=(.st 2 [(0,1,false),(1,1,false)] [.nil,.int .i64 (λ_=>0)]:Ty):=by kernel_rfl
theorem Ax:vN Go.Proofs.Tryz.prog 177=(.arr 4 1 false [.int .i64 (λ_=>0),.int .i64 (λ_=>0),.int .i64 (λ_=>0),.int .i64 (λ_=>0)]:Ty):=by kernel_rfl
theorem Aw:vN Go.Proofs.Tryz.prog 190=(.st 32 [(0,12,true),(12,4,true),(16,4,true),(20,4,true),(24,3,true),(27,3,true),(30,1,false),(31,1,false)] [.int .i64 (λ_=>0),.nil,.nil,.nil,.nil,.nil,.nil,.ff,.nil,.nil,.nil,.nil,.int .i64 (λ_=>0),.int .i64 (λ_=>0),.int .i64 (λ_=>0),.int .i64 (λ_=>0),.nil,.ff,.nil,.nil,.nil,.ff,.nil,.nil,.ff,.nil,.nil,.ff,.nil,.nil,.ff,.ff]:Ty):=by kernel_rfl
theorem Av:vN Go.Proofs.Tryz.prog 196=(.sc (.int .u32 (λ_=>0)):Ty):=by kernel_rfl
theorem Au:vN Go.Proofs.Tryz.prog 198=(.sc (.int .u64 (λ_=>0)):Ty):=by kernel_rfl
theorem As:vN Go.Proofs.Tryz.prog 206=(.sc .nilp:Ty):=by kernel_rfl
theorem Ar:vN Go.Proofs.Tryz.prog 210=(.sli 1 24 [.nil]:Ty):=by kernel_rfl
theorem Aq:vN Go.Proofs.Tryz.prog 212=(.st 7 [(0,1,false),(1,1,false),(2,1,false),(3,1,false),(4,1,false),(5,1,false),(6,1,false)] [.int .i64 (λ_=>0),.int .i64 (λ_=>0),.nil,.nil,.nil,.nil,.int .i64 (λ_=>0)]:Ty):=by kernel_rfl
theorem Mh (t:Nat):ty t=.no\/vN Pg t=ty t:=by rw[vI];unfold ty;split;{exact .inr Mn};{exact .inr Mm};{exact .inr Ml};{exact .inr Pb};{exact .inr Pa};{exact .inr R9};{exact .inr R8};{exact .inr R7};{exact .inr R6};{exact .inr R5};{exact .inr R4};{exact .inr R3};{exact .inr R2};{exact .inr R1};{exact .inr RZ};{exact .inr RX};{exact .inr RW};{exact .inr RV};{exact .inr RU};{exact .inr RT};{exact .inr RS};{exact .inr RQ};{exact .inr RP};{exact .inr RO};{exact .inr RN};{exact .inr RM};{exact .inr RK};{exact .inr RJ};{exact .inr AI};{exact .inr AH};{exact .inr AG};{exact .inr AF};{exact .inr AE};{exact .inr AD};{exact .inr AC};{exact .inr AB};{exact .inr AA};{exact .inr Az};{exact .inr Ay};{exact .inr Ax};{exact .inr Aw};{exact .inr Av};{exact .inr Au};{exact .inr As};{exact .inr Ar};{exact .inr Aq};{exact .inl rfl}
end Go.Proofs.YtboocdbmnfjomaaGreat
