/- A part of the proof: PmT. -/
import Derived.Test.YtaeaffgjdcigoaaGreatW01
import Derived.Test.YtaeaffgjdcigoaaGreatProg
import Derived.KernelRfl
set_option linter.all false
namespace Go.Proofs.YtaeaffgjdcigoaaGreat
open Go
set_option maxRecDepth 100000
@[irreducible] noncomputable def Pg:Program:=Go.Proofs.Tryz.prog
theorem uZ:Pg=Go.Proofs.Tryz.prog:=by unfold Pg;rfl
@[irreducible] def ty:Nat->Ty
 |3=>.sc (.int .i64 (λ_=>0))| 4=>.sc .ff| 5=>.sc (.int .u8 (λ_=>0))| 22=>.sli 1 1 [.int .u8 (λ_=>0)]| 24=>.sli 4 80 [.nil,.ff,.nil,.nil]| 26=>.st 3 [(0,1,false),(1,1,false),(2,1,false)] [.int .i64 (λ_=>0),.nil,.nil]| 27=>.sli 3 56 [.ff,.nil,.nil]| 29=>.st 3 [(0,1,false),(1,1,false),(2,1,false)] [.nil,.nil,.nil]| 30=>.sli 4 64 [.int .i64 (λ_=>0),.ff,.nil,.nil]| 31=>.sli 1 4 [.int .u32 (λ_=>0)]| 32=>.sli 1 4 [.int .u32 (λ_=>0)]| 34=>.st 3 [(0,1,false),(1,1,false),(2,1,false)] [.ff,.nil,.nil]| 36=>.st 4 [(0,1,false),(1,3,true)] [.nil,.ff,.nil,.nil]| 38=>.st 10 [(0,3,true),(3,3,true),(6,4,true)] [.int .i64 (λ_=>0),.nil,.nil,.nil,.nil,.nil,.nil,.ff,.nil,.nil]| 39=>.sli 5 72 [.int .i64 (λ_=>0),.int .i64 (λ_=>0),.ff,.nil,.nil]| 40=>.sli 6 96 [.int .i64 (λ_=>0),.ff,.ff,.nil,.nil,.nil]| 42=>.st 12 [(0,10,true),(10,1,false),(11,1,false)] [.int .i64 (λ_=>0),.nil,.nil,.nil,.nil,.nil,.nil,.ff,.nil,.nil,.nil,.nil]| 43=>.sli 7 88 [.int .i64 (λ_=>0),.int .i64 (λ_=>0),.int .i64 (λ_=>0),.int .i64 (λ_=>0),.ff,.nil,.nil]| 49=>.sli 1 8 [.int .i64 (λ_=>0)]| 52=>.sli 1 1 [.ff]| 60=>.st 6 [(0,1,false),(1,1,false),(2,3,true),(5,1,false)] [.int .i64 (λ_=>0),.ff,.ff,.nil,.nil,.nil]| 63=>.sli 2 16 [.int .i64 (λ_=>0),.ff]| 64=>.sli 2 16 [.int .i64 (λ_=>0),.ff]| 66=>.st 4 [(0,1,false),(1,1,false),(2,1,false),(3,1,false)] [.nil,.nil,.ff,.nil]| 67=>.sc (.int .i64 (λ_=>0))| 83=>.st 2 [(0,1,false),(1,1,false)] [.int .i64 (λ_=>0),.ff]| 94=>.st 5 [(0,1,false),(1,1,false),(2,3,true)] [.int .i64 (λ_=>0),.int .i64 (λ_=>0),.ff,.nil,.nil]| 95=>.sli 9 152 [.nil,.int .i64 (λ_=>0),.int .i64 (λ_=>0),.ff,.nil,.nil,.nil,.ff,.nil]| 97=>.st 9 [(0,1,false),(1,5,true),(6,1,false),(7,1,false),(8,1,false)] [.nil,.int .i64 (λ_=>0),.int .i64 (λ_=>0),.ff,.nil,.nil,.nil,.ff,.nil]| 105=>.st 4 [(0,1,false),(1,3,true)] [.int .i64 (λ_=>0),.ff,.nil,.nil]| 107=>.st 4 [(0,1,false),(1,1,false),(2,1,false),(3,1,false)] [.int .i64 (λ_=>0),.int .i64 (λ_=>0),.int .i64 (λ_=>0),.int .i64 (λ_=>0)]| 109=>.st 7 [(0,4,true),(4,3,true)] [.int .i64 (λ_=>0),.int .i64 (λ_=>0),.int .i64 (λ_=>0),.int .i64 (λ_=>0),.ff,.nil,.nil]| 119=>.sc .any| 120=>.sc .nilf| 121=>.sc .nilf| 131=>.st 2 [(0,1,false),(1,1,false)] [.ff,.nil]| 173=>.st 5 [(0,3,true),(3,1,false),(4,1,false)] [.ff,.nil,.nil,.nil,.ff]| 180=>.st 2 [(0,1,false),(1,1,false)] [.nil,.int .i64 (λ_=>0)]| 188=>.sc (.int .u64 (λ_=>0))| 189=>.sc (.int .u32 (λ_=>0))| 191=>.sc (.int .u64 (λ_=>0))| 207=>.sc .nilp| 208=>.sli 1 8 [.nilp]| 217=>.st 3 [(0,1,false),(1,1,false),(2,1,false)] [.ff,.nil,.int .i64 (λ_=>0)]| 230=>.arr 4 1 false [.int .i64 (λ_=>0),.int .i64 (λ_=>0),.int .i64 (λ_=>0),.int .i64 (λ_=>0)]| 248=>.sc .nilf| 259=>.sc (.int .i64 (λ_=>0))| 292=>.sc (.int .u64 (λ_=>0))| 299=>.arr 14 1 false [.nilf,.nilf,.nilf,.nilf,.nilf,.nilf,.nilf,.nilf,.nilf,.nilf,.nilf,.nilf,.nilf,.nilf]| 310=>.st 32 [(0,12,true),(12,4,true),(16,4,true),(20,4,true),(24,3,true),(27,3,true),(30,1,false),(31,1,false)] [.int .i64 (λ_=>0),.nil,.nil,.nil,.nil,.nil,.nil,.ff,.nil,.nil,.nil,.nil,.int .i64 (λ_=>0),.int .i64 (λ_=>0),.int .i64 (λ_=>0),.int .i64 (λ_=>0),.nil,.ff,.nil,.nil,.nil,.ff,.nil,.nil,.ff,.nil,.nil,.ff,.nil,.nil,.ff,.ff]| _=>.no
theorem MX:vJ Go.Proofs.Tryz.prog 3=(.sc (.int .i64 (λ_=>0)):Ty):=by kernel_rfl
theorem MW:vJ Go.Proofs.Tryz.prog 4=(.sc .ff:Ty):=by kernel_rfl
theorem MV:vJ Go.Proofs.Tryz.prog 5=(.sc (.int .u8 (λ_=>0)):Ty):=by kernel_rfl
theorem P5:vJ Go.Proofs.Tryz.prog 22=(.sli 1 1 [.int .u8 (λ_=>0)]:Ty):=by kernel_rfl
theorem P4:vJ Go.Proofs.Tryz.prog 24=(.sli 4 80 [.nil,.ff,.nil,.nil]:Ty):=by kernel_rfl
theorem P2:vJ Go.Proofs.Tryz.prog 26=(.st 3 [(0,1,false),(1,1,false),(2,1,false)] [.int .i64 (λ_=>0),.nil,.nil]:Ty):=by kernel_rfl
theorem PZ:vJ Go.Proofs.Tryz.prog 27=(.sli 3 56 [.ff,.nil,.nil]:Ty):=by kernel_rfl
theorem PY:vJ Go.Proofs.Tryz.prog 29=(.st 3 [(0,1,false),(1,1,false),(2,1,false)] [.nil,.nil,.nil]:Ty):=by kernel_rfl
theorem PX:vJ Go.Proofs.Tryz.prog 30=(.sli 4 64 [.int .i64 (λ_=>0),.ff,.nil,.nil]:Ty):=by kernel_rfl
theorem PW:vJ Go.Proofs.Tryz.prog 31=(.sli 1 4 [.int .u32 (λ_=>0)]:Ty):=by kernel_rfl
theorem PU:vJ Go.Proofs.Tryz.prog 32=(.sli 1 4 [.int .u32 (λ_=>0)]:Ty):=by kernel_rfl
theorem PT:vJ Go.Proofs.Tryz.prog 34=(.st 3 [(0,1,false),(1,1,false),(2,1,false)] [.ff,.nil,.nil]:Ty):=by kernel_rfl
theorem PQ:vJ Go.Proofs.Tryz.prog 36=(.st 4 [(0,1,false),(1,3,true)] [.nil,.ff,.nil,.nil]:Ty):=by kernel_rfl
theorem PP:vJ Go.Proofs.Tryz.prog 38=(.st 10 [(0,3,true),(3,3,true),(6,4,true)] [.int .i64 (λ_=>0),.nil,.nil,.nil,.nil,.nil,.nil,.ff,.nil,.nil]:Ty):=by kernel_rfl
theorem PO:vJ Go.Proofs.Tryz.prog 39=(.sli 5 72 [.int .i64 (λ_=>0),.int .i64 (λ_=>0),.ff,.nil,.nil]:Ty):=by kernel_rfl
theorem PN:vJ Go.Proofs.Tryz.prog 40=(.sli 6 96 [.int .i64 (λ_=>0),.ff,.ff,.nil,.nil,.nil]:Ty):=by kernel_rfl
theorem PM:vJ Go.Proofs.Tryz.prog 42=(.st 12 [(0,10,true),(10,1,false),(11,1,false)] [.int .i64 (λ_=>0),.nil,.nil,.nil,.nil,.nil,.nil,.ff,.nil,.nil,.nil,.nil]:Ty):=by kernel_rfl
theorem PK:vJ Go.Proofs.Tryz.prog 43=(.sli 7 88 [.int .i64 (λ_=>0),.int .i64 (λ_=>0),.int .i64 (λ_=>0),.int .i64 (λ_=>0),.ff,.nil,.nil]:Ty):=by kernel_rfl
theorem PJ:vJ Go.Proofs.Tryz.prog 49=(.sli 1 8 [.int .i64 (λ_=>0)]:Ty):=by kernel_rfl
theorem PI:vJ Go.Proofs.Tryz.prog 52=(.sli 1 1 [.ff]:Ty):=by kernel_rfl
theorem PH:vJ Go.Proofs.Tryz.prog 60=(.st 6 [(0,1,false),(1,1,false),(2,3,true),(5,1,false)] [.int .i64 (λ_=>0),.ff,.ff,.nil,.nil,.nil]:Ty):=by kernel_rfl
theorem PG:vJ Go.Proofs.Tryz.prog 63=(.sli 2 16 [.int .i64 (λ_=>0),.ff]:Ty):=by kernel_rfl
theorem PF:vJ Go.Proofs.Tryz.prog 64=(.sli 2 16 [.int .i64 (λ_=>0),.ff]:Ty):=by kernel_rfl
theorem PE:vJ Go.Proofs.Tryz.prog 66=(.st 4 [(0,1,false),(1,1,false),(2,1,false),(3,1,false)] [.nil,.nil,.ff,.nil]:Ty):=by kernel_rfl
theorem PD:vJ Go.Proofs.Tryz.prog 67=(.sc (.int .i64 (λ_=>0)):Ty):=by kernel_rfl
theorem PC:vJ Go.Proofs.Tryz.prog 83=(.st 2 [(0,1,false),(1,1,false)] [.int .i64 (λ_=>0),.ff]:Ty):=by kernel_rfl
theorem PB:vJ Go.Proofs.Tryz.prog 94=(.st 5 [(0,1,false),(1,1,false),(2,3,true)] [.int .i64 (λ_=>0),.int .i64 (λ_=>0),.ff,.nil,.nil]:Ty):=by kernel_rfl
theorem PA:vJ Go.Proofs.Tryz.prog 95=(.sli 9 152 [.nil,.int .i64 (λ_=>0),.int .i64 (λ_=>0),.ff,.nil,.nil,.nil,.ff,.nil]:Ty):=by kernel_rfl
theorem Pz:vJ Go.Proofs.Tryz.prog 97=(.st 9 [(0,1,false),(1,5,true),(6,1,false),(7,1,false),(8,1,false)] [.nil,.int .i64 (λ_=>0),.int .i64 (λ_=>0),.ff,.nil,.nil,.nil,.ff,.nil]:Ty):=by kernel_rfl
theorem A8:vJ Go.Proofs.Tryz.prog 105=(.st 4 [(0,1,false),(1,3,true)] [.int .i64 (λ_=>0),.ff,.nil,.nil]:Ty):=by kernel_rfl
theorem A7:vJ Go.Proofs.Tryz.prog 107=(.st 4 [(0,1,false),(1,1,false),(2,1,false),(3,1,false)] [.int .i64 (λ_=>0),.int .i64 (λ_=>0),.int .i64 (λ_=>0),.int .i64 (λ_=>0)]:Ty):=by kernel_rfl
theorem A6:vJ Go.Proofs.Tryz.prog 109=(.st 7 [(0,4,true),(4,3,true)] [.int .i64 (λ_=>0),.int .i64 (λ_=>0),.int .i64 (λ_=>0),.int .i64 (λ_=>0),.ff,.nil,.nil]:Ty):=by kernel_rfl
theorem A5:vJ Go.Proofs.Tryz.prog 119=(.sc .any:Ty):=by kernel_rfl
theorem A4:vJ Go.Proofs.Tryz.prog 120=(.sc .nilf:Ty):=by kernel_rfl
theorem A3:vJ Go.Proofs.Tryz.prog 121=(.sc .nilf:Ty):=by kernel_rfl
theorem A2:vJ Go.Proofs.Tryz.prog 131=(.st 2 [(0,1,false),(1,1,false)] [.ff,.nil]:Ty):=by kernel_rfl
theorem A1:vJ Go.Proofs.Tryz.prog 173=(.st 5 [(0,3,true),(3,1,false),(4,1,false)] [.ff,.nil,.nil,.nil,.ff]:Ty):=by kernel_rfl
theorem AZ:vJ Go.Proofs.Tryz.prog 180=(.st 2 [(0,1,false),(1,1,false)] [.nil,.int .i64 (λ_=>0)]:Ty):=by kernel_rfl
theorem AY:vJ Go.Proofs.Tryz.prog 188=(.sc (.int .u64 (λ_=>0)):Ty):=by kernel_rfl
theorem AX:vJ Go.Proofs.Tryz.prog 189=(.sc (.int .u32 (λ_=>0)):Ty):=by kernel_rfl
theorem AW:vJ Go.Proofs.Tryz.prog 191=(.sc (.int .u64 (λ_=>0)):Ty):=by kernel_rfl
theorem AU:vJ Go.Proofs.Tryz.prog 207=(.sc .nilp:Ty):=by kernel_rfl
theorem AT:vJ Go.Proofs.Tryz.prog 208=(.sli 1 8 [.nilp]:Ty):=by kernel_rfl
theorem AS:vJ Go.Proofs.Tryz.prog 217=(.st 3 [(0,1,false),(1,1,false),(2,1,false)] [.ff,.nil,.int .i64 (λ_=>0)]:Ty):=by kernel_rfl
theorem AR:vJ Go.Proofs.Tryz.prog 230=(.arr 4 1 false [.int .i64 (λ_=>0),.int .i64 (λ_=>0),.int .i64 (λ_=>0),.int .i64 (λ_=>0)]:Ty):=by kernel_rfl
theorem AQ:vJ Go.Proofs.Tryz.prog 248=(.sc .nilf:Ty):=by kernel_rfl
theorem AP:vJ Go.Proofs.Tryz.prog 259=(.sc (.int .i64 (λ_=>0)):Ty):=by kernel_rfl
theorem AO:vJ Go.Proofs.Tryz.prog 292=(.sc (.int .u64 (λ_=>0)):Ty):=by kernel_rfl
theorem AN:vJ Go.Proofs.Tryz.prog 299=(.arr 14 1 false [.nilf,.nilf,.nilf,.nilf,.nilf,.nilf,.nilf,.nilf,.nilf,.nilf,.nilf,.nilf,.nilf,.nilf]:Ty):=by kernel_rfl
theorem AM:vJ Go.Proofs.Tryz.prog 310=(.st 32 [(0,12,true),(12,4,true),(16,4,true),(20,4,true),(24,3,true),(27,3,true),(30,1,false),(31,1,false)] [.int .i64 (λ_=>0),.nil,.nil,.nil,.nil,.nil,.nil,.ff,.nil,.nil,.nil,.nil,.int .i64 (λ_=>0),.int .i64 (λ_=>0),.int .i64 (λ_=>0),.int .i64 (λ_=>0),.nil,.ff,.nil,.nil,.nil,.ff,.nil,.nil,.ff,.nil,.nil,.ff,.nil,.nil,.ff,.ff]:Ty):=by kernel_rfl
theorem MT (t:Nat):ty t=.no\/vJ Pg t=ty t:=by rw[uZ];unfold ty;split;{exact .inr MX};{exact .inr MW};{exact .inr MV};{exact .inr P5};{exact .inr P4};{exact .inr P2};{exact .inr PZ};{exact .inr PY};{exact .inr PX};{exact .inr PW};{exact .inr PU};{exact .inr PT};{exact .inr PQ};{exact .inr PP};{exact .inr PO};{exact .inr PN};{exact .inr PM};{exact .inr PK};{exact .inr PJ};{exact .inr PI};{exact .inr PH};{exact .inr PG};{exact .inr PF};{exact .inr PE};{exact .inr PD};{exact .inr PC};{exact .inr PB};{exact .inr PA};{exact .inr Pz};{exact .inr A8};{exact .inr A7};{exact .inr A6};{exact .inr A5};{exact .inr A4};{exact .inr A3};{exact .inr A2};{exact .inr A1};{exact .inr AZ};{exact .inr AY};{exact .inr AX};{exact .inr AW};{exact .inr AU};{exact .inr AT};{exact .inr AS};{exact .inr AR};{exact .inr AQ};{exact .inr AP};{exact .inr AO};{exact .inr AN};{exact .inr AM};{exact .inl rfl}
end Go.Proofs.YtaeaffgjdcigoaaGreat
