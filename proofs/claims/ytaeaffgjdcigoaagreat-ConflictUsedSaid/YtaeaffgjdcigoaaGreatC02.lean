/- A part of the proof: PmT. -/
import Derived.Test.YtaeaffgjdcigoaaGreatC01
import Derived.Test.YtaeaffgjdcigoaaGreatProg
import Derived.KernelRfl
set_option linter.all false
namespace Go.Proofs.YtaeaffgjdcigoaaGreat
open Go
set_option maxRecDepth 100000
@[irreducible] noncomputable def Pg:Program:=Go.Proofs.Tryz.prog
theorem uV:Pg=Go.Proofs.Tryz.prog:=by unfold Pg;rfl
@[irreducible] def ty:Nat->Ty
 |3=>.sc (.int .i64 (fun _=>0))| 4=>.sc .ff| 5=>.sc (.int .u8 (fun _=>0))| 22=>.sli 1 1 [.int .u8 (fun _=>0)]| 24=>.sli 4 80 [.nil,.ff,.nil,.nil]| 26=>.st 3 [(0,1,false),(1,1,false),(2,1,false)] [.int .i64 (fun _=>0),.nil,.nil]| 27=>.sli 3 56 [.ff,.nil,.nil]| 29=>.st 3 [(0,1,false),(1,1,false),(2,1,false)] [.nil,.nil,.nil]| 30=>.sli 4 64 [.int .i64 (fun _=>0),.ff,.nil,.nil]| 31=>.sli 1 4 [.int .u32 (fun _=>0)]| 32=>.sli 1 4 [.int .u32 (fun _=>0)]| 34=>.st 3 [(0,1,false),(1,1,false),(2,1,false)] [.ff,.nil,.nil]| 36=>.st 4 [(0,1,false),(1,3,true)] [.nil,.ff,.nil,.nil]| 38=>.st 10 [(0,3,true),(3,3,true),(6,4,true)] [.int .i64 (fun _=>0),.nil,.nil,.nil,.nil,.nil,.nil,.ff,.nil,.nil]| 39=>.sli 5 72 [.int .i64 (fun _=>0),.int .i64 (fun _=>0),.ff,.nil,.nil]| 40=>.sli 6 96 [.int .i64 (fun _=>0),.ff,.ff,.nil,.nil,.nil]| 42=>.st 12 [(0,10,true),(10,1,false),(11,1,false)] [.int .i64 (fun _=>0),.nil,.nil,.nil,.nil,.nil,.nil,.ff,.nil,.nil,.nil,.nil]| 43=>.sli 7 88 [.int .i64 (fun _=>0),.int .i64 (fun _=>0),.int .i64 (fun _=>0),.int .i64 (fun _=>0),.ff,.nil,.nil]| 49=>.sli 1 8 [.int .i64 (fun _=>0)]| 52=>.sli 1 1 [.ff]| 60=>.st 6 [(0,1,false),(1,1,false),(2,3,true),(5,1,false)] [.int .i64 (fun _=>0),.ff,.ff,.nil,.nil,.nil]| 63=>.sli 2 16 [.int .i64 (fun _=>0),.ff]| 64=>.sli 2 16 [.int .i64 (fun _=>0),.ff]| 66=>.st 4 [(0,1,false),(1,1,false),(2,1,false),(3,1,false)] [.nil,.nil,.ff,.nil]| 67=>.sc (.int .i64 (fun _=>0))| 83=>.st 2 [(0,1,false),(1,1,false)] [.int .i64 (fun _=>0),.ff]| 94=>.st 5 [(0,1,false),(1,1,false),(2,3,true)] [.int .i64 (fun _=>0),.int .i64 (fun _=>0),.ff,.nil,.nil]| 95=>.sli 9 152 [.nil,.int .i64 (fun _=>0),.int .i64 (fun _=>0),.ff,.nil,.nil,.nil,.ff,.nil]| 97=>.st 9 [(0,1,false),(1,5,true),(6,1,false),(7,1,false),(8,1,false)] [.nil,.int .i64 (fun _=>0),.int .i64 (fun _=>0),.ff,.nil,.nil,.nil,.ff,.nil]| 105=>.st 4 [(0,1,false),(1,3,true)] [.int .i64 (fun _=>0),.ff,.nil,.nil]| 107=>.st 4 [(0,1,false),(1,1,false),(2,1,false),(3,1,false)] [.int .i64 (fun _=>0),.int .i64 (fun _=>0),.int .i64 (fun _=>0),.int .i64 (fun _=>0)]| 109=>.st 7 [(0,4,true),(4,3,true)] [.int .i64 (fun _=>0),.int .i64 (fun _=>0),.int .i64 (fun _=>0),.int .i64 (fun _=>0),.ff,.nil,.nil]| 119=>.sc .any| 120=>.sc .nilf| 121=>.sc .nilf| 131=>.st 2 [(0,1,false),(1,1,false)] [.ff,.nil]| 173=>.st 5 [(0,3,true),(3,1,false),(4,1,false)] [.ff,.nil,.nil,.nil,.ff]| 180=>.st 2 [(0,1,false),(1,1,false)] [.nil,.int .i64 (fun _=>0)]| 188=>.sc (.int .u64 (fun _=>0))| 189=>.sc (.int .u32 (fun _=>0))| 191=>.sc (.int .u64 (fun _=>0))| 207=>.sc .nilp| 208=>.sli 1 8 [.nilp]| 217=>.st 3 [(0,1,false),(1,1,false),(2,1,false)] [.ff,.nil,.int .i64 (fun _=>0)]| 230=>.arr 4 1 false [.int .i64 (fun _=>0),.int .i64 (fun _=>0),.int .i64 (fun _=>0),.int .i64 (fun _=>0)]| 248=>.sc .nilf| 259=>.sc (.int .i64 (fun _=>0))| 292=>.sc (.int .u64 (fun _=>0))| 299=>.arr 14 1 false [.nilf,.nilf,.nilf,.nilf,.nilf,.nilf,.nilf,.nilf,.nilf,.nilf,.nilf,.nilf,.nilf,.nilf]| 310=>.st 32 [(0,12,true),(12,4,true),(16,4,true),(20,4,true),(24,3,true),(27,3,true),(30,1,false),(31,1,false)] [.int .i64 (fun _=>0),.nil,.nil,.nil,.nil,.nil,.nil,.ff,.nil,.nil,.nil,.nil,.int .i64 (fun _=>0),.int .i64 (fun _=>0),.int .i64 (fun _=>0),.int .i64 (fun _=>0),.nil,.ff,.nil,.nil,.nil,.ff,.nil,.nil,.ff,.nil,.nil,.ff,.nil,.nil,.ff,.ff]| _=>.no
theorem zZ8:vF Go.Proofs.Tryz.prog 3=(.sc (.int .i64 (fun _=>0)):Ty):=by kernel_rfl
theorem zZ7:vF Go.Proofs.Tryz.prog 4=(.sc .ff:Ty):=by kernel_rfl
theorem zZ6:vF Go.Proofs.Tryz.prog 5=(.sc (.int .u8 (fun _=>0)):Ty):=by kernel_rfl
theorem zYB:vF Go.Proofs.Tryz.prog 22=(.sli 1 1 [.int .u8 (fun _=>0)]:Ty):=by kernel_rfl
theorem zYA:vF Go.Proofs.Tryz.prog 24=(.sli 4 80 [.nil,.ff,.nil,.nil]:Ty):=by kernel_rfl
theorem zX9:vF Go.Proofs.Tryz.prog 26=(.st 3 [(0,1,false),(1,1,false),(2,1,false)] [.int .i64 (fun _=>0),.nil,.nil]:Ty):=by kernel_rfl
theorem zX8:vF Go.Proofs.Tryz.prog 27=(.sli 3 56 [.ff,.nil,.nil]:Ty):=by kernel_rfl
theorem zX7:vF Go.Proofs.Tryz.prog 29=(.st 3 [(0,1,false),(1,1,false),(2,1,false)] [.nil,.nil,.nil]:Ty):=by kernel_rfl
theorem zX6:vF Go.Proofs.Tryz.prog 30=(.sli 4 64 [.int .i64 (fun _=>0),.ff,.nil,.nil]:Ty):=by kernel_rfl
theorem zX5:vF Go.Proofs.Tryz.prog 31=(.sli 1 4 [.int .u32 (fun _=>0)]:Ty):=by kernel_rfl
theorem zX4:vF Go.Proofs.Tryz.prog 32=(.sli 1 4 [.int .u32 (fun _=>0)]:Ty):=by kernel_rfl
theorem zX3:vF Go.Proofs.Tryz.prog 34=(.st 3 [(0,1,false),(1,1,false),(2,1,false)] [.ff,.nil,.nil]:Ty):=by kernel_rfl
theorem zX2:vF Go.Proofs.Tryz.prog 36=(.st 4 [(0,1,false),(1,3,true)] [.nil,.ff,.nil,.nil]:Ty):=by kernel_rfl
theorem zX1:vF Go.Proofs.Tryz.prog 38=(.st 10 [(0,3,true),(3,3,true),(6,4,true)] [.int .i64 (fun _=>0),.nil,.nil,.nil,.nil,.nil,.nil,.ff,.nil,.nil]:Ty):=by kernel_rfl
theorem zX0:vF Go.Proofs.Tryz.prog 39=(.sli 5 72 [.int .i64 (fun _=>0),.int .i64 (fun _=>0),.ff,.nil,.nil]:Ty):=by kernel_rfl
theorem zXZ:vF Go.Proofs.Tryz.prog 40=(.sli 6 96 [.int .i64 (fun _=>0),.ff,.ff,.nil,.nil,.nil]:Ty):=by kernel_rfl
theorem zXY:vF Go.Proofs.Tryz.prog 42=(.st 12 [(0,10,true),(10,1,false),(11,1,false)] [.int .i64 (fun _=>0),.nil,.nil,.nil,.nil,.nil,.nil,.ff,.nil,.nil,.nil,.nil]:Ty):=by kernel_rfl
theorem zXX:vF Go.Proofs.Tryz.prog 43=(.sli 7 88 [.int .i64 (fun _=>0),.int .i64 (fun _=>0),.int .i64 (fun _=>0),.int .i64 (fun _=>0),.ff,.nil,.nil]:Ty):=by kernel_rfl
theorem zXW:vF Go.Proofs.Tryz.prog 49=(.sli 1 8 [.int .i64 (fun _=>0)]:Ty):=by kernel_rfl
theorem zXV:vF Go.Proofs.Tryz.prog 52=(.sli 1 1 [.ff]:Ty):=by kernel_rfl
theorem zXU:vF Go.Proofs.Tryz.prog 60=(.st 6 [(0,1,false),(1,1,false),(2,3,true),(5,1,false)] [.int .i64 (fun _=>0),.ff,.ff,.nil,.nil,.nil]:Ty):=by kernel_rfl
theorem zXT:vF Go.Proofs.Tryz.prog 63=(.sli 2 16 [.int .i64 (fun _=>0),.ff]:Ty):=by kernel_rfl
theorem zXS:vF Go.Proofs.Tryz.prog 64=(.sli 2 16 [.int .i64 (fun _=>0),.ff]:Ty):=by kernel_rfl
theorem zXR:vF Go.Proofs.Tryz.prog 66=(.st 4 [(0,1,false),(1,1,false),(2,1,false),(3,1,false)] [.nil,.nil,.ff,.nil]:Ty):=by kernel_rfl
theorem zXQ:vF Go.Proofs.Tryz.prog 67=(.sc (.int .i64 (fun _=>0)):Ty):=by kernel_rfl
theorem zXP:vF Go.Proofs.Tryz.prog 83=(.st 2 [(0,1,false),(1,1,false)] [.int .i64 (fun _=>0),.ff]:Ty):=by kernel_rfl
theorem zXO:vF Go.Proofs.Tryz.prog 94=(.st 5 [(0,1,false),(1,1,false),(2,3,true)] [.int .i64 (fun _=>0),.int .i64 (fun _=>0),.ff,.nil,.nil]:Ty):=by kernel_rfl
theorem zXN:vF Go.Proofs.Tryz.prog 95=(.sli 9 152 [.nil,.int .i64 (fun _=>0),.int .i64 (fun _=>0),.ff,.nil,.nil,.nil,.ff,.nil]:Ty):=by kernel_rfl
theorem zXM:vF Go.Proofs.Tryz.prog 97=(.st 9 [(0,1,false),(1,5,true),(6,1,false),(7,1,false),(8,1,false)] [.nil,.int .i64 (fun _=>0),.int .i64 (fun _=>0),.ff,.nil,.nil,.nil,.ff,.nil]:Ty):=by kernel_rfl
theorem zU4:vF Go.Proofs.Tryz.prog 105=(.st 4 [(0,1,false),(1,3,true)] [.int .i64 (fun _=>0),.ff,.nil,.nil]:Ty):=by kernel_rfl
theorem zU3:vF Go.Proofs.Tryz.prog 107=(.st 4 [(0,1,false),(1,1,false),(2,1,false),(3,1,false)] [.int .i64 (fun _=>0),.int .i64 (fun _=>0),.int .i64 (fun _=>0),.int .i64 (fun _=>0)]:Ty):=by kernel_rfl
theorem zU2:vF Go.Proofs.Tryz.prog 109=(.st 7 [(0,4,true),(4,3,true)] [.int .i64 (fun _=>0),.int .i64 (fun _=>0),.int .i64 (fun _=>0),.int .i64 (fun _=>0),.ff,.nil,.nil]:Ty):=by kernel_rfl
theorem zU1:vF Go.Proofs.Tryz.prog 119=(.sc .any:Ty):=by kernel_rfl
theorem zU0:vF Go.Proofs.Tryz.prog 120=(.sc .nilf:Ty):=by kernel_rfl
theorem zUZ:vF Go.Proofs.Tryz.prog 121=(.sc .nilf:Ty):=by kernel_rfl
theorem zUY:vF Go.Proofs.Tryz.prog 131=(.st 2 [(0,1,false),(1,1,false)] [.ff,.nil]:Ty):=by kernel_rfl
theorem zUX:vF Go.Proofs.Tryz.prog 173=(.st 5 [(0,3,true),(3,1,false),(4,1,false)] [.ff,.nil,.nil,.nil,.ff]:Ty):=by kernel_rfl
theorem zUW:vF Go.Proofs.Tryz.prog 180=(.st 2 [(0,1,false),(1,1,false)] [.nil,.int .i64 (fun _=>0)]:Ty):=by kernel_rfl
theorem zUV:vF Go.Proofs.Tryz.prog 188=(.sc (.int .u64 (fun _=>0)):Ty):=by kernel_rfl
theorem zUU:vF Go.Proofs.Tryz.prog 189=(.sc (.int .u32 (fun _=>0)):Ty):=by kernel_rfl
theorem zUT:vF Go.Proofs.Tryz.prog 191=(.sc (.int .u64 (fun _=>0)):Ty):=by kernel_rfl
theorem zUS:vF Go.Proofs.Tryz.prog 207=(.sc .nilp:Ty):=by kernel_rfl
theorem zUR:vF Go.Proofs.Tryz.prog 208=(.sli 1 8 [.nilp]:Ty):=by kernel_rfl
theorem zUQ:vF Go.Proofs.Tryz.prog 217=(.st 3 [(0,1,false),(1,1,false),(2,1,false)] [.ff,.nil,.int .i64 (fun _=>0)]:Ty):=by kernel_rfl
theorem zUP:vF Go.Proofs.Tryz.prog 230=(.arr 4 1 false [.int .i64 (fun _=>0),.int .i64 (fun _=>0),.int .i64 (fun _=>0),.int .i64 (fun _=>0)]:Ty):=by kernel_rfl
theorem zUO:vF Go.Proofs.Tryz.prog 248=(.sc .nilf:Ty):=by kernel_rfl
theorem zUN:vF Go.Proofs.Tryz.prog 259=(.sc (.int .i64 (fun _=>0)):Ty):=by kernel_rfl
theorem zUM:vF Go.Proofs.Tryz.prog 292=(.sc (.int .u64 (fun _=>0)):Ty):=by kernel_rfl
theorem zUL:vF Go.Proofs.Tryz.prog 299=(.arr 14 1 false [.nilf,.nilf,.nilf,.nilf,.nilf,.nilf,.nilf,.nilf,.nilf,.nilf,.nilf,.nilf,.nilf,.nilf]:Ty):=by kernel_rfl
theorem zUK:vF Go.Proofs.Tryz.prog 310=(.st 32 [(0,12,true),(12,4,true),(16,4,true),(20,4,true),(24,3,true),(27,3,true),(30,1,false),(31,1,false)] [.int .i64 (fun _=>0),.nil,.nil,.nil,.nil,.nil,.nil,.ff,.nil,.nil,.nil,.nil,.int .i64 (fun _=>0),.int .i64 (fun _=>0),.int .i64 (fun _=>0),.int .i64 (fun _=>0),.nil,.ff,.nil,.nil,.nil,.ff,.nil,.nil,.ff,.nil,.nil,.ff,.nil,.nil,.ff,.ff]:Ty):=by kernel_rfl
theorem zZ4 (t:Nat):ty t=.no\/vF Pg t=ty t:=by rw[uV];unfold ty;split;{exact .inr zZ8};{exact .inr zZ7};{exact .inr zZ6};{exact .inr zYB};{exact .inr zYA};{exact .inr zX9};{exact .inr zX8};{exact .inr zX7};{exact .inr zX6};{exact .inr zX5};{exact .inr zX4};{exact .inr zX3};{exact .inr zX2};{exact .inr zX1};{exact .inr zX0};{exact .inr zXZ};{exact .inr zXY};{exact .inr zXX};{exact .inr zXW};{exact .inr zXV};{exact .inr zXU};{exact .inr zXT};{exact .inr zXS};{exact .inr zXR};{exact .inr zXQ};{exact .inr zXP};{exact .inr zXO};{exact .inr zXN};{exact .inr zXM};{exact .inr zU4};{exact .inr zU3};{exact .inr zU2};{exact .inr zU1};{exact .inr zU0};{exact .inr zUZ};{exact .inr zUY};{exact .inr zUX};{exact .inr zUW};{exact .inr zUV};{exact .inr zUU};{exact .inr zUT};{exact .inr zUS};{exact .inr zUR};{exact .inr zUQ};{exact .inr zUP};{exact .inr zUO};{exact .inr zUN};{exact .inr zUM};{exact .inr zUL};{exact .inr zUK};{exact .inl rfl}
end Go.Proofs.YtaeaffgjdcigoaaGreat
