/- A part of the proof: PmT. -/
import Derived.Test.YtaeaffgjdcigoaaGreatD01
import Derived.Test.YtaeaffgjdcigoaaGreatProg
import Derived.KernelRfl
set_option linter.all false
namespace Go.Proofs.YtaeaffgjdcigoaaGreat
open Go
set_option maxRecDepth 100000
@[irreducible] noncomputable def Pg:Program:=Go.Proofs.Tryz.prog
theorem uQ:Pg=Go.Proofs.Tryz.prog:=by unfold Pg;rfl
@[irreducible] def ty:Nat->Ty
 |3=>.sc (.int .i64 (λ_=>0))| 4=>.sc .ff| 5=>.sc (.int .u8 (λ_=>0))| 22=>.sli 1 1 [.int .u8 (λ_=>0)]| 24=>.sli 4 80 [.nil,.ff,.nil,.nil]| 26=>.st 3 [(0,1,false),(1,1,false),(2,1,false)] [.int .i64 (λ_=>0),.nil,.nil]| 27=>.sli 3 56 [.ff,.nil,.nil]| 29=>.st 3 [(0,1,false),(1,1,false),(2,1,false)] [.nil,.nil,.nil]| 30=>.sli 4 64 [.int .i64 (λ_=>0),.ff,.nil,.nil]| 31=>.sli 1 4 [.int .u32 (λ_=>0)]| 32=>.sli 1 4 [.int .u32 (λ_=>0)]| 34=>.st 3 [(0,1,false),(1,1,false),(2,1,false)] [.ff,.nil,.nil]| 36=>.st 4 [(0,1,false),(1,3,true)] [.nil,.ff,.nil,.nil]| 38=>.st 10 [(0,3,true),(3,3,true),(6,4,true)] [.int .i64 (λ_=>0),.nil,.nil,.nil,.nil,.nil,.nil,.ff,.nil,.nil]| 39=>.sli 5 72 [.int .i64 (λ_=>0),.int .i64 (λ_=>0),.ff,.nil,.nil]| 40=>.sli 6 96 [.int .i64 (λ_=>0),.ff,.ff,.nil,.nil,.nil]| 42=>.st 12 [(0,10,true),(10,1,false),(11,1,false)] [.int .i64 (λ_=>0),.nil,.nil,.nil,.nil,.nil,.nil,.ff,.nil,.nil,.nil,.nil]| 43=>.sli 7 88 [.int .i64 (λ_=>0),.int .i64 (λ_=>0),.int .i64 (λ_=>0),.int .i64 (λ_=>0),.ff,.nil,.nil]| 49=>.sli 1 8 [.int .i64 (λ_=>0)]| 52=>.sli 1 1 [.ff]| 60=>.st 6 [(0,1,false),(1,1,false),(2,3,true),(5,1,false)] [.int .i64 (λ_=>0),.ff,.ff,.nil,.nil,.nil]| 63=>.sli 2 16 [.int .i64 (λ_=>0),.ff]| 64=>.sli 2 16 [.int .i64 (λ_=>0),.ff]| 66=>.st 4 [(0,1,false),(1,1,false),(2,1,false),(3,1,false)] [.nil,.nil,.ff,.nil]| 67=>.sc (.int .i64 (λ_=>0))| 83=>.st 2 [(0,1,false),(1,1,false)] [.int .i64 (λ_=>0),.ff]| 94=>.st 5 [(0,1,false),(1,1,false),(2,3,true)] [.int .i64 (λ_=>0),.int .i64 (λ_=>0),.ff,.nil,.nil]| 95=>.sli 9 152 [.nil,.int .i64 (λ_=>0),.int .i64 (λ_=>0),.ff,.nil,.nil,.nil,.ff,.nil]| 97=>.st 9 [(0,1,false),(1,5,true),(6,1,false),(7,1,false),(8,1,false)] [.nil,.int .i64 (λ_=>0),.int .i64 (λ_=>0),.ff,.nil,.nil,.nil,.ff,.nil]| 105=>.st 4 [(0,1,false),(1,3,true)] [.int .i64 (λ_=>0),.ff,.nil,.nil]| 107=>.st 4 [(0,1,false),(1,1,false),(2,1,false),(3,1,false)] [.int .i64 (λ_=>0),.int .i64 (λ_=>0),.int .i64 (λ_=>0),.int .i64 (λ_=>0)]| 109=>.st 7 [(0,4,true),(4,3,true)] [.int .i64 (λ_=>0),.int .i64 (λ_=>0),.int .i64 (λ_=>0),.int .i64 (λ_=>0),.ff,.nil,.nil]| 119=>.sc .any| 120=>.sc .nilf| 121=>.sc .nilf| 131=>.st 2 [(0,1,false),(1,1,false)] [.ff,.nil]| 173=>.st 5 [(0,3,true),(3,1,false),(4,1,false)] [.ff,.nil,.nil,.nil,.ff]| 180=>.st 2 [(0,1,false),(1,1,false)] [.nil,.int .i64 (λ_=>0)]| 188=>.sc (.int .u64 (λ_=>0))| 189=>.sc (.int .u32 (λ_=>0))| 191=>.sc (.int .u64 (λ_=>0))| 207=>.sc .nilp| 208=>.sli 1 8 [.nilp]| 217=>.st 3 [(0,1,false),(1,1,false),(2,1,false)] [.ff,.nil,.int .i64 (λ_=>0)]| 230=>.arr 4 1 false [.int .i64 (λ_=>0),.int .i64 (λ_=>0),.int .i64 (λ_=>0),.int .i64 (λ_=>0)]| 248=>.sc .nilf| 259=>.sc (.int .i64 (λ_=>0))| 292=>.sc (.int .u64 (λ_=>0))| 299=>.arr 14 1 false [.nilf,.nilf,.nilf,.nilf,.nilf,.nilf,.nilf,.nilf,.nilf,.nilf,.nilf,.nilf,.nilf,.nilf]| 310=>.st 32 [(0,12,true),(12,4,true),(16,4,true),(20,4,true),(24,3,true),(27,3,true),(30,1,false),(31,1,false)] [.int .i64 (λ_=>0),.nil,.nil,.nil,.nil,.nil,.nil,.ff,.nil,.nil,.nil,.nil,.int .i64 (λ_=>0),.int .i64 (λ_=>0),.int .i64 (λ_=>0),.int .i64 (λ_=>0),.nil,.ff,.nil,.nil,.nil,.ff,.nil,.nil,.ff,.nil,.nil,.ff,.nil,.nil,.ff,.ff]| _=>.no
theorem Te:w7 Go.Proofs.Tryz.prog 3=(.sc (.int .i64 (λ_=>0)):Ty):=by kernel_rfl
theorem Td:w7 Go.Proofs.Tryz.prog 4=(.sc .ff:Ty):=by kernel_rfl
theorem Tc:w7 Go.Proofs.Tryz.prog 5=(.sc (.int .u8 (λ_=>0)):Ty):=by kernel_rfl
theorem Rb:w7 Go.Proofs.Tryz.prog 22=(.sli 1 1 [.int .u8 (λ_=>0)]:Ty):=by kernel_rfl
theorem Ra:w7 Go.Proofs.Tryz.prog 24=(.sli 4 80 [.nil,.ff,.nil,.nil]:Ty):=by kernel_rfl
theorem S8:w7 Go.Proofs.Tryz.prog 26=(.st 3 [(0,1,false),(1,1,false),(2,1,false)] [.int .i64 (λ_=>0),.nil,.nil]:Ty):=by kernel_rfl
theorem S7:w7 Go.Proofs.Tryz.prog 27=(.sli 3 56 [.ff,.nil,.nil]:Ty):=by kernel_rfl
theorem S6:w7 Go.Proofs.Tryz.prog 29=(.st 3 [(0,1,false),(1,1,false),(2,1,false)] [.nil,.nil,.nil]:Ty):=by kernel_rfl
theorem S5:w7 Go.Proofs.Tryz.prog 30=(.sli 4 64 [.int .i64 (λ_=>0),.ff,.nil,.nil]:Ty):=by kernel_rfl
theorem SZ:w7 Go.Proofs.Tryz.prog 31=(.sli 1 4 [.int .u32 (λ_=>0)]:Ty):=by kernel_rfl
theorem SY:w7 Go.Proofs.Tryz.prog 32=(.sli 1 4 [.int .u32 (λ_=>0)]:Ty):=by kernel_rfl
theorem SX:w7 Go.Proofs.Tryz.prog 34=(.st 3 [(0,1,false),(1,1,false),(2,1,false)] [.ff,.nil,.nil]:Ty):=by kernel_rfl
theorem SW:w7 Go.Proofs.Tryz.prog 36=(.st 4 [(0,1,false),(1,3,true)] [.nil,.ff,.nil,.nil]:Ty):=by kernel_rfl
theorem SV:w7 Go.Proofs.Tryz.prog 38=(.st 10 [(0,3,true),(3,3,true),(6,4,true)] [.int .i64 (λ_=>0),.nil,.nil,.nil,.nil,.nil,.nil,.ff,.nil,.nil]:Ty):=by kernel_rfl
theorem SU:w7 Go.Proofs.Tryz.prog 39=(.sli 5 72 [.int .i64 (λ_=>0),.int .i64 (λ_=>0),.ff,.nil,.nil]:Ty):=by kernel_rfl
theorem ST:w7 Go.Proofs.Tryz.prog 40=(.sli 6 96 [.int .i64 (λ_=>0),.ff,.ff,.nil,.nil,.nil]:Ty):=by kernel_rfl
theorem SR:w7 Go.Proofs.Tryz.prog 42=(.st 12 [(0,10,true),(10,1,false),(11,1,false)] [.int .i64 (λ_=>0),.nil,.nil,.nil,.nil,.nil,.nil,.ff,.nil,.nil,.nil,.nil]:Ty):=by kernel_rfl
theorem SQ:w7 Go.Proofs.Tryz.prog 43=(.sli 7 88 [.int .i64 (λ_=>0),.int .i64 (λ_=>0),.int .i64 (λ_=>0),.int .i64 (λ_=>0),.ff,.nil,.nil]:Ty):=by kernel_rfl
theorem SP:w7 Go.Proofs.Tryz.prog 49=(.sli 1 8 [.int .i64 (λ_=>0)]:Ty):=by kernel_rfl
theorem SO:w7 Go.Proofs.Tryz.prog 52=(.sli 1 1 [.ff]:Ty):=by kernel_rfl
theorem SN:w7 Go.Proofs.Tryz.prog 60=(.st 6 [(0,1,false),(1,1,false),(2,3,true),(5,1,false)] [.int .i64 (λ_=>0),.ff,.ff,.nil,.nil,.nil]:Ty):=by kernel_rfl
theorem SL:w7 Go.Proofs.Tryz.prog 63=(.sli 2 16 [.int .i64 (λ_=>0),.ff]:Ty):=by kernel_rfl
theorem SJ:w7 Go.Proofs.Tryz.prog 64=(.sli 2 16 [.int .i64 (λ_=>0),.ff]:Ty):=by kernel_rfl
theorem SI:w7 Go.Proofs.Tryz.prog 66=(.st 4 [(0,1,false),(1,1,false),(2,1,false),(3,1,false)] [.nil,.nil,.ff,.nil]:Ty):=by kernel_rfl
theorem SH:w7 Go.Proofs.Tryz.prog 67=(.sc (.int .i64 (λ_=>0)):Ty):=by kernel_rfl
theorem SF:w7 Go.Proofs.Tryz.prog 83=(.st 2 [(0,1,false),(1,1,false)] [.int .i64 (λ_=>0),.ff]:Ty):=by kernel_rfl
theorem SE:w7 Go.Proofs.Tryz.prog 94=(.st 5 [(0,1,false),(1,1,false),(2,3,true)] [.int .i64 (λ_=>0),.int .i64 (λ_=>0),.ff,.nil,.nil]:Ty):=by kernel_rfl
theorem SB:w7 Go.Proofs.Tryz.prog 95=(.sli 9 152 [.nil,.int .i64 (λ_=>0),.int .i64 (λ_=>0),.ff,.nil,.nil,.nil,.ff,.nil]:Ty):=by kernel_rfl
theorem Sz:w7 Go.Proofs.Tryz.prog 97=(.st 9 [(0,1,false),(1,5,true),(6,1,false),(7,1,false),(8,1,false)] [.nil,.int .i64 (λ_=>0),.int .i64 (λ_=>0),.ff,.nil,.nil,.nil,.ff,.nil]:Ty):=by kernel_rfl
theorem BF:w7 Go.Proofs.Tryz.prog 105=(.st 4 [(0,1,false),(1,3,true)] [.int .i64 (λ_=>0),.ff,.nil,.nil]:Ty):=by kernel_rfl
theorem BE:w7 Go.Proofs.Tryz.prog 107=(.st 4 [(0,1,false),(1,1,false),(2,1,false),(3,1,false)] [.int .i64 (λ_=>0),.int .i64 (λ_=>0),.int .i64 (λ_=>0),.int .i64 (λ_=>0)]:Ty):=by kernel_rfl
theorem BD:w7 Go.Proofs.Tryz.prog 109=(.st 7 [(0,4,true),(4,3,true)] [.int .i64 (λ_=>0),.int .i64 (λ_=>0),.int .i64 (λ_=>0),.int .i64 (λ_=>0),.ff,.nil,.nil]:Ty):=by kernel_rfl
theorem BC:w7 Go.Proofs.Tryz.prog 119=(.sc .any:Ty):=by kernel_rfl
theorem BB:w7 Go.Proofs.Tryz.prog 120=(.sc .nilf:Ty):=by kernel_rfl
theorem BA:w7 Go.Proofs.Tryz.prog 121=(.sc .nilf:Ty):=by kernel_rfl
theorem Bz:w7 Go.Proofs.Tryz.prog 131=(.st 2 [(0,1,false),(1,1,false)] [.ff,.nil]:Ty):=by kernel_rfl
theorem By:w7 Go.Proofs.Tryz.prog 173=(.st 5 [(0,3,true),(3,1,false),(4,1,false)] [.ff,.nil,.nil,.nil,.ff]:Ty):=by kernel_rfl
theorem Bw:w7 Go.Proofs.Tryz.prog 180=(.st 2 [(0,1,false),(1,1,false)] [.nil,.int .i64 (λ_=>0)]:Ty):=by kernel_rfl
theorem Bv:w7 Go.Proofs.Tryz.prog 188=(.sc (.int .u64 (λ_=>0)):Ty):=by kernel_rfl
theorem Bu:w7 Go.Proofs.Tryz.prog 189=(.sc (.int .u32 (λ_=>0)):Ty):=by kernel_rfl
theorem Bt:w7 Go.Proofs.Tryz.prog 191=(.sc (.int .u64 (λ_=>0)):Ty):=by kernel_rfl
theorem Bs:w7 Go.Proofs.Tryz.prog 207=(.sc .nilp:Ty):=by kernel_rfl
theorem Bq:w7 Go.Proofs.Tryz.prog 208=(.sli 1 8 [.nilp]:Ty):=by kernel_rfl
theorem Bp:w7 Go.Proofs.Tryz.prog 217=(.st 3 [(0,1,false),(1,1,false),(2,1,false)] [.ff,.nil,.int .i64 (λ_=>0)]:Ty):=by kernel_rfl
theorem Bo:w7 Go.Proofs.Tryz.prog 230=(.arr 4 1 false [.int .i64 (λ_=>0),.int .i64 (λ_=>0),.int .i64 (λ_=>0),.int .i64 (λ_=>0)]:Ty):=by kernel_rfl
theorem Bn:w7 Go.Proofs.Tryz.prog 248=(.sc .nilf:Ty):=by kernel_rfl
theorem Bl:w7 Go.Proofs.Tryz.prog 259=(.sc (.int .i64 (λ_=>0)):Ty):=by kernel_rfl
theorem Bk:w7 Go.Proofs.Tryz.prog 292=(.sc (.int .u64 (λ_=>0)):Ty):=by kernel_rfl
theorem Bj:w7 Go.Proofs.Tryz.prog 299=(.arr 14 1 false [.nilf,.nilf,.nilf,.nilf,.nilf,.nilf,.nilf,.nilf,.nilf,.nilf,.nilf,.nilf,.nilf,.nilf]:Ty):=by kernel_rfl
theorem Bi:w7 Go.Proofs.Tryz.prog 310=(.st 32 [(0,12,true),(12,4,true),(16,4,true),(20,4,true),(24,3,true),(27,3,true),(30,1,false),(31,1,false)] [.int .i64 (λ_=>0),.nil,.nil,.nil,.nil,.nil,.nil,.ff,.nil,.nil,.nil,.nil,.int .i64 (λ_=>0),.int .i64 (λ_=>0),.int .i64 (λ_=>0),.int .i64 (λ_=>0),.nil,.ff,.nil,.nil,.nil,.ff,.nil,.nil,.ff,.nil,.nil,.ff,.nil,.nil,.ff,.ff]:Ty):=by kernel_rfl
theorem Ta (t:Nat):ty t=.no\/w7 Pg t=ty t:=by rw[uQ];unfold ty;split;{exact .inr Te};{exact .inr Td};{exact .inr Tc};{exact .inr Rb};{exact .inr Ra};{exact .inr S8};{exact .inr S7};{exact .inr S6};{exact .inr S5};{exact .inr SZ};{exact .inr SY};{exact .inr SX};{exact .inr SW};{exact .inr SV};{exact .inr SU};{exact .inr ST};{exact .inr SR};{exact .inr SQ};{exact .inr SP};{exact .inr SO};{exact .inr SN};{exact .inr SL};{exact .inr SJ};{exact .inr SI};{exact .inr SH};{exact .inr SF};{exact .inr SE};{exact .inr SB};{exact .inr Sz};{exact .inr BF};{exact .inr BE};{exact .inr BD};{exact .inr BC};{exact .inr BB};{exact .inr BA};{exact .inr Bz};{exact .inr By};{exact .inr Bw};{exact .inr Bv};{exact .inr Bu};{exact .inr Bt};{exact .inr Bs};{exact .inr Bq};{exact .inr Bp};{exact .inr Bo};{exact .inr Bn};{exact .inr Bl};{exact .inr Bk};{exact .inr Bj};{exact .inr Bi};{exact .inl rfl}
end Go.Proofs.YtaeaffgjdcigoaaGreat
