/- A part of the proof: PmT. -/
import Derived.Test.YtfainocfaddbdaaGreatT01
import Derived.Test.YtfainocfaddbdaaGreatProg
import Derived.KernelRfl
set_option linter.all false
namespace Go.Proofs.YtfainocfaddbdaaGreat
open Go
set_option maxRecDepth 100000
@[irreducible] noncomputable def Pg:Program:=Go.Proofs.Tryz.prog
theorem xX:Pg=Go.Proofs.Tryz.prog:=by unfold Pg;rfl
@[irreducible] def ty:Nat->Ty
 |3=>.sc (.int .i64 (fun _=>0))| 4=>.sc .ff| 5=>.sc (.int .u8 (fun _=>0))| 22=>.sli 4 80 [.nil,.ff,.nil,.nil]| 23=>.sli 4 64 [.int .i64 (fun _=>0),.ff,.nil,.nil]| 24=>.sli 1 4 [.int .u32 (fun _=>0)]| 25=>.sli 1 4 [.int .u32 (fun _=>0)]| 27=>.st 3 [(0,1,false),(1,1,false),(2,1,false)] [.ff,.nil,.nil]| 29=>.st 4 [(0,1,false),(1,3,true)] [.nil,.ff,.nil,.nil]| 31=>.st 6 [(0,1,false),(1,1,false),(2,4,true)] [.int .i64 (fun _=>0),.nil,.nil,.ff,.nil,.nil]| 34=>.sli 3 56 [.ff,.nil,.nil]| 35=>.sli 1 8 [.int .i64 (fun _=>0)]| 37=>.st 9 [(0,1,false),(1,3,true),(4,1,false),(5,1,false),(6,1,false),(7,1,false),(8,1,false)] [.int .i64 (fun _=>0),.ff,.nil,.nil,.nil,.nil,.nil,.nil,.int .i64 (fun _=>0)]| 38=>.sc (.int .i64 (fun _=>0))| 47=>.sli 1 1 [.int .u8 (fun _=>0)]| 54=>.st 4 [(0,1,false),(1,3,true)] [.int .i64 (fun _=>0),.ff,.nil,.nil]| 57=>.sc .nilp| 70=>.sc .nilp| 74=>.sli 1 24 [.nil]| 76=>.st 7 [(0,1,false),(1,1,false),(2,1,false),(3,1,false),(4,1,false),(5,1,false),(6,1,false)] [.int .i64 (fun _=>0),.int .i64 (fun _=>0),.nil,.nil,.nil,.nil,.int .i64 (fun _=>0)]| 93=>.st 2 [(0,1,false),(1,1,false)] [.ff,.nil]| 106=>.st 17 [(0,6,true),(6,1,false),(7,9,true),(16,1,false)] [.int .i64 (fun _=>0),.nil,.nil,.ff,.nil,.nil,.ff,.int .i64 (fun _=>0),.ff,.nil,.nil,.nil,.nil,.nil,.nil,.int .i64 (fun _=>0),.int .i64 (fun _=>0)]| 123=>.sli 2 32 [.nil,.int .u64 (fun _=>0)]| 126=>.sc (.int .u64 (fun _=>0))| 128=>.st 2 [(0,1,false),(1,1,false)] [.nil,.int .u64 (fun _=>0)]| 129=>.sli 1 1 [.ff]| 144=>.sc (.int .u32 (fun _=>0))| 146=>.sc (.int .u64 (fun _=>0))| _=>.no
theorem zON:uG Go.Proofs.Tryz.prog 3=(.sc (.int .i64 (fun _=>0)):Ty):=by kernel_rfl
theorem zOM:uG Go.Proofs.Tryz.prog 4=(.sc .ff:Ty):=by kernel_rfl
theorem zOL:uG Go.Proofs.Tryz.prog 5=(.sc (.int .u8 (fun _=>0)):Ty):=by kernel_rfl
theorem zM4:uG Go.Proofs.Tryz.prog 22=(.sli 4 80 [.nil,.ff,.nil,.nil]:Ty):=by kernel_rfl
theorem zM3:uG Go.Proofs.Tryz.prog 23=(.sli 4 64 [.int .i64 (fun _=>0),.ff,.nil,.nil]:Ty):=by kernel_rfl
theorem zM2:uG Go.Proofs.Tryz.prog 24=(.sli 1 4 [.int .u32 (fun _=>0)]:Ty):=by kernel_rfl
theorem zM1:uG Go.Proofs.Tryz.prog 25=(.sli 1 4 [.int .u32 (fun _=>0)]:Ty):=by kernel_rfl
theorem zM0:uG Go.Proofs.Tryz.prog 27=(.st 3 [(0,1,false),(1,1,false),(2,1,false)] [.ff,.nil,.nil]:Ty):=by kernel_rfl
theorem zMZ:uG Go.Proofs.Tryz.prog 29=(.st 4 [(0,1,false),(1,3,true)] [.nil,.ff,.nil,.nil]:Ty):=by kernel_rfl
theorem zMY:uG Go.Proofs.Tryz.prog 31=(.st 6 [(0,1,false),(1,1,false),(2,4,true)] [.int .i64 (fun _=>0),.nil,.nil,.ff,.nil,.nil]:Ty):=by kernel_rfl
theorem zMX:uG Go.Proofs.Tryz.prog 34=(.sli 3 56 [.ff,.nil,.nil]:Ty):=by kernel_rfl
theorem zMW:uG Go.Proofs.Tryz.prog 35=(.sli 1 8 [.int .i64 (fun _=>0)]:Ty):=by kernel_rfl
theorem zMV:uG Go.Proofs.Tryz.prog 37=(.st 9 [(0,1,false),(1,3,true),(4,1,false),(5,1,false),(6,1,false),(7,1,false),(8,1,false)] [.int .i64 (fun _=>0),.ff,.nil,.nil,.nil,.nil,.nil,.nil,.int .i64 (fun _=>0)]:Ty):=by kernel_rfl
theorem zMU:uG Go.Proofs.Tryz.prog 38=(.sc (.int .i64 (fun _=>0)):Ty):=by kernel_rfl
theorem zMT:uG Go.Proofs.Tryz.prog 47=(.sli 1 1 [.int .u8 (fun _=>0)]:Ty):=by kernel_rfl
theorem zMS:uG Go.Proofs.Tryz.prog 54=(.st 4 [(0,1,false),(1,3,true)] [.int .i64 (fun _=>0),.ff,.nil,.nil]:Ty):=by kernel_rfl
theorem zMR:uG Go.Proofs.Tryz.prog 57=(.sc .nilp:Ty):=by kernel_rfl
theorem zMQ:uG Go.Proofs.Tryz.prog 70=(.sc .nilp:Ty):=by kernel_rfl
theorem zMP:uG Go.Proofs.Tryz.prog 74=(.sli 1 24 [.nil]:Ty):=by kernel_rfl
theorem zMO:uG Go.Proofs.Tryz.prog 76=(.st 7 [(0,1,false),(1,1,false),(2,1,false),(3,1,false),(4,1,false),(5,1,false),(6,1,false)] [.int .i64 (fun _=>0),.int .i64 (fun _=>0),.nil,.nil,.nil,.nil,.int .i64 (fun _=>0)]:Ty):=by kernel_rfl
theorem zMN:uG Go.Proofs.Tryz.prog 93=(.st 2 [(0,1,false),(1,1,false)] [.ff,.nil]:Ty):=by kernel_rfl
theorem zKS:uG Go.Proofs.Tryz.prog 106=(.st 17 [(0,6,true),(6,1,false),(7,9,true),(16,1,false)] [.int .i64 (fun _=>0),.nil,.nil,.ff,.nil,.nil,.ff,.int .i64 (fun _=>0),.ff,.nil,.nil,.nil,.nil,.nil,.nil,.int .i64 (fun _=>0),.int .i64 (fun _=>0)]:Ty):=by kernel_rfl
theorem zKR:uG Go.Proofs.Tryz.prog 123=(.sli 2 32 [.nil,.int .u64 (fun _=>0)]:Ty):=by kernel_rfl
theorem zKQ:uG Go.Proofs.Tryz.prog 126=(.sc (.int .u64 (fun _=>0)):Ty):=by kernel_rfl
theorem zKP:uG Go.Proofs.Tryz.prog 128=(.st 2 [(0,1,false),(1,1,false)] [.nil,.int .u64 (fun _=>0)]:Ty):=by kernel_rfl
theorem zKO:uG Go.Proofs.Tryz.prog 129=(.sli 1 1 [.ff]:Ty):=by kernel_rfl
theorem zKN:uG Go.Proofs.Tryz.prog 144=(.sc (.int .u32 (fun _=>0)):Ty):=by kernel_rfl
theorem zKM:uG Go.Proofs.Tryz.prog 146=(.sc (.int .u64 (fun _=>0)):Ty):=by kernel_rfl
theorem zOJ (t:Nat):ty t=.no\/uG Pg t=ty t:=by rw[xX];unfold ty;split;{exact .inr zON};{exact .inr zOM};{exact .inr zOL};{exact .inr zM4};{exact .inr zM3};{exact .inr zM2};{exact .inr zM1};{exact .inr zM0};{exact .inr zMZ};{exact .inr zMY};{exact .inr zMX};{exact .inr zMW};{exact .inr zMV};{exact .inr zMU};{exact .inr zMT};{exact .inr zMS};{exact .inr zMR};{exact .inr zMQ};{exact .inr zMP};{exact .inr zMO};{exact .inr zMN};{exact .inr zKS};{exact .inr zKR};{exact .inr zKQ};{exact .inr zKP};{exact .inr zKO};{exact .inr zKN};{exact .inr zKM};{exact .inl rfl}
end Go.Proofs.YtfainocfaddbdaaGreat
