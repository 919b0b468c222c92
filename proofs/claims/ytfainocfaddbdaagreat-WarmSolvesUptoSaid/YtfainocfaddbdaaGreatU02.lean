/- A part of the proof: PmT. -/
import Derived.Test.YtfainocfaddbdaaGreatU01
import Derived.Test.YtfainocfaddbdaaGreatProg
import Derived.KernelRfl
set_option linter.all false
namespace Go.Proofs.YtfainocfaddbdaaGreat
open Go
set_option maxRecDepth 100000
@[irreducible] noncomputable def Pg:Program:=Go.Proofs.Tryz.prog
theorem vJ:Pg=Go.Proofs.Tryz.prog:=by unfold Pg;rfl
@[irreducible] def ty:Nat->Ty
 |3=>.sc (.int .i64 (fun _=>0))| 4=>.sc .ff| 5=>.sc (.int .u8 (fun _=>0))| 22=>.sli 4 80 [.nil,.ff,.nil,.nil]| 23=>.sli 4 64 [.int .i64 (fun _=>0),.ff,.nil,.nil]| 24=>.sli 1 4 [.int .u32 (fun _=>0)]| 25=>.sli 1 4 [.int .u32 (fun _=>0)]| 27=>.st 3 [(0,1,false),(1,1,false),(2,1,false)] [.ff,.nil,.nil]| 29=>.st 4 [(0,1,false),(1,3,true)] [.nil,.ff,.nil,.nil]| 31=>.st 6 [(0,1,false),(1,1,false),(2,4,true)] [.int .i64 (fun _=>0),.nil,.nil,.ff,.nil,.nil]| 34=>.sli 3 56 [.ff,.nil,.nil]| 35=>.sli 1 8 [.int .i64 (fun _=>0)]| 37=>.st 9 [(0,1,false),(1,3,true),(4,1,false),(5,1,false),(6,1,false),(7,1,false),(8,1,false)] [.int .i64 (fun _=>0),.ff,.nil,.nil,.nil,.nil,.nil,.nil,.int .i64 (fun _=>0)]| 38=>.sc (.int .i64 (fun _=>0))| 47=>.sli 1 1 [.int .u8 (fun _=>0)]| 54=>.st 4 [(0,1,false),(1,3,true)] [.int .i64 (fun _=>0),.ff,.nil,.nil]| 57=>.sc .nilp| 70=>.sc .nilp| 74=>.sli 1 24 [.nil]| 76=>.st 7 [(0,1,false),(1,1,false),(2,1,false),(3,1,false),(4,1,false),(5,1,false),(6,1,false)] [.int .i64 (fun _=>0),.int .i64 (fun _=>0),.nil,.nil,.nil,.nil,.int .i64 (fun _=>0)]| 93=>.st 2 [(0,1,false),(1,1,false)] [.ff,.nil]| 106=>.st 17 [(0,6,true),(6,1,false),(7,9,true),(16,1,false)] [.int .i64 (fun _=>0),.nil,.nil,.ff,.nil,.nil,.ff,.int .i64 (fun _=>0),.ff,.nil,.nil,.nil,.nil,.nil,.nil,.int .i64 (fun _=>0),.int .i64 (fun _=>0)]| 123=>.sli 2 32 [.nil,.int .u64 (fun _=>0)]| 126=>.sc (.int .u64 (fun _=>0))| 128=>.st 2 [(0,1,false),(1,1,false)] [.nil,.int .u64 (fun _=>0)]| 129=>.sli 1 1 [.ff]| 144=>.sc (.int .u32 (fun _=>0))| 146=>.sc (.int .u64 (fun _=>0))| _=>.no
theorem zZV:jD Go.Proofs.Tryz.prog 3=(.sc (.int .i64 (fun _=>0)):Ty):=by kernel_rfl
theorem zZU:jD Go.Proofs.Tryz.prog 4=(.sc .ff:Ty):=by kernel_rfl
theorem zZT:jD Go.Proofs.Tryz.prog 5=(.sc (.int .u8 (fun _=>0)):Ty):=by kernel_rfl
theorem zX0:jD Go.Proofs.Tryz.prog 22=(.sli 4 80 [.nil,.ff,.nil,.nil]:Ty):=by kernel_rfl
theorem zXZ:jD Go.Proofs.Tryz.prog 23=(.sli 4 64 [.int .i64 (fun _=>0),.ff,.nil,.nil]:Ty):=by kernel_rfl
theorem zXY:jD Go.Proofs.Tryz.prog 24=(.sli 1 4 [.int .u32 (fun _=>0)]:Ty):=by kernel_rfl
theorem zXX:jD Go.Proofs.Tryz.prog 25=(.sli 1 4 [.int .u32 (fun _=>0)]:Ty):=by kernel_rfl
theorem zXW:jD Go.Proofs.Tryz.prog 27=(.st 3 [(0,1,false),(1,1,false),(2,1,false)] [.ff,.nil,.nil]:Ty):=by kernel_rfl
theorem zXV:jD Go.Proofs.Tryz.prog 29=(.st 4 [(0,1,false),(1,3,true)] [.nil,.ff,.nil,.nil]:Ty):=by kernel_rfl
theorem zXU:jD Go.Proofs.Tryz.prog 31=(.st 6 [(0,1,false),(1,1,false),(2,4,true)] [.int .i64 (fun _=>0),.nil,.nil,.ff,.nil,.nil]:Ty):=by kernel_rfl
theorem zXT:jD Go.Proofs.Tryz.prog 34=(.sli 3 56 [.ff,.nil,.nil]:Ty):=by kernel_rfl
theorem zXS:jD Go.Proofs.Tryz.prog 35=(.sli 1 8 [.int .i64 (fun _=>0)]:Ty):=by kernel_rfl
theorem zXR:jD Go.Proofs.Tryz.prog 37=(.st 9 [(0,1,false),(1,3,true),(4,1,false),(5,1,false),(6,1,false),(7,1,false),(8,1,false)] [.int .i64 (fun _=>0),.ff,.nil,.nil,.nil,.nil,.nil,.nil,.int .i64 (fun _=>0)]:Ty):=by kernel_rfl
theorem zXQ:jD Go.Proofs.Tryz.prog 38=(.sc (.int .i64 (fun _=>0)):Ty):=by kernel_rfl
theorem zXP:jD Go.Proofs.Tryz.prog 47=(.sli 1 1 [.int .u8 (fun _=>0)]:Ty):=by kernel_rfl
theorem zXO:jD Go.Proofs.Tryz.prog 54=(.st 4 [(0,1,false),(1,3,true)] [.int .i64 (fun _=>0),.ff,.nil,.nil]:Ty):=by kernel_rfl
theorem zXN:jD Go.Proofs.Tryz.prog 57=(.sc .nilp:Ty):=by kernel_rfl
theorem zXM:jD Go.Proofs.Tryz.prog 70=(.sc .nilp:Ty):=by kernel_rfl
theorem zXL:jD Go.Proofs.Tryz.prog 74=(.sli 1 24 [.nil]:Ty):=by kernel_rfl
theorem zXK:jD Go.Proofs.Tryz.prog 76=(.st 7 [(0,1,false),(1,1,false),(2,1,false),(3,1,false),(4,1,false),(5,1,false),(6,1,false)] [.int .i64 (fun _=>0),.int .i64 (fun _=>0),.nil,.nil,.nil,.nil,.int .i64 (fun _=>0)]:Ty):=by kernel_rfl
theorem zXJ:jD Go.Proofs.Tryz.prog 93=(.st 2 [(0,1,false),(1,1,false)] [.ff,.nil]:Ty):=by kernel_rfl
theorem zUU:jD Go.Proofs.Tryz.prog 106=(.st 17 [(0,6,true),(6,1,false),(7,9,true),(16,1,false)] [.int .i64 (fun _=>0),.nil,.nil,.ff,.nil,.nil,.ff,.int .i64 (fun _=>0),.ff,.nil,.nil,.nil,.nil,.nil,.nil,.int .i64 (fun _=>0),.int .i64 (fun _=>0)]:Ty):=by kernel_rfl
theorem zUT:jD Go.Proofs.Tryz.prog 123=(.sli 2 32 [.nil,.int .u64 (fun _=>0)]:Ty):=by kernel_rfl
theorem zUS:jD Go.Proofs.Tryz.prog 126=(.sc (.int .u64 (fun _=>0)):Ty):=by kernel_rfl
theorem zUR:jD Go.Proofs.Tryz.prog 128=(.st 2 [(0,1,false),(1,1,false)] [.nil,.int .u64 (fun _=>0)]:Ty):=by kernel_rfl
theorem zUQ:jD Go.Proofs.Tryz.prog 129=(.sli 1 1 [.ff]:Ty):=by kernel_rfl
theorem zUP:jD Go.Proofs.Tryz.prog 144=(.sc (.int .u32 (fun _=>0)):Ty):=by kernel_rfl
theorem zUO:jD Go.Proofs.Tryz.prog 146=(.sc (.int .u64 (fun _=>0)):Ty):=by kernel_rfl
theorem zZR (t:Nat):ty t=.no\/jD Pg t=ty t:=by rw[vJ];unfold ty;split;{exact .inr zZV};{exact .inr zZU};{exact .inr zZT};{exact .inr zX0};{exact .inr zXZ};{exact .inr zXY};{exact .inr zXX};{exact .inr zXW};{exact .inr zXV};{exact .inr zXU};{exact .inr zXT};{exact .inr zXS};{exact .inr zXR};{exact .inr zXQ};{exact .inr zXP};{exact .inr zXO};{exact .inr zXN};{exact .inr zXM};{exact .inr zXL};{exact .inr zXK};{exact .inr zXJ};{exact .inr zUU};{exact .inr zUT};{exact .inr zUS};{exact .inr zUR};{exact .inr zUQ};{exact .inr zUP};{exact .inr zUO};{exact .inl rfl}
end Go.Proofs.YtfainocfaddbdaaGreat
