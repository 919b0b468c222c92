/- A part of the proof: PmT. -/
import Derived.Test.YtgcpehdkdnkgeaaGreatX01
import Derived.Test.YtgcpehdkdnkgeaaGreatProg
import Derived.KernelRfl
set_option linter.all false
namespace Go.Proofs.YtgcpehdkdnkgeaaGreat
open Go
set_option maxRecDepth 100000
@[irreducible] noncomputable def Pg:Program:=Go.Proofs.Tryz.prog
theorem u7:Pg=Go.Proofs.Tryz.prog:=by unfold Pg;rfl
@[irreducible] def ty:Nat→Ty
 | 3=>.sc (.int .i64 (fun _=>0))
 | 4=>.sc .ff
 | 5=>.sc (.int .u8 (fun _=>0))
 | 22=>.sli 1 1 [.int .u8 (fun _=>0)]
 | 23=>.sli 1 4 [.int .u32 (fun _=>0)]
 | 24=>.sli 1 4 [.int .u32 (fun _=>0)]
 | 26=>.st 3 [(0,1,false),(1,1,false),(2,1,false)] [.ff,.nil,.nil]
 | 28=>.st 5 [(0,1,false),(1,1,false),(2,3,true)] [.int .i64 (fun _=>0),.int .i64 (fun _=>0),.ff,.nil,.nil]
 | 30=>.sli 4 80 [.nil,.ff,.nil,.nil]
 | 32=>.st 3 [(0,1,false),(1,1,false),(2,1,false)] [.int .i64 (fun _=>0),.nil,.nil]
 | 33=>.sli 3 56 [.ff,.nil,.nil]
 | 35=>.st 3 [(0,1,false),(1,1,false),(2,1,false)] [.nil,.nil,.nil]
 | 36=>.sli 4 64 [.int .i64 (fun _=>0),.ff,.nil,.nil]
 | 38=>.st 4 [(0,1,false),(1,3,true)] [.nil,.ff,.nil,.nil]
 | 40=>.st 10 [(0,3,true),(3,3,true),(6,4,true)] [.int .i64 (fun _=>0),.nil,.nil,.nil,.nil,.nil,.nil,.ff,.nil,.nil]
 | 41=>.sli 5 72 [.int .i64 (fun _=>0),.int .i64 (fun _=>0),.ff,.nil,.nil]
 | 42=>.sli 6 96 [.int .i64 (fun _=>0),.ff,.ff,.nil,.nil,.nil]
 | 44=>.st 12 [(0,10,true),(10,1,false),(11,1,false)] [.int .i64 (fun _=>0),.nil,.nil,.nil,.nil,.nil,.nil,.ff,.nil,.nil,.nil,.nil]
 | 47=>.sli 7 88 [.int .i64 (fun _=>0),.int .i64 (fun _=>0),.int .i64 (fun _=>0),.int .i64 (fun _=>0),.ff,.nil,.nil]
 | 49=>.st 6 [(0,1,false),(1,1,false),(2,3,true),(5,1,false)] [.int .i64 (fun _=>0),.ff,.ff,.nil,.nil,.nil]
 | 52=>.sc (.int .i64 (fun _=>0))
 | 60=>.sli 3 3 [.int .u8 (fun _=>0),.ff,.int .i8 (fun _=>0)]
 | 63=>.sli 4 32 [.int .i64 (fun _=>0),.int .i64 (fun _=>0),.int .i64 (fun _=>0),.int .i64 (fun _=>0)]
 | 67=>.sc .nilf
 | 69=>.st 4 [(0,1,false),(1,1,false),(2,1,false),(3,1,false)] [.int .i64 (fun _=>0),.int .i64 (fun _=>0),.int .i64 (fun _=>0),.int .i64 (fun _=>0)]
 | 87=>.st 4 [(0,1,false),(1,3,true)] [.int .i64 (fun _=>0),.ff,.nil,.nil]
 | 103=>.st 7 [(0,4,true),(4,3,true)] [.int .i64 (fun _=>0),.int .i64 (fun _=>0),.int .i64 (fun _=>0),.int .i64 (fun _=>0),.ff,.nil,.nil]
 | 120=>.sc (.int .i8 (fun _=>0))
 | 121=>.st 3 [(0,1,false),(1,1,false),(2,1,false)] [.int .u8 (fun _=>0),.ff,.int .i8 (fun _=>0)]
 | 126=>.arr 14 1 false [.nilf,.nilf,.nilf,.nilf,.nilf,.nilf,.nilf,.nilf,.nilf,.nilf,.nilf,.nilf,.nilf,.nilf]
 | 131=>.st 2 [(0,1,false),(1,1,false)] [.ff,.nil]
 | 163=>.sc (.int .u32 (fun _=>0))
 | 171=>.sc (.int .u64 (fun _=>0))
 | 175=>.st 32 [(0,12,true),(12,4,true),(16,4,true),(20,4,true),(24,3,true),(27,3,true),(30,1,false),(31,1,false)] [.int .i64 (fun _=>0),.nil,.nil,.nil,.nil,.nil,.nil,.ff,.nil,.nil,.nil,.nil,.int .i64 (fun _=>0),.int .i64 (fun _=>0),.int .i64 (fun _=>0),.int .i64 (fun _=>0),.nil,.ff,.nil,.nil,.nil,.ff,.nil,.nil,.ff,.nil,.nil,.ff,.nil,.nil,.ff,.ff]
 | 183=>.st 2 [(0,1,false),(1,1,false)] [.nil,.int .i64 (fun _=>0)]
 | 188=>.arr 4 1 false [.int .i64 (fun _=>0),.int .i64 (fun _=>0),.int .i64 (fun _=>0),.int .i64 (fun _=>0)]
 | 190=>.sc (.int .u64 (fun _=>0))
 | 216=>.sli 1 8 [.int .i64 (fun _=>0)]
 | _=>.no
theorem zSK:vJ Go.Proofs.Tryz.prog 3=(.sc (.int .i64 (fun _=>0)):Ty):=by kernel_rfl
theorem zSJ:vJ Go.Proofs.Tryz.prog 4=(.sc .ff:Ty):=by kernel_rfl
theorem zSI:vJ Go.Proofs.Tryz.prog 5=(.sc (.int .u8 (fun _=>0)):Ty):=by kernel_rfl
theorem zQS:vJ Go.Proofs.Tryz.prog 22=(.sli 1 1 [.int .u8 (fun _=>0)]:Ty):=by kernel_rfl
theorem zQR:vJ Go.Proofs.Tryz.prog 23=(.sli 1 4 [.int .u32 (fun _=>0)]:Ty):=by kernel_rfl
theorem zQQ:vJ Go.Proofs.Tryz.prog 24=(.sli 1 4 [.int .u32 (fun _=>0)]:Ty):=by kernel_rfl
theorem zQP:vJ Go.Proofs.Tryz.prog 26=(.st 3 [(0,1,false),(1,1,false),(2,1,false)] [.ff,.nil,.nil]:Ty):=by kernel_rfl
theorem zQO:vJ Go.Proofs.Tryz.prog 28=(.st 5 [(0,1,false),(1,1,false),(2,3,true)] [.int .i64 (fun _=>0),.int .i64 (fun _=>0),.ff,.nil,.nil]:Ty):=by kernel_rfl
theorem zQN:vJ Go.Proofs.Tryz.prog 30=(.sli 4 80 [.nil,.ff,.nil,.nil]:Ty):=by kernel_rfl
theorem zQM:vJ Go.Proofs.Tryz.prog 32=(.st 3 [(0,1,false),(1,1,false),(2,1,false)] [.int .i64 (fun _=>0),.nil,.nil]:Ty):=by kernel_rfl
theorem zQL:vJ Go.Proofs.Tryz.prog 33=(.sli 3 56 [.ff,.nil,.nil]:Ty):=by kernel_rfl
theorem zQK:vJ Go.Proofs.Tryz.prog 35=(.st 3 [(0,1,false),(1,1,false),(2,1,false)] [.nil,.nil,.nil]:Ty):=by kernel_rfl
theorem zQJ:vJ Go.Proofs.Tryz.prog 36=(.sli 4 64 [.int .i64 (fun _=>0),.ff,.nil,.nil]:Ty):=by kernel_rfl
theorem zQI:vJ Go.Proofs.Tryz.prog 38=(.st 4 [(0,1,false),(1,3,true)] [.nil,.ff,.nil,.nil]:Ty):=by kernel_rfl
theorem zQH:vJ Go.Proofs.Tryz.prog 40=(.st 10 [(0,3,true),(3,3,true),(6,4,true)] [.int .i64 (fun _=>0),.nil,.nil,.nil,.nil,.nil,.nil,.ff,.nil,.nil]:Ty):=by kernel_rfl
theorem zQG:vJ Go.Proofs.Tryz.prog 41=(.sli 5 72 [.int .i64 (fun _=>0),.int .i64 (fun _=>0),.ff,.nil,.nil]:Ty):=by kernel_rfl
theorem zQF:vJ Go.Proofs.Tryz.prog 42=(.sli 6 96 [.int .i64 (fun _=>0),.ff,.ff,.nil,.nil,.nil]:Ty):=by kernel_rfl
theorem zQE:vJ Go.Proofs.Tryz.prog 44=(.st 12 [(0,10,true),(10,1,false),(11,1,false)] [.int .i64 (fun _=>0),.nil,.nil,.nil,.nil,.nil,.nil,.ff,.nil,.nil,.nil,.nil]:Ty):=by kernel_rfl
theorem zQD:vJ Go.Proofs.Tryz.prog 47=(.sli 7 88 [.int .i64 (fun _=>0),.int .i64 (fun _=>0),.int .i64 (fun _=>0),.int .i64 (fun _=>0),.ff,.nil,.nil]:Ty):=by kernel_rfl
theorem zQC:vJ Go.Proofs.Tryz.prog 49=(.st 6 [(0,1,false),(1,1,false),(2,3,true),(5,1,false)] [.int .i64 (fun _=>0),.ff,.ff,.nil,.nil,.nil]:Ty):=by kernel_rfl
theorem zQB:vJ Go.Proofs.Tryz.prog 52=(.sc (.int .i64 (fun _=>0)):Ty):=by kernel_rfl
theorem zQA:vJ Go.Proofs.Tryz.prog 60=(.sli 3 3 [.int .u8 (fun _=>0),.ff,.int .i8 (fun _=>0)]:Ty):=by kernel_rfl
theorem zP9:vJ Go.Proofs.Tryz.prog 63=(.sli 4 32 [.int .i64 (fun _=>0),.int .i64 (fun _=>0),.int .i64 (fun _=>0),.int .i64 (fun _=>0)]:Ty):=by kernel_rfl
theorem zP8:vJ Go.Proofs.Tryz.prog 67=(.sc .nilf:Ty):=by kernel_rfl
theorem zP7:vJ Go.Proofs.Tryz.prog 69=(.st 4 [(0,1,false),(1,1,false),(2,1,false),(3,1,false)] [.int .i64 (fun _=>0),.int .i64 (fun _=>0),.int .i64 (fun _=>0),.int .i64 (fun _=>0)]:Ty):=by kernel_rfl
theorem zP6:vJ Go.Proofs.Tryz.prog 87=(.st 4 [(0,1,false),(1,3,true)] [.int .i64 (fun _=>0),.ff,.nil,.nil]:Ty):=by kernel_rfl
theorem zNN:vJ Go.Proofs.Tryz.prog 103=(.st 7 [(0,4,true),(4,3,true)] [.int .i64 (fun _=>0),.int .i64 (fun _=>0),.int .i64 (fun _=>0),.int .i64 (fun _=>0),.ff,.nil,.nil]:Ty):=by kernel_rfl
theorem zNM:vJ Go.Proofs.Tryz.prog 120=(.sc (.int .i8 (fun _=>0)):Ty):=by kernel_rfl
theorem zNL:vJ Go.Proofs.Tryz.prog 121=(.st 3 [(0,1,false),(1,1,false),(2,1,false)] [.int .u8 (fun _=>0),.ff,.int .i8 (fun _=>0)]:Ty):=by kernel_rfl
theorem zNK:vJ Go.Proofs.Tryz.prog 126=(.arr 14 1 false [.nilf,.nilf,.nilf,.nilf,.nilf,.nilf,.nilf,.nilf,.nilf,.nilf,.nilf,.nilf,.nilf,.nilf]:Ty):=by kernel_rfl
theorem zNJ:vJ Go.Proofs.Tryz.prog 131=(.st 2 [(0,1,false),(1,1,false)] [.ff,.nil]:Ty):=by kernel_rfl
theorem zNI:vJ Go.Proofs.Tryz.prog 163=(.sc (.int .u32 (fun _=>0)):Ty):=by kernel_rfl
theorem zNH:vJ Go.Proofs.Tryz.prog 171=(.sc (.int .u64 (fun _=>0)):Ty):=by kernel_rfl
theorem zNG:vJ Go.Proofs.Tryz.prog 175=(.st 32 [(0,12,true),(12,4,true),(16,4,true),(20,4,true),(24,3,true),(27,3,true),(30,1,false),(31,1,false)] [.int .i64 (fun _=>0),.nil,.nil,.nil,.nil,.nil,.nil,.ff,.nil,.nil,.nil,.nil,.int .i64 (fun _=>0),.int .i64 (fun _=>0),.int .i64 (fun _=>0),.int .i64 (fun _=>0),.nil,.ff,.nil,.nil,.nil,.ff,.nil,.nil,.ff,.nil,.nil,.ff,.nil,.nil,.ff,.ff]:Ty):=by kernel_rfl
theorem zNF:vJ Go.Proofs.Tryz.prog 183=(.st 2 [(0,1,false),(1,1,false)] [.nil,.int .i64 (fun _=>0)]:Ty):=by kernel_rfl
theorem zNE:vJ Go.Proofs.Tryz.prog 188=(.arr 4 1 false [.int .i64 (fun _=>0),.int .i64 (fun _=>0),.int .i64 (fun _=>0),.int .i64 (fun _=>0)]:Ty):=by kernel_rfl
theorem zND:vJ Go.Proofs.Tryz.prog 190=(.sc (.int .u64 (fun _=>0)):Ty):=by kernel_rfl
theorem zNC:vJ Go.Proofs.Tryz.prog 216=(.sli 1 8 [.int .i64 (fun _=>0)]:Ty):=by kernel_rfl
theorem zSG (t:Nat):ty t=.no∨vJ Pg t=ty t:=by
 rw[u7]
 unfold ty
 split
 ·exact .inr zSK
 ·exact .inr zSJ
 ·exact .inr zSI
 ·exact .inr zQS
 ·exact .inr zQR
 ·exact .inr zQQ
 ·exact .inr zQP
 ·exact .inr zQO
 ·exact .inr zQN
 ·exact .inr zQM
 ·exact .inr zQL
 ·exact .inr zQK
 ·exact .inr zQJ
 ·exact .inr zQI
 ·exact .inr zQH
 ·exact .inr zQG
 ·exact .inr zQF
 ·exact .inr zQE
 ·exact .inr zQD
 ·exact .inr zQC
 ·exact .inr zQB
 ·exact .inr zQA
 ·exact .inr zP9
 ·exact .inr zP8
 ·exact .inr zP7
 ·exact .inr zP6
 ·exact .inr zNN
 ·exact .inr zNM
 ·exact .inr zNL
 ·exact .inr zNK
 ·exact .inr zNJ
 ·exact .inr zNI
 ·exact .inr zNH
 ·exact .inr zNG
 ·exact .inr zNF
 ·exact .inr zNE
 ·exact .inr zND
 ·exact .inr zNC
 ·exact .inl rfl
end Go.Proofs.YtgcpehdkdnkgeaaGreat
