/- A part of the proof: PmT. -/
import Derived.Test.YtgcpehdkdnkgeaaGreatV01
import Derived.Test.YtgcpehdkdnkgeaaGreatProg
import Derived.KernelRfl
set_option linter.all false
namespace Go.Proofs.YtgcpehdkdnkgeaaGreat
open Go
set_option maxRecDepth 100000
@[irreducible] noncomputable def Pg:Program:=Go.Proofs.Tryz.prog
theorem jB:Pg=Go.Proofs.Tryz.prog:=by unfold Pg;rfl
@[irreducible] def ty:Nat→Ty
 | 3=>.sc (.int .i64 (fun _=>0))
 | 4=>.sc .ff
 | 5=>.sc (.int .u8 (fun _=>0))
 | 22=>.sli 1 1 [.int .u8 (fun _=>0)]
 | 23=>.sli 1 4 [.int .u32 (fun _=>0)]
 | 24=>.sli 1 4 [.int .u32 (fun _=>0)]
 | 26=>.st 3 [(0,1,false),(1,1,false),(2,1,false)] [.ff,.nil,.nil]
 | 28=>.st 5 [(0,1,false),(1,1,false),(2,3,true)] [.int .i64 (fun _=>0),.int .i64 (fun _=>0),.ff,.nil,.nil]
 | 30=>.sli 4 80 [.nil,.ff,.nil,.nil]
 | 32=>.st 3 [(0,1,false),(1,1,false),(2,1,false)] [.int .i64 (fun _=>0),.nil,.nil]
 | 33=>.sli 3 56 [.ff,.nil,.nil]
 | 35=>.st 3 [(0,1,false),(1,1,false),(2,1,false)] [.nil,.nil,.nil]
 | 36=>.sli 4 64 [.int .i64 (fun _=>0),.ff,.nil,.nil]
 | 38=>.st 4 [(0,1,false),(1,3,true)] [.nil,.ff,.nil,.nil]
 | 40=>.st 10 [(0,3,true),(3,3,true),(6,4,true)] [.int .i64 (fun _=>0),.nil,.nil,.nil,.nil,.nil,.nil,.ff,.nil,.nil]
 | 41=>.sli 5 72 [.int .i64 (fun _=>0),.int .i64 (fun _=>0),.ff,.nil,.nil]
 | 42=>.sli 6 96 [.int .i64 (fun _=>0),.ff,.ff,.nil,.nil,.nil]
 | 44=>.st 12 [(0,10,true),(10,1,false),(11,1,false)] [.int .i64 (fun _=>0),.nil,.nil,.nil,.nil,.nil,.nil,.ff,.nil,.nil,.nil,.nil]
 | 47=>.sli 7 88 [.int .i64 (fun _=>0),.int .i64 (fun _=>0),.int .i64 (fun _=>0),.int .i64 (fun _=>0),.ff,.nil,.nil]
 | 49=>.st 6 [(0,1,false),(1,1,false),(2,3,true),(5,1,false)] [.int .i64 (fun _=>0),.ff,.ff,.nil,.nil,.nil]
 | 52=>.sc (.int .i64 (fun _=>0))
 | 60=>.sli 3 3 [.int .u8 (fun _=>0),.ff,.int .i8 (fun _=>0)]
 | 63=>.sli 4 32 [.int .i64 (fun _=>0),.int .i64 (fun _=>0),.int .i64 (fun _=>0),.int .i64 (fun _=>0)]
 | 67=>.sc .nilf
 | 69=>.st 4 [(0,1,false),(1,1,false),(2,1,false),(3,1,false)] [.int .i64 (fun _=>0),.int .i64 (fun _=>0),.int .i64 (fun _=>0),.int .i64 (fun _=>0)]
 | 87=>.st 4 [(0,1,false),(1,3,true)] [.int .i64 (fun _=>0),.ff,.nil,.nil]
 | 103=>.st 7 [(0,4,true),(4,3,true)] [.int .i64 (fun _=>0),.int .i64 (fun _=>0),.int .i64 (fun _=>0),.int .i64 (fun _=>0),.ff,.nil,.nil]
 | 120=>.sc (.int .i8 (fun _=>0))
 | 121=>.st 3 [(0,1,false),(1,1,false),(2,1,false)] [.int .u8 (fun _=>0),.ff,.int .i8 (fun _=>0)]
 | 126=>.arr 14 1 false [.nilf,.nilf,.nilf,.nilf,.nilf,.nilf,.nilf,.nilf,.nilf,.nilf,.nilf,.nilf,.nilf,.nilf]
 | 131=>.st 2 [(0,1,false),(1,1,false)] [.ff,.nil]
 | 163=>.sc (.int .u32 (fun _=>0))
 | 171=>.sc (.int .u64 (fun _=>0))
 | 175=>.st 32 [(0,12,true),(12,4,true),(16,4,true),(20,4,true),(24,3,true),(27,3,true),(30,1,false),(31,1,false)] [.int .i64 (fun _=>0),.nil,.nil,.nil,.nil,.nil,.nil,.ff,.nil,.nil,.nil,.nil,.int .i64 (fun _=>0),.int .i64 (fun _=>0),.int .i64 (fun _=>0),.int .i64 (fun _=>0),.nil,.ff,.nil,.nil,.nil,.ff,.nil,.nil,.ff,.nil,.nil,.ff,.nil,.nil,.ff,.ff]
 | 183=>.st 2 [(0,1,false),(1,1,false)] [.nil,.int .i64 (fun _=>0)]
 | 188=>.arr 4 1 false [.int .i64 (fun _=>0),.int .i64 (fun _=>0),.int .i64 (fun _=>0),.int .i64 (fun _=>0)]
 | 190=>.sc (.int .u64 (fun _=>0))
 | 216=>.sli 1 8 [.int .i64 (fun _=>0)]
 | _=>.no
theorem zR3:vA Go.Proofs.Tryz.prog 3=(.sc (.int .i64 (fun _=>0)):Ty):=by kernel_rfl
theorem zR2:vA Go.Proofs.Tryz.prog 4=(.sc .ff:Ty):=by kernel_rfl
theorem zR1:vA Go.Proofs.Tryz.prog 5=(.sc (.int .u8 (fun _=>0)):Ty):=by kernel_rfl
theorem zP6:vA Go.Proofs.Tryz.prog 22=(.sli 1 1 [.int .u8 (fun _=>0)]:Ty):=by kernel_rfl
theorem zP5:vA Go.Proofs.Tryz.prog 23=(.sli 1 4 [.int .u32 (fun _=>0)]:Ty):=by kernel_rfl
theorem zP4:vA Go.Proofs.Tryz.prog 24=(.sli 1 4 [.int .u32 (fun _=>0)]:Ty):=by kernel_rfl
theorem zP3:vA Go.Proofs.Tryz.prog 26=(.st 3 [(0,1,false),(1,1,false),(2,1,false)] [.ff,.nil,.nil]:Ty):=by kernel_rfl
theorem zP2:vA Go.Proofs.Tryz.prog 28=(.st 5 [(0,1,false),(1,1,false),(2,3,true)] [.int .i64 (fun _=>0),.int .i64 (fun _=>0),.ff,.nil,.nil]:Ty):=by kernel_rfl
theorem zP1:vA Go.Proofs.Tryz.prog 30=(.sli 4 80 [.nil,.ff,.nil,.nil]:Ty):=by kernel_rfl
theorem zP0:vA Go.Proofs.Tryz.prog 32=(.st 3 [(0,1,false),(1,1,false),(2,1,false)] [.int .i64 (fun _=>0),.nil,.nil]:Ty):=by kernel_rfl
theorem zPZ:vA Go.Proofs.Tryz.prog 33=(.sli 3 56 [.ff,.nil,.nil]:Ty):=by kernel_rfl
theorem zPY:vA Go.Proofs.Tryz.prog 35=(.st 3 [(0,1,false),(1,1,false),(2,1,false)] [.nil,.nil,.nil]:Ty):=by kernel_rfl
theorem zPX:vA Go.Proofs.Tryz.prog 36=(.sli 4 64 [.int .i64 (fun _=>0),.ff,.nil,.nil]:Ty):=by kernel_rfl
theorem zPW:vA Go.Proofs.Tryz.prog 38=(.st 4 [(0,1,false),(1,3,true)] [.nil,.ff,.nil,.nil]:Ty):=by kernel_rfl
theorem zPV:vA Go.Proofs.Tryz.prog 40=(.st 10 [(0,3,true),(3,3,true),(6,4,true)] [.int .i64 (fun _=>0),.nil,.nil,.nil,.nil,.nil,.nil,.ff,.nil,.nil]:Ty):=by kernel_rfl
theorem zPU:vA Go.Proofs.Tryz.prog 41=(.sli 5 72 [.int .i64 (fun _=>0),.int .i64 (fun _=>0),.ff,.nil,.nil]:Ty):=by kernel_rfl
theorem zPT:vA Go.Proofs.Tryz.prog 42=(.sli 6 96 [.int .i64 (fun _=>0),.ff,.ff,.nil,.nil,.nil]:Ty):=by kernel_rfl
theorem zPS:vA Go.Proofs.Tryz.prog 44=(.st 12 [(0,10,true),(10,1,false),(11,1,false)] [.int .i64 (fun _=>0),.nil,.nil,.nil,.nil,.nil,.nil,.ff,.nil,.nil,.nil,.nil]:Ty):=by kernel_rfl
theorem zPR:vA Go.Proofs.Tryz.prog 47=(.sli 7 88 [.int .i64 (fun _=>0),.int .i64 (fun _=>0),.int .i64 (fun _=>0),.int .i64 (fun _=>0),.ff,.nil,.nil]:Ty):=by kernel_rfl
theorem zPQ:vA Go.Proofs.Tryz.prog 49=(.st 6 [(0,1,false),(1,1,false),(2,3,true),(5,1,false)] [.int .i64 (fun _=>0),.ff,.ff,.nil,.nil,.nil]:Ty):=by kernel_rfl
theorem zPP:vA Go.Proofs.Tryz.prog 52=(.sc (.int .i64 (fun _=>0)):Ty):=by kernel_rfl
theorem zPO:vA Go.Proofs.Tryz.prog 60=(.sli 3 3 [.int .u8 (fun _=>0),.ff,.int .i8 (fun _=>0)]:Ty):=by kernel_rfl
theorem zPN:vA Go.Proofs.Tryz.prog 63=(.sli 4 32 [.int .i64 (fun _=>0),.int .i64 (fun _=>0),.int .i64 (fun _=>0),.int .i64 (fun _=>0)]:Ty):=by kernel_rfl
theorem zPM:vA Go.Proofs.Tryz.prog 67=(.sc .nilf:Ty):=by kernel_rfl
theorem zPL:vA Go.Proofs.Tryz.prog 69=(.st 4 [(0,1,false),(1,1,false),(2,1,false),(3,1,false)] [.int .i64 (fun _=>0),.int .i64 (fun _=>0),.int .i64 (fun _=>0),.int .i64 (fun _=>0)]:Ty):=by kernel_rfl
theorem zPK:vA Go.Proofs.Tryz.prog 87=(.st 4 [(0,1,false),(1,3,true)] [.int .i64 (fun _=>0),.ff,.nil,.nil]:Ty):=by kernel_rfl
theorem zM2:vA Go.Proofs.Tryz.prog 103=(.st 7 [(0,4,true),(4,3,true)] [.int .i64 (fun _=>0),.int .i64 (fun _=>0),.int .i64 (fun _=>0),.int .i64 (fun _=>0),.ff,.nil,.nil]:Ty):=by kernel_rfl
theorem zM1:vA Go.Proofs.Tryz.prog 120=(.sc (.int .i8 (fun _=>0)):Ty):=by kernel_rfl
theorem zM0:vA Go.Proofs.Tryz.prog 121=(.st 3 [(0,1,false),(1,1,false),(2,1,false)] [.int .u8 (fun _=>0),.ff,.int .i8 (fun _=>0)]:Ty):=by kernel_rfl
theorem zMZ:vA Go.Proofs.Tryz.prog 126=(.arr 14 1 false [.nilf,.nilf,.nilf,.nilf,.nilf,.nilf,.nilf,.nilf,.nilf,.nilf,.nilf,.nilf,.nilf,.nilf]:Ty):=by kernel_rfl
theorem zMY:vA Go.Proofs.Tryz.prog 131=(.st 2 [(0,1,false),(1,1,false)] [.ff,.nil]:Ty):=by kernel_rfl
theorem zMX:vA Go.Proofs.Tryz.prog 163=(.sc (.int .u32 (fun _=>0)):Ty):=by kernel_rfl
theorem zMW:vA Go.Proofs.Tryz.prog 171=(.sc (.int .u64 (fun _=>0)):Ty):=by kernel_rfl
theorem zMV:vA Go.Proofs.Tryz.prog 175=(.st 32 [(0,12,true),(12,4,true),(16,4,true),(20,4,true),(24,3,true),(27,3,true),(30,1,false),(31,1,false)] [.int .i64 (fun _=>0),.nil,.nil,.nil,.nil,.nil,.nil,.ff,.nil,.nil,.nil,.nil,.int .i64 (fun _=>0),.int .i64 (fun _=>0),.int .i64 (fun _=>0),.int .i64 (fun _=>0),.nil,.ff,.nil,.nil,.nil,.ff,.nil,.nil,.ff,.nil,.nil,.ff,.nil,.nil,.ff,.ff]:Ty):=by kernel_rfl
theorem zMU:vA Go.Proofs.Tryz.prog 183=(.st 2 [(0,1,false),(1,1,false)] [.nil,.int .i64 (fun _=>0)]:Ty):=by kernel_rfl
theorem zMT:vA Go.Proofs.Tryz.prog 188=(.arr 4 1 false [.int .i64 (fun _=>0),.int .i64 (fun _=>0),.int .i64 (fun _=>0),.int .i64 (fun _=>0)]:Ty):=by kernel_rfl
theorem zMS:vA Go.Proofs.Tryz.prog 190=(.sc (.int .u64 (fun _=>0)):Ty):=by kernel_rfl
theorem zMR:vA Go.Proofs.Tryz.prog 216=(.sli 1 8 [.int .i64 (fun _=>0)]:Ty):=by kernel_rfl
theorem zRZ (t:Nat):ty t=.no∨vA Pg t=ty t:=by
 rw[jB]
 unfold ty
 split
 ·exact .inr zR3
 ·exact .inr zR2
 ·exact .inr zR1
 ·exact .inr zP6
 ·exact .inr zP5
 ·exact .inr zP4
 ·exact .inr zP3
 ·exact .inr zP2
 ·exact .inr zP1
 ·exact .inr zP0
 ·exact .inr zPZ
 ·exact .inr zPY
 ·exact .inr zPX
 ·exact .inr zPW
 ·exact .inr zPV
 ·exact .inr zPU
 ·exact .inr zPT
 ·exact .inr zPS
 ·exact .inr zPR
 ·exact .inr zPQ
 ·exact .inr zPP
 ·exact .inr zPO
 ·exact .inr zPN
 ·exact .inr zPM
 ·exact .inr zPL
 ·exact .inr zPK
 ·exact .inr zM2
 ·exact .inr zM1
 ·exact .inr zM0
 ·exact .inr zMZ
 ·exact .inr zMY
 ·exact .inr zMX
 ·exact .inr zMW
 ·exact .inr zMV
 ·exact .inr zMU
 ·exact .inr zMT
 ·exact .inr zMS
 ·exact .inr zMR
 ·exact .inl rfl
end Go.Proofs.YtgcpehdkdnkgeaaGreat
