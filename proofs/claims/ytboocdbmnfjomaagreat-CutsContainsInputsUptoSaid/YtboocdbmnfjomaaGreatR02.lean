/- A part of the proof: PmT. -/
import Derived.Test.YtboocdbmnfjomaaGreatR01
import Derived.Test.YtboocdbmnfjomaaGreatProg
import Derived.KernelRfl
set_option linter.all false
namespace Go.Proofs.YtboocdbmnfjomaaGreat
open Go
set_option maxRecDepth 100000
@[irreducible] noncomputable def Pg:Program:=Go.Proofs.Tryz.prog
theorem uM:Pg=Go.Proofs.Tryz.prog:=by unfold Pg;rfl
@[irreducible] def ty:Nat->Ty
 |3=>.sc (.int .i64 (λ_=>0))| 4=>.sc .ff| 5=>.sc (.int .u8 (λ_=>0))| 22=>.sli 1 1 [.int .u8 (λ_=>0)]| 23=>.sli 4 64 [.int .i64 (λ_=>0),.ff,.nil,.nil]| 24=>.sli 1 4 [.int .u32 (λ_=>0)]| 25=>.sli 1 4 [.int .u32 (λ_=>0)]| 27=>.st 3 [(0,1,false),(1,1,false),(2,1,false)] [.ff,.nil,.nil]| 29=>.st 4 [(0,1,false),(1,3,true)] [.nil,.ff,.nil,.nil]| 32=>.sli 4 80 [.nil,.ff,.nil,.nil]| 34=>.st 3 [(0,1,false),(1,1,false),(2,1,false)] [.int .i64 (λ_=>0),.nil,.nil]| 35=>.sli 3 56 [.ff,.nil,.nil]| 37=>.st 3 [(0,1,false),(1,1,false),(2,1,false)] [.nil,.nil,.nil]| 39=>.st 10 [(0,3,true),(3,3,true),(6,4,true)] [.int .i64 (λ_=>0),.nil,.nil,.nil,.nil,.nil,.nil,.ff,.nil,.nil]| 40=>.sli 5 72 [.int .i64 (λ_=>0),.int .i64 (λ_=>0),.ff,.nil,.nil]| 41=>.sli 6 96 [.int .i64 (λ_=>0),.ff,.ff,.nil,.nil,.nil]| 43=>.st 12 [(0,10,true),(10,1,false),(11,1,false)] [.int .i64 (λ_=>0),.nil,.nil,.nil,.nil,.nil,.nil,.ff,.nil,.nil,.nil,.nil]| 46=>.st 6 [(0,1,false),(1,1,false),(2,4,true)] [.int .i64 (λ_=>0),.nil,.nil,.ff,.nil,.nil]| 47=>.sli 4 32 [.int .i64 (λ_=>0),.int .i64 (λ_=>0),.int .i64 (λ_=>0),.int .i64 (λ_=>0)]| 48=>.sc (.int .i64 (λ_=>0))| 66=>.sli 7 88 [.int .i64 (λ_=>0),.int .i64 (λ_=>0),.int .i64 (λ_=>0),.int .i64 (λ_=>0),.ff,.nil,.nil]| 68=>.st 6 [(0,1,false),(1,3,true),(4,1,false),(5,1,false)] [.int .i64 (λ_=>0),.ff,.nil,.nil,.nil,.nil]| 75=>.st 4 [(0,1,false),(1,1,false),(2,1,false),(3,1,false)] [.int .i64 (λ_=>0),.int .i64 (λ_=>0),.int .i64 (λ_=>0),.int .i64 (λ_=>0)]| 79=>.st 4 [(0,1,false),(1,3,true)] [.int .i64 (λ_=>0),.ff,.nil,.nil]| 86=>.sc .nilf| 89=>.sli 7 88 [.int .i64 (λ_=>0),.int .i64 (λ_=>0),.int .i64 (λ_=>0),.int .i64 (λ_=>0),.ff,.nil,.nil]| 93=>.st 7 [(0,4,true),(4,3,true)] [.int .i64 (λ_=>0),.int .i64 (λ_=>0),.int .i64 (λ_=>0),.int .i64 (λ_=>0),.ff,.nil,.nil]| 99=>.st 5 [(0,1,false),(1,1,false),(2,3,true)] [.int .i64 (λ_=>0),.int .i64 (λ_=>0),.ff,.nil,.nil]| 102=>.st 6 [(0,1,false),(1,1,false),(2,3,true),(5,1,false)] [.int .i64 (λ_=>0),.ff,.ff,.nil,.nil,.nil]| 110=>.sc .nilp| 113=>.sli 1 1 [.ff]| 117=>.sli 1 8 [.int .i64 (λ_=>0)]| 119=>.st 9 [(0,1,false),(1,3,true),(4,1,false),(5,1,false),(6,1,false),(7,1,false),(8,1,false)] [.int .i64 (λ_=>0),.ff,.nil,.nil,.nil,.nil,.nil,.nil,.int .i64 (λ_=>0)]| 126=>.st 2 [(0,1,false),(1,1,false)] [.ff,.nil]| 139=>.arr 14 1 false [.nilf,.nilf,.nilf,.nilf,.nilf,.nilf,.nilf,.nilf,.nilf,.nilf,.nilf,.nilf,.nilf,.nilf]| 160=>.st 17 [(0,6,true),(6,1,false),(7,9,true),(16,1,false)] [.int .i64 (λ_=>0),.nil,.nil,.ff,.nil,.nil,.ff,.int .i64 (λ_=>0),.ff,.nil,.nil,.nil,.nil,.nil,.nil,.int .i64 (λ_=>0),.int .i64 (λ_=>0)]| 166=>.st 7 [(0,4,true),(4,3,true)] [.int .i64 (λ_=>0),.int .i64 (λ_=>0),.int .i64 (λ_=>0),.int .i64 (λ_=>0),.ff,.nil,.nil]| 171=>.sc (.int .u64 (λ_=>0))| 174=>.st 2 [(0,1,false),(1,1,false)] [.nil,.int .i64 (λ_=>0)]| 177=>.arr 4 1 false [.int .i64 (λ_=>0),.int .i64 (λ_=>0),.int .i64 (λ_=>0),.int .i64 (λ_=>0)]| 190=>.st 32 [(0,12,true),(12,4,true),(16,4,true),(20,4,true),(24,3,true),(27,3,true),(30,1,false),(31,1,false)] [.int .i64 (λ_=>0),.nil,.nil,.nil,.nil,.nil,.nil,.ff,.nil,.nil,.nil,.nil,.int .i64 (λ_=>0),.int .i64 (λ_=>0),.int .i64 (λ_=>0),.int .i64 (λ_=>0),.nil,.ff,.nil,.nil,.nil,.ff,.nil,.nil,.ff,.nil,.nil,.ff,.nil,.nil,.ff,.ff]| 196=>.sc (.int .u32 (λ_=>0))| 198=>.sc (.int .u64 (λ_=>0))| 206=>.sc .nilp| 210=>.sli 1 24 [.nil]| 212=>.st 7 [(0,1,false),(1,1,false),(2,1,false),(3,1,false),(4,1,false),(5,1,false),(6,1,false)] [.int .i64 (λ_=>0),.int .i64 (λ_=>0),.nil,.nil,.nil,.nil,.int .i64 (λ_=>0)]| _=>.no
theorem N8:vW Go.Proofs.Tryz.prog 3=(.sc (.int .i64 (λ_=>0)):Ty):=by kernel_rfl
theorem N7:vW Go.Proofs.Tryz.prog 4=(.sc .ff:Ty):=by kernel_rfl
theorem N6:vW Go.Proofs.Tryz.prog 5=(.sc (.int .u8 (λ_=>0)):Ty):=by kernel_rfl
theorem T5:vW Go.Proofs.Tryz.prog 22=(.sli 1 1 [.int .u8 (λ_=>0)]:Ty):=by kernel_rfl
theorem TZ:vW Go.Proofs.Tryz.prog 23=(.sli 4 64 [.int .i64 (λ_=>0),.ff,.nil,.nil]:Ty):=by kernel_rfl
theorem TY:vW Go.Proofs.Tryz.prog 24=(.sli 1 4 [.int .u32 (λ_=>0)]:Ty):=by kernel_rfl
theorem TX:vW Go.Proofs.Tryz.prog 25=(.sli 1 4 [.int .u32 (λ_=>0)]:Ty):=by kernel_rfl
theorem TW:vW Go.Proofs.Tryz.prog 27=(.st 3 [(0,1,false),(1,1,false),(2,1,false)] [.ff,.nil,.nil]:Ty):=by kernel_rfl
theorem TV:vW Go.Proofs.Tryz.prog 29=(.st 4 [(0,1,false),(1,3,true)] [.nil,.ff,.nil,.nil]:Ty):=by kernel_rfl
theorem TU:vW Go.Proofs.Tryz.prog 32=(.sli 4 80 [.nil,.ff,.nil,.nil]:Ty):=by kernel_rfl
theorem TR:vW Go.Proofs.Tryz.prog 34=(.st 3 [(0,1,false),(1,1,false),(2,1,false)] [.int .i64 (λ_=>0),.nil,.nil]:Ty):=by kernel_rfl
theorem TQ:vW Go.Proofs.Tryz.prog 35=(.sli 3 56 [.ff,.nil,.nil]:Ty):=by kernel_rfl
theorem TP:vW Go.Proofs.Tryz.prog 37=(.st 3 [(0,1,false),(1,1,false),(2,1,false)] [.nil,.nil,.nil]:Ty):=by kernel_rfl
theorem TO:vW Go.Proofs.Tryz.prog 39=(.st 10 [(0,3,true),(3,3,true),(6,4,true)] [.int .i64 (λ_=>0),.nil,.nil,.nil,.nil,.nil,.nil,.ff,.nil,.nil]:Ty):=by kernel_rfl
theorem TN:vW Go.Proofs.Tryz.prog 40=(.sli 5 72 [.int .i64 (λ_=>0),.int .i64 (λ_=>0),.ff,.nil,.nil]:Ty):=by kernel_rfl
theorem TM:vW Go.Proofs.Tryz.prog 41=(.sli 6 96 [.int .i64 (λ_=>0),.ff,.ff,.nil,.nil,.nil]:Ty):=by kernel_rfl
theorem TL:vW Go.Proofs.Tryz.prog 43=(.st 12 [(0,10,true),(10,1,false),(11,1,false)] [.int .i64 (λ_=>0),.nil,.nil,.nil,.nil,.nil,.nil,.ff,.nil,.nil,.nil,.nil]:Ty):=by kernel_rfl
theorem TK:vW Go.Proofs.Tryz.prog 46=(.st 6 [(0,1,false),(1,1,false),(2,4,true)] [.int .i64 (λ_=>0),.nil,.nil,.ff,.nil,.nil]:Ty):=by kernel_rfl
theorem TJ:vW Go.Proofs.Tryz.prog 47=(.sli 4 32 [.int .i64 (λ_=>0),.int .i64 (λ_=>0),.int .i64 (λ_=>0),.int .i64 (λ_=>0)]:Ty):=by kernel_rfl
theorem TI:vW Go.Proofs.Tryz.prog 48=(.sc (.int .i64 (λ_=>0)):Ty):=by kernel_rfl
theorem TH:vW Go.Proofs.Tryz.prog 66=(.sli 7 88 [.int .i64 (λ_=>0),.int .i64 (λ_=>0),.int .i64 (λ_=>0),.int .i64 (λ_=>0),.ff,.nil,.nil]:Ty):=by kernel_rfl
theorem TG:vW Go.Proofs.Tryz.prog 68=(.st 6 [(0,1,false),(1,3,true),(4,1,false),(5,1,false)] [.int .i64 (λ_=>0),.ff,.nil,.nil,.nil,.nil]:Ty):=by kernel_rfl
theorem TF:vW Go.Proofs.Tryz.prog 75=(.st 4 [(0,1,false),(1,1,false),(2,1,false),(3,1,false)] [.int .i64 (λ_=>0),.int .i64 (λ_=>0),.int .i64 (λ_=>0),.int .i64 (λ_=>0)]:Ty):=by kernel_rfl
theorem TE:vW Go.Proofs.Tryz.prog 79=(.st 4 [(0,1,false),(1,3,true)] [.int .i64 (λ_=>0),.ff,.nil,.nil]:Ty):=by kernel_rfl
theorem TD:vW Go.Proofs.Tryz.prog 86=(.sc .nilf:Ty):=by kernel_rfl
theorem TC:vW Go.Proofs.Tryz.prog 89=(.sli 7 88 [.int .i64 (λ_=>0),.int .i64 (λ_=>0),.int .i64 (λ_=>0),.int .i64 (λ_=>0),.ff,.nil,.nil]:Ty):=by kernel_rfl
theorem TB:vW Go.Proofs.Tryz.prog 93=(.st 7 [(0,4,true),(4,3,true)] [.int .i64 (λ_=>0),.int .i64 (λ_=>0),.int .i64 (λ_=>0),.int .i64 (λ_=>0),.ff,.nil,.nil]:Ty):=by kernel_rfl
theorem TA:vW Go.Proofs.Tryz.prog 99=(.st 5 [(0,1,false),(1,1,false),(2,3,true)] [.int .i64 (λ_=>0),.int .i64 (λ_=>0),.ff,.nil,.nil]:Ty):=by kernel_rfl
theorem Ra:vW Go.Proofs.Tryz.prog 102=(.st 6 [(0,1,false),(1,1,false),(2,3,true),(5,1,false)] [.int .i64 (λ_=>0),.ff,.ff,.nil,.nil,.nil]:Ty):=by kernel_rfl
theorem S9:vW Go.Proofs.Tryz.prog 110=(.sc .nilp:Ty):=by kernel_rfl
theorem S8:vW Go.Proofs.Tryz.prog 113=(.sli 1 1 [.ff]:Ty):=by kernel_rfl
theorem S7:vW Go.Proofs.Tryz.prog 117=(.sli 1 8 [.int .i64 (λ_=>0)]:Ty):=by kernel_rfl
theorem S6:vW Go.Proofs.Tryz.prog 119=(.st 9 [(0,1,false),(1,3,true),(4,1,false),(5,1,false),(6,1,false),(7,1,false),(8,1,false)] [.int .i64 (λ_=>0),.ff,.nil,.nil,.nil,.nil,.nil,.nil,.int .i64 (λ_=>0)]:Ty):=by kernel_rfl
theorem S5:vW Go.Proofs.Tryz.prog 126=(.st 2 [(0,1,false),(1,1,false)] [.ff,.nil]:Ty):=by kernel_rfl
theorem SZ:vW Go.Proofs.Tryz.prog 139=(.arr 14 1 false [.nilf,.nilf,.nilf,.nilf,.nilf,.nilf,.nilf,.nilf,.nilf,.nilf,.nilf,.nilf,.nilf,.nilf]:Ty):=by kernel_rfl
theorem SY:vW Go.Proofs.Tryz.prog 160=(.st 17 [(0,6,true),(6,1,false),(7,9,true),(16,1,false)] [.int .i64 (λ_=>0),.nil,.nil,.ff,.nil,.nil,.ff,.int .i64 (λ_=>0),.ff,.nil,.nil,.nil,.nil,.nil,.nil,.int .i64 (λ_=>0),.int .i64 (λ_=>0)]:Ty):=by kernel_rfl
theorem SX:vW Go.Proofs.Tryz.prog 166=(.st 7 [(0,4,true),(4,3,true)] [.int .i64 (λ_=>0),.int .i64 (λ_=>0),.int .i64 (λ_=>0),.int .i64 (λ_=>0),.ff,.nil,.nil]:Ty):=by kernel_rfl
theorem SW:vW Go.Proofs.Tryz.prog 171=(.sc (.int .u64 (λ_=>0)):Ty):=by kernel_rfl
theorem SV:vW Go.Proofs.Tryz.prog 174=(.st 2 [(0,1,false),(1,1,false)] [.nil,.int .i64 (λ_=>0)]:Ty):=by kernel_rfl
theorem SU:vW Go.Proofs.Tryz.prog 177=(.arr 4 1 false [.int .i64 (λ_=>0),.int .i64 (λ_=>0),.int .i64 (λ_=>0),.int .i64 (λ_=>0)]:Ty):=by kernel_rfl
theorem ST:vW Go.Proofs.Tryz.prog 190=(.st 32 [(0,12,true),(12,4,true),(16,4,true),(20,4,true),(24,3,true),(27,3,true),(30,1,false),(31,1,false)] [.int .i64 (λ_=>0),.nil,.nil,.nil,.nil,.nil,.nil,.ff,.nil,.nil,.nil,.nil,.int .i64 (λ_=>0),.int .i64 (λ_=>0),.int .i64 (λ_=>0),.int .i64 (λ_=>0),.nil,.ff,.nil,.nil,.nil,.ff,.nil,.nil,.ff,.nil,.nil,.ff,.nil,.nil,.ff,.ff]:Ty):=by kernel_rfl
theorem SR:vW Go.Proofs.Tryz.prog 196=(.sc (.int .u32 (λ_=>0)):Ty):=by kernel_rfl
theorem SQ:vW Go.Proofs.Tryz.prog 198=(.sc (.int .u64 (λ_=>0)):Ty):=by kernel_rfl
theorem SP:vW Go.Proofs.Tryz.prog 206=(.sc .nilp:Ty):=by kernel_rfl
theorem SN:vW Go.Proofs.Tryz.prog 210=(.sli 1 24 [.nil]:Ty):=by kernel_rfl
theorem SM:vW Go.Proofs.Tryz.prog 212=(.st 7 [(0,1,false),(1,1,false),(2,1,false),(3,1,false),(4,1,false),(5,1,false),(6,1,false)] [.int .i64 (λ_=>0),.int .i64 (λ_=>0),.nil,.nil,.nil,.nil,.int .i64 (λ_=>0)]:Ty):=by kernel_rfl
theorem N2 (t:Nat):ty t=.no\/vW Pg t=ty t:=by rw[uM];unfold ty;split;{exact .inr N8};{exact .inr N7};{exact .inr N6};{exact .inr T5};{exact .inr TZ};{exact .inr TY};{exact .inr TX};{exact .inr TW};{exact .inr TV};{exact .inr TU};{exact .inr TR};{exact .inr TQ};{exact .inr TP};{exact .inr TO};{exact .inr TN};{exact .inr TM};{exact .inr TL};{exact .inr TK};{exact .inr TJ};{exact .inr TI};{exact .inr TH};{exact .inr TG};{exact .inr TF};{exact .inr TE};{exact .inr TD};{exact .inr TC};{exact .inr TB};{exact .inr TA};{exact .inr Ra};{exact .inr S9};{exact .inr S8};{exact .inr S7};{exact .inr S6};{exact .inr S5};{exact .inr SZ};{exact .inr SY};{exact .inr SX};{exact .inr SW};{exact .inr SV};{exact .inr SU};{exact .inr ST};{exact .inr SR};{exact .inr SQ};{exact .inr SP};{exact .inr SN};{exact .inr SM};{exact .inl rfl}
end Go.Proofs.YtboocdbmnfjomaaGreat
