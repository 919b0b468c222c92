/- A part of the proof: PmT. -/
import Derived.Test.YtcanljninhfmhaaGreatU01
import Derived.Test.YtcanljninhfmhaaGreatProg
import Derived.KernelRfl
set_option linter.all false
namespace Go.Proofs.YtcanljninhfmhaaGreat
open Go
set_option maxRecDepth 100000
@[irreducible] noncomputable def Pg : Program := Go.Proofs.Tryz.prog
theorem dM : Pg = Go.Proofs.Tryz.prog := by unfold Pg; rfl
@[irreducible] def ty : Nat → Ty
 | 3 => .sc (.int .i64 (fun _ => 0))
 | 4 => .sc .ff
 | 5 => .sc (.int .u8 (fun _ => 0))
 | 22 => .sli 1 1 [.int .u8 (fun _ => 0)]
 | 23 => .sli 7 88 [.int .i64 (fun _ => 0), .int .i64 (fun _ => 0), .int .i64 (fun _ => 0), .int .i64 (fun _ => 0), .ff, .nil, .nil]
 | 26 => .sli 4 80 [.nil, .ff, .nil, .nil]
 | 28 => .st 3 [(0, 1, false), (1, 1, false), (2, 1, false)] [.int .i64 (fun _ => 0), .nil, .nil]
 | 29 => .sli 3 56 [.ff, .nil, .nil]
 | 31 => .st 3 [(0, 1, false), (1, 1, false), (2, 1, false)] [.nil, .nil, .nil]
 | 32 => .sli 4 64 [.int .i64 (fun _ => 0), .ff, .nil, .nil]
 | 33 => .sli 1 4 [.int .u32 (fun _ => 0)]
 | 34 => .sli 1 4 [.int .u32 (fun _ => 0)]
 | 36 => .st 3 [(0, 1, false), (1, 1, false), (2, 1, false)] [.ff, .nil, .nil]
 | 38 => .st 4 [(0, 1, false), (1, 3, true)] [.nil, .ff, .nil, .nil]
 | 40 => .st 10 [(0, 3, true), (3, 3, true), (6, 4, true)] [.int .i64 (fun _ => 0), .nil, .nil, .nil, .nil, .nil, .nil, .ff, .nil, .nil]
 | 41 => .sli 5 72 [.int .i64 (fun _ => 0), .int .i64 (fun _ => 0), .ff, .nil, .nil]
 | 42 => .sli 6 96 [.int .i64 (fun _ => 0), .ff, .ff, .nil, .nil, .nil]
 | 44 => .st 12 [(0, 10, true), (10, 1, false), (11, 1, false)] [.int .i64 (fun _ => 0), .nil, .nil, .nil, .nil, .nil, .nil, .ff, .nil, .nil, .nil, .nil]
 | 46 => .sc (.int .i64 (fun _ => 0))
 | 68 => .st 6 [(0, 1, false), (1, 1, false), (2, 3, true), (5, 1, false)] [.int .i64 (fun _ => 0), .ff, .ff, .nil, .nil, .nil]
 | 72 => .st 4 [(0, 1, false), (1, 1, false), (2, 1, false), (3, 1, false)] [.int .i64 (fun _ => 0), .int .i64 (fun _ => 0), .int .i64 (fun _ => 0), .int .i64 (fun _ => 0)]
 | 74 => .st 7 [(0, 4, true), (4, 3, true)] [.int .i64 (fun _ => 0), .int .i64 (fun _ => 0), .int .i64 (fun _ => 0), .int .i64 (fun _ => 0), .ff, .nil, .nil]
 | 76 => .st 4 [(0, 1, false), (1, 3, true)] [.int .i64 (fun _ => 0), .ff, .nil, .nil]
 | 78 => .sc (.int .i8 (fun _ => 0))
 | 84 => .st 5 [(0, 1, false), (1, 1, false), (2, 3, true)] [.int .i64 (fun _ => 0), .int .i64 (fun _ => 0), .ff, .nil, .nil]
 | 95 => .sc .nilf
 | 98 => .sli 4 32 [.int .i64 (fun _ => 0), .int .i64 (fun _ => 0), .int .i64 (fun _ => 0), .int .i64 (fun _ => 0)]
 | 102 => .st 2 [(0, 1, false), (1, 1, false)] [.ff, .nil]
 | 136 => .arr 14 1 false [.nilf, .nilf, .nilf, .nilf, .nilf, .nilf, .nilf, .nilf, .nilf, .nilf, .nilf, .nilf, .nilf, .nilf]
 | 146 => .sc (.int .u64 (fun _ => 0))
 | 152 => .sc (.int .u32 (fun _ => 0))
 | 154 => .sc (.int .u64 (fun _ => 0))
 | 175 => .st 2 [(0, 1, false), (1, 1, false)] [.nil, .int .i64 (fun _ => 0)]
 | 178 => .arr 4 1 false [.int .i64 (fun _ => 0), .int .i64 (fun _ => 0), .int .i64 (fun _ => 0), .int .i64 (fun _ => 0)]
 | 182 => .st 32 [(0, 12, true), (12, 4, true), (16, 4, true), (20, 4, true), (24, 3, true), (27, 3, true), (30, 1, false), (31, 1, false)] [.int .i64 (fun _ => 0), .nil, .nil, .nil, .nil, .nil, .nil, .ff, .nil, .nil, .nil, .nil, .int .i64 (fun _ => 0), .int .i64 (fun _ => 0), .int .i64 (fun _ => 0), .int .i64 (fun _ => 0), .nil, .ff, .nil, .nil, .nil, .ff, .nil, .nil, .ff, .nil, .nil, .ff, .nil, .nil, .ff, .ff]
 | 195 => .sli 1 8 [.int .i64 (fun _ => 0)]
 | _ => .no
theorem tyOk3 : vJ Go.Proofs.Tryz.prog 3 = (.sc (.int .i64 (fun _ => 0)) : Ty) := by kernel_rfl
theorem tyOk4 : vJ Go.Proofs.Tryz.prog 4 = (.sc .ff : Ty) := by kernel_rfl
theorem tyOk5 : vJ Go.Proofs.Tryz.prog 5 = (.sc (.int .u8 (fun _ => 0)) : Ty) := by kernel_rfl
theorem tyOk22 : vJ Go.Proofs.Tryz.prog 22 = (.sli 1 1 [.int .u8 (fun _ => 0)] : Ty) := by kernel_rfl
theorem tyOk23 : vJ Go.Proofs.Tryz.prog 23 = (.sli 7 88 [.int .i64 (fun _ => 0), .int .i64 (fun _ => 0), .int .i64 (fun _ => 0), .int .i64 (fun _ => 0), .ff, .nil, .nil] : Ty) := by kernel_rfl
theorem tyOk26 : vJ Go.Proofs.Tryz.prog 26 = (.sli 4 80 [.nil, .ff, .nil, .nil] : Ty) := by kernel_rfl
theorem tyOk28 : vJ Go.Proofs.Tryz.prog 28 = (.st 3 [(0, 1, false), (1, 1, false), (2, 1, false)] [.int .i64 (fun _ => 0), .nil, .nil] : Ty) := by kernel_rfl
theorem tyOk29 : vJ Go.Proofs.Tryz.prog 29 = (.sli 3 56 [.ff, .nil, .nil] : Ty) := by kernel_rfl
theorem tyOk31 : vJ Go.Proofs.Tryz.prog 31 = (.st 3 [(0, 1, false), (1, 1, false), (2, 1, false)] [.nil, .nil, .nil] : Ty) := by kernel_rfl
theorem tyOk32 : vJ Go.Proofs.Tryz.prog 32 = (.sli 4 64 [.int .i64 (fun _ => 0), .ff, .nil, .nil] : Ty) := by kernel_rfl
theorem tyOk33 : vJ Go.Proofs.Tryz.prog 33 = (.sli 1 4 [.int .u32 (fun _ => 0)] : Ty) := by kernel_rfl
theorem tyOk34 : vJ Go.Proofs.Tryz.prog 34 = (.sli 1 4 [.int .u32 (fun _ => 0)] : Ty) := by kernel_rfl
theorem tyOk36 : vJ Go.Proofs.Tryz.prog 36 = (.st 3 [(0, 1, false), (1, 1, false), (2, 1, false)] [.ff, .nil, .nil] : Ty) := by kernel_rfl
theorem tyOk38 : vJ Go.Proofs.Tryz.prog 38 = (.st 4 [(0, 1, false), (1, 3, true)] [.nil, .ff, .nil, .nil] : Ty) := by kernel_rfl
theorem tyOk40 : vJ Go.Proofs.Tryz.prog 40 = (.st 10 [(0, 3, true), (3, 3, true), (6, 4, true)] [.int .i64 (fun _ => 0), .nil, .nil, .nil, .nil, .nil, .nil, .ff, .nil, .nil] : Ty) := by kernel_rfl
theorem tyOk41 : vJ Go.Proofs.Tryz.prog 41 = (.sli 5 72 [.int .i64 (fun _ => 0), .int .i64 (fun _ => 0), .ff, .nil, .nil] : Ty) := by kernel_rfl
theorem tyOk42 : vJ Go.Proofs.Tryz.prog 42 = (.sli 6 96 [.int .i64 (fun _ => 0), .ff, .ff, .nil, .nil, .nil] : Ty) := by kernel_rfl
theorem tyOk44 : vJ Go.Proofs.Tryz.prog 44 = (.st 12 [(0, 10, true), (10, 1, false), (11, 1, false)] [.int .i64 (fun _ => 0), .nil, .nil, .nil, .nil, .nil, .nil, .ff, .nil, .nil, .nil, .nil] : Ty) := by kernel_rfl
theorem tyOk46 : vJ Go.Proofs.Tryz.prog 46 = (.sc (.int .i64 (fun _ => 0)) : Ty) := by kernel_rfl
theorem tyOk68 : vJ Go.Proofs.Tryz.prog 68 = (.st 6 [(0, 1, false), (1, 1, false), (2, 3, true), (5, 1, false)] [.int .i64 (fun _ => 0), .ff, .ff, .nil, .nil, .nil] : Ty) := by kernel_rfl
theorem tyOk72 : vJ Go.Proofs.Tryz.prog 72 = (.st 4 [(0, 1, false), (1, 1, false), (2, 1, false), (3, 1, false)] [.int .i64 (fun _ => 0), .int .i64 (fun _ => 0), .int .i64 (fun _ => 0), .int .i64 (fun _ => 0)] : Ty) := by kernel_rfl
theorem tyOk74 : vJ Go.Proofs.Tryz.prog 74 = (.st 7 [(0, 4, true), (4, 3, true)] [.int .i64 (fun _ => 0), .int .i64 (fun _ => 0), .int .i64 (fun _ => 0), .int .i64 (fun _ => 0), .ff, .nil, .nil] : Ty) := by kernel_rfl
theorem tyOk76 : vJ Go.Proofs.Tryz.prog 76 = (.st 4 [(0, 1, false), (1, 3, true)] [.int .i64 (fun _ => 0), .ff, .nil, .nil] : Ty) := by kernel_rfl
theorem tyOk78 : vJ Go.Proofs.Tryz.prog 78 = (.sc (.int .i8 (fun _ => 0)) : Ty) := by kernel_rfl
theorem tyOk84 : vJ Go.Proofs.Tryz.prog 84 = (.st 5 [(0, 1, false), (1, 1, false), (2, 3, true)] [.int .i64 (fun _ => 0), .int .i64 (fun _ => 0), .ff, .nil, .nil] : Ty) := by kernel_rfl
theorem tyOk95 : vJ Go.Proofs.Tryz.prog 95 = (.sc .nilf : Ty) := by kernel_rfl
theorem tyOk98 : vJ Go.Proofs.Tryz.prog 98 = (.sli 4 32 [.int .i64 (fun _ => 0), .int .i64 (fun _ => 0), .int .i64 (fun _ => 0), .int .i64 (fun _ => 0)] : Ty) := by kernel_rfl
theorem tyOk102 : vJ Go.Proofs.Tryz.prog 102 = (.st 2 [(0, 1, false), (1, 1, false)] [.ff, .nil] : Ty) := by kernel_rfl
theorem tyOk136 : vJ Go.Proofs.Tryz.prog 136 = (.arr 14 1 false [.nilf, .nilf, .nilf, .nilf, .nilf, .nilf, .nilf, .nilf, .nilf, .nilf, .nilf, .nilf, .nilf, .nilf] : Ty) := by kernel_rfl
theorem tyOk146 : vJ Go.Proofs.Tryz.prog 146 = (.sc (.int .u64 (fun _ => 0)) : Ty) := by kernel_rfl
theorem tyOk152 : vJ Go.Proofs.Tryz.prog 152 = (.sc (.int .u32 (fun _ => 0)) : Ty) := by kernel_rfl
theorem tyOk154 : vJ Go.Proofs.Tryz.prog 154 = (.sc (.int .u64 (fun _ => 0)) : Ty) := by kernel_rfl
theorem tyOk175 : vJ Go.Proofs.Tryz.prog 175 = (.st 2 [(0, 1, false), (1, 1, false)] [.nil, .int .i64 (fun _ => 0)] : Ty) := by kernel_rfl
theorem tyOk178 : vJ Go.Proofs.Tryz.prog 178 = (.arr 4 1 false [.int .i64 (fun _ => 0), .int .i64 (fun _ => 0), .int .i64 (fun _ => 0), .int .i64 (fun _ => 0)] : Ty) := by kernel_rfl
theorem tyOk182 : vJ Go.Proofs.Tryz.prog 182 = (.st 32 [(0, 12, true), (12, 4, true), (16, 4, true), (20, 4, true), (24, 3, true), (27, 3, true), (30, 1, false), (31, 1, false)] [.int .i64 (fun _ => 0), .nil, .nil, .nil, .nil, .nil, .nil, .ff, .nil, .nil, .nil, .nil, .int .i64 (fun _ => 0), .int .i64 (fun _ => 0), .int .i64 (fun _ => 0), .int .i64 (fun _ => 0), .nil, .ff, .nil, .nil, .nil, .ff, .nil, .nil, .ff, .nil, .nil, .ff, .nil, .nil, .ff, .ff] : Ty) := by kernel_rfl
theorem tyOk195 : vJ Go.Proofs.Tryz.prog 195 = (.sli 1 8 [.int .i64 (fun _ => 0)] : Ty) := by kernel_rfl
theorem ty_ok (t : Nat) : ty t = .no ∨ vJ Pg t = ty t := by
 rw [dM]
 unfold ty
 split
 ·exact .inr tyOk3
 ·exact .inr tyOk4
 ·exact .inr tyOk5
 ·exact .inr tyOk22
 ·exact .inr tyOk23
 ·exact .inr tyOk26
 ·exact .inr tyOk28
 ·exact .inr tyOk29
 ·exact .inr tyOk31
 ·exact .inr tyOk32
 ·exact .inr tyOk33
 ·exact .inr tyOk34
 ·exact .inr tyOk36
 ·exact .inr tyOk38
 ·exact .inr tyOk40
 ·exact .inr tyOk41
 ·exact .inr tyOk42
 ·exact .inr tyOk44
 ·exact .inr tyOk46
 ·exact .inr tyOk68
 ·exact .inr tyOk72
 ·exact .inr tyOk74
 ·exact .inr tyOk76
 ·exact .inr tyOk78
 ·exact .inr tyOk84
 ·exact .inr tyOk95
 ·exact .inr tyOk98
 ·exact .inr tyOk102
 ·exact .inr tyOk136
 ·exact .inr tyOk146
 ·exact .inr tyOk152
 ·exact .inr tyOk154
 ·exact .inr tyOk175
 ·exact .inr tyOk178
 ·exact .inr tyOk182
 ·exact .inr tyOk195
 ·exact .inl rfl
end Go.Proofs.YtcanljninhfmhaaGreat
