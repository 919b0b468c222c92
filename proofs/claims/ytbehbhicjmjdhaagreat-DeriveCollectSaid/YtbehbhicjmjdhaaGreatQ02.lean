/- THE TABLE OF TYPES, made by gentypes.py off the program's own type infos; each row is held against the program by the kernel. -/
import Derived.Test.YtbehbhicjmjdhaaGreatQ01
import Derived.Test.YtbehbhicjmjdhaaGreatProg
import Derived.KernelRfl

namespace Go.Proofs.YtbehbhicjmjdhaaGreat
open Go
set_option maxRecDepth 100000
@[irreducible] noncomputable def Pg : Program := Go.Proofs.Tryz.prog
theorem Pg_eq : Pg = Go.Proofs.Tryz.prog := by unfold Pg; rfl
@[irreducible] def ty : Nat → Ty
  | 3 => .sc (.int .i64 (fun _ => 0))
  | 4 => .sc .ff
  | 5 => .sc (.int .u8 (fun _ => 0))
  | 22 => .sli 7 88 [.int .i64 (fun _ => 0), .int .i64 (fun _ => 0), .int .i64 (fun _ => 0), .int .i64 (fun _ => 0), .ff, .nil, .nil]
  | 25 => .sc (.int .i64 (fun _ => 0))
  | 30 => .sli 4 80 [.nil, .ff, .nil, .nil]
  | 32 => .st 3 [(0, 1, false), (1, 1, false), (2, 1, false)] [.int .i64 (fun _ => 0), .nil, .nil]
  | 33 => .sli 3 56 [.ff, .nil, .nil]
  | 35 => .st 3 [(0, 1, false), (1, 1, false), (2, 1, false)] [.nil, .nil, .nil]
  | 36 => .sli 4 64 [.int .i64 (fun _ => 0), .ff, .nil, .nil]
  | 37 => .sli 1 4 [.int .u32 (fun _ => 0)]
  | 38 => .sli 1 4 [.int .u32 (fun _ => 0)]
  | 40 => .st 3 [(0, 1, false), (1, 1, false), (2, 1, false)] [.ff, .nil, .nil]
  | 42 => .st 4 [(0, 1, false), (1, 3, true)] [.nil, .ff, .nil, .nil]
  | 44 => .st 10 [(0, 3, true), (3, 3, true), (6, 4, true)] [.int .i64 (fun _ => 0), .nil, .nil, .nil, .nil, .nil, .nil, .ff, .nil, .nil]
  | 45 => .sli 5 72 [.int .i64 (fun _ => 0), .int .i64 (fun _ => 0), .ff, .nil, .nil]
  | 46 => .sli 6 96 [.int .i64 (fun _ => 0), .ff, .ff, .nil, .nil, .nil]
  | 48 => .st 12 [(0, 10, true), (10, 1, false), (11, 1, false)] [.int .i64 (fun _ => 0), .nil, .nil, .nil, .nil, .nil, .nil, .ff, .nil, .nil, .nil, .nil]
  | 52 => .st 4 [(0, 1, false), (1, 1, false), (2, 1, false), (3, 1, false)] [.int .i64 (fun _ => 0), .int .i64 (fun _ => 0), .int .i64 (fun _ => 0), .int .i64 (fun _ => 0)]
  | 54 => .st 7 [(0, 4, true), (4, 3, true)] [.int .i64 (fun _ => 0), .int .i64 (fun _ => 0), .int .i64 (fun _ => 0), .int .i64 (fun _ => 0), .ff, .nil, .nil]
  | 57 => .st 6 [(0, 1, false), (1, 1, false), (2, 3, true), (5, 1, false)] [.int .i64 (fun _ => 0), .ff, .ff, .nil, .nil, .nil]
  | 59 => .st 5 [(0, 1, false), (1, 1, false), (2, 3, true)] [.int .i64 (fun _ => 0), .int .i64 (fun _ => 0), .ff, .nil, .nil]
  | 77 => .st 2 [(0, 1, false), (1, 1, false)] [.ff, .nil]
  | 104 => .st 4 [(0, 1, false), (1, 3, true)] [.int .i64 (fun _ => 0), .ff, .nil, .nil]
  | 107 => .sc (.int .u64 (fun _ => 0))
  | 114 => .sc .nilf
  | 119 => .sli 1 8 [.int .i64 (fun _ => 0)]
  | 127 => .sc (.int .u32 (fun _ => 0))
  | 128 => .sc (.int .u64 (fun _ => 0))
  | 136 => .arr 14 1 false [.nilf, .nilf, .nilf, .nilf, .nilf, .nilf, .nilf, .nilf, .nilf, .nilf, .nilf, .nilf, .nilf, .nilf]
  | 152 => .st 32 [(0, 12, true), (12, 4, true), (16, 4, true), (20, 4, true), (24, 3, true), (27, 3, true), (30, 1, false), (31, 1, false)] [.int .i64 (fun _ => 0), .nil, .nil, .nil, .nil, .nil, .nil, .ff, .nil, .nil, .nil, .nil, .int .i64 (fun _ => 0), .int .i64 (fun _ => 0), .int .i64 (fun _ => 0), .int .i64 (fun _ => 0), .nil, .ff, .nil, .nil, .nil, .ff, .nil, .nil, .ff, .nil, .nil, .ff, .nil, .nil, .ff, .ff]
  | _ => .no
theorem tyOk3 : tyOf Go.Proofs.Tryz.prog 3 = (.sc (.int .i64 (fun _ => 0)) : Ty) := by kernel_rfl
theorem tyOk4 : tyOf Go.Proofs.Tryz.prog 4 = (.sc .ff : Ty) := by kernel_rfl
theorem tyOk5 : tyOf Go.Proofs.Tryz.prog 5 = (.sc (.int .u8 (fun _ => 0)) : Ty) := by kernel_rfl
theorem tyOk22 : tyOf Go.Proofs.Tryz.prog 22 = (.sli 7 88 [.int .i64 (fun _ => 0), .int .i64 (fun _ => 0), .int .i64 (fun _ => 0), .int .i64 (fun _ => 0), .ff, .nil, .nil] : Ty) := by kernel_rfl
theorem tyOk25 : tyOf Go.Proofs.Tryz.prog 25 = (.sc (.int .i64 (fun _ => 0)) : Ty) := by kernel_rfl
theorem tyOk30 : tyOf Go.Proofs.Tryz.prog 30 = (.sli 4 80 [.nil, .ff, .nil, .nil] : Ty) := by kernel_rfl
theorem tyOk32 : tyOf Go.Proofs.Tryz.prog 32 = (.st 3 [(0, 1, false), (1, 1, false), (2, 1, false)] [.int .i64 (fun _ => 0), .nil, .nil] : Ty) := by kernel_rfl
theorem tyOk33 : tyOf Go.Proofs.Tryz.prog 33 = (.sli 3 56 [.ff, .nil, .nil] : Ty) := by kernel_rfl
theorem tyOk35 : tyOf Go.Proofs.Tryz.prog 35 = (.st 3 [(0, 1, false), (1, 1, false), (2, 1, false)] [.nil, .nil, .nil] : Ty) := by kernel_rfl
theorem tyOk36 : tyOf Go.Proofs.Tryz.prog 36 = (.sli 4 64 [.int .i64 (fun _ => 0), .ff, .nil, .nil] : Ty) := by kernel_rfl
theorem tyOk37 : tyOf Go.Proofs.Tryz.prog 37 = (.sli 1 4 [.int .u32 (fun _ => 0)] : Ty) := by kernel_rfl
theorem tyOk38 : tyOf Go.Proofs.Tryz.prog 38 = (.sli 1 4 [.int .u32 (fun _ => 0)] : Ty) := by kernel_rfl
theorem tyOk40 : tyOf Go.Proofs.Tryz.prog 40 = (.st 3 [(0, 1, false), (1, 1, false), (2, 1, false)] [.ff, .nil, .nil] : Ty) := by kernel_rfl
theorem tyOk42 : tyOf Go.Proofs.Tryz.prog 42 = (.st 4 [(0, 1, false), (1, 3, true)] [.nil, .ff, .nil, .nil] : Ty) := by kernel_rfl
theorem tyOk44 : tyOf Go.Proofs.Tryz.prog 44 = (.st 10 [(0, 3, true), (3, 3, true), (6, 4, true)] [.int .i64 (fun _ => 0), .nil, .nil, .nil, .nil, .nil, .nil, .ff, .nil, .nil] : Ty) := by kernel_rfl
theorem tyOk45 : tyOf Go.Proofs.Tryz.prog 45 = (.sli 5 72 [.int .i64 (fun _ => 0), .int .i64 (fun _ => 0), .ff, .nil, .nil] : Ty) := by kernel_rfl
theorem tyOk46 : tyOf Go.Proofs.Tryz.prog 46 = (.sli 6 96 [.int .i64 (fun _ => 0), .ff, .ff, .nil, .nil, .nil] : Ty) := by kernel_rfl
theorem tyOk48 : tyOf Go.Proofs.Tryz.prog 48 = (.st 12 [(0, 10, true), (10, 1, false), (11, 1, false)] [.int .i64 (fun _ => 0), .nil, .nil, .nil, .nil, .nil, .nil, .ff, .nil, .nil, .nil, .nil] : Ty) := by kernel_rfl
theorem tyOk52 : tyOf Go.Proofs.Tryz.prog 52 = (.st 4 [(0, 1, false), (1, 1, false), (2, 1, false), (3, 1, false)] [.int .i64 (fun _ => 0), .int .i64 (fun _ => 0), .int .i64 (fun _ => 0), .int .i64 (fun _ => 0)] : Ty) := by kernel_rfl
theorem tyOk54 : tyOf Go.Proofs.Tryz.prog 54 = (.st 7 [(0, 4, true), (4, 3, true)] [.int .i64 (fun _ => 0), .int .i64 (fun _ => 0), .int .i64 (fun _ => 0), .int .i64 (fun _ => 0), .ff, .nil, .nil] : Ty) := by kernel_rfl
theorem tyOk57 : tyOf Go.Proofs.Tryz.prog 57 = (.st 6 [(0, 1, false), (1, 1, false), (2, 3, true), (5, 1, false)] [.int .i64 (fun _ => 0), .ff, .ff, .nil, .nil, .nil] : Ty) := by kernel_rfl
theorem tyOk59 : tyOf Go.Proofs.Tryz.prog 59 = (.st 5 [(0, 1, false), (1, 1, false), (2, 3, true)] [.int .i64 (fun _ => 0), .int .i64 (fun _ => 0), .ff, .nil, .nil] : Ty) := by kernel_rfl
theorem tyOk77 : tyOf Go.Proofs.Tryz.prog 77 = (.st 2 [(0, 1, false), (1, 1, false)] [.ff, .nil] : Ty) := by kernel_rfl
theorem tyOk104 : tyOf Go.Proofs.Tryz.prog 104 = (.st 4 [(0, 1, false), (1, 3, true)] [.int .i64 (fun _ => 0), .ff, .nil, .nil] : Ty) := by kernel_rfl
theorem tyOk107 : tyOf Go.Proofs.Tryz.prog 107 = (.sc (.int .u64 (fun _ => 0)) : Ty) := by kernel_rfl
theorem tyOk114 : tyOf Go.Proofs.Tryz.prog 114 = (.sc .nilf : Ty) := by kernel_rfl
theorem tyOk119 : tyOf Go.Proofs.Tryz.prog 119 = (.sli 1 8 [.int .i64 (fun _ => 0)] : Ty) := by kernel_rfl
theorem tyOk127 : tyOf Go.Proofs.Tryz.prog 127 = (.sc (.int .u32 (fun _ => 0)) : Ty) := by kernel_rfl
theorem tyOk128 : tyOf Go.Proofs.Tryz.prog 128 = (.sc (.int .u64 (fun _ => 0)) : Ty) := by kernel_rfl
theorem tyOk136 : tyOf Go.Proofs.Tryz.prog 136 = (.arr 14 1 false [.nilf, .nilf, .nilf, .nilf, .nilf, .nilf, .nilf, .nilf, .nilf, .nilf, .nilf, .nilf, .nilf, .nilf] : Ty) := by kernel_rfl
theorem tyOk152 : tyOf Go.Proofs.Tryz.prog 152 = (.st 32 [(0, 12, true), (12, 4, true), (16, 4, true), (20, 4, true), (24, 3, true), (27, 3, true), (30, 1, false), (31, 1, false)] [.int .i64 (fun _ => 0), .nil, .nil, .nil, .nil, .nil, .nil, .ff, .nil, .nil, .nil, .nil, .int .i64 (fun _ => 0), .int .i64 (fun _ => 0), .int .i64 (fun _ => 0), .int .i64 (fun _ => 0), .nil, .ff, .nil, .nil, .nil, .ff, .nil, .nil, .ff, .nil, .nil, .ff, .nil, .nil, .ff, .ff] : Ty) := by kernel_rfl
theorem ty_ok (t : Nat) : ty t = .no ∨ tyOf Pg t = ty t := by
  rw [Pg_eq]
  unfold ty
  split
  · exact .inr tyOk3
  · exact .inr tyOk4
  · exact .inr tyOk5
  · exact .inr tyOk22
  · exact .inr tyOk25
  · exact .inr tyOk30
  · exact .inr tyOk32
  · exact .inr tyOk33
  · exact .inr tyOk35
  · exact .inr tyOk36
  · exact .inr tyOk37
  · exact .inr tyOk38
  · exact .inr tyOk40
  · exact .inr tyOk42
  · exact .inr tyOk44
  · exact .inr tyOk45
  · exact .inr tyOk46
  · exact .inr tyOk48
  · exact .inr tyOk52
  · exact .inr tyOk54
  · exact .inr tyOk57
  · exact .inr tyOk59
  · exact .inr tyOk77
  · exact .inr tyOk104
  · exact .inr tyOk107
  · exact .inr tyOk114
  · exact .inr tyOk119
  · exact .inr tyOk127
  · exact .inr tyOk128
  · exact .inr tyOk136
  · exact .inr tyOk152
  · exact .inl rfl
end Go.Proofs.YtbehbhicjmjdhaaGreat
