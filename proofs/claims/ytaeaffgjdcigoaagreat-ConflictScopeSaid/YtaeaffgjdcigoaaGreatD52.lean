/- A part of the proof: BrF. -/
import Derived.Test.YtaeaffgjdcigoaaGreatD31
import Derived.Test.YtaeaffgjdcigoaaGreatD35
set_option linter.all false
namespace Go.Proofs.YtaeaffgjdcigoaaGreat
open Go
set_option maxRecDepth 100000
def Li (w:World):ElR w 83 2 (λ_=>True) ltc :=
 (MC (k0:=1) (k1:=1) Tryz.underlying83 (by kernel_rfl) rfl rfl (GL w) (HB w)).map (λa=>(a.1,a.2)) (λ_ _=>rfl) (λ_ _=>trivial)
def Mg (w:World):ElR w 64 1 (λl=>l.length<=maxLen) (λl=>[qR l]) :=
 (oS (k:=2) Tryz.underlying64 (by kernel_rfl) (by decide) (Li w)).map (λl=>l) (λ_ _=>rfl) (λ_ h=>h.2)
def Lj (w:World):ElR w 60 6 (λ_=>True) lc :=
 (MB (k0:=1) (k1:=1) (k2:=3) (k3:=1) Tryz.underlying60 (by kernel_rfl) rfl rfl rfl rfl (GL w) (HB w) (Md w) (R8 w)).map (λa=>⟨a.1,a.2.1,a.2.2.1,a.2.2.2⟩) (λ_ _=>rfl) (λ_ _=>trivial)
def Mh (w:World):ElR w 40 1 (λl=>l.length<=maxLen) (λl=>[llv l]) :=
 (oS (k:=6) Tryz.underlying40 (by kernel_rfl) (by decide) (Lj w)).map (λl=>l) (λ_ _=>rfl) (λ_ h=>h.2)
end Go.Proofs.YtaeaffgjdcigoaaGreat
