/- What the wakes read: kernel computations. -/
import Derived.Test.YtphmmppmhphgeaaC9
set_option linter.unusedVariables false
set_option linter.unusedSimpArgs false
namespace Go.Proofs.Ytphmmppmhphgeaa
open Go.RowKit Go.Proofs.YtphmmppmhphgeaaW.PrintWords

def wakeS : ByteArray := ⟨#[83, 32, 61, 32, 39, 97, 39, 32, 83, 32, 124, 32, 65, 32, 59, 32, 65, 32, 61, 32, 39, 98, 39, 32, 39, 97, 39, 32, 59]⟩
def wakeG : Gram := ⟨[⟨#[97]⟩, ⟨#[98]⟩], [⟨#[83]⟩, ⟨#[65]⟩], [⟨2, [0, 2]⟩, ⟨2, [3]⟩, ⟨3, [1, 0]⟩]⟩
theorem wake_of : ofF wakeS = .ok wakeG := by kernel_rfl
theorem wake_of2 : ofF ⟨#[83, 32, 61, 32, 66, 32, 59]⟩ = .error (13, 4) := by kernel_rfl
theorem wake_of3 : ofF ⟨#[83, 32, 61, 32, 39, 97, 39]⟩ = .error (12, 7) := by kernel_rfl
theorem wake_good : goodF wakeG = true := by kernel_rfl
theorem wake_name : nameF wakeG 3 = some ⟨#[65]⟩ := by kernel_rfl
end Go.Proofs.Ytphmmppmhphgeaa
