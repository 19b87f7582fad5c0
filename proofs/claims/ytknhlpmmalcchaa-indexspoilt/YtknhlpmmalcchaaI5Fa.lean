/- All functions as one program. -/
import Derived.Test.YtknhlpmmalcchaaI5Fta
import Derived.Test.YtknhlpmmalcchaaI5Ftb
import Derived.Test.YtknhlpmmalcchaaI5Vba
set_option linter.all false
set_option linter.unusedVariables false
set_option linter.unusedSimpArgs false
namespace Go.Proofs.Ytknhlpmmalcchaa
open Go Go.VAI Go.Proofs
def A : AProg := fun f => match f with
  | 5 => some F5
  | 26 => some F26
  | 27 => some F27
  | 28 => some F28
  | 29 => some F29
  | 30 => some F30
  | 32 => some F32
  | 33 => some F33
  | 35 => some F35
  | 36 => some F36
  | 39 => some F39
  | 40 => some F40
  | 42 => some F42
  | 43 => some F43
  | 44 => some F44
  | 45 => some F45
  | 49 => some F49
  | 50 => some F50
  | 54 => some F54
  | 55 => some F55
  | 56 => some F56
  | 57 => some F57
  | 58 => some F58
  | 59 => some F59
  | 60 => some F60
  | 61 => some F61
  | 62 => some F62
  | 63 => some F63
  | 64 => some F64
  | 65 => some F65
  | 66 => some F66
  | 67 => some F67
  | 68 => some F68
  | 69 => some F69
  | 70 => some F70
  | 71 => some F71
  | 72 => some F72
  | 76 => some F76
  | 77 => some F77
  | 78 => some F78
  | 79 => some F79
  | 80 => some F80
  | 84 => some F84
  | 94 => some F94
  | 95 => some F95
  | 96 => some F96
  | 97 => some F97
  | 98 => some F98
  | 99 => some F99
  | 100 => some F100
  | 106 => some F106
  | 107 => some F107
  | 108 => some F108
  | 125 => some F125
  | 126 => some F126
  | 127 => some F127
  | 128 => some F128
  | 129 => some F129
  | 130 => some F130
  | 143 => some F143
  | _ => none
theorem A_ok : ProgOk Try.prog tab A := by
  intro f afn h
  unfold A at h
  split at h
  · injection h with h; subst h; exact ⟨Try.f5, F5.body, Try.func5, F5_ok⟩
  · injection h with h; subst h; exact ⟨Try.f26, F26.body, Try.func26, F26_ok⟩
  · injection h with h; subst h; exact ⟨Try.f27, F27.body, Try.func27, F27_ok⟩
  · injection h with h; subst h; exact ⟨Try.f28, F28.body, Try.func28, F28_ok⟩
  · injection h with h; subst h; exact ⟨Try.f29, F29.body, Try.func29, F29_ok⟩
  · injection h with h; subst h; exact ⟨Try.f30, F30.body, Try.func30, F30_ok⟩
  · injection h with h; subst h; exact ⟨Try.f32, F32.body, Try.func32, F32_ok⟩
  · injection h with h; subst h; exact ⟨Try.f33, F33.body, Try.func33, F33_ok⟩
  · injection h with h; subst h; exact ⟨Try.f35, F35.body, Try.func35, F35_ok⟩
  · injection h with h; subst h; exact ⟨Try.f36, F36.body, Try.func36, F36_ok⟩
  · injection h with h; subst h; exact ⟨Try.f39, F39.body, Try.func39, F39_ok⟩
  · injection h with h; subst h; exact ⟨Try.f40, F40.body, Try.func40, F40_ok⟩
  · injection h with h; subst h; exact ⟨Try.f42, F42.body, Try.func42, F42_ok⟩
  · injection h with h; subst h; exact ⟨Try.f43, F43.body, Try.func43, F43_ok⟩
  · injection h with h; subst h; exact ⟨Try.f44, F44.body, Try.func44, F44_ok⟩
  · injection h with h; subst h; exact ⟨Try.f45, F45.body, Try.func45, F45_ok⟩
  · injection h with h; subst h; exact ⟨Try.f49, F49.body, Try.func49, F49_ok⟩
  · injection h with h; subst h; exact ⟨Try.f50, F50.body, Try.func50, F50_ok⟩
  · injection h with h; subst h; exact ⟨Try.f54, F54.body, Try.func54, F54_ok⟩
  · injection h with h; subst h; exact ⟨Try.f55, F55.body, Try.func55, F55_ok⟩
  · injection h with h; subst h; exact ⟨Try.f56, F56.body, Try.func56, F56_ok⟩
  · injection h with h; subst h; exact ⟨Try.f57, F57.body, Try.func57, F57_ok⟩
  · injection h with h; subst h; exact ⟨Try.f58, F58.body, Try.func58, F58_ok⟩
  · injection h with h; subst h; exact ⟨Try.f59, F59.body, Try.func59, F59_ok⟩
  · injection h with h; subst h; exact ⟨Try.f60, F60.body, Try.func60, F60_ok⟩
  · injection h with h; subst h; exact ⟨Try.f61, F61.body, Try.func61, F61_ok⟩
  · injection h with h; subst h; exact ⟨Try.f62, F62.body, Try.func62, F62_ok⟩
  · injection h with h; subst h; exact ⟨Try.f63, F63.body, Try.func63, F63_ok⟩
  · injection h with h; subst h; exact ⟨Try.f64, F64.body, Try.func64, F64_ok⟩
  · injection h with h; subst h; exact ⟨Try.f65, F65.body, Try.func65, F65_ok⟩
  · injection h with h; subst h; exact ⟨Try.f66, F66.body, Try.func66, F66_ok⟩
  · injection h with h; subst h; exact ⟨Try.f67, F67.body, Try.func67, F67_ok⟩
  · injection h with h; subst h; exact ⟨Try.f68, F68.body, Try.func68, F68_ok⟩
  · injection h with h; subst h; exact ⟨Try.f69, F69.body, Try.func69, F69_ok⟩
  · injection h with h; subst h; exact ⟨Try.f70, F70.body, Try.func70, F70_ok⟩
  · injection h with h; subst h; exact ⟨Try.f71, F71.body, Try.func71, F71_ok⟩
  · injection h with h; subst h; exact ⟨Try.f72, F72.body, Try.func72, F72_ok⟩
  · injection h with h; subst h; exact ⟨Try.f76, F76.body, Try.func76, F76_ok⟩
  · injection h with h; subst h; exact ⟨Try.f77, F77.body, Try.func77, F77_ok⟩
  · injection h with h; subst h; exact ⟨Try.f78, F78.body, Try.func78, F78_ok⟩
  · injection h with h; subst h; exact ⟨Try.f79, F79.body, Try.func79, F79_ok⟩
  · injection h with h; subst h; exact ⟨Try.f80, F80.body, Try.func80, F80_ok⟩
  · injection h with h; subst h; exact ⟨Try.f84, F84.body, Try.func84, F84_ok⟩
  · injection h with h; subst h; exact ⟨Try.f94, F94.body, Try.func94, F94_ok⟩
  · injection h with h; subst h; exact ⟨Try.f95, F95.body, Try.func95, F95_ok⟩
  · injection h with h; subst h; exact ⟨Try.f96, F96.body, Try.func96, F96_ok⟩
  · injection h with h; subst h; exact ⟨Try.f97, F97.body, Try.func97, F97_ok⟩
  · injection h with h; subst h; exact ⟨Try.f98, F98.body, Try.func98, F98_ok⟩
  · injection h with h; subst h; exact ⟨Try.f99, F99.body, Try.func99, F99_ok⟩
  · injection h with h; subst h; exact ⟨Try.f100, F100.body, Try.func100, F100_ok⟩
  · injection h with h; subst h; exact ⟨Try.f106, F106.body, Try.func106, F106_ok⟩
  · injection h with h; subst h; exact ⟨Try.f107, F107.body, Try.func107, F107_ok⟩
  · injection h with h; subst h; exact ⟨Try.f108, F108.body, Try.func108, F108_ok⟩
  · injection h with h; subst h; exact ⟨Try.f125, F125.body, Try.func125, F125_ok⟩
  · injection h with h; subst h; exact ⟨Try.f126, F126.body, Try.func126, F126_ok⟩
  · injection h with h; subst h; exact ⟨Try.f127, F127.body, Try.func127, F127_ok⟩
  · injection h with h; subst h; exact ⟨Try.f128, F128.body, Try.func128, F128_ok⟩
  · injection h with h; subst h; exact ⟨Try.f129, F129.body, Try.func129, F129_ok⟩
  · injection h with h; subst h; exact ⟨Try.f130, F130.body, Try.func130, F130_ok⟩
  · injection h with h; subst h; exact ⟨Try.f143, F143.body, Try.func143, F143_ok⟩
  · cases h
end Go.Proofs.Ytknhlpmmalcchaa
