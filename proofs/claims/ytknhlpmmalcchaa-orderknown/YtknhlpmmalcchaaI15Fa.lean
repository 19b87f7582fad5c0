/- All functions as one program. -/
import Derived.Test.YtknhlpmmalcchaaI15Fta
import Derived.Test.YtknhlpmmalcchaaI15Vba
set_option linter.all false
set_option linter.unusedVariables false
set_option linter.unusedSimpArgs false
namespace Go.Proofs.Ytknhlpmmalcchaa
open Go Go.VAI Go.Proofs
def A : AProg := fun f => match f with
  | 15 => some F15
  | 33 => some F33
  | 37 => some F37
  | 38 => some F38
  | 40 => some F40
  | 41 => some F41
  | 46 => some F46
  | 69 => some F69
  | 70 => some F70
  | 81 => some F81
  | 82 => some F82
  | 83 => some F83
  | 85 => some F85
  | 86 => some F86
  | 87 => some F87
  | 88 => some F88
  | 89 => some F89
  | 109 => some F109
  | 110 => some F110
  | 111 => some F111
  | 112 => some F112
  | 113 => some F113
  | 114 => some F114
  | 115 => some F115
  | 116 => some F116
  | 117 => some F117
  | 118 => some F118
  | 131 => some F131
  | 132 => some F132
  | 133 => some F133
  | 134 => some F134
  | 135 => some F135
  | 136 => some F136
  | 137 => some F137
  | 138 => some F138
  | 139 => some F139
  | 140 => some F140
  | 141 => some F141
  | 144 => some F144
  | 145 => some F145
  | 146 => some F146
  | 147 => some F147
  | 148 => some F148
  | 157 => some F157
  | _ => none
theorem A_ok : ProgOk Try.prog tab A := by
  intro f afn h
  unfold A at h
  split at h
  · injection h with h; subst h; exact ⟨Try.f15, F15.body, Try.func15, F15_ok⟩
  · injection h with h; subst h; exact ⟨Try.f33, F33.body, Try.func33, F33_ok⟩
  · injection h with h; subst h; exact ⟨Try.f37, F37.body, Try.func37, F37_ok⟩
  · injection h with h; subst h; exact ⟨Try.f38, F38.body, Try.func38, F38_ok⟩
  · injection h with h; subst h; exact ⟨Try.f40, F40.body, Try.func40, F40_ok⟩
  · injection h with h; subst h; exact ⟨Try.f41, F41.body, Try.func41, F41_ok⟩
  · injection h with h; subst h; exact ⟨Try.f46, F46.body, Try.func46, F46_ok⟩
  · injection h with h; subst h; exact ⟨Try.f69, F69.body, Try.func69, F69_ok⟩
  · injection h with h; subst h; exact ⟨Try.f70, F70.body, Try.func70, F70_ok⟩
  · injection h with h; subst h; exact ⟨Try.f81, F81.body, Try.func81, F81_ok⟩
  · injection h with h; subst h; exact ⟨Try.f82, F82.body, Try.func82, F82_ok⟩
  · injection h with h; subst h; exact ⟨Try.f83, F83.body, Try.func83, F83_ok⟩
  · injection h with h; subst h; exact ⟨Try.f85, F85.body, Try.func85, F85_ok⟩
  · injection h with h; subst h; exact ⟨Try.f86, F86.body, Try.func86, F86_ok⟩
  · injection h with h; subst h; exact ⟨Try.f87, F87.body, Try.func87, F87_ok⟩
  · injection h with h; subst h; exact ⟨Try.f88, F88.body, Try.func88, F88_ok⟩
  · injection h with h; subst h; exact ⟨Try.f89, F89.body, Try.func89, F89_ok⟩
  · injection h with h; subst h; exact ⟨Try.f109, F109.body, Try.func109, F109_ok⟩
  · injection h with h; subst h; exact ⟨Try.f110, F110.body, Try.func110, F110_ok⟩
  · injection h with h; subst h; exact ⟨Try.f111, F111.body, Try.func111, F111_ok⟩
  · injection h with h; subst h; exact ⟨Try.f112, F112.body, Try.func112, F112_ok⟩
  · injection h with h; subst h; exact ⟨Try.f113, F113.body, Try.func113, F113_ok⟩
  · injection h with h; subst h; exact ⟨Try.f114, F114.body, Try.func114, F114_ok⟩
  · injection h with h; subst h; exact ⟨Try.f115, F115.body, Try.func115, F115_ok⟩
  · injection h with h; subst h; exact ⟨Try.f116, F116.body, Try.func116, F116_ok⟩
  · injection h with h; subst h; exact ⟨Try.f117, F117.body, Try.func117, F117_ok⟩
  · injection h with h; subst h; exact ⟨Try.f118, F118.body, Try.func118, F118_ok⟩
  · injection h with h; subst h; exact ⟨Try.f131, F131.body, Try.func131, F131_ok⟩
  · injection h with h; subst h; exact ⟨Try.f132, F132.body, Try.func132, F132_ok⟩
  · injection h with h; subst h; exact ⟨Try.f133, F133.body, Try.func133, F133_ok⟩
  · injection h with h; subst h; exact ⟨Try.f134, F134.body, Try.func134, F134_ok⟩
  · injection h with h; subst h; exact ⟨Try.f135, F135.body, Try.func135, F135_ok⟩
  · injection h with h; subst h; exact ⟨Try.f136, F136.body, Try.func136, F136_ok⟩
  · injection h with h; subst h; exact ⟨Try.f137, F137.body, Try.func137, F137_ok⟩
  · injection h with h; subst h; exact ⟨Try.f138, F138.body, Try.func138, F138_ok⟩
  · injection h with h; subst h; exact ⟨Try.f139, F139.body, Try.func139, F139_ok⟩
  · injection h with h; subst h; exact ⟨Try.f140, F140.body, Try.func140, F140_ok⟩
  · injection h with h; subst h; exact ⟨Try.f141, F141.body, Try.func141, F141_ok⟩
  · injection h with h; subst h; exact ⟨Try.f144, F144.body, Try.func144, F144_ok⟩
  · injection h with h; subst h; exact ⟨Try.f145, F145.body, Try.func145, F145_ok⟩
  · injection h with h; subst h; exact ⟨Try.f146, F146.body, Try.func146, F146_ok⟩
  · injection h with h; subst h; exact ⟨Try.f147, F147.body, Try.func147, F147_ok⟩
  · injection h with h; subst h; exact ⟨Try.f148, F148.body, Try.func148, F148_ok⟩
  · injection h with h; subst h; exact ⟨Try.f157, F157.body, Try.func157, F157_ok⟩
  · cases h
end Go.Proofs.Ytknhlpmmalcchaa
