/-
  The orders that the seat's settings name for the great drawn regions are those that the evaluator would find itself: by the kernel, function by function; no condition.
-/
import Derived.Test.YtnboghpebjciaaaGreatDoorKit
namespace Go.Proofs.YtnboghpebjciaaaGreatDoor.Plans
open Go
set_option maxRecDepth 100000
theorem beq_ne {a b : Nat} (h : ¬ a = b) : Nat.beq a b = false := by
  cases hb : Nat.beq a b with
  | false => rfl
  | true => exact absurd (Nat.eq_of_beq_eq_true hb) h
theorem ok6 : (match Tryz.f6.body with | some c => Ev.okC Kit.kx 6 c | none => true) = true := by kernel_rfl
theorem ok8 : (match Tryz.f8.body with | some c => Ev.okC Kit.kx 8 c | none => true) = true := by kernel_rfl
theorem ok11 : (match Tryz.f11.body with | some c => Ev.okC Kit.kx 11 c | none => true) = true := by kernel_rfl
theorem ok12 : (match Tryz.f12.body with | some c => Ev.okC Kit.kx 12 c | none => true) = true := by kernel_rfl
theorem ok13 : (match Tryz.f13.body with | some c => Ev.okC Kit.kx 13 c | none => true) = true := by kernel_rfl
theorem ok17 : (match Tryz.f17.body with | some c => Ev.okC Kit.kx 17 c | none => true) = true := by kernel_rfl
theorem ok18 : (match Tryz.f18.body with | some c => Ev.okC Kit.kx 18 c | none => true) = true := by kernel_rfl
theorem ok21 : (match Tryz.f21.body with | some c => Ev.okC Kit.kx 21 c | none => true) = true := by kernel_rfl
theorem ok23 : (match Tryz.f23.body with | some c => Ev.okC Kit.kx 23 c | none => true) = true := by kernel_rfl
theorem ok24 : (match Tryz.f24.body with | some c => Ev.okC Kit.kx 24 c | none => true) = true := by kernel_rfl
theorem ok27 : (match Tryz.f27.body with | some c => Ev.okC Kit.kx 27 c | none => true) = true := by kernel_rfl
theorem ok28 : (match Tryz.f28.body with | some c => Ev.okC Kit.kx 28 c | none => true) = true := by kernel_rfl
theorem ok33 : (match Tryz.f33.body with | some c => Ev.okC Kit.kx 33 c | none => true) = true := by kernel_rfl
theorem ok35 : (match Tryz.f35.body with | some c => Ev.okC Kit.kx 35 c | none => true) = true := by kernel_rfl
theorem ok46 : (match Tryz.f46.body with | some c => Ev.okC Kit.kx 46 c | none => true) = true := by kernel_rfl
theorem ok47 : (match Tryz.f47.body with | some c => Ev.okC Kit.kx 47 c | none => true) = true := by kernel_rfl
theorem ok48 : (match Tryz.f48.body with | some c => Ev.okC Kit.kx 48 c | none => true) = true := by kernel_rfl
theorem ok49 : (match Tryz.f49.body with | some c => Ev.okC Kit.kx 49 c | none => true) = true := by kernel_rfl
theorem ok56 : (match Tryz.f56.body with | some c => Ev.okC Kit.kx 56 c | none => true) = true := by kernel_rfl
theorem ok59 : (match Tryz.f59.body with | some c => Ev.okC Kit.kx 59 c | none => true) = true := by kernel_rfl
theorem ok60 : (match Tryz.f60.body with | some c => Ev.okC Kit.kx 60 c | none => true) = true := by kernel_rfl
theorem ok65 : (match Tryz.f65.body with | some c => Ev.okC Kit.kx 65 c | none => true) = true := by kernel_rfl
theorem ok69 : (match Tryz.f69.body with | some c => Ev.okC Kit.kx 69 c | none => true) = true := by kernel_rfl
theorem ok73 : (match Tryz.f73.body with | some c => Ev.okC Kit.kx 73 c | none => true) = true := by kernel_rfl
theorem ok74 : (match Tryz.f74.body with | some c => Ev.okC Kit.kx 74 c | none => true) = true := by kernel_rfl
theorem ok84 : (match Tryz.f84.body with | some c => Ev.okC Kit.kx 84 c | none => true) = true := by kernel_rfl
theorem ok87 : (match Tryz.f87.body with | some c => Ev.okC Kit.kx 87 c | none => true) = true := by kernel_rfl
theorem ok91 : (match Tryz.f91.body with | some c => Ev.okC Kit.kx 91 c | none => true) = true := by kernel_rfl
theorem ok92 : (match Tryz.f92.body with | some c => Ev.okC Kit.kx 92 c | none => true) = true := by kernel_rfl
theorem ok94 : (match Tryz.f94.body with | some c => Ev.okC Kit.kx 94 c | none => true) = true := by kernel_rfl
theorem ok96 : (match Tryz.f96.body with | some c => Ev.okC Kit.kx 96 c | none => true) = true := by kernel_rfl
theorem ok98 : (match Tryz.f98.body with | some c => Ev.okC Kit.kx 98 c | none => true) = true := by kernel_rfl
theorem ok100 : (match Tryz.f100.body with | some c => Ev.okC Kit.kx 100 c | none => true) = true := by kernel_rfl
theorem ok106 : (match Tryz.f106.body with | some c => Ev.okC Kit.kx 106 c | none => true) = true := by kernel_rfl
theorem ok108 : (match Tryz.f108.body with | some c => Ev.okC Kit.kx 108 c | none => true) = true := by kernel_rfl
theorem ok109 : (match Tryz.f109.body with | some c => Ev.okC Kit.kx 109 c | none => true) = true := by kernel_rfl
theorem ok113 : (match Tryz.f113.body with | some c => Ev.okC Kit.kx 113 c | none => true) = true := by kernel_rfl
theorem ok114 : (match Tryz.f114.body with | some c => Ev.okC Kit.kx 114 c | none => true) = true := by kernel_rfl
theorem ok117 : (match Tryz.f117.body with | some c => Ev.okC Kit.kx 117 c | none => true) = true := by kernel_rfl
theorem ok119 : (match Tryz.f119.body with | some c => Ev.okC Kit.kx 119 c | none => true) = true := by kernel_rfl
theorem ok121 : (match Tryz.f121.body with | some c => Ev.okC Kit.kx 121 c | none => true) = true := by kernel_rfl
theorem ok125 : (match Tryz.f125.body with | some c => Ev.okC Kit.kx 125 c | none => true) = true := by kernel_rfl
theorem ok128 : (match Tryz.f128.body with | some c => Ev.okC Kit.kx 128 c | none => true) = true := by kernel_rfl
theorem ok130 : (match Tryz.f130.body with | some c => Ev.okC Kit.kx 130 c | none => true) = true := by kernel_rfl
theorem ok141 : (match Tryz.f141.body with | some c => Ev.okC Kit.kx 141 c | none => true) = true := by kernel_rfl
theorem ok142 : (match Tryz.f142.body with | some c => Ev.okC Kit.kx 142 c | none => true) = true := by kernel_rfl
theorem ok148 : (match Tryz.f148.body with | some c => Ev.okC Kit.kx 148 c | none => true) = true := by kernel_rfl
theorem ok154 : (match Tryz.f154.body with | some c => Ev.okC Kit.kx 154 c | none => true) = true := by kernel_rfl
theorem ok160 : (match Tryz.f160.body with | some c => Ev.okC Kit.kx 160 c | none => true) = true := by kernel_rfl
theorem ok171 : (match Tryz.f171.body with | some c => Ev.okC Kit.kx 171 c | none => true) = true := by kernel_rfl

theorem plans : Ev.PlansOk Kit.kx := by
  intro f fd c hf hb
  by_cases h6 : f = 6
  · subst h6
    rw [show Kit.kx.p.funcs[6]? = some Tryz.f6 from Tryz.func6] at hf
    cases hf
    have := ok6
    rw [hb] at this
    exact this
  by_cases h8 : f = 8
  · subst h8
    rw [show Kit.kx.p.funcs[8]? = some Tryz.f8 from Tryz.func8] at hf
    cases hf
    have := ok8
    rw [hb] at this
    exact this
  by_cases h11 : f = 11
  · subst h11
    rw [show Kit.kx.p.funcs[11]? = some Tryz.f11 from Tryz.func11] at hf
    cases hf
    have := ok11
    rw [hb] at this
    exact this
  by_cases h12 : f = 12
  · subst h12
    rw [show Kit.kx.p.funcs[12]? = some Tryz.f12 from Tryz.func12] at hf
    cases hf
    have := ok12
    rw [hb] at this
    exact this
  by_cases h13 : f = 13
  · subst h13
    rw [show Kit.kx.p.funcs[13]? = some Tryz.f13 from Tryz.func13] at hf
    cases hf
    have := ok13
    rw [hb] at this
    exact this
  by_cases h17 : f = 17
  · subst h17
    rw [show Kit.kx.p.funcs[17]? = some Tryz.f17 from Tryz.func17] at hf
    cases hf
    have := ok17
    rw [hb] at this
    exact this
  by_cases h18 : f = 18
  · subst h18
    rw [show Kit.kx.p.funcs[18]? = some Tryz.f18 from Tryz.func18] at hf
    cases hf
    have := ok18
    rw [hb] at this
    exact this
  by_cases h21 : f = 21
  · subst h21
    rw [show Kit.kx.p.funcs[21]? = some Tryz.f21 from Tryz.func21] at hf
    cases hf
    have := ok21
    rw [hb] at this
    exact this
  by_cases h23 : f = 23
  · subst h23
    rw [show Kit.kx.p.funcs[23]? = some Tryz.f23 from Tryz.func23] at hf
    cases hf
    have := ok23
    rw [hb] at this
    exact this
  by_cases h24 : f = 24
  · subst h24
    rw [show Kit.kx.p.funcs[24]? = some Tryz.f24 from Tryz.func24] at hf
    cases hf
    have := ok24
    rw [hb] at this
    exact this
  by_cases h27 : f = 27
  · subst h27
    rw [show Kit.kx.p.funcs[27]? = some Tryz.f27 from Tryz.func27] at hf
    cases hf
    have := ok27
    rw [hb] at this
    exact this
  by_cases h28 : f = 28
  · subst h28
    rw [show Kit.kx.p.funcs[28]? = some Tryz.f28 from Tryz.func28] at hf
    cases hf
    have := ok28
    rw [hb] at this
    exact this
  by_cases h33 : f = 33
  · subst h33
    rw [show Kit.kx.p.funcs[33]? = some Tryz.f33 from Tryz.func33] at hf
    cases hf
    have := ok33
    rw [hb] at this
    exact this
  by_cases h35 : f = 35
  · subst h35
    rw [show Kit.kx.p.funcs[35]? = some Tryz.f35 from Tryz.func35] at hf
    cases hf
    have := ok35
    rw [hb] at this
    exact this
  by_cases h46 : f = 46
  · subst h46
    rw [show Kit.kx.p.funcs[46]? = some Tryz.f46 from Tryz.func46] at hf
    cases hf
    have := ok46
    rw [hb] at this
    exact this
  by_cases h47 : f = 47
  · subst h47
    rw [show Kit.kx.p.funcs[47]? = some Tryz.f47 from Tryz.func47] at hf
    cases hf
    have := ok47
    rw [hb] at this
    exact this
  by_cases h48 : f = 48
  · subst h48
    rw [show Kit.kx.p.funcs[48]? = some Tryz.f48 from Tryz.func48] at hf
    cases hf
    have := ok48
    rw [hb] at this
    exact this
  by_cases h49 : f = 49
  · subst h49
    rw [show Kit.kx.p.funcs[49]? = some Tryz.f49 from Tryz.func49] at hf
    cases hf
    have := ok49
    rw [hb] at this
    exact this
  by_cases h56 : f = 56
  · subst h56
    rw [show Kit.kx.p.funcs[56]? = some Tryz.f56 from Tryz.func56] at hf
    cases hf
    have := ok56
    rw [hb] at this
    exact this
  by_cases h59 : f = 59
  · subst h59
    rw [show Kit.kx.p.funcs[59]? = some Tryz.f59 from Tryz.func59] at hf
    cases hf
    have := ok59
    rw [hb] at this
    exact this
  by_cases h60 : f = 60
  · subst h60
    rw [show Kit.kx.p.funcs[60]? = some Tryz.f60 from Tryz.func60] at hf
    cases hf
    have := ok60
    rw [hb] at this
    exact this
  by_cases h65 : f = 65
  · subst h65
    rw [show Kit.kx.p.funcs[65]? = some Tryz.f65 from Tryz.func65] at hf
    cases hf
    have := ok65
    rw [hb] at this
    exact this
  by_cases h69 : f = 69
  · subst h69
    rw [show Kit.kx.p.funcs[69]? = some Tryz.f69 from Tryz.func69] at hf
    cases hf
    have := ok69
    rw [hb] at this
    exact this
  by_cases h73 : f = 73
  · subst h73
    rw [show Kit.kx.p.funcs[73]? = some Tryz.f73 from Tryz.func73] at hf
    cases hf
    have := ok73
    rw [hb] at this
    exact this
  by_cases h74 : f = 74
  · subst h74
    rw [show Kit.kx.p.funcs[74]? = some Tryz.f74 from Tryz.func74] at hf
    cases hf
    have := ok74
    rw [hb] at this
    exact this
  by_cases h84 : f = 84
  · subst h84
    rw [show Kit.kx.p.funcs[84]? = some Tryz.f84 from Tryz.func84] at hf
    cases hf
    have := ok84
    rw [hb] at this
    exact this
  by_cases h87 : f = 87
  · subst h87
    rw [show Kit.kx.p.funcs[87]? = some Tryz.f87 from Tryz.func87] at hf
    cases hf
    have := ok87
    rw [hb] at this
    exact this
  by_cases h91 : f = 91
  · subst h91
    rw [show Kit.kx.p.funcs[91]? = some Tryz.f91 from Tryz.func91] at hf
    cases hf
    have := ok91
    rw [hb] at this
    exact this
  by_cases h92 : f = 92
  · subst h92
    rw [show Kit.kx.p.funcs[92]? = some Tryz.f92 from Tryz.func92] at hf
    cases hf
    have := ok92
    rw [hb] at this
    exact this
  by_cases h94 : f = 94
  · subst h94
    rw [show Kit.kx.p.funcs[94]? = some Tryz.f94 from Tryz.func94] at hf
    cases hf
    have := ok94
    rw [hb] at this
    exact this
  by_cases h96 : f = 96
  · subst h96
    rw [show Kit.kx.p.funcs[96]? = some Tryz.f96 from Tryz.func96] at hf
    cases hf
    have := ok96
    rw [hb] at this
    exact this
  by_cases h98 : f = 98
  · subst h98
    rw [show Kit.kx.p.funcs[98]? = some Tryz.f98 from Tryz.func98] at hf
    cases hf
    have := ok98
    rw [hb] at this
    exact this
  by_cases h100 : f = 100
  · subst h100
    rw [show Kit.kx.p.funcs[100]? = some Tryz.f100 from Tryz.func100] at hf
    cases hf
    have := ok100
    rw [hb] at this
    exact this
  by_cases h106 : f = 106
  · subst h106
    rw [show Kit.kx.p.funcs[106]? = some Tryz.f106 from Tryz.func106] at hf
    cases hf
    have := ok106
    rw [hb] at this
    exact this
  by_cases h108 : f = 108
  · subst h108
    rw [show Kit.kx.p.funcs[108]? = some Tryz.f108 from Tryz.func108] at hf
    cases hf
    have := ok108
    rw [hb] at this
    exact this
  by_cases h109 : f = 109
  · subst h109
    rw [show Kit.kx.p.funcs[109]? = some Tryz.f109 from Tryz.func109] at hf
    cases hf
    have := ok109
    rw [hb] at this
    exact this
  by_cases h113 : f = 113
  · subst h113
    rw [show Kit.kx.p.funcs[113]? = some Tryz.f113 from Tryz.func113] at hf
    cases hf
    have := ok113
    rw [hb] at this
    exact this
  by_cases h114 : f = 114
  · subst h114
    rw [show Kit.kx.p.funcs[114]? = some Tryz.f114 from Tryz.func114] at hf
    cases hf
    have := ok114
    rw [hb] at this
    exact this
  by_cases h117 : f = 117
  · subst h117
    rw [show Kit.kx.p.funcs[117]? = some Tryz.f117 from Tryz.func117] at hf
    cases hf
    have := ok117
    rw [hb] at this
    exact this
  by_cases h119 : f = 119
  · subst h119
    rw [show Kit.kx.p.funcs[119]? = some Tryz.f119 from Tryz.func119] at hf
    cases hf
    have := ok119
    rw [hb] at this
    exact this
  by_cases h121 : f = 121
  · subst h121
    rw [show Kit.kx.p.funcs[121]? = some Tryz.f121 from Tryz.func121] at hf
    cases hf
    have := ok121
    rw [hb] at this
    exact this
  by_cases h125 : f = 125
  · subst h125
    rw [show Kit.kx.p.funcs[125]? = some Tryz.f125 from Tryz.func125] at hf
    cases hf
    have := ok125
    rw [hb] at this
    exact this
  by_cases h128 : f = 128
  · subst h128
    rw [show Kit.kx.p.funcs[128]? = some Tryz.f128 from Tryz.func128] at hf
    cases hf
    have := ok128
    rw [hb] at this
    exact this
  by_cases h130 : f = 130
  · subst h130
    rw [show Kit.kx.p.funcs[130]? = some Tryz.f130 from Tryz.func130] at hf
    cases hf
    have := ok130
    rw [hb] at this
    exact this
  by_cases h141 : f = 141
  · subst h141
    rw [show Kit.kx.p.funcs[141]? = some Tryz.f141 from Tryz.func141] at hf
    cases hf
    have := ok141
    rw [hb] at this
    exact this
  by_cases h142 : f = 142
  · subst h142
    rw [show Kit.kx.p.funcs[142]? = some Tryz.f142 from Tryz.func142] at hf
    cases hf
    have := ok142
    rw [hb] at this
    exact this
  by_cases h148 : f = 148
  · subst h148
    rw [show Kit.kx.p.funcs[148]? = some Tryz.f148 from Tryz.func148] at hf
    cases hf
    have := ok148
    rw [hb] at this
    exact this
  by_cases h154 : f = 154
  · subst h154
    rw [show Kit.kx.p.funcs[154]? = some Tryz.f154 from Tryz.func154] at hf
    cases hf
    have := ok154
    rw [hb] at this
    exact this
  by_cases h160 : f = 160
  · subst h160
    rw [show Kit.kx.p.funcs[160]? = some Tryz.f160 from Tryz.func160] at hf
    cases hf
    have := ok160
    rw [hb] at this
    exact this
  by_cases h171 : f = 171
  · subst h171
    rw [show Kit.kx.p.funcs[171]? = some Tryz.f171 from Tryz.func171] at hf
    cases hf
    have := ok171
    rw [hb] at this
    exact this
  refine Ev.okC_none (fun id => ?_) c
  show Kit.kxPl f id = none
  unfold Kit.kxPl
  rw [show Nat.beq f 6 = false from beq_ne h6, cond_false]
  rw [show Nat.beq f 8 = false from beq_ne h8, cond_false]
  rw [show Nat.beq f 11 = false from beq_ne h11, cond_false]
  rw [show Nat.beq f 12 = false from beq_ne h12, cond_false]
  rw [show Nat.beq f 13 = false from beq_ne h13, cond_false]
  rw [show Nat.beq f 17 = false from beq_ne h17, cond_false]
  rw [show Nat.beq f 18 = false from beq_ne h18, cond_false]
  rw [show Nat.beq f 21 = false from beq_ne h21, cond_false]
  rw [show Nat.beq f 23 = false from beq_ne h23, cond_false]
  rw [show Nat.beq f 24 = false from beq_ne h24, cond_false]
  rw [show Nat.beq f 27 = false from beq_ne h27, cond_false]
  rw [show Nat.beq f 28 = false from beq_ne h28, cond_false]
  rw [show Nat.beq f 33 = false from beq_ne h33, cond_false]
  rw [show Nat.beq f 35 = false from beq_ne h35, cond_false]
  rw [show Nat.beq f 46 = false from beq_ne h46, cond_false]
  rw [show Nat.beq f 47 = false from beq_ne h47, cond_false]
  rw [show Nat.beq f 48 = false from beq_ne h48, cond_false]
  rw [show Nat.beq f 49 = false from beq_ne h49, cond_false]
  rw [show Nat.beq f 56 = false from beq_ne h56, cond_false]
  rw [show Nat.beq f 59 = false from beq_ne h59, cond_false]
  rw [show Nat.beq f 60 = false from beq_ne h60, cond_false]
  rw [show Nat.beq f 65 = false from beq_ne h65, cond_false]
  rw [show Nat.beq f 69 = false from beq_ne h69, cond_false]
  rw [show Nat.beq f 73 = false from beq_ne h73, cond_false]
  rw [show Nat.beq f 74 = false from beq_ne h74, cond_false]
  rw [show Nat.beq f 84 = false from beq_ne h84, cond_false]
  rw [show Nat.beq f 87 = false from beq_ne h87, cond_false]
  rw [show Nat.beq f 91 = false from beq_ne h91, cond_false]
  rw [show Nat.beq f 92 = false from beq_ne h92, cond_false]
  rw [show Nat.beq f 94 = false from beq_ne h94, cond_false]
  rw [show Nat.beq f 96 = false from beq_ne h96, cond_false]
  rw [show Nat.beq f 98 = false from beq_ne h98, cond_false]
  rw [show Nat.beq f 100 = false from beq_ne h100, cond_false]
  rw [show Nat.beq f 106 = false from beq_ne h106, cond_false]
  rw [show Nat.beq f 108 = false from beq_ne h108, cond_false]
  rw [show Nat.beq f 109 = false from beq_ne h109, cond_false]
  rw [show Nat.beq f 113 = false from beq_ne h113, cond_false]
  rw [show Nat.beq f 114 = false from beq_ne h114, cond_false]
  rw [show Nat.beq f 117 = false from beq_ne h117, cond_false]
  rw [show Nat.beq f 119 = false from beq_ne h119, cond_false]
  rw [show Nat.beq f 121 = false from beq_ne h121, cond_false]
  rw [show Nat.beq f 125 = false from beq_ne h125, cond_false]
  rw [show Nat.beq f 128 = false from beq_ne h128, cond_false]
  rw [show Nat.beq f 130 = false from beq_ne h130, cond_false]
  rw [show Nat.beq f 141 = false from beq_ne h141, cond_false]
  rw [show Nat.beq f 142 = false from beq_ne h142, cond_false]
  rw [show Nat.beq f 148 = false from beq_ne h148, cond_false]
  rw [show Nat.beq f 154 = false from beq_ne h154, cond_false]
  rw [show Nat.beq f 160 = false from beq_ne h160, cond_false]
  rw [show Nat.beq f 171 = false from beq_ne h171, cond_false]
end Go.Proofs.YtnboghpebjciaaaGreatDoor.Plans
