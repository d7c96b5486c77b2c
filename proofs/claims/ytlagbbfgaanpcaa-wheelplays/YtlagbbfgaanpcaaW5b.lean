/- W5b: a part of the proof of WheelPlays: lemmas on the evaluator and on the functions that the law reaches. -/
import Derived.Test.YtlagbbfgaanpcaaW5
import Derived.Test.YtlagbbfgaanpcaaTE24
set_option maxRecDepth 100000
set_option linter.unusedVariables false
namespace Go.Proofs
open Go.Shelf Go.RowKit Go.Lib Go.Sort
namespace Wl
def sortFired_ren : Go.Shelf.Ren := ⟨fun | 6 => 25 | 15 => 28 | 14 => 27 | 28 => 39 | 29 => 40 | 20 => 31 | 21 => 32 | 22 => 33 | 23 => 34 | 24 => 35 | 25 => 36 | 26 => 37 | 27 => 38 | 46 => 42 | 47 => 43 | 48 => 44 | 49 => 45 | 50 => 46 | 57 => 47 | n => n, fun | 22 => 28 | 24 => 25 | 25 => 57 | 3 => 3 | 39 => 62 | 0 => 0 | 53 => 73 | 55 => 75 | 4 => 4 | 46 => 67 | 45 => 66 | 50 => 48 | 5 => 5 | 9 => 9 | 66 => 78 | 70 => 82 | 76 => 84 | 77 => 85 | n => n, fun | n => n⟩
theorem sortFired : Go.Proofs.SlLaysF0.n6 Try.prog sortFired_ren := {
  mixed := by kernel_rfl
  f6 := ⟨Try.f25.name, by decide, Try.func25.trans (congrArg some (by kernel_rfl))⟩
  f14 := ⟨Try.f27.name, by decide, Try.func27.trans (congrArg some (by kernel_rfl))⟩
  f15 := Try.func28.trans (congrArg some (by kernel_rfl))
  f20 := ⟨Try.f31.name, by decide, Try.func31.trans (congrArg some (by kernel_rfl))⟩
  f21 := ⟨Try.f32.name, by decide, Try.func32.trans (congrArg some (by kernel_rfl))⟩
  f22 := ⟨Try.f33.name, by decide, Try.func33.trans (congrArg some (by kernel_rfl))⟩
  f23 := ⟨Try.f34.name, by decide, Try.func34.trans (congrArg some (by kernel_rfl))⟩
  f24 := ⟨Try.f35.name, by decide, Try.func35.trans (congrArg some (by kernel_rfl))⟩
  f25 := ⟨Try.f36.name, by decide, Try.func36.trans (congrArg some (by kernel_rfl))⟩
  f26 := ⟨Try.f37.name, by decide, Try.func37.trans (congrArg some (by kernel_rfl))⟩
  f27 := ⟨Try.f38.name, by decide, Try.func38.trans (congrArg some (by kernel_rfl))⟩
  f28 := Try.func39.trans (congrArg some (by kernel_rfl))
  f29 := Try.func40.trans (congrArg some (by kernel_rfl))
  f46 := ⟨Try.f42.name, by decide, Try.func42.trans (congrArg some (by kernel_rfl))⟩
  f47 := Try.func43.trans (congrArg some (by kernel_rfl))
  f48 := Try.func44.trans (congrArg some (by kernel_rfl))
  f49 := ⟨Try.f45.name, by decide, Try.func45.trans (congrArg some (by kernel_rfl))⟩
  f50 := ⟨Try.f46.name, by decide, Try.func46.trans (congrArg some (by kernel_rfl))⟩
  f57 := ⟨Try.f47.name, by decide, Try.func47.trans (congrArg some (by kernel_rfl))⟩
  t0 := Try.underlying0
  a0 := Try.isAgg0
  z0 := Try.sizeOf0
  v0 := Try.zeroValue0
  t3 := Try.underlying3
  a3 := Try.isAgg3
  z3 := Try.sizeOf3
  v3 := Try.zeroValue3
  t4 := Try.underlying4
  a4 := Try.isAgg4
  z4 := Try.sizeOf4
  v4 := Try.zeroValue4
  t5 := Try.underlying5
  a5 := Try.isAgg5
  z5 := Try.sizeOf5
  v5 := Try.zeroValue5
  t9 := Try.underlying9
  a9 := Try.isAgg9
  z9 := Try.sizeOf9
  v9 := Try.zeroValue9
  t22 := Try.underlying28
  a22 := Try.isAgg28
  z22 := Try.sizeOf28
  v22 := Try.zeroValue28
  t25 := Try.underlying57
  a25 := Try.isAgg57
  z25 := Try.sizeOf57
  v25 := Try.zeroValue57
  t39 := Try.underlying62
  a39 := Try.isAgg62
  z39 := Try.sizeOf62
  v39 := Try.zeroValue62
  t45 := Try.underlying66
  a45 := Try.isAgg66
  z45 := Try.sizeOf66
  v45 := Try.zeroValue66
  t46 := Try.underlying67
  a46 := Try.isAgg67
  z46 := Try.sizeOf67
  v46 := Try.zeroValue67
  t50 := Try.underlying48
  a50 := Try.isAgg48
  z50 := Try.sizeOf48
  v50 := Try.zeroValue48
  t53 := Try.underlying73
  a53 := Try.isAgg73
  z53 := Try.sizeOf73
  v53 := Try.zeroValue73
  t55 := Try.underlying75
  a55 := Try.isAgg75
  z55 := Try.sizeOf75
  v55 := Try.zeroValue75
  t66 := Try.underlying78
  a66 := Try.isAgg78
  z66 := Try.sizeOf78
  v66 := Try.zeroValue78
  t70 := Try.underlying82
  a70 := Try.isAgg82
  z70 := Try.sizeOf82
  v70 := Try.zeroValue82
  t76 := Try.underlying84
  a76 := Try.isAgg84
  z76 := Try.sizeOf84
  v76 := Try.zeroValue84
  t77 := Try.underlying85
  a77 := Try.isAgg85
  z77 := Try.sizeOf85
  v77 := Try.zeroValue85 }
end Wl
end Go.Proofs
namespace Wh
open Go TE Go.Proofs Go.Sort
theorem swoF : SWO (Go.Proofs.ltOf cfF) where
  irrefl x := by show ltF x x = false; rw [ltF_false]; omega
  trans x y z h1 h2 := by
    have h1' : ltF x y = true := h1
    have h2' : ltF y z = true := h2
    show ltF x z = true
    rw [ltF_iff] at *; omega
  ntrans x y z h1 h2 := by
    have h1' : ltF x y = false := h1
    have h2' : ltF y z = false := h2
    show ltF x z = false
    rw [ltF_false] at *; omega
theorem c25 (xs : List Fired) (h : xs.length < 4611686018427387904) : CallOK (E noCalls) 25 [.slw 0, .fn 26 []] [.row .fired xs .own] ⟨.tup [], some [.row .fired (srt xs) .own], []⟩ := by
  have := TE.sort_call (E := E noCalls) (c := (K.fired : S.K)) (cf := cfF) (xs := xs) (g := 26) (f := 25) (E_ok _) Wl.sortFired rfl Try.isAgg25 Try.sizeOf25 swoF (fun x y h1 h2 => ltF_tie x y h1 h2)
    (enters_of Try.func26 (by kernel_rfl) rfl) c26 ⟨Try.f25, by kernel_rfl, by kernel_rfl, by kernel_rfl⟩ h
  exact this
end Wh
