/- HostNone: the law's function on a nil Host, for every operation and every number. -/
import Derived.Test.YtkhkbikglgpkoaaGreatHK
set_option maxRecDepth 100000
set_option linter.unusedVariables false
namespace Ho
open Go TE Go.Proofs
noncomputable section
def cK : CRow := ⟨26, [], [], .bool true, [], []⟩
theorem known_ok : cK.ok E0 := by
  have h : tabL E0 hh 60 [c25, c24, c23, c22, c21, c20, c19, c18, c17, c16, c15, c14, c13, c12, c11, c10, c9, c8, c7, c6, c5, c4, c3, c2, c1, c0] 41 26 [] [] (Res U) some = some ⟨.bool true, some [], []⟩ := by kernel_rfl
  obtain ⟨res, h1, h2⟩ := tabL_ok (uEnvR_ok hm) hH k25 41 26 [] [] (Res U) _ _ h
  cases h1
  exact h2
abbrev nR : List (TV U) := [.int .i64 0, .int .i64 0, .int .i64 0, .int .i64 0, .str [], .int .i64 0, .nils, .nils, .nils, .int .i64 0, .nils, .nils]
theorem play_ok (a b : Int) (s : List UInt8) (n a' b' : Int) (s' : List UInt8) (n' : Int) : CallOK E0 16 [.nilp, .rs 0 0 2] [.raw 4 [.int .i64 a, .int .i64 b, .str s, .int .i64 n, .int .i64 a', .int .i64 b', .str s', .int .i64 n']] ⟨.rs 1 0 2, none, [.raw 12 (nR ++ nR)]⟩ := by
  have h : tabL E0 hh 60 [] 41 16 [.nilp, .rs 0 0 2] [.raw 4 [.int .i64 a, .int .i64 b, .str s, .int .i64 n, .int .i64 a', .int .i64 b', .str s', .int .i64 n']] (Res U) some = some ⟨.rs 1 0 2, some [.raw 4 [.int .i64 a, .int .i64 b, .str s, .int .i64 n, .int .i64 a', .int .i64 b', .str s', .int .i64 n']], [.raw 12 (nR ++ nR)]⟩ := by kernel_rfl
  obtain ⟨res, h1, h2⟩ := tabL_ok (uEnvR_ok hm) hH (fun _ h => by cases h) 41 16 _ _ (Res U) _ _ h
  cases h1
  exact h2
/-- Calls: Play on no machine at any operations, all others by their bodies. -/
def gP : Callf U := fun f args objs R k => bif Nat.beq f 16 then (match args, objs with
  | [.nilp, .rs 0 0 2], [.raw 4 [.int .i64 a, .int .i64 b, .str s, .int .i64 n, .int .i64 a', .int .i64 b', .str s', .int .i64 n']] => k ⟨.rs 1 0 2, none, [.raw 12 (nR ++ nR)]⟩
  | _, _ => none) else tabL E0 hh 60 [cK] 41 f args objs R k
theorem gP_ok : TabOK E0 gP := by
  intro f args objs R k r h
  unfold gP at h
  cases hb : Nat.beq f 16 with
  | false => rw [hb] at h; exact tabL_ok (uEnvR_ok hm) hH (CRow.cons (l := []) (fun _ h => by cases h) known_ok) 41 f args objs R k r h
  | true =>
    rw [hb] at h
    cases Nat.eq_of_beq_eq_true hb
    simp only [cond_true] at h
    split at h
    · exact ⟨_, h, play_ok _ _ _ _ _ _ _ _⟩
    · cases h
theorem law_ok (a b : Int) (s : List UInt8) (n i q : Int) : CallOK E0 5 [.agg [.int .i64 a, .int .i64 b, .str s, .int .i64 n], .int .i64 i, .int .i64 q] [] ⟨.bool true, some [], []⟩ := by
  have h : bodyT E0 hh 60 gP 5 [.agg [.int .i64 a, .int .i64 b, .str s, .int .i64 n], .int .i64 i, .int .i64 q] [] (Res U) some = some ⟨.bool true, some [], []⟩ := by kernel_rfl
  obtain ⟨res, h1, h2⟩ := bodyT_ok (uEnvR_ok hm) hH gP_ok 5 _ [] (Res U) _ _ h
  cases h1
  exact h2
end
end Ho
