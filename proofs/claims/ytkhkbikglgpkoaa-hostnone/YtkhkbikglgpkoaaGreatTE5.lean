/- TE: operations that make a value. -/
import Derived.Test.YtkhkbikglgpkoaaGreatTE4
import Derived.Laws.StructEq
namespace TE
open Go
variable {S : Sig} {E : Env S}

theorem beq_bytes (a b : List UInt8) : ((⟨a.toArray⟩ : ByteArray).toList == (⟨b.toArray⟩ : ByteArray).toList) = (a == b) := by
  rw [ByteArray.toList_eq, ByteArray.toList_eq]
theorem bytesLess_eq : ∀ (a b : List UInt8), Op.bytesLess a b = bytesLess a b
  | _, [] => by simp [Op.bytesLess, bytesLess]
  | [], _ :: _ => by simp [Op.bytesLess, bytesLess]
  | a :: x, b :: y => by simp [Op.bytesLess, bytesLess, bytesLess_eq x y]
theorem toList_mk (a : List UInt8) : (⟨a.toArray⟩ : ByteArray).toList = a := by rw [ByteArray.toList_eq]

theorem run_part {P : Program} {φ : Phi} {M : Mem} {t : TypeId} {ag : Bool} {n k : Nat} {cs : List (TV S)} {vs : Array Value} {tv : TV S} (w : World) (ht : tyOf P t = some (ag, n))
    (hc : takeCells ag n k cs = some tv) (hl : cs.length = vs.size) (h : ∀ (i : Nat) (x : TV S) (v : Value), cs[i]? = some x → vs[i]? = some v → VR E φ M x v) :
    ∃ v, (part t vs k).run P w = .ok v w ∧ VR E φ M tv v := by
  obtain ⟨i, d, h1, h2, h3, h4⟩ := tyOf_spec ht
  unfold part
  rw [run_bind, run_isAgg t w h2]
  simp only []
  rw [← h4]
  cases ag with
  | false =>
    simp only [takeCells, Bool.false_eq_true, if_false] at hc ⊢
    have hlt : k < vs.size := by rw [← hl]; exact (List.getElem?_eq_some_iff.1 hc).1
    have hv : vs[k]? = some vs[k] := Array.getElem?_eq_getElem hlt
    rw [hv]
    exact ⟨_, rfl, h k tv _ hc hv⟩
  | true =>
    simp only [takeCells, if_true] at hc ⊢
    split at hc
    · rename_i hle
      simp only [Option.some.injEq] at hc
      subst hc
      refine ⟨.agg (vs.extract k (k + i.size)), by rw [run_bind, run_sizeOf t w h1]; rfl, .agg ?_ ?_⟩
      · simp; omega
      · intro j x v hx hv
        have hj : j < n := by have := (List.getElem?_eq_some_iff.1 hx).1; simp at this; omega
        rw [List.getElem?_take_of_lt hj, List.getElem?_drop] at hx
        refine h (k + j) x v hx ?_
        rw [Array.getElem?_extract] at hv
        split at hv
        · exact hv
        · cases hv
    · cases hc

theorem scalar_eq {P : Program} {φ : Phi} {M : Mem} {d : Nat} {t : TypeId} {td : TypeDesc} {x y : TV S} {u v : Value} {b : Bool} (w : World) (ht : P.underlying t = some td)
    (h : eqScalar td x y = some b) (hu : VR E φ M x u) (hv : VR E φ M y v) : (Op.equalIn (d + 1) t u v).run P w = .ok b w := by
  unfold eqScalar at h
  split at h
  all_goals try (cases h)
  · cases hu.bool; cases hv.bool
    exact run_equalIn_bool w d t _ _ ht
  · split at h
    · rename_i hk
      subst hk
      cases h
      cases hu.int; cases hv.int
      exact run_equalIn_int w d t _ _ _ _ ht
    · cases h
  · cases hu.str; cases hv.str
    rw [run_equalIn_string w d t _ _ ht, beq_bytes]
  · cases hu.nilp; cases hv.nilp
    simp [Op.equalIn, Go.run_underlying ht]
  · obtain ⟨g, _, rfl⟩ := hv.ptr_inv
    cases hu.nilp
    simp [Op.equalIn, Go.run_underlying ht]
  · obtain ⟨g, _, rfl⟩ := hu.ptr_inv
    cases hv.nilp
    simp [Op.equalIn, Go.run_underlying ht]
  · cases hu.nilm; cases hv.nilm
    simp [Op.equalIn, Go.run_underlying ht]
  · obtain ⟨g, _, rfl⟩ := hu.map_inv
    cases hv.nilm
    simp [Op.equalIn, Go.run_underlying ht]
  · obtain ⟨g, _, rfl⟩ := hv.map_inv
    cases hu.nilm
    simp [Op.equalIn, Go.run_underlying ht]
  · cases hu.nils; cases hv.nils
    simp [Op.equalIn, Go.run_underlying ht]
  · obtain ⟨g, a, cap, _, rfl, _⟩ := hu.rs_inv
    cases hv.nils
    simp [Op.equalIn, Go.run_underlying ht]
  · obtain ⟨g, a, cap, _, rfl, _⟩ := hv.rs_inv
    cases hu.nils
    simp [Op.equalIn, Go.run_underlying ht]
  · cases hu.nilf; cases hv.nilf
    simp [Op.equalIn, Go.run_underlying ht]
  · obtain ⟨vs, rfl, _⟩ := hu.fn_inv
    cases hv.nilf
    simp [Op.equalIn, Go.run_underlying ht]
  · obtain ⟨vs, rfl, _⟩ := hv.fn_inv
    cases hu.nilf
    simp [Op.equalIn, Go.run_underlying ht]

theorem fields_eq {P : Program} {φ : Phi} {M : Mem} {d : Nat} {eq : TypeId → TV S → TV S → Option Bool} (w : World) {xs ys : List (TV S)} {us vs : Array Value}
    (heq : ∀ t x y u v b, eq t x y = some b → VR E φ M x u → VR E φ M y v → (Op.equalIn d t u v).run P w = .ok b w)
    (hl : xs.length = us.size) (hx : ∀ (i : Nat) (x : TV S) (v : Value), xs[i]? = some x → us[i]? = some v → VR E φ M x v)
    (hl' : ys.length = vs.size) (hy : ∀ (i : Nat) (x : TV S) (v : Value), ys[i]? = some x → vs[i]? = some v → VR E φ M x v) :
    ∀ (fs : List Field) (b : Bool), eqFields eq P xs ys fs = some b → (Op.eqFields d us vs fs).run P w = .ok b w := by
  intro fs
  induction fs with
  | nil => intro b h; simp only [eqFields, Option.some.injEq] at h; subst h; rfl
  | cons f r ih =>
    intro b h
    unfold eqFields at h
    unfold Op.eqFields
    split at h
    · rename_i hn
      rw [if_neg (by simpa using hn)]
      exact ih b h
    · rename_i hn
      rw [if_pos (by simpa using hn)]
      split at h
      · cases h
      · rename_i ag n ht
        split at h
        · rename_i p q hp hq
          split at h
          · cases h
          · rename_i b1 hb1
            split at h
            · cases h
            · rename_i b2 hb2
              simp only [Option.some.injEq] at h
              subst h
              obtain ⟨u, hu, hur⟩ := run_part (E := E) w ht hp hl hx
              obtain ⟨v, hv, hvr⟩ := run_part (E := E) w ht hq hl' hy
              rw [run_bind, hu]
              simp only []
              rw [run_bind, hv]
              simp only []
              rw [run_bind, heq f.type p q u v b1 hb1 hur hvr]
              simp only []
              cases b1 with
              | false => rfl
              | true => simp only [Bool.not_true, Bool.false_eq_true, if_false, Bool.true_and]; exact ih b2 hb2
        · cases h

theorem type_eq {P : Program} {φ : Phi} {M : Mem} (w : World) : ∀ (d D : Nat) (t : TypeId) (x y : TV S) (u v : Value) (b : Bool), d ≤ D → eqType P d t x y = some b → VR E φ M x u → VR E φ M y v →
    (Op.equalIn D t u v).run P w = .ok b w := by
  intro d
  induction d with
  | zero => intro D t x y u v b _ h; simp [eqType] at h
  | succ d ih =>
    intro D t x y u v b hD h hu hv
    obtain ⟨D', rfl⟩ : ∃ D', D = D' + 1 := ⟨D - 1, by omega⟩
    unfold eqType at h
    split at h
    · cases h
    · rename_i fs ht
      split at h
      · rename_i xs ys
        split at h
        · cases h
        · rename_i hs
          obtain ⟨us, rfl, hl, hx⟩ := hu.agg_inv
          obtain ⟨vs, rfl, hl', hy⟩ := hv.agg_inv
          have ht' : P.underlying t = some (.struct (P.fieldsOf t)) := by simp [Program.fieldsOf, ht]
          have hfs : P.fieldsOf t = fs := by simp [Program.fieldsOf, ht]
          rw [run_equalIn_struct w D' t us vs ht' (by simpa using hs), hfs]
          exact fields_eq (E := E) w (fun t x y u v b h1 h2 h3 => ih D' t x y u v b (by omega) h1 h2 h3) hl hx hl' hy _ _ h
      · cases h
    · rename_i td hns ht
      exact scalar_eq (E := E) w ht h hu hv

theorem run_eqGuard_other {P : Program} {op : BinOp} {t : TypeId} {x y : Operand} {u v : Value} (w : World) (h1 : ¬ (u = .nilIface ∧ v = .nilIface))
    (h2 : ∀ us vs, u = .agg us → v = .agg vs → P.eqGuardType P.depth t = false) : (eqGuard op t x y u v).run P w = .ok () w := by
  by_cases ha : ∃ us vs, u = .agg us ∧ v = .agg vs
  · obtain ⟨us, vs, rfl, rfl⟩ := ha
    exact run_eqGuard_agg w op t x y us vs (h2 us vs rfl rfl)
  · cases op
    case eql | neq =>
      simp only [eqGuard]
      split
      · rfl
      · split
        · exact absurd ⟨rfl, rfl⟩ h1
        · exact absurd ⟨_, _, rfl, rfl⟩ ha
        · rfl
    all_goals rfl

theorem pair_ok {P : Program} {φ : Phi} {M : Mem} {op : BinOp} {t : TypeId} {x y : TV S} {tv : TV S} {u v : Value} (xo yo : Operand) (w : World) (h : eqPair P op t x y = some tv)
    (hu : VR E φ M x u) (hv : VR E φ M y v) (h1 : ¬ (u = .nilIface ∧ v = .nilIface)) (h2 : ∀ us vs, u = .agg us → v = .agg vs → P.eqGuardType P.depth t = false)
    (he : binOp .eql t u v = do pure (.bool (← Op.equal t u v))) (hn : binOp .neq t u v = do pure (.bool (!(← Op.equal t u v)))) :
    ∃ z, (do eqGuard op t xo yo u v; binOp op t u v : Sem Value).run P w = .ok z w ∧ VR E φ M tv z := by
  rw [run_bind, run_eqGuard_other w h1 h2]
  simp only []
  unfold eqPair at h
  split at h
  · simp only [Option.map_eq_some_iff] at h
    obtain ⟨b, hb, rfl⟩ := h
    refine ⟨.bool b, ?_, .pure (.bool b)⟩
    rw [he, run_bind, show Op.equal t u v = Op.equalIn 10000 t u v from rfl, type_eq (E := E) w 40 10000 t x y u v b (by omega) hb hu hv]
    rfl
  · simp only [Option.map_eq_some_iff] at h
    obtain ⟨b, hb, rfl⟩ := h
    refine ⟨.bool (!b), ?_, .pure (.bool (!b))⟩
    rw [hn, run_bind, show Op.equal t u v = Op.equalIn 10000 t u v from rfl, type_eq (E := E) w 40 10000 t x y u v b (by omega) hb hu hv]
    rfl
  · cases h

theorem binEval_ok {P : Program} {R : Type} {op : BinOp} {t : TypeId} {x y : TV S} {k : TV S → Option R} {r : R} (h : binEvalK P op t x y k = some r) :
    ∃ tv, k tv = some r ∧ ∀ (φ : Phi) (M : Mem) (u v : Value) (xo yo : Operand) (w : World), VR E φ M x u → VR E φ M y v →
      ∃ z, (do eqGuard op t xo yo u v; binOp op t u v : Sem Value).run P w = .ok z w ∧ VR E φ M tv z := by
  unfold binEvalK at h
  split at h
  · rename_i j a j' b
    -- integers
    have guard : ∀ (φ : Phi) (M : Mem) (u v : Value) (xo yo : Operand) (w : World), VR E φ M (.int j a) u → VR E φ M (.int j' b) v →
        (do eqGuard op t xo yo u v; binOp op t u v : Sem Value).run P w = (binOp op t (.int j a) (.int j' b)).run P w := by
      intro φ M u v xo yo w hu hv
      cases hu.int; cases hv.int
      rw [run_bind, run_eqGuard_other w (by simp) (by intro _ _ h; cases h)]
    split at h
    · split at h
      · cases h
      · rename_i hb
        refine ⟨_, h, fun φ M u v xo yo w hu hv => ⟨_, ?_, .pure (.int _ _)⟩⟩
        rw [guard φ M u v xo yo w hu hv]
        simp only [binOp, Op.shift, if_neg hb]; rfl
    · split at h
      · cases h
      · rename_i hb
        refine ⟨_, h, fun φ M u v xo yo w hu hv => ⟨_, ?_, .pure (.int _ _)⟩⟩
        rw [guard φ M u v xo yo w hu hv]
        simp only [binOp, Op.shift, if_neg hb]; rfl
    · split at h
      · cases h
      · rename_i hb
        split at h
        · rename_i hj
          subst hj
          refine ⟨_, h, fun φ M u v xo yo w hu hv => ⟨_, ?_, .pure (.int _ _)⟩⟩
          rw [guard φ M u v xo yo w hu hv]
          simp only [binOp, ne_eq, not_true, if_false, Op.intDiv, if_neg hb]; rfl
        · cases h
    · split at h
      · cases h
      · rename_i hb
        split at h
        · rename_i hj
          subst hj
          refine ⟨_, h, fun φ M u v xo yo w hu hv => ⟨_, ?_, .pure (.int _ _)⟩⟩
          rw [guard φ M u v xo yo w hu hv]
          simp only [binOp, ne_eq, not_true, if_false, Op.intDiv, if_neg hb]; rfl
        · cases h
    · rename_i n1 n2 n3 n4
      split at h
      · rename_i hj
        subst hj
        split at h
        · rename_i tv htv
          refine ⟨tv, h, fun φ M u v xo yo w hu hv => ?_⟩
          rw [guard φ M u v xo yo w hu hv]
          cases op <;> simp only [intOp, Option.some.injEq, reduceCtorEq] at htv <;> first
            | exact absurd rfl n1
            | exact absurd rfl n2
            | exact absurd rfl n3
            | exact absurd rfl n4
            | (subst htv; exact ⟨_, by simp only [binOp, ne_eq, not_true, if_false, Op.intArith, Op.intBits, Op.intCmp]; rfl, by first | exact .pure (.int _ _) | exact .pure (.bool _)⟩)
        · cases h
      · cases h
  · rename_i a b
    have guard : ∀ (φ : Phi) (M : Mem) (u v : Value) (xo yo : Operand) (w : World), VR E φ M (.str a) u → VR E φ M (.str b) v →
        (do eqGuard op t xo yo u v; binOp op t u v : Sem Value).run P w = (Op.stringOp op ⟨a.toArray⟩ ⟨b.toArray⟩).run P w := by
      intro φ M u v xo yo w hu hv
      cases hu.str; cases hv.str
      rw [run_bind, run_eqGuard_other w (by simp) (by intro _ _ h; cases h)]
      cases op <;> rfl
    split at h
    · split at h
      · rename_i hle
        refine ⟨_, h, fun φ M u v xo yo w hu hv => ⟨.string ⟨(a ++ b).toArray⟩, ?_, .pure (.str _)⟩⟩
        rw [guard φ M u v xo yo w hu hv]
        have hsz : ¬ (((⟨a.toArray⟩ : ByteArray).size + (⟨b.toArray⟩ : ByteArray).size : Nat) : Int) > IntKind.i64.max := by
          have h1 : (⟨a.toArray⟩ : ByteArray).size = a.length := by simp [ByteArray.size]
          have h2 : (⟨b.toArray⟩ : ByteArray).size = b.length := by simp [ByteArray.size]
          rw [h1, h2]
          have : IntKind.i64.max = 9223372036854775807 := by decide
          rw [this]
          simp only [maxRow] at hle
          omega
        simp only [Op.stringOp, if_neg hsz]
        show Result.ok (Value.string (_ ++ _)) w = _
        congr 2
      · cases h
    · rename_i hadd
      split at h
      · rename_i tv htv
        refine ⟨tv, h, fun φ M u v xo yo w hu hv => ?_⟩
        rw [guard φ M u v xo yo w hu hv]
        cases op <;> simp only [strOp, Option.some.injEq, reduceCtorEq] at htv <;> first
          | exact absurd rfl hadd
          | (subst htv; exact ⟨_, by simp only [Op.stringOp, toList_mk, bytesLess_eq]; rfl, .pure (.bool _)⟩)
      · cases h
  · split at h
    · rename_i tv htv
      refine ⟨tv, h, ?_⟩
      intro φ M u v xo yo w hu hv
      unfold binEval at htv
      split at htv
      · cases hu.bool; cases hv.bool
        exact pair_ok xo yo w htv hu hv (by simp) (by intro _ _ h; cases h) rfl rfl
      · cases hu.nilp; cases hv.nilp
        exact pair_ok xo yo w htv hu hv (by simp) (by intro _ _ h; cases h) rfl rfl
      · cases hu.nilp; obtain ⟨g, _, rfl⟩ := hv.ptr_inv
        exact pair_ok xo yo w htv hu hv (by simp) (by intro _ _ h; cases h) rfl rfl
      · cases hv.nilp; obtain ⟨g, _, rfl⟩ := hu.ptr_inv
        exact pair_ok xo yo w htv hu hv (by simp) (by intro _ _ h; cases h) rfl rfl
      · cases hu.nilm; cases hv.nilm
        exact pair_ok xo yo w htv hu hv (by simp) (by intro _ _ h; cases h) rfl rfl
      · cases hv.nilm; obtain ⟨g, _, rfl⟩ := hu.map_inv
        exact pair_ok xo yo w htv hu hv (by simp) (by intro _ _ h; cases h) rfl rfl
      · cases hu.nilm; obtain ⟨g, _, rfl⟩ := hv.map_inv
        exact pair_ok xo yo w htv hu hv (by simp) (by intro _ _ h; cases h) rfl rfl
      · cases hu.nils; cases hv.nils
        exact pair_ok xo yo w htv hu hv (by simp) (by intro _ _ h; cases h) rfl rfl
      · cases hv.nils; obtain ⟨g, a, cap, _, rfl, _⟩ := hu.rs_inv
        exact pair_ok xo yo w htv hu hv (by simp) (by intro _ _ h; cases h) rfl rfl
      · cases hu.nils; obtain ⟨g, a, cap, _, rfl, _⟩ := hv.rs_inv
        exact pair_ok xo yo w htv hu hv (by simp) (by intro _ _ h; cases h) rfl rfl
      · cases hu.nilf; cases hv.nilf
        exact pair_ok xo yo w htv hu hv (by simp) (by intro _ _ h; cases h) rfl rfl
      · obtain ⟨vs, rfl, _⟩ := hu.fn_inv; cases hv.nilf
        exact pair_ok xo yo w htv hu hv (by simp) (by intro _ _ h; cases h) rfl rfl
      · obtain ⟨vs, rfl, _⟩ := hv.fn_inv; cases hu.nilf
        exact pair_ok xo yo w htv hu hv (by simp) (by intro _ _ h; cases h) rfl rfl
      · obtain ⟨us, rfl, _⟩ := hu.agg_inv; obtain ⟨vs, rfl, _⟩ := hv.agg_inv
        split at htv
        · cases htv
        · rename_i hg
          exact pair_ok xo yo w htv hu hv (by simp) (fun _ _ _ _ => by simpa using hg) rfl rfl
      · cases htv
    · cases h
end TE
