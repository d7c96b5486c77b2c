/- TE: slices.SortFunc at structs, by the kit's contract. -/
import Derived.Test.YtfpfmibcnldepaaGreatTE23
import Derived.Shelf.SlSortCmp.NoneTotal
namespace TE
open Go Go.Proofs Go.Shelf Go.RowKit Go.Lib Go.Sort
variable {S : Sig} {E : Env S}

theorem oneCell_of_CR {M : Mem} {tv : TV S} {v : Value} (h : CR E M tv v) (ha : aliveCell tv = true) : v.oneCell' = true := by
  cases h <;> first | rfl | cases ha

theorem grow_of_below {w w' : World} (h : Below w.heap.size w w') (hd : w.drawn ≤ w'.drawn) : ∃ q os, w' = grow (w.drewN q) os := by
  refine ⟨w'.drawn - w.drawn, w'.heap.extract w.heap.size w'.heap.size, ?_⟩
  have h1 : w'.heap = w.heap ++ w'.heap.extract w.heap.size w'.heap.size := by
    apply Array.ext_getElem?
    intro i
    by_cases hi : i < w.heap.size
    · rw [Array.getElem?_append_left hi, h.block i hi]
    · rw [Array.getElem?_append_right (by omega), Array.getElem?_extract]
      have e : w.heap.size + (i - w.heap.size) = i := by omega
      by_cases h2 : i - w.heap.size < min w'.heap.size w'.heap.size - w.heap.size
      · rw [if_pos h2, e]
      · rw [if_neg h2]
        exact Array.getElem?_eq_none_iff.2 (by have := h.size; omega)
  cases w with
  | mk heap tape drawn os output =>
    cases w' with
    | mk heap' tape' drawn' os' output' =>
      obtain ⟨e1, e2, e3, _, _⟩ := h
      simp only at e1 e2 e3 h1 hd
      subst e1; subst e2; subst e3
      simp only [grow, World.drewN, World.mk.injEq, and_true, true_and]
      exact ⟨h1, by omega⟩

theorem calls_drawnV {f : FuncId} {args : List (TV S)} {res : Res S} (h : CallOK E f args [] res) (w : World) {vals : Array Value} (hl : args.length = vals.size)
    (hv : ∀ (i : Nat) (tv : TV S) (v : Value), args[i]? = some tv → vals[i]? = some v → VR E (fun _ => none) (fun b off => w.cell? (at_ b off)) tv v) :
    Calls E.P f vals w fun e w' => (∃ v φ M, e = .returned v ∧ VR E φ M res.v v) ∧ Below w.heap.size w w' ∧ w.drawn ≤ w'.drawn := by
  refine (h.2 ⟨w, fun _ => False, fun b off => w.cell? (at_ b off), fun _ => none, 0⟩ vals rfl hl hv ?_).mono ?_
  · exact ⟨fun nm x hx => by simp at hx, fun _ _ => rfl, fun nm nm' x x' b f f' hx => by simp at hx, fun nm x b f off hx => by simp at hx, fun b off v hv => hv, rfl, rfl, rfl, Nat.le_refl _, fun _ _ _ => rfl,
      fun nm x b f hx => by simp at hx, fun nm x b f hx => by simp at hx, Mem.le_refl _, fun b off hne => absurd rfl hne, fun _ h => absurd h (Nat.not_lt_zero _), Nat.le_refl _⟩
  · rintro e w' ⟨v, φ, M, he, hv', hW⟩
    exact ⟨⟨v, φ, M, he, hv'⟩, ⟨hW.os, hW.tape, hW.output, hW.size, fun k hk => hW.kept k hk (fun h => h)⟩, hW.drawn⟩

section
variable {ρ : Ren} {f g : FuncId} {c : S.K} {cf : S.El c → S.El c → Int} {xs : List (S.El c)}

end
end TE

