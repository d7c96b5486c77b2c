/- SoundCerts in plain words: the law's function answers true. -/
import Derived.Test.YtcllbmdpckfnhaaGreatL1
import Derived.Test.YtcllbmdpckfnhaaGreatT51
import Derived.Test.YtcllbmdpckfnhaaGreatPD
set_option maxRecDepth 1000000
set_option linter.unusedVariables false
namespace So
open Go TE Go.Proofs
theorem at_mem {α : Type} {l : List α} {i : Int} (h0 : 0 ≤ i) (h1 : i < l.length) : ∃ e ∈ l, at? l i = some e := by
 have hi : i.toNat < l.length := by omega
 exact ⟨l[i.toNat], List.getElem_mem hi, by unfold at?; rw [if_neg (by omega), List.getElem?_eq_getElem hi]⟩
theorem QW {R : Type} (N : Nat) (v : Int) : ∃ x, 0 ≤ x ∧ x < 1048576 ∧ ∀ k : Int → Option R, yK N v 1048576 k = k x := by
 have h1 := Int.tmod_lt_of_pos v (show (0 : Int) < 1048576 by decide)
 have h2 : -1048576 < Int.tmod v 1048576 := by
  have := Int.lt_tmod_of_pos v (show (0 : Int) < 1048576 by decide)
  omega
 unfold yK
 by_cases h : Int.tmod v 1048576 < 0
 ·refine ⟨Int.tmod v 1048576 + 1048576, by omega, by omega, fun k => ?_⟩
  rw [if_neg (by decide), if_pos (by simpa using h), wr _ (by omega) (by omega)]
 ·refine ⟨Int.tmod v 1048576, by omega, by omega, fun k => ?_⟩
  rw [if_neg (by decide), if_neg (by simpa using h)]
theorem tm {r d : Int} (q : Int) (h0 : 0 ≤ r) (h1 : r < 1048576) (hd : 0 < d) (hq : 0 < q) : 0 ≤ Int.tmod (IntKind.wrap .i64 (Int.tdiv r d)) q ∧ Int.tmod (IntKind.wrap .i64 (Int.tdiv r d)) q < q := by
 have e : Int.tdiv r d = r / d := Int.tdiv_eq_ediv_of_nonneg h0
 have g0 : 0 ≤ r / d := Int.ediv_nonneg h0 (by omega)
 have g1 : r / d ≤ r := Int.ediv_le_self d h0
 rw [e, wr _ (by omega) (by omega), Int.tmod_eq_emod_of_nonneg g0]
 exact ⟨Int.emod_nonneg _ (by omega), Int.emod_lt_of_pos _ hq⟩
theorem xd {R : Type} (N : Nat) {r : Int} (h0 : 0 ≤ r) (h1 : r < 1048576) (insts chans head cell : List UInt8) (q1 : insts.length ≤ 100) (q2 : chans.length ≤ 100) (q3 : head.length ≤ 100) (q4 : cell.length ≤ 100) :
  ∃ e ∈ um, ∀ kp : List UInt8 → Option R, ec N r insts chans head cell kp = kp (ctext e insts chans head cell) := by
 obtain ⟨g0, g1⟩ := tm 4 h0 h1 (d := 16) (by decide) (by decide)
 obtain ⟨e, he, ha⟩ := at_mem (l := um) g0 (by rw [show um.length = 4 from rfl]; exact g1)
 have hl : e.length ≤ 2 := by
  have : um.all (fun e => decide (e.length ≤ 2)) = true := by decide
  simpa using List.all_eq_true.1 this e he
 have hm : ak = 68719476736 := rfl
 refine ⟨e, he, fun kp => ?_⟩
 unfold ec
 rw [show ([[48], [49], [54, 52], [54, 53]] : List (List UInt8)) = um from rfl, ha, Option.bind_some]
 simp only [List.length_append, List.length_cons, List.length_nil]
 iterate 10 rw [if_pos (by omega)]
 rfl
theorem yz {l : List (List UInt8)} (h : l.all (fun e => decide (e.length ≤ 100)) = true) : ∀ e ∈ l, e.length ≤ 100 := fun e he => by simpa using List.all_eq_true.1 h e he
theorem Ij {R : Type} (N : Nat) (v : Int) : ∃ t, Good t ∧ ∀ k : List UInt8 → Option R, l12_cert N v k = k t := by
 obtain ⟨x, h0, h1, hx⟩ := QW (R := R) N v
 unfold l12_cert
 have a4 := tm 4 h0 h1 (d := 32) (by decide) (by decide)
 have a6 := tm 6 h0 h1 (d := 32) (by decide) (by decide)
 simp only [hx]
 have hi0 : xi0.length ≤ 100 := by decide
 have hk0 : xk0.length ≤ 100 := by decide
 have hh0 : xh0.length ≤ 100 := by decide
 have hs0 : xs0.length ≤ 100 := by decide
 by_cases c0 : (Int.tmod x 16 == 0) = true
 ·obtain ⟨e, he, ha⟩ := at_mem (α := List UInt8) (l := [[97], [98, 44, 32, 97], [97, 44, 32, 97], [97, 44, 32, 110, 111, 110, 101]]) a4.1 a4.2
  obtain ⟨r, hr, hc⟩ := xd (R := R) N h0 h1 e _ _ _ (yz (by decide) e he) hk0 hh0 hs0
  refine ⟨_, (gi.mem e he).mem r hr, fun k => ?_⟩
  rw [if_pos c0, ha, Option.bind_some]; exact hc k
 by_cases c1 : (Int.tmod x 16 == 1) = true
 ·obtain ⟨e, he, ha⟩ := at_mem (α := List UInt8) (l := [[107], [109, 44, 32, 107], [107, 44, 32, 107], [107, 44, 32, 110, 111, 110, 101]]) a4.1 a4.2
  obtain ⟨r, hr, hc⟩ := xd (R := R) N h0 h1 _ e _ _ hi0 (yz (by decide) e he) hh0 hs0
  refine ⟨_, (gk.mem e he).mem r hr, fun k => ?_⟩
  rw [if_neg c0, if_pos c1, ha, Option.bind_some]; exact hc k
 by_cases c2 : (Int.tmod x 16 == 2) = true
 ·obtain ⟨e, he, ha⟩ := at_mem (α := List UInt8) (l := [[99, 32, 58, 32, 98, 46, 105, 110, 50, 32, 45, 62, 32, 111, 117, 116, 50], [99, 32, 58, 32, 97, 46, 111, 110, 49, 32, 45, 62, 32, 111, 110, 49], [99, 32, 58, 32, 97, 46, 110, 111, 110, 101, 32, 45, 62, 32, 111, 102, 102, 49], [99, 32, 58, 32, 97, 46, 111, 110, 49, 32, 45, 62, 32, 105, 110, 50], [99, 32, 58, 32, 122, 46, 111, 110, 49, 32, 45, 62, 32, 111, 102, 102, 49], [99, 32, 58, 32, 104, 46, 120, 49, 32, 45, 62, 32, 120, 50]]) a6.1 a6.2
  obtain ⟨r, hr, hc⟩ := xd (R := R) N h0 h1 _ _ e _ hi0 hk0 (yz (by decide) e he) hs0
  refine ⟨_, (gh.mem e he).mem r hr, fun k => ?_⟩
  rw [if_neg c0, if_neg c1, if_pos c2, ha, Option.bind_some]; exact hc k
 by_cases c3 : (Int.tmod x 16 == 3) = true
 ·obtain ⟨e, he, ha⟩ := at_mem (α := List UInt8) (l := [[123, 32, 111, 110, 49, 44, 32, 111, 102, 102, 59, 32, 91, 93, 32, 91, 93, 32, 125], [123, 32, 111, 102, 102, 44, 32, 111, 102, 102, 59, 32, 91, 93, 32, 91, 93, 32, 125], [123, 32, 111, 110, 49, 59, 32, 91, 93, 32, 91, 93, 32, 125], [123, 32, 111, 110, 49, 44, 32, 105, 110, 50, 44, 32, 111, 102, 102, 59, 32, 91, 93, 32, 91, 93, 32, 125]]) a4.1 a4.2
  obtain ⟨r, hr, hc⟩ := xd (R := R) N h0 h1 _ _ _ e hi0 hk0 hh0 (yz (by decide) e he)
  refine ⟨_, (gs1.mem e he).mem r hr, fun k => ?_⟩
  rw [if_neg c0, if_neg c1, if_neg c2, if_pos c3, ha, Option.bind_some]; exact hc k
 by_cases c4 : (Int.tmod x 16 == 4) = true
 ·obtain ⟨e, he, ha⟩ := at_mem (α := List UInt8) (l := [[123, 32, 111, 110, 49, 44, 32, 105, 110, 50, 59, 32, 91, 93, 32, 125], [123, 32, 111, 110, 49, 44, 32, 105, 110, 50, 59, 32, 91, 101, 32, 101, 93, 32, 91, 93, 32, 125], [123, 32, 111, 110, 49, 44, 32, 105, 110, 50, 59, 32, 91, 93, 32, 91, 101, 32, 102, 32, 103, 93, 32, 125], [123, 32, 111, 110, 49, 44, 32, 105, 110, 50, 59, 32, 91, 93, 32, 91, 93, 32, 91, 93, 32, 125]]) a4.1 a4.2
  obtain ⟨r, hr, hc⟩ := xd (R := R) N h0 h1 _ _ _ e hi0 hk0 hh0 (yz (by decide) e he)
  refine ⟨_, (gs2.mem e he).mem r hr, fun k => ?_⟩
  rw [if_neg c0, if_neg c1, if_neg c2, if_neg c3, if_pos c4, ha, Option.bind_some]; exact hc k
 by_cases c5 : (Int.tmod x 16 == 5) = true
 ·obtain ⟨e, he, ha⟩ := at_mem (α := List UInt8) (l := [[123, 32, 111, 110, 49, 43, 111, 102, 102, 49, 44, 32, 105, 110, 50, 59, 32, 91, 93, 32, 91, 93, 32, 125], [123, 32, 111, 110, 49, 44, 32, 105, 110, 50, 43, 105, 110, 51, 59, 32, 91, 93, 32, 91, 93, 32, 125], [123, 32, 111, 110, 49, 43, 111, 110, 49, 44, 32, 105, 110, 50, 59, 32, 91, 93, 32, 91, 93, 32, 125], [123, 32, 116, 111, 112, 44, 32, 105, 110, 50, 59, 32, 91, 93, 32, 91, 93, 32, 125]]) a4.1 a4.2
  obtain ⟨r, hr, hc⟩ := xd (R := R) N h0 h1 _ _ _ e hi0 hk0 hh0 (yz (by decide) e he)
  refine ⟨_, (gs3.mem e he).mem r hr, fun k => ?_⟩
  rw [if_neg c0, if_neg c1, if_neg c2, if_neg c3, if_neg c4, if_pos c5, ha, Option.bind_some]; exact hc k
 by_cases c6 : (Int.tmod x 16 == 6) = true
 ·obtain ⟨r, hr, hc⟩ := xd (R := R) N h0 h1 [97, 44, 32, 98, 44, 32, 104] _ _ _ (by decide) hk0 hh0 hs0
  refine ⟨_, (g3.mem _ (List.mem_singleton.2 rfl)).mem r hr, fun k => ?_⟩
  rw [if_neg c0, if_neg c1, if_neg c2, if_neg c3, if_neg c4, if_neg c5, if_pos c6]; exact hc k
 ·obtain ⟨r, hr, hc⟩ := xd (R := R) N h0 h1 xi0 _ _ _ hi0 hk0 hh0 hs0
  refine ⟨_, (g0.mem _ (List.mem_singleton.2 rfl)).mem r hr, fun k => ?_⟩
  rw [if_neg c0, if_neg c1, if_neg c2, if_neg c3, if_neg c4, if_neg c5, if_neg c6]; exact hc k
theorem SP {R : Type} (r : R) {text : List UInt8} {g : Int} {cs : List Chart} {is : List Inst} {hs : List ai} {es : List Cert} (h : ∀ k : Int → List Chart → List Inst → List ai → List Cert → Int → Int → Option R, r10_Parse big text k = k g cs is hs es 0 0) : Ew ⟨g, cs, is, hs, es⟩ := by
 classical
 have := RW (P := fun _ => True) (R := R) (N := big) (by decide) text (k := fun g cs is hs es c A => if (c = 0 → Ew ⟨g, cs, is, hs, es⟩) then some r else none) (fun g cs is hs es c A hok => ⟨r, if_pos hok, trivial⟩)
 rw [h] at this
 obtain ⟨x, hx, _⟩ := this
 by_cases hn : Ew ⟨g, cs, is, hs, es⟩
 ·exact hn
 ·rw [if_neg (fun q => hn (q rfl))] at hx; cases hx
theorem SF {R : Type} (r : R) (text : List UInt8) (kp : Bool → Option R) (h : ∀ R : Type, ∃ es, ∀ k : Int → List Chart → List Inst → List ai → List Cert → Int → Int → Option R, r10_Parse big text k = k 1 Y1 Y2 Y3 es 0 0) : iJ (EZ big) text kp = kp true := by
 unfold iJ
 dsimp only [EZ, Qa]
 obtain ⟨es, he⟩ := h R
 have hs := SP r he
 have hs' : Ew ⟨1, Y1, Y2, Y3, es⟩ := hs
 rw [he]
 have e1 := fun k' => OW (R := Bool) (N := big) ⟨1, Y1, Y2, Y3, es⟩ k' (Nat.le_refl _) hs'
 have e2 := fun k' => Nt (R := Bool) (N := big) ⟨1, Y1, Y2, Y3, es⟩ k' (Nat.le_refl _) hs'
 dsimp only at e1 e2
 rw [e1, bc, e2, bc, Om]
 simp [ifB]
theorem On {R : Type} (k_ m : Int) (twice : Bool) (k : Bool → Option R) (r : R) (hk : k true = some r) : sE big k_ m twice k = some r := by
 have hm : ak = 68719476736 := rfl
 unfold sE mj
 obtain ⟨t, ht, et⟩ := Ij (R := R) big k_
 obtain ⟨u, hu, eu⟩ := Ij (R := R) big m
 have et : ∀ k : List UInt8 → Option R, (EZ big).l12_cert R k_ k = k t := et
 have eu : ∀ k : List UInt8 → Option R, (EZ big).l12_cert R m k = k u := eu
 have tl := ht.use.2.2.1
 have ul := hu.use.2.2.1
 have hH : H.length = 425 := SI
 rw [et]
 refine (if_pos (show H.length + t.length ≤ ak by omega)).trans ?_
 cases twice with
 | false => rw [if_neg (by simp)]; exact (SF r (H ++ t) _ fun R => MM ht).trans hk
 | true =>
  rw [if_pos rfl, eu]
  refine (if_pos (show (H ++ t).length + u.length ≤ ak by rw [List.length_append]; omega)).trans ?_
  rw [List.append_assoc]
  exact (SF r (H ++ (t ++ u)) _ fun R => MN ht hu).trans hk
theorem FI (k m : Int) (twice : Bool) {p q : Prop} (_ : p) (_ : q) : oV (E wz) 6 [.int .i64 k, .int .i64 m, .bool twice] [] ⟨.bool true, some [], []⟩ := by
 obtain ⟨res, e, h⟩ := BB big (Res S) ((k, m, twice, ()), ()) some ⟨.bool true, some [], []⟩ (On k m twice _ _ rfl)
 cases e
 exact h
end So
