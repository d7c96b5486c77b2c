/- The head of the certificates' texts: what the parser makes of it, whatever is behind. -/
import Derived.Test.YtcllbmdpckfnhaaGreatPC
set_option maxRecDepth 1000000
set_option linter.unusedVariables false
set_option linter.unusedSimpArgs false
namespace So
open Go TE Go.Proofs
def H : List UInt8 := [115, 121, 115, 116, 101, 109, 32, 97, 103, 101, 32, 49, 59, 10, 99, 104, 97, 114, 116, 32, 120, 32, 115, 116, 101, 112, 115, 32, 50, 32, 102, 117, 101, 108, 32, 57, 32, 123, 10, 32, 32, 112, 111, 114, 116, 32, 112, 59, 10, 32, 32, 115, 116, 97, 116, 101, 32, 116, 111, 112, 32, 123, 32, 115, 116, 97, 116, 101, 32, 111, 110, 49, 32, 123, 125, 32, 115, 116, 97, 116, 101, 32, 111, 102, 102, 49, 32, 123, 125, 32, 125, 10, 125, 10, 99, 104, 97, 114, 116, 32, 121, 32, 115, 116, 101, 112, 115, 32, 50, 32, 102, 117, 101, 108, 32, 57, 32, 123, 10, 32, 32, 112, 111, 114, 116, 32, 112, 59, 10, 32, 32, 115, 116, 97, 116, 101, 32, 105, 110, 50, 32, 123, 125, 10, 32, 32, 112, 97, 114, 97, 108, 108, 101, 108, 32, 111, 117, 116, 50, 32, 123, 32, 115, 116, 97, 116, 101, 32, 105, 110, 51, 32, 123, 125, 32, 115, 116, 97, 116, 101, 32, 105, 110, 52, 32, 123, 125, 32, 125, 10, 125, 10, 99, 104, 97, 114, 116, 32, 122, 32, 115, 116, 101, 112, 115, 32, 50, 32, 102, 117, 101, 108, 32, 57, 32, 123, 32, 115, 116, 97, 116, 101, 32, 120, 49, 32, 123, 32, 115, 116, 97, 116, 101, 32, 120, 50, 32, 123, 125, 32, 104, 105, 115, 116, 111, 114, 121, 32, 120, 51, 59, 32, 125, 32, 125, 10, 105, 110, 115, 116, 32, 97, 32, 58, 32, 120, 32, 113, 117, 97, 110, 116, 117, 109, 32, 49, 32, 101, 120, 116, 32, 48, 32, 112, 114, 105, 111, 32, 48, 59, 10, 105, 110, 115, 116, 32, 98, 32, 58, 32, 121, 32, 113, 117, 97, 110, 116, 117, 109, 32, 49, 32, 101, 120, 116, 32, 48, 32, 112, 114, 105, 111, 32, 48, 59, 10, 105, 110, 115, 116, 32, 104, 32, 58, 32, 122, 32, 113, 117, 97, 110, 116, 117, 109, 32, 49, 32, 101, 120, 116, 32, 48, 32, 112, 114, 105, 111, 32, 48, 59, 10, 99, 104, 97, 110, 32, 107, 32, 58, 32, 97, 46, 112, 32, 45, 62, 32, 98, 32, 99, 97, 112, 32, 49, 32, 112, 114, 105, 111, 32, 48, 59, 10, 99, 104, 97, 110, 32, 109, 32, 58, 32, 98, 46, 112, 32, 45, 62, 32, 97, 32, 99, 97, 112, 32, 50, 32, 112, 114, 105, 111, 32, 48, 59, 10]
def TH : List Token := (xf 2000 0 H).getD []
theorem Uv : xf 2000 0 H = some TH := by kernel_rfl
theorem UN : H.getLast? = some 10 := by kernel_rfl
theorem UO : H.all (fun b => !((b.toNat : Int) == 35)) = true := by kernel_rfl
theorem SI : H.length = 425 := by kernel_rfl
theorem OA : TH.length = 132 := by kernel_rfl
def LT (n : Nat) (x y : Int) (f : Nat → Token) : List Token := TH ++ ⟨1, x, y, [99, 101, 114, 116], 0⟩ :: (List.range n).map f
def fz : Nat → Token := fun _ => ⟨4, 0, 0, [], 0⟩
noncomputable def Y1 : List Chart := (iA big 0 0 0 (LT 1 0 0 fz) 1 (fun _ _ _ c => some c) big 4 0 0 []).getD []
noncomputable def q1 : Int := (iA big 0 0 0 (LT 1 0 0 fz) 1 (fun p _ _ _ => some p) big 4 0 0 []).getD 0
noncomputable def Y2 : List Inst := (iB big 0 0 0 (LT 1 0 0 fz) 1 [] (fun _ _ _ c => some c) big q1 0 0 []).getD []
noncomputable def q2 : Int := (iB big 0 0 0 (LT 1 0 0 fz) 1 [] (fun p _ _ _ => some p) big q1 0 0 []).getD 0
noncomputable def Y3 : List ai := (iC big 0 0 0 (LT 1 0 0 fz) 1 [] [] (fun _ _ _ c => some c) big q2 0 0 []).getD []
noncomputable def q3 : Int := (iC big 0 0 0 (LT 1 0 0 fz) 1 [] [] (fun p _ _ _ => some p) big q2 0 0 []).getD 0
theorem OB : q3 = 132 := by kernel_rfl
structure kz (n : Nat) : Prop where
 h : ∀ (R : Type) (x y : Int) (f : Nat → Token) (K : Int → Int → Int → Int → Option R), aj big [115, 121, 115, 116, 101, 109] (LT n x y f) 0 0 0 (fun (r4 : Int) (r5 : Int) (r6 : Int) =>
  aj big [97, 103, 101] (LT n x y f) r4 r5 r6 (fun (r7 : Int) (r8 : Int) (r9 : Int) =>
  aY big (LT n x y f) r7 r8 r9 (fun (r10 : Int) (r11 : Int) (r12 : Int) (r13 : Int) =>
  aj big [59] (LT n x y f) r11 r12 r13 (fun (r14 : Int) (r15 : Int) (r16 : Int) => K r10 r14 r15 r16)))) = K 1 4 0 0
 a : ∀ (R : Type) (x y : Int) (f : Nat → Token) (K : Int → Int → Int → List Chart → Option R), iA big 0 0 0 (LT n x y f) 1 K big 4 0 0 [] = K q1 0 0 Y1
 b : ∀ (R : Type) (x y : Int) (f : Nat → Token) (y1 : List Chart) (K : Int → Int → Int → List Inst → Option R), iB big 0 0 0 (LT n x y f) 1 y1 K big q1 0 0 [] = K q2 0 0 Y2
 c : ∀ (R : Type) (x y : Int) (f : Nat → Token) (y1 : List Chart) (y2 : List Inst) (K : Int → Int → Int → List ai → Option R), iC big 0 0 0 (LT n x y f) 1 y1 y2 K big q2 0 0 [] = K q3 0 0 Y3
def lens : List Nat := [42, 43, 44, 45, 46, 47, 84, 85, 86, 87, 88, 89, 90, 91, 92, 93, 94]
theorem Rc : kz 42 := ⟨by intros; kernel_rfl, by intros; kernel_rfl, by intros; kernel_rfl, by intros; kernel_rfl⟩
theorem Re : kz 43 := ⟨by intros; kernel_rfl, by intros; kernel_rfl, by intros; kernel_rfl, by intros; kernel_rfl⟩
theorem Rf : kz 44 := ⟨by intros; kernel_rfl, by intros; kernel_rfl, by intros; kernel_rfl, by intros; kernel_rfl⟩
theorem Rg : kz 45 := ⟨by intros; kernel_rfl, by intros; kernel_rfl, by intros; kernel_rfl, by intros; kernel_rfl⟩
theorem Rh : kz 46 := ⟨by intros; kernel_rfl, by intros; kernel_rfl, by intros; kernel_rfl, by intros; kernel_rfl⟩
theorem Ri : kz 47 := ⟨by intros; kernel_rfl, by intros; kernel_rfl, by intros; kernel_rfl, by intros; kernel_rfl⟩
theorem Rj : kz 84 := ⟨by intros; kernel_rfl, by intros; kernel_rfl, by intros; kernel_rfl, by intros; kernel_rfl⟩
theorem Rk : kz 85 := ⟨by intros; kernel_rfl, by intros; kernel_rfl, by intros; kernel_rfl, by intros; kernel_rfl⟩
theorem Rl : kz 86 := ⟨by intros; kernel_rfl, by intros; kernel_rfl, by intros; kernel_rfl, by intros; kernel_rfl⟩
theorem Rm : kz 87 := ⟨by intros; kernel_rfl, by intros; kernel_rfl, by intros; kernel_rfl, by intros; kernel_rfl⟩
theorem Rn : kz 88 := ⟨by intros; kernel_rfl, by intros; kernel_rfl, by intros; kernel_rfl, by intros; kernel_rfl⟩
theorem Ro : kz 89 := ⟨by intros; kernel_rfl, by intros; kernel_rfl, by intros; kernel_rfl, by intros; kernel_rfl⟩
theorem Rp : kz 90 := ⟨by intros; kernel_rfl, by intros; kernel_rfl, by intros; kernel_rfl, by intros; kernel_rfl⟩
theorem Rq : kz 91 := ⟨by intros; kernel_rfl, by intros; kernel_rfl, by intros; kernel_rfl, by intros; kernel_rfl⟩
theorem Rr : kz 92 := ⟨by intros; kernel_rfl, by intros; kernel_rfl, by intros; kernel_rfl, by intros; kernel_rfl⟩
theorem Rs : kz 93 := ⟨by intros; kernel_rfl, by intros; kernel_rfl, by intros; kernel_rfl, by intros; kernel_rfl⟩
theorem Rt : kz 94 := ⟨by intros; kernel_rfl, by intros; kernel_rfl, by intros; kernel_rfl, by intros; kernel_rfl⟩
theorem OD : ∀ n ∈ lens, kz n := by
 intro n hn
 simp only [lens, List.mem_cons, List.not_mem_nil, or_false] at hn
 rcases hn with rfl | rfl | rfl | rfl | rfl | rfl | rfl | rfl | rfl | rfl | rfl | rfl | rfl | rfl | rfl | rfl | rfl
 ·exact Rc
 ·exact Re
 ·exact Rf
 ·exact Rg
 ·exact Rh
 ·exact Ri
 ·exact Rj
 ·exact Rk
 ·exact Rl
 ·exact Rm
 ·exact Rn
 ·exact Ro
 ·exact Rp
 ·exact Rq
 ·exact Rr
 ·exact Rs
 ·exact Rt
def ctext (e insts chans head cell : List UInt8) : List UInt8 := (((((((((([99, 101, 114, 116, 32] ++ head) ++ [32, 123, 10, 32, 32, 105, 110, 115, 116, 115, 32]) ++ insts) ++ [59, 10, 32, 32, 99, 104, 97, 110, 115, 32]) ++ chans) ++ [59, 10, 32, 32, 99, 101, 108, 108, 32]) ++ e) ++ [32]) ++ cell) ++ [10, 32, 32, 99, 101, 108, 108, 32, 48, 32, 123, 32, 111, 102, 102, 44, 32, 111, 102, 102, 59, 32, 91, 93, 32, 91, 93, 32, 125, 10, 125, 10])
def lx (t : List UInt8) : List Token := (xf 300 0 t).getD []
structure Good (t : List UInt8) : Prop where
 a : xf 300 0 t = some (lx t)
 b : ∀ rest, DE ((lx t).map tk ++ rest) = some rest
 c : (t.all (fun b => !((b.toNat : Int) == 35)) && decide (t.getLast? = some 10) && decide (t.length < 200) && decide ((lx t).length ∈ [42, 43, 44, 45, 46, 47]) && decide ((lx t).head?.map tk = some (1, [99, 101, 114, 116], 0))) = true
def um : List (List UInt8) := [[48], [49], [54, 52], [54, 53]]
def xi0 : List UInt8 := [97, 44, 32, 98]
def xk0 : List UInt8 := [107, 44, 32, 109]
def xh0 : List UInt8 := [99, 32, 58, 32, 97, 46, 111, 110, 49, 32, 45, 62, 32, 111, 102, 102, 49]
def xs0 : List UInt8 := [123, 32, 111, 110, 49, 44, 32, 105, 110, 50, 59, 32, 91, 101, 93, 32, 91, 93, 32, 125]
theorem gi : All (fun x => All (fun e => Good (ctext e x xk0 xh0 xs0)) um) [[97], [98, 44, 32, 97], [97, 44, 32, 97], [97, 44, 32, 110, 111, 110, 101]] := by
 repeat (first | exact True.intro | refine And.intro (by repeat (first | exact True.intro | refine And.intro ⟨by kernel_rfl, fun _ => by kernel_rfl, by kernel_rfl⟩ ?_)) ?_)
theorem gk : All (fun x => All (fun e => Good (ctext e xi0 x xh0 xs0)) um) [[107], [109, 44, 32, 107], [107, 44, 32, 107], [107, 44, 32, 110, 111, 110, 101]] := by
 repeat (first | exact True.intro | refine And.intro (by repeat (first | exact True.intro | refine And.intro ⟨by kernel_rfl, fun _ => by kernel_rfl, by kernel_rfl⟩ ?_)) ?_)
theorem gh : All (fun x => All (fun e => Good (ctext e xi0 xk0 x xs0)) um) [[99, 32, 58, 32, 98, 46, 105, 110, 50, 32, 45, 62, 32, 111, 117, 116, 50], [99, 32, 58, 32, 97, 46, 111, 110, 49, 32, 45, 62, 32, 111, 110, 49], [99, 32, 58, 32, 97, 46, 110, 111, 110, 101, 32, 45, 62, 32, 111, 102, 102, 49], [99, 32, 58, 32, 97, 46, 111, 110, 49, 32, 45, 62, 32, 105, 110, 50], [99, 32, 58, 32, 122, 46, 111, 110, 49, 32, 45, 62, 32, 111, 102, 102, 49], [99, 32, 58, 32, 104, 46, 120, 49, 32, 45, 62, 32, 120, 50]] := by
 repeat (first | exact True.intro | refine And.intro (by repeat (first | exact True.intro | refine And.intro ⟨by kernel_rfl, fun _ => by kernel_rfl, by kernel_rfl⟩ ?_)) ?_)
theorem gs1 : All (fun x => All (fun e => Good (ctext e xi0 xk0 xh0 x)) um) [[123, 32, 111, 110, 49, 44, 32, 111, 102, 102, 59, 32, 91, 93, 32, 91, 93, 32, 125], [123, 32, 111, 102, 102, 44, 32, 111, 102, 102, 59, 32, 91, 93, 32, 91, 93, 32, 125], [123, 32, 111, 110, 49, 59, 32, 91, 93, 32, 91, 93, 32, 125], [123, 32, 111, 110, 49, 44, 32, 105, 110, 50, 44, 32, 111, 102, 102, 59, 32, 91, 93, 32, 91, 93, 32, 125]] := by
 repeat (first | exact True.intro | refine And.intro (by repeat (first | exact True.intro | refine And.intro ⟨by kernel_rfl, fun _ => by kernel_rfl, by kernel_rfl⟩ ?_)) ?_)
theorem gs2 : All (fun x => All (fun e => Good (ctext e xi0 xk0 xh0 x)) um) [[123, 32, 111, 110, 49, 44, 32, 105, 110, 50, 59, 32, 91, 93, 32, 125], [123, 32, 111, 110, 49, 44, 32, 105, 110, 50, 59, 32, 91, 101, 32, 101, 93, 32, 91, 93, 32, 125], [123, 32, 111, 110, 49, 44, 32, 105, 110, 50, 59, 32, 91, 93, 32, 91, 101, 32, 102, 32, 103, 93, 32, 125], [123, 32, 111, 110, 49, 44, 32, 105, 110, 50, 59, 32, 91, 93, 32, 91, 93, 32, 91, 93, 32, 125]] := by
 repeat (first | exact True.intro | refine And.intro (by repeat (first | exact True.intro | refine And.intro ⟨by kernel_rfl, fun _ => by kernel_rfl, by kernel_rfl⟩ ?_)) ?_)
theorem gs3 : All (fun x => All (fun e => Good (ctext e xi0 xk0 xh0 x)) um) [[123, 32, 111, 110, 49, 43, 111, 102, 102, 49, 44, 32, 105, 110, 50, 59, 32, 91, 93, 32, 91, 93, 32, 125], [123, 32, 111, 110, 49, 44, 32, 105, 110, 50, 43, 105, 110, 51, 59, 32, 91, 93, 32, 91, 93, 32, 125], [123, 32, 111, 110, 49, 43, 111, 110, 49, 44, 32, 105, 110, 50, 59, 32, 91, 93, 32, 91, 93, 32, 125], [123, 32, 116, 111, 112, 44, 32, 105, 110, 50, 59, 32, 91, 93, 32, 91, 93, 32, 125]] := by
 repeat (first | exact True.intro | refine And.intro (by repeat (first | exact True.intro | refine And.intro ⟨by kernel_rfl, fun _ => by kernel_rfl, by kernel_rfl⟩ ?_)) ?_)
theorem g3 : All (fun x => All (fun e => Good (ctext e x xk0 xh0 xs0)) um) [[97, 44, 32, 98, 44, 32, 104]] := by
 repeat (first | exact True.intro | refine And.intro (by repeat (first | exact True.intro | refine And.intro ⟨by kernel_rfl, fun _ => by kernel_rfl, by kernel_rfl⟩ ?_)) ?_)
theorem g0 : All (fun x => All (fun e => Good (ctext e x xk0 xh0 xs0)) um) [[97, 44, 32, 98]] := by
 repeat (first | exact True.intro | refine And.intro (by repeat (first | exact True.intro | refine And.intro ⟨by kernel_rfl, fun _ => by kernel_rfl, by kernel_rfl⟩ ?_)) ?_)
theorem ML (d : Token) (l : List Token) : l = (List.range l.length).map (fun i => (l[i]?).getD d) := by
 apply List.ext_getElem?
 intro i
 by_cases h : i < l.length
 ·rw [List.getElem?_map, List.getElem?_range h]
  simp [h]
 ·rw [List.getElem?_eq_none (by omega), List.getElem?_eq_none (by simp; omega)]
theorem Hd {f : Nat} {off : Int} (off' : Int) {l : List UInt8} {L : List Token} (h : xf f off l = some L) : ∃ L', xf f off' l = some L' ∧ L'.map tk = L.map tk := Rb _ _ _ _ _ h
theorem SZ {t : Token} {a : Int} {s : List UInt8} {n : Int} (h : tk t = (a, s, n)) : t = ⟨a, t.At, t.End, s, n⟩ := by
 obtain ⟨k, p, q, s', n'⟩ := t
 simp only [tk, Prod.mk.injEq] at h
 obtain ⟨rfl, rfl, rfl⟩ := h
 rfl
section
variable {R : Type}
theorem OE {tb : List UInt8} {B : List Token} {f : Nat} (hf : f ≤ 1000) (ht : tb.length ≤ 1000) (hno : ∀ b ∈ tb, ((b.toNat : Int) == 35) = false) (hx : xf f H.length tb = some B)
  (hh : B.head?.map tk = some (1, [99, 101, 114, 116], 0)) (hl : B.length ∈ lens) (hr : ∀ e : Tk, e.1 = 4 → oc 4 (B.map tk ++ [e]) = some [e]) :
  ∃ es, ∀ k : Int → List Chart → List Inst → List ai → List Cert → Int → Int → Option R, r10_Parse big (H ++ tb) k = k 1 Y1 Y2 Y3 es 0 0 := by
 have hb : big = 1000000000 := rfl
 have hlen : B.length ≤ 100 := by
  have : lens.all (fun n => decide (n ≤ 100)) = true := by decide
  simpa using List.all_eq_true.1 this _ hl
 have hHl := SI
 have hTl := OA
 have hlex : xf (2000 + f) 0 (H ++ tb) = some (TH ++ B) := Il 2000 0 H TH (.inr UN) Uv (by rw [Int.zero_add]; exact hx)
 have hall : ∀ k : List Token → Int → Int → Option R, zG big (H ++ tb) k = k (TH ++ B ++ [⟨4, (H ++ tb).length, (H ++ tb).length, [], 0⟩]) 0 0 := fun k => by
  rcases all_eq (H ++ tb) (Nat.le_refl big) (by rw [List.length_append]; omega) (by
   intro b hm
   rcases List.mem_append.1 hm with hm | hm
   ·simpa using List.all_eq_true.1 UO b hm
   ·exact hno b hm) k (by omega) hlex with h | h
  ·exact h
  ·simp only [ak, List.length_append] at h; omega
 generalize hend : (⟨4, (H ++ tb).length, (H ++ tb).length, [], 0⟩ : Token) = e at hall
 have he : (tk e).1 = 4 := by rw [← hend]; rfl
 cases B with
 | nil => cases hh
 | cons b0 B =>
 simp only [List.head?_cons, Option.map_some, Option.some.injEq] at hh
 have hb0 := SZ hh
 have hL : TH ++ b0 :: B ++ [e] = LT (b0 :: B).length b0.At b0.End (fun i => ((B ++ [e])[i]?).getD e) := by
  unfold LT
  rw [List.append_assoc, ← hb0]
  have : (b0 :: B).length = (B ++ [e]).length := by simp
  rw [this, ← ML]
  rfl
 have hd := OD _ hl
 have hsub : Sub (TH ++ b0 :: B ++ [e]) q3 ((b0 :: B).map tk ++ [tk e]) := by
  refine ⟨by rw [OB]; decide, by rw [OB]; simp only [List.length_append, List.length_map, List.length_cons, List.length_nil]; omega, by simp only [List.length_append, List.length_cons, List.length_nil] at hlen ⊢; omega, fun j x hj => ?_⟩
  rw [OB, List.append_assoc, show Int.toNat 132 = TH.length by rw [OA]; rfl, List.getElem?_append_right (by omega), Nat.add_sub_cancel_left, ← List.getElem?_map, List.map_append]
  exact hj
 obtain ⟨es, q, e1, s⟩ := SS (R := R) (N := big) (A := 0) (Nat.le_refl _) 0 0 0 1 Y1 Y2 Y3 4 big _ _ q3 [] (hr (tk e) he) hsub (by omega) (by simp)
 refine ⟨es, fun k => ?_⟩
 obtain ⟨t, ht, htk, _⟩ := s.hd
 have htk : t.Kind = 4 := by
  have : (tk t).1 = 4 := by rw [htk]; exact he
  exact this
 unfold r10_Parse
 rw [hall, if_neg (by decide)]
 rw [hL] at e1 ht ⊢
 rw [hd.h]
 unfold pJ
 rw [hd.a, hd.b, hd.c, e1, if_pos (by rfl), ht, Option.bind_some, htk]
 rfl
theorem As (f : Nat) {e : Tk} (he : e.1 = 4) : oc (f + 1) [e] = some [e] := by
 unfold oc
 rw [if_neg]
 unfold isK
 rw [he]
 simp
theorem Good.use {t : List UInt8} (h : Good t) : (∀ b ∈ t, ((b.toNat : Int) == 35) = false) ∧ t.getLast? = some 10 ∧ t.length < 200 ∧ (lx t).length ∈ [42, 43, 44, 45, 46, 47] ∧ (lx t).head?.map tk = some (1, [99, 101, 114, 116], 0) := by
 have := h.c
 simp only [Bool.and_eq_true, decide_eq_true_eq, List.all_eq_true] at this
 obtain ⟨⟨⟨⟨h1, h2⟩, h3⟩, h4⟩, h5⟩ := this
 exact ⟨fun b hb => by simpa using h1 b hb, h2, h3, h4, h5⟩
theorem Good.step {t : List UInt8} (h : Good t) (f : Nat) (rest : List Tk) : oc (f + 1) ((lx t).map tk ++ rest) = oc f rest := by
 obtain ⟨_, _, _, _, h5⟩ := h.use
 have hb := h.b rest
 cases hl : lx t with
 | nil => rw [hl] at h5; cases h5
 | cons a r =>
  rw [hl] at h5 hb
  simp only [List.head?_cons, Option.map_some, Option.some.injEq] at h5
  simp only [List.map_cons, List.cons_append] at hb ⊢
  conv => lhs; unfold oc
  rw [if_pos (by rw [h5]; rfl), hb]
  rfl
theorem MM {t : List UInt8} (h : Good t) : ∃ es, ∀ k : Int → List Chart → List Inst → List ai → List Cert → Int → Int → Option R, r10_Parse big (H ++ t) k = k 1 Y1 Y2 Y3 es 0 0 := by
 obtain ⟨h1, h2, h3, h4, h5⟩ := h.use
 obtain ⟨B, b1, b2⟩ := Hd H.length h.a
 have bl : B.length = (lx t).length := by have := congrArg List.length b2; simpa using this
 refine OE (f := 300) (by omega) (by omega) h1 b1 ?_ ?_ fun e he => ?_
 ·rw [← h5, ← List.head?_map, b2, List.head?_map]
 ·rw [bl]; revert h4; generalize (lx t).length = n; intro h4; simp only [List.mem_cons, List.not_mem_nil, or_false] at h4
  rcases h4 with rfl | rfl | rfl | rfl | rfl | rfl <;> decide
 ·rw [b2, h.step]; exact As _ he
theorem MN {t u : List UInt8} (h : Good t) (g : Good u) : ∃ es, ∀ k : Int → List Chart → List Inst → List ai → List Cert → Int → Int → Option R, r10_Parse big (H ++ (t ++ u)) k = k 1 Y1 Y2 Y3 es 0 0 := by
 obtain ⟨h1, h2, h3, h4, h5⟩ := h.use
 obtain ⟨g1, g2, g3, g4, g5⟩ := g.use
 obtain ⟨B, b1, b2⟩ := Hd H.length h.a
 obtain ⟨C, c1, c2⟩ := Hd (H.length + t.length) g.a
 have bl : B.length = (lx t).length := by have := congrArg List.length b2; simpa using this
 have cl : C.length = (lx u).length := by have := congrArg List.length c2; simpa using this
 refine OE (f := 300 + 300) (B := B ++ C) (by omega) (by rw [List.length_append]; omega) (fun b hb => ?_) (Il 300 _ t B (.inr h2) b1 c1) ?_ ?_ fun e he => ?_
 ·rcases List.mem_append.1 hb with hb | hb
  ·exact h1 b hb
  ·exact g1 b hb
 ·cases B with
  | nil => simp only [List.length_nil] at bl; rw [← bl] at h4; simp at h4
  | cons b0 B =>
   rw [List.cons_append, List.head?_cons]
   rw [← h5, ← List.head?_map, ← b2, List.head?_map, List.head?_cons]
 ·rw [List.length_append, bl, cl]; revert h4 g4; generalize (lx t).length = n; generalize (lx u).length = m; intro h4 g4; simp only [List.mem_cons, List.not_mem_nil, or_false] at h4 g4
  rcases h4 with rfl | rfl | rfl | rfl | rfl | rfl <;> rcases g4 with rfl | rfl | rfl | rfl | rfl | rfl <;> decide
 ·rw [List.map_append, b2, c2, List.append_assoc, h.step, g.step]; exact As _ he
end
end So
