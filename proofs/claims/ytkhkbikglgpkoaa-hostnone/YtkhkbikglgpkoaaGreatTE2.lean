/- TE: how evaluator states stand to the model's frames and memory; the moves on memory. -/
import Derived.Test.YtkhkbikglgpkoaaGreatTE1
import Derived.Laws.World
namespace TE
open Go
variable {S : Sig}

/-- Where an object lies: its block, the cells of an element, the number of elements, the cells of the block that are the object's to use; the blocks within that are its own, too. -/
structure GI where
  b : Nat
  s : Nat
  L : Nat
  n : Nat
  F : Nat → Bool
abbrev Phi := Nat → Option GI
/-- What of it never changes. -/
def GI.strip (g : GI) : GI := { g with F := fun _ => false }
abbrev Mem := Nat → Nat → Option Value

def at_ (b off : Nat) : Addr := ⟨b, off, none⟩

/-- A value without names, over memory that does not change. -/
inductive CR (E : Env S) (M : Mem) : TV S → Value → Prop
  | undef : CR E M .undef (.tuple #[])
  | bool (b : Bool) : CR E M (.bool b) (.bool b)
  | int (k : IntKind) (n : Int) : CR E M (.int k n) (.int k n)
  | str (s : List UInt8) : CR E M (.str s) (.string ⟨s.toArray⟩)
  | nilp : CR E M .nilp (.pointer none)
  | nils : CR E M .nils (.slice none 0 0)
  | nilm : CR E M .nilm (.map none)
  | nilf : CR E M .nilf .nilFunc
  | nili : CR E M .nili .nilIface
  | tree {c : S.K} {xs : List (S.El c)} {a : Option Addr} {cap : Nat} (b o : Nat) (vs : Nat → Nat → Value) (hcap : xs.length ≤ cap)
      (ht : S.tight c = true → xs = [] → cap = 0) (ha : cap = 0 ∨ a = some (at_ b o))
      (hM : ∀ i x j tv, xs[i]? = some x → (E.enc c x)[j]? = some tv → M b (o + i * E.sz c + j) = some (vs i j))
      (hC : ∀ i x j tv, xs[i]? = some x → (E.enc c x)[j]? = some tv → CR E M tv (vs i j)) :
      CR E M (.tree c xs) (.slice a xs.length cap)

/-- A slice value over a placed row. -/
def SliceAt (g : GI) (off len : Nat) (v : Value) : Prop :=
  ∃ a cap, v = .slice a len cap ∧ len ≤ cap ∧ off + len ≤ g.L ∧ (cap = 0 ∨ (a = some (at_ g.b (off * g.s)) ∧ (off + cap) * g.s ≤ g.n))

inductive VR (E : Env S) (φ : Phi) (M : Mem) : TV S → Value → Prop
  | dead (v : Value) : VR E φ M .dead v
  | pure {tv : TV S} {v : Value} (h : CR E M tv v) : VR E φ M tv v
  | ptr {nm i k : Nat} {g : GI} (hg : φ nm = some g) : VR E φ M (.ptr nm i k) (.pointer (some (at_ g.b (i * g.s + k))))
  | iptr {c : S.K} {x : S.El c} {k : Nat} (b o : Nat) (vs : Nat → Value)
      (hM : ∀ j tv, (E.enc c x)[j]? = some tv → M b (o + j) = some (vs j)) (hC : ∀ j tv, (E.enc c x)[j]? = some tv → CR E M tv (vs j)) :
      VR E φ M (.iptr c x k) (.pointer (some (at_ b (o + k))))
  | slw {nm : Nat} {g : GI} {v : Value} (hg : φ nm = some g) (h : SliceAt g 0 g.L v) : VR E φ M (.slw nm) v
  | sl {nm off len : Nat} {g : GI} {v : Value} (hg : φ nm = some g) (h : SliceAt g off len v) : VR E φ M (.sl nm off len) v
  | rs {nm off len : Nat} {g : GI} {a : Addr} {cap : Nat} (hg : φ nm = some g) (h1 : len ≤ cap) (h2 : off + len ≤ g.L) (h3 : g.L ≤ off + cap)
      (h4 : cap = 0 ∨ (a = at_ g.b (off * g.s) ∧ (off + cap) * g.s ≤ g.n)) : VR E φ M (.rs nm off len) (.slice (some a) len cap)
  | map {nm : Nat} {g : GI} (hg : φ nm = some g) : VR E φ M (.map nm) (.map (some g.b))
  | fn {f : FuncId} {cap : List (TV S)} {vs : Array Value} (hl : cap.length = vs.size)
      (h : ∀ (i : Nat) (tv : TV S) (v : Value), cap[i]? = some tv → vs[i]? = some v → VR E φ M tv v) : VR E φ M (.fn f cap) (.func (.func f) #[] vs)
  | mv {f : FuncId} {first : List (TV S)} {vs : Array Value} (hl : first.length = vs.size)
      (h : ∀ (i : Nat) (tv : TV S) (v : Value), first[i]? = some tv → vs[i]? = some v → VR E φ M tv v) : VR E φ M (.mv f first) (.func (.func f) vs #[])
  | agg {cs : List (TV S)} {vs : Array Value} (hl : cs.length = vs.size)
      (h : ∀ (i : Nat) (tv : TV S) (v : Value), cs[i]? = some tv → vs[i]? = some v → VR E φ M tv v) : VR E φ M (.agg cs) (.agg vs)
  | tup {cs : List (TV S)} {vs : Array Value} (hl : cs.length = vs.size)
      (h : ∀ (i : Nat) (tv : TV S) (v : Value), cs[i]? = some tv → vs[i]? = some v → VR E φ M tv v) : VR E φ M (.tup cs) (.tuple vs)

/-- Names keep their places; the blocks within may change. -/
def Phi.le (φ φ' : Phi) : Prop := ∀ nm g, φ nm = some g → ∃ F, φ' nm = some { g with F := F }
def Mem.le (M M' : Mem) : Prop := ∀ b off v, M b off = some v → M' b off = some v
theorem Phi.le_refl (φ : Phi) : φ.le φ := fun _ g h => ⟨g.F, h⟩
theorem Phi.le_of {φ φ' : Phi} (h : ∀ nm g, φ nm = some g → φ' nm = some g) : φ.le φ' := fun nm g e => ⟨g.F, h nm g e⟩
theorem Mem.le_refl (M : Mem) : M.le M := fun _ _ _ h => h
theorem Phi.le.le_trans {a b c : Phi} (h : a.le b) (k : b.le c) : a.le c := fun n g e => by
  obtain ⟨F, e1⟩ := h n g e
  obtain ⟨F', e2⟩ := k n _ e1
  exact ⟨F', e2⟩
theorem Mem.le.le_trans {a b c : Mem} (h : a.le b) (k : b.le c) : a.le c := fun n g v e => k n g v (h n g v e)

theorem CR.mono {E : Env S} {M M' : Mem} (h : M.le M') {tv : TV S} {v : Value} (c : CR E M tv v) : CR E M' tv v := by
  induction c with
  | tree b o vs hcap ht ha hM hC ih => exact .tree b o vs hcap ht ha (fun i x j tv a e => h _ _ _ (hM i x j tv a e)) ih
  | _ => constructor
theorem VR.mono {E : Env S} {φ φ' : Phi} {M M' : Mem} (hφ : φ.le φ') (h : M.le M') {tv : TV S} {v : Value} (c : VR E φ M tv v) : VR E φ' M' tv v := by
  induction c with
  | dead v => exact .dead v
  | pure c => exact .pure (c.mono h)
  | @ptr nm i k g hg => obtain ⟨F, hg'⟩ := hφ _ _ hg; exact VR.ptr (g := { g with F := F }) hg'
  | iptr b o vs hM hC => exact .iptr b o vs (fun j tv e => h _ _ _ (hM j tv e)) fun j tv e => (hC j tv e).mono h
  | slw hg hs => obtain ⟨F, hg'⟩ := hφ _ _ hg; exact .slw hg' hs
  | sl hg hs => obtain ⟨F, hg'⟩ := hφ _ _ hg; exact .sl hg' hs
  | @rs nm off len g a cap hg h1 h2 h3 h4 => obtain ⟨F, hg'⟩ := hφ _ _ hg; exact VR.rs (g := { g with F := F }) hg' h1 h2 h3 h4
  | @map nm g hg => obtain ⟨F, hg'⟩ := hφ _ _ hg; exact VR.map (g := { g with F := F }) hg'
  | fn hl _ ih => exact .fn hl ih
  | mv hl _ ih => exact .mv hl ih
  | agg hl _ ih => exact .agg hl ih
  | tup hl _ ih => exact .tup hl ih

/-- Cells of memory that can be read and written. -/
def Live (w : World) (b off : Nat) : Prop := (∃ v, w.cell? (at_ b off) = some v) ∧ w.frozen? (at_ b off) = false

/-- The elements of a row, in memory that does not change. -/
def RowIn (E : Env S) (M : Mem) (b s : Nat) (c : S.K) (xs : List (S.El c)) : Prop :=
  ∀ i x j tv, xs[i]? = some x → (E.enc c x)[j]? = some tv → ∃ v, M b (i * s + j) = some v ∧ CR E M tv v

/-- The blocks that a place has for itself. -/
def Own (g : GI) (b : Nat) : Prop := (g.n ≠ 0 ∧ b = g.b) ∨ g.F b = true
/-- Is there a row of its own in this cell of this element? -/
def Inner (E : Env S) (c : S.K) (xs : List (Option (S.El c))) (i j : Nat) : Prop := ∃ x, xs[i]? = some (some x) ∧ j < E.sz c ∧ E.sub c j = true
/-- A row that owns the rows within; what is taken out may hold anything. -/
inductive DR (E : Env S) (M : Mem) (w : World) : (c : S.K) → List (Option (S.El c)) → GI → Prop
  | mk {c : S.K} {xs : List (Option (S.El c))} {g : GI} (vs : Nat → Nat → Value) (G : Nat → Nat → GI)
      (hL : g.L = xs.length) (hs : g.s = E.sz c) (hle : g.L * g.s ≤ g.n) (live : ∀ j, j < g.n → Live w g.b j)
      (cell : ∀ i x j tv, xs[i]? = some (some x) → (E.enc c x)[j]? = some tv → w.cell? (at_ g.b (i * g.s + j)) = some (vs i j))
      (val : ∀ i x j tv, xs[i]? = some (some x) → (E.enc c x)[j]? = some tv → E.sub c j = false → CR E M tv (vs i j))
      (hsl : ∀ i j, Inner E c xs i j → SliceAt (G i j) 0 (G i j).L (vs i j))
      (sub : ∀ i x j d (ys : List (S.El d)), xs[i]? = some (some x) → (E.enc c x)[j]? = some (.tree d ys) → E.sub c j = true → DR E M w d (ys.map some) (G i j))
      (dis : ∀ i j i' j' b, Inner E c xs i j → Inner E c xs i' j' → Own (G i j) b → Own (G i' j') b → i = i' ∧ j = j')
      (out : ∀ i j, Inner E c xs i j → g.n ≠ 0 → ¬ Own (G i j) g.b)
      (hF : ∀ b, g.F b = true ↔ ∃ i j, Inner E c xs i j ∧ Own (G i j) b) : DR E M w c xs g

theorem DR.facts {E : Env S} {M : Mem} {w : World} {c : S.K} {xs : List (Option (S.El c))} {g : GI} (h : DR E M w c xs g) : g.L = xs.length ∧ g.s = E.sz c ∧ g.L * g.s ≤ g.n ∧ ∀ j, j < g.n → Live w g.b j := by
  cases h with
  | mk vs G hL hs hle live cell val hsl sub dis out hF => exact ⟨hL, hs, hle, live⟩

/-! maps -/
def scVal : Sc → Value
  | .bool b => .bool b
  | .int k n => .int k n
  | .str s => .string ⟨s.toArray⟩
def keyVal (ag : Bool) (k : List Sc) : Value := if ag then .agg (k.map scVal).toArray else match k with
  | [x] => scVal x
  | _ => .tuple #[]
def EntR (E : Env S) (M : Mem) (ag : Bool) (sh : List ScK) (vag : Bool) (vc : S.K) (t : List Sc × S.El vc × Nat) (e : MapEntry) : Prop :=
  shaped sh t.1 = true ∧ e.key = keyVal ag t.1 ∧ e.born = t.2.2 ∧ ∃ tv, takeCells vag (E.sz vc) 0 (E.enc vc t.2.1) = some tv ∧ VR E (fun _ => none) M tv e.val
/-- What is known of a map's entries: in whatever order, or in just this. -/
def MapIs (E : Env S) (M : Mem) (ag : Bool) (sh : List ScK) (vag : Bool) (vc : S.K) (L : List (List Sc × S.El vc × Nat)) (ex : Bool) (clock : Nat) (es : Array MapEntry) (clock' : Nat) : Prop :=
  ∃ L' : List (List Sc × S.El vc × Nat), L'.length = es.size ∧ (∀ (i : Nat) t e, L'[i]? = some t → es[i]? = some e → EntR E M ag sh vag vc t e) ∧ (ex = true → L' = L ∧ clock' = clock) ∧
    (L'.map fun t => (t.1, t.2.1)).Perm (L.map fun t => (t.1, t.2.1)) ∧ (L.map (·.1)).Nodup ∧ (L'.map (·.2.2)).Nodup ∧ ∀ t ∈ L', t.2.2 < clock'
theorem EntR.mono {E : Env S} {M M' : Mem} (hM : M.le M') {ag : Bool} {sh : List ScK} {vag : Bool} {vc : S.K} {t : List Sc × S.El vc × Nat} {e : MapEntry} (h : EntR E M ag sh vag vc t e) : EntR E M' ag sh vag vc t e := by
  obtain ⟨h0, h1, h2, tv, h3, h4⟩ := h
  exact ⟨h0, h1, h2, tv, h3, h4.mono (Phi.le_refl _) hM⟩
theorem MapIs.mono {E : Env S} {M M' : Mem} (hM : M.le M') {ag : Bool} {sh : List ScK} {vag : Bool} {vc : S.K} {L : List (List Sc × S.El vc × Nat)} {ex : Bool} {clock clock' : Nat} {es : Array MapEntry} (h : MapIs E M ag sh vag vc L ex clock es clock') : MapIs E M' ag sh vag vc L ex clock es clock' := by
  obtain ⟨L', h1, h2, h3⟩ := h
  exact ⟨L', h1, fun i t e ht he => (h2 i t e ht he).mono hM, h3⟩

def ObjR (E : Env S) (φ : Phi) (M : Mem) (w : World) (nm : Nat) : Obj S → Prop
  | .gone => True
  | .box cs => ∃ g, φ nm = some g ∧ ∀ j tv, cs[j]? = some tv → ∃ v, w.cell? (at_ g.b j) = some v ∧ w.frozen? (at_ g.b j) = false ∧ VR E φ M tv v
  | .raw s cs => ∃ g, φ nm = some g ∧ g.s = s ∧ 1 ≤ s ∧ g.L * g.s = cs.length ∧ g.L * g.s ≤ g.n ∧ (∀ j, j < g.n → Live w g.b j) ∧ ∀ j tv, cs[j]? = some tv → ∃ v, w.cell? (at_ g.b j) = some v ∧ VR E φ M tv v
  | .row c xs m => ∃ g, φ nm = some g ∧ g.L = xs.length ∧ g.s = E.sz c ∧ (m = .ro ∨ g.L * g.s ≤ g.n) ∧
      match m with
      | .own => (∀ j, j < g.n → Live w g.b j) ∧
          ∀ i x j tv, xs[i]? = some x → (E.enc c x)[j]? = some tv → ∃ v, w.cell? (at_ g.b (i * g.s + j)) = some v ∧ CR E M tv v
      | .app => (∀ j, g.L * g.s ≤ j → j < g.n → Live w g.b j) ∧ RowIn E M g.b g.s c xs ∧ (S.tight c = true → xs = [] → g.n = 0)
      | .ro => RowIn E M g.b g.s c xs
  | .deep c d => ∃ g, φ nm = some g ∧ DR E M w c d.get g
  | .mapo ag sh vag vc L ex clock => ∃ g, φ nm = some g ∧ ∃ es clock', w.heap[g.b]? = some (.map es clock') ∧ MapIs E M ag sh vag vc L ex clock es clock'
  | .iter mp since seen stepped => ∃ g gm, φ nm = some g ∧ φ mp = some gm ∧ g.s = 0 ∧ w.heap[g.b]? = some (.mapIter (some gm.b) since seen.reverse.toArray stepped)

/-- A block that an object has for itself, from which cell on. -/
def claimG (g : GI) (x : Obj S) (b f : Nat) : Prop :=
  match x with
  | .box _ => b = g.b ∧ f = 0
  | .raw _ _ => g.n ≠ 0 ∧ b = g.b ∧ f = 0
  | .row _ _ .own => g.n ≠ 0 ∧ b = g.b ∧ f = 0
  | .row _ _ .app => g.n ≠ 0 ∧ b = g.b ∧ f = g.L * g.s
  | .deep .. => Own g b ∧ f = 0
  | .mapo .. => b = g.b ∧ f = 0
  | .iter .. => b = g.b ∧ f = 0
  | _ => False
def claim (φ : Phi) (nm : Nat) (x : Obj S) (b f : Nat) : Prop := ∃ g, φ nm = some g ∧ claimG g x b f

/-- Where a call began. -/
structure Base where
  w : World
  own : Nat → Prop
  M : Mem
  φ : Phi
  m : Nat

/-- What the evaluator's objects say of memory. -/
structure RelW (E : Env S) (B : Base) (o : Nat → Option (Obj S)) (w : World) (φ : Phi) (M : Mem) : Prop where
  objs : ∀ nm x, o nm = some x → ObjR E φ M w nm x
  fresh : ∀ nm, o nm = none → φ nm = none
  sep : ∀ nm nm' x x' b f f', o nm = some x → o nm' = some x' → claim φ nm x b f → claim φ nm' x' b f' → nm = nm'
  mdis : ∀ nm x b f off, o nm = some x → claim φ nm x b f → f ≤ off → M b off = none
  mval : ∀ b off v, M b off = some v → w.cell? (at_ b off) = some v
  os : w.os = B.w.os
  tape : w.tape = B.w.tape
  output : w.output = B.w.output
  size : B.w.heap.size ≤ w.heap.size
  kept : ∀ b, b < B.w.heap.size → ¬ B.own b → w.heap[b]? = B.w.heap[b]?
  perm : ∀ nm x b f, o nm = some x → claim φ nm x b f → B.w.heap.size ≤ b ∨ B.own b
  csz : ∀ nm x b f, o nm = some x → claim φ nm x b f → b < w.heap.size
  mle : B.M.le M
  mnew : ∀ b off, M b off ≠ B.M b off → B.w.heap.size ≤ b ∨ B.own b
  ext : ∀ nm, nm < B.m → (φ nm).map GI.strip = (B.φ nm).map GI.strip
  drawn : B.w.drawn ≤ w.drawn

/-- Slots and memory. -/
structure Rel (E : Env S) (B : Base) (nt : Nat) (t : Nat → TV S) (o : Nat → Option (Obj S)) (a : Act) (w : World) (φ : Phi) (M : Mem) : Prop where
  slots : ∀ i, VR E φ M (t i) (a.tmps.getD i undef)
  nt : nt ≤ a.tmps.size
  defers : a.defers = []
  mem : RelW E B o w φ M

/-! ### small facts on memory -/
theorem at_add (b off n : Nat) : (at_ b off).add n = at_ b (off + n) := by
  unfold Addr.add at_
  split
  · rename_i h; subst h; rfl
  · rfl
theorem cell_of_heap {w w' : World} {b : Nat} (h : w'.heap[b]? = w.heap[b]?) (off : Nat) : w'.cell? (at_ b off) = w.cell? (at_ b off) := by
  simp only [World.cell?, at_, h]
theorem frozen_of_heap {w w' : World} {b : Nat} (h : w'.heap[b]? = w.heap[b]?) (off : Nat) : w'.frozen? (at_ b off) = w.frozen? (at_ b off) := by
  simp only [World.frozen?, at_, h]
theorem heap_setCell (w : World) (a : Addr) (u : Value) (k : Nat) (h : k ≠ a.block) : (w.setCell a u).heap[k]? = w.heap[k]? := by
  simp only [World.setCell, Array.getElem?_modify]
  rw [if_neg (by omega)]
theorem heap_alloc (w : World) (o : Go.Obj) (k : Nat) (h : k < w.heap.size) : (w.alloc o).heap[k]? = w.heap[k]? := by
  show (w.heap.push o)[k]? = _
  rw [Array.getElem?_push, if_neg (by omega)]
theorem size_of_cell {w : World} {b off : Nat} {v : Value} (h : w.cell? (at_ b off) = some v) : b < w.heap.size :=
  World.block_lt_of_cell? w (at_ b off) h

theorem VR.cells {E : Env S} {φ : Phi} {M : Mem} {tv : TV S} {v : Value} (hd : tv ≠ .dead) (h : VR E φ M tv v) :
    (cellsOf tv).length = v.cells.size ∧ ∀ (i : Nat) (x : TV S) (u : Value), (cellsOf tv)[i]? = some x → v.cells[i]? = some u → VR E φ M x u := by
  have one : ∀ {tv : TV S} {v : Value}, (∀ cs, tv ≠ .agg cs) → (∀ cs, v ≠ .agg cs) → VR E φ M tv v → (cellsOf tv).length = v.cells.size ∧ ∀ (i : Nat) (x : TV S) (u : Value), (cellsOf tv)[i]? = some x → v.cells[i]? = some u → VR E φ M x u := by
    intro tv v ht hv h
    have e1 : cellsOf tv = [tv] := by cases tv <;> first | rfl | exact absurd rfl (ht _)
    have e2 : v.cells = #[v] := by cases v <;> first | rfl | exact absurd rfl (hv _)
    rw [e1, e2]
    refine ⟨rfl, fun i x u hx hu => ?_⟩
    cases i with
    | zero => simp at hx hu; subst hx; subst hu; exact h
    | succ i => simp at hx
  cases h with
  | dead => exact absurd rfl hd
  | agg hl h => exact ⟨hl, h⟩
  | pure c => exact one (by intro cs e; subst e; cases c) (by intro cs e; subst e; cases c) (.pure c)
  | ptr hg => exact one (by intro; simp) (by intro; simp) (.ptr hg)
  | iptr b o vs hM hC => exact one (by intro; simp) (by intro; simp) (.iptr b o vs hM hC)
  | slw hg h => obtain ⟨a, cap, rfl, h'⟩ := h; exact one (by intro; simp) (by intro; simp) (.slw hg ⟨a, cap, rfl, h'⟩)
  | sl hg h => obtain ⟨a, cap, rfl, h'⟩ := h; exact one (by intro; simp) (by intro; simp) (.sl hg ⟨a, cap, rfl, h'⟩)
  | rs hg h1 h2 h3 h4 => exact one (by intro; simp) (by intro; simp) (.rs hg h1 h2 h3 h4)
  | map hg => exact one (by intro; simp) (by intro; simp) (.map hg)
  | fn hl h => exact one (by intro; simp) (by intro; simp) (.fn hl h)
  | mv hl h => exact one (by intro; simp) (by intro; simp) (.mv hl h)
  | tup hl h => exact one (by intro; simp) (by intro; simp) (.tup hl h)

theorem claim_box {φ : Phi} {nm : Nat} {cs : List (TV S)} {g : GI} (h : φ nm = some g) : claim φ nm (.box cs) g.b 0 := ⟨g, h, rfl, rfl⟩
theorem claim_raw {φ : Phi} {nm s : Nat} {cs : List (TV S)} {g : GI} (h : φ nm = some g) (hn : g.n ≠ 0) : claim φ nm (.raw s cs) g.b 0 := ⟨g, h, hn, rfl, rfl⟩
theorem claim_own {φ : Phi} {nm : Nat} {c : S.K} {xs : List (S.El c)} {g : GI} (h : φ nm = some g) (hn : g.n ≠ 0) : claim φ nm (.row c xs .own) g.b 0 := ⟨g, h, hn, rfl, rfl⟩
theorem claim_app {φ : Phi} {nm : Nat} {c : S.K} {xs : List (S.El c)} {g : GI} (h : φ nm = some g) (hn : g.n ≠ 0) : claim φ nm (.row c xs .app) g.b (g.L * g.s) := ⟨g, h, hn, rfl, rfl⟩
theorem claim_mapo {φ : Phi} {nm : Nat} {ag : Bool} {sh : List ScK} {vag : Bool} {vc : S.K} {L : List (List Sc × S.El vc × Nat)} {ex : Bool} {clock : Nat} {g : GI} (h : φ nm = some g) : claim φ nm (.mapo ag sh vag vc L ex clock) g.b 0 := ⟨g, h, rfl, rfl⟩
theorem claim_iter {φ : Phi} {nm mp a c : Nat} {b : List Nat} {g : GI} (h : φ nm = some g) : claim φ nm (.iter mp a b c : Obj S) g.b 0 := ⟨g, h, rfl, rfl⟩
theorem claim_gi {φ : Phi} {nm : Nat} {g : GI} (hg : φ nm = some g) {x : Obj S} {b f : Nat} (h : claim φ nm x b f) : claimG g x b f := by
  obtain ⟨g', hg', h⟩ := h
  rw [hg] at hg'; cases hg'
  exact h
theorem claim_box' {φ : Phi} {nm : Nat} {cs : List (TV S)} {g : GI} (hg : φ nm = some g) (b f : Nat) (h : claim φ nm (.box cs) b f) : b = g.b ∧ f = 0 := claim_gi hg h
theorem claim_own' {φ : Phi} {nm : Nat} {c : S.K} {xs : List (S.El c)} {g : GI} (hg : φ nm = some g) (b f : Nat) (h : claim φ nm (.row c xs .own) b f) : b = g.b ∧ f = 0 := (claim_gi hg h).2
theorem claim_raw' {φ : Phi} {nm s : Nat} {cs : List (TV S)} {g : GI} (hg : φ nm = some g) (b f : Nat) (h : claim φ nm (.raw s cs) b f) : b = g.b ∧ f = 0 := (claim_gi hg h).2
theorem claim_app' {φ : Phi} {nm : Nat} {c : S.K} {xs : List (S.El c)} {g : GI} (hg : φ nm = some g) (b f : Nat) (h : claim φ nm (.row c xs .app) b f) : b = g.b ∧ f = g.L * g.s := (claim_gi hg h).2
theorem claim_mapo' {φ : Phi} {nm : Nat} {ag : Bool} {sh : List ScK} {vag : Bool} {vc : S.K} {L : List (List Sc × S.El vc × Nat)} {ex : Bool} {clock : Nat} {g : GI} (hg : φ nm = some g) (b f : Nat) (h : claim φ nm (.mapo ag sh vag vc L ex clock) b f) : b = g.b ∧ f = 0 := claim_gi hg h
theorem claim_iter' {φ : Phi} {nm mp a c : Nat} {l : List Nat} {g : GI} (hg : φ nm = some g) (b f : Nat) (h : claim φ nm (.iter mp a l c : Obj S) b f) : b = g.b ∧ f = 0 := claim_gi hg h
theorem claim_ro {φ : Phi} {nm : Nat} {c : S.K} {xs : List (S.El c)} {b f : Nat} : ¬ claim φ nm (.row c xs .ro) b f := fun ⟨_, _, h⟩ => h
theorem claim_gone {φ : Phi} {nm : Nat} {b f : Nat} : ¬ claim φ nm (.gone : Obj S) b f := fun ⟨_, _, h⟩ => h
theorem claim_congr {φ φ' : Phi} {nm : Nat} (h : φ' nm = φ nm) (x : Obj S) {b f : Nat} : claim φ' nm x b f ↔ claim φ nm x b f := by
  unfold claim
  rw [h]

/-- What an element's cells are, as many as its type has. -/
structure EncOk (E : Env S) : Prop where
  len : ∀ c x, (E.enc c x).length = E.sz c
  pos : ∀ c, 1 ≤ E.sz c

theorem elt_lt {E : Env S} (hE : EncOk E) {c : S.K} {xs : List (S.El c)} {i j : Nat} {x : S.El c} {tv : TV S} (hx : xs[i]? = some x) (hj : (E.enc c x)[j]? = some tv) :
    j < E.sz c ∧ i < xs.length ∧ i * E.sz c + j < xs.length * E.sz c := by
  have h1 : j < E.sz c := by rw [← hE.len c x]; exact (List.getElem?_eq_some_iff.1 hj).1
  have h2 : i < xs.length := (List.getElem?_eq_some_iff.1 hx).1
  refine ⟨h1, h2, ?_⟩
  calc i * E.sz c + j < i * E.sz c + E.sz c := by omega
    _ = (i + 1) * E.sz c := by rw [Nat.succ_mul]
    _ ≤ xs.length * E.sz c := Nat.mul_le_mul_right _ h2

/-- A deep row where its blocks are untouched. -/
theorem DR.mono {E : Env S} (hE : EncOk E) {M M' : Mem} {w w' : World} (hM : M.le M') {c : S.K} {xs : List (Option (S.El c))} {g : GI} (h : DR E M w c xs g) (hw : ∀ b : Nat, Own g b → w'.heap[b]? = w.heap[b]?) : DR E M' w' c xs g := by
  induction h with
  | @mk c xs g vs G hL hs hle live cell val hsl sub dis out hF ih =>
    have own : ∀ j, j < g.n → w'.heap[g.b]? = w.heap[g.b]? := fun j hj => hw g.b (.inl ⟨by omega, rfl⟩)
    refine .mk vs G hL hs hle (fun j hj => ?_) (fun i x j tv hx hj => ?_) (fun i x j tv hx hj h0 => (val i x j tv hx hj h0).mono hM) hsl (fun i x j d ys hx hj h1 => ?_) dis out hF
    · obtain ⟨⟨v, hv⟩, hf⟩ := live j hj
      exact ⟨⟨v, by rw [cell_of_heap (own j hj)]; exact hv⟩, by rw [frozen_of_heap (own j hj)]; exact hf⟩
    · have hc := cell i x j tv hx hj
      have hlt : i * E.sz c + j < xs.length * E.sz c := by
        have h1 : j < E.sz c := by rw [← hE.len c x]; exact (List.getElem?_eq_some_iff.1 hj).1
        have h2 : i < xs.length := (List.getElem?_eq_some_iff.1 hx).1
        calc i * E.sz c + j < i * E.sz c + E.sz c := by omega
          _ = (i + 1) * E.sz c := by rw [Nat.succ_mul]
          _ ≤ xs.length * E.sz c := Nat.mul_le_mul_right _ h2
      rw [cell_of_heap (own (i * g.s + j) (by rw [hL, hs] at hle; rw [hs]; omega))]
      exact hc
    · refine ih i x j d ys hx hj h1 fun b hb => hw b (.inr ((hF b).2 ⟨i, j, ⟨x, hx, ?_, h1⟩, hb⟩))
      rw [← hE.len c x]; exact (List.getElem?_eq_some_iff.1 hj).1
theorem DR.same {E : Env S} {M : Mem} {w w' : World} {c : S.K} {xs : List (Option (S.El c))} {g : GI} (h : DR E M w c xs g) (hw : ∀ b : Nat, w'.heap[b]? = w.heap[b]?) : DR E M w' c xs g := by
  induction h with
  | @mk c xs g vs G hL hs hle live cell val hsl sub dis out hF ih =>
    refine .mk vs G hL hs hle (fun j hj => ?_) (fun i x j tv hx hj => ?_) val hsl (fun i x j d ys hx hj h1 => ih i x j d ys hx hj h1) dis out hF
    · obtain ⟨⟨v, hv⟩, hf⟩ := live j hj
      exact ⟨⟨v, by rw [cell_of_heap (hw _)]; exact hv⟩, by rw [frozen_of_heap (hw _)]; exact hf⟩
    · rw [cell_of_heap (hw _)]; exact cell i x j tv hx hj
/-- **One step of memory.** C: the names that may have changed. T: the blocks that may have changed; each is one that a name of C had for itself. -/
theorem RelW.step2 {E : Env S} {B : Base} (hE : EncOk E) {o o' : Nat → Option (Obj S)} {w w' : World} {φ φ' : Phi} {M M' : Mem} (h : RelW E B o w φ M) (C T : Nat → Prop)
    (hφ : φ.le φ') (hM : M.le M') (hsz : w.heap.size ≤ w'.heap.size) (hos : w'.os = w.os) (htp : w'.tape = w.tape) (hout : w'.output = w.output)
    (heap : ∀ b, b < w.heap.size → ¬ T b → w'.heap[b]? = w.heap[b]?)
    (hT : ∀ b, T b → ∃ nm x f, C nm ∧ o nm = some x ∧ claim φ nm x b f ∧ ∀ off, off < f → w'.cell? (at_ b off) = w.cell? (at_ b off))
    (hMn : ∀ b off, M' b off ≠ M b off → T b ∨ w.heap.size ≤ b)
    (hMv : ∀ b off v, M' b off = some v → M b off = none → w'.cell? (at_ b off) = some v)
    (hC : ∀ nm, ¬ C nm → o' nm = o nm ∧ φ' nm = φ nm)
    (hobj : ∀ nm x, C nm → o' nm = some x → ObjR E φ' M' w' nm x)
    (hfr : ∀ nm, C nm → o' nm = none → φ' nm = none)
    (hcl : ∀ nm x b f, C nm → o' nm = some x → claim φ' nm x b f → b < w'.heap.size ∧
      (w.heap.size ≤ b ∨ ∃ nm' x' f', C nm' ∧ o nm' = some x' ∧ claim φ nm' x' b f') ∧ ∀ off, f ≤ off → M' b off = none)
    (hsep : ∀ nm nm' x x' b f f', C nm → C nm' → o' nm = some x → o' nm' = some x' → claim φ' nm x b f → claim φ' nm' x' b f' → nm = nm')
    (hext : ∀ nm, nm < B.m → (φ' nm).map GI.strip = (φ nm).map GI.strip) (hdr : w.drawn ≤ w'.drawn := by exact Nat.le_refl _) : RelW E B o' w' φ' M' := by
  -- a block that an unchanged name has for itself is untouched
  have untouched : ∀ nm x b f, ¬ C nm → o nm = some x → claim φ nm x b f → ¬ T b := by
    intro nm x b f hn ho hc hb
    obtain ⟨nm', x', f', hC', ho', hc', _⟩ := hT b hb
    exact hn (h.sep nm nm' x x' b f f' ho ho' hc hc' ▸ hC')
  have mvalid : ∀ b off v, M' b off = some v → w'.cell? (at_ b off) = some v := by
    intro b off v hv
    cases hm : M b off with
    | none => exact hMv b off v hv hm
    | some u =>
      have : u = v := by have := hM b off u hm; rw [hv] at this; exact (Option.some.inj this).symm
      subst this
      have hcell := h.mval b off u hm
      by_cases hb : T b
      · obtain ⟨nm, x, f, hC', ho, hc, hk⟩ := hT b hb
        have : off < f := by
          rcases Nat.lt_or_ge off f with h' | h'
          · exact h'
          · have := h.mdis nm x b f off ho hc h'; rw [hm] at this; cases this
        rw [hk off this]; exact hcell
      · rw [cell_of_heap (heap b (size_of_cell hcell) hb)]; exact hcell
  have keepCell : ∀ b off u, ¬ T b → w.cell? (at_ b off) = some u → w'.cell? (at_ b off) = some u ∧ w'.frozen? (at_ b off) = w.frozen? (at_ b off) := by
    intro b off u hb hu
    have := heap b (size_of_cell hu) hb
    exact ⟨by rw [cell_of_heap this]; exact hu, frozen_of_heap this off⟩
  constructor
  case objs =>
    intro nm x hx
    by_cases hn : C nm
    · exact hobj nm x hn hx
    · obtain ⟨e1, e2⟩ := hC nm hn
      rw [e1] at hx
      have hr := h.objs nm x hx
      cases x with
      | gone => trivial
      | box cs =>
        obtain ⟨g, hg, hcs⟩ := hr
        refine ⟨g, by rw [e2]; exact hg, fun j tv hj => ?_⟩
        obtain ⟨v, hv, hf, hvr⟩ := hcs j tv hj
        have hb := untouched nm _ g.b 0 hn hx (claim_box hg)
        obtain ⟨k1, k2⟩ := keepCell g.b j v hb hv
        exact ⟨v, k1, by rw [k2]; exact hf, hvr.mono hφ hM⟩
      | raw s cs =>
        obtain ⟨g, hg, hs, hs1, hL, hle, hlive, hcs⟩ := hr
        refine ⟨g, by rw [e2]; exact hg, hs, hs1, hL, hle, fun j hj => ?_, fun j tv hj => ?_⟩
        · obtain ⟨⟨v, hv⟩, hf⟩ := hlive j hj
          have hb := untouched nm _ g.b 0 hn hx (claim_raw hg (by omega))
          obtain ⟨k1, k2⟩ := keepCell g.b j v hb hv
          exact ⟨⟨v, k1⟩, by rw [k2]; exact hf⟩
        · obtain ⟨v, hv, hvr⟩ := hcs j tv hj
          have hlt := (List.getElem?_eq_some_iff.1 hj).1
          have hb := untouched nm _ g.b 0 hn hx (claim_raw hg (by omega))
          exact ⟨v, (keepCell g.b j v hb hv).1, hvr.mono hφ hM⟩
      | row c xs m =>
        obtain ⟨g, hg, hL, hs, hle, hrow⟩ := hr
        refine ⟨g, by rw [e2]; exact hg, hL, hs, hle, ?_⟩
        have hin : RowIn E M g.b g.s c xs → RowIn E M' g.b g.s c xs := fun hr i x j tv hx hj => by
          obtain ⟨v, h1, h2⟩ := hr i x j tv hx hj
          exact ⟨v, hM _ _ _ h1, h2.mono hM⟩
        cases m with
        | ro => exact hin hrow
        | app =>
          refine ⟨fun j h1 h2 => ?_, hin hrow.2.1, hrow.2.2⟩
          obtain ⟨⟨v, hv⟩, hf⟩ := hrow.1 j h1 h2
          have hb := untouched nm _ g.b _ hn hx (claim_app hg (by omega))
          obtain ⟨k1, k2⟩ := keepCell g.b j v hb hv
          exact ⟨⟨v, k1⟩, by rw [k2]; exact hf⟩
        | own =>
          refine ⟨fun j h2 => ?_, fun i x j tv hi hj => ?_⟩
          · obtain ⟨⟨v, hv⟩, hf⟩ := hrow.1 j h2
            have hb := untouched nm _ g.b _ hn hx (claim_own hg (by omega))
            obtain ⟨k1, k2⟩ := keepCell g.b j v hb hv
            exact ⟨⟨v, k1⟩, by rw [k2]; exact hf⟩
          · obtain ⟨v, hv, hc⟩ := hrow.2 i x j tv hi hj
            have hlt := elt_lt hE hi hj
            have hb := untouched nm _ g.b _ hn hx (claim_own hg (by rcases hle with e | e; (· cases e); (· rw [hL, hs] at e; omega)))
            exact ⟨v, (keepCell _ _ v hb hv).1, hc.mono hM⟩
      | deep c xs =>
        obtain ⟨g, hg, hd⟩ := hr
        refine ⟨g, by rw [e2]; exact hg, hd.mono hE hM fun b hb => ?_⟩
        have hcl' : claim φ nm (.deep c xs) b 0 := ⟨g, hg, hb, rfl⟩
        exact heap b (h.csz nm _ b 0 hx hcl') (untouched nm _ b 0 hn hx hcl')
      | mapo ag sh vag vc L ex clock =>
        obtain ⟨g, hg, es, clock', hh, hm⟩ := hr
        have hb := untouched nm _ g.b 0 hn hx (claim_mapo hg)
        have hlt := h.csz nm _ g.b 0 hx (claim_mapo hg)
        exact ⟨g, by rw [e2]; exact hg, es, clock', by rw [heap g.b hlt hb]; exact hh, hm.mono hM⟩
      | iter mp since seen stepped =>
        obtain ⟨g, gm, hg, hgm, hs, hh⟩ := hr
        have hb := untouched nm _ g.b 0 hn hx (claim_iter hg)
        have hlt := h.csz nm _ g.b 0 hx (claim_iter hg)
        obtain ⟨F, hgm'⟩ := hφ _ _ hgm
        exact ⟨g, { gm with F := F }, by rw [e2]; exact hg, hgm', hs, by rw [heap g.b hlt hb]; exact hh⟩
  case fresh =>
    intro nm hx
    by_cases hn : C nm
    · exact hfr nm hn hx
    · obtain ⟨e1, e2⟩ := hC nm hn
      rw [e1] at hx; rw [e2]; exact h.fresh nm hx
  case sep =>
    intro nm nm' x x' b f f' hx hx' hc hc'
    by_cases hn : C nm <;> by_cases hn' : C nm'
    · exact hsep nm nm' x x' b f f' hn hn' hx hx' hc hc'
    · obtain ⟨e1, e2⟩ := hC nm' hn'
      rw [e1] at hx'; rw [claim_congr e2] at hc'
      obtain ⟨_, h2, _⟩ := hcl nm x b f hn hx hc
      rcases h2 with h2 | ⟨n3, x3, f3, hC3, ho3, hc3⟩
      · have := h.csz nm' x' b f' hx' hc'; omega
      · exact absurd (h.sep n3 nm' x3 x' b f3 f' ho3 hx' hc3 hc' ▸ hC3) hn'
    · obtain ⟨e1, e2⟩ := hC nm hn
      rw [e1] at hx; rw [claim_congr e2] at hc
      obtain ⟨_, h2, _⟩ := hcl nm' x' b f' hn' hx' hc'
      rcases h2 with h2 | ⟨n3, x3, f3, hC3, ho3, hc3⟩
      · have := h.csz nm x b f hx hc; omega
      · exact absurd (h.sep n3 nm x3 x b f3 f ho3 hx hc3 hc ▸ hC3) hn
    · obtain ⟨e1, e2⟩ := hC nm hn
      obtain ⟨e1', e2'⟩ := hC nm' hn'
      rw [e1] at hx; rw [claim_congr e2] at hc; rw [e1'] at hx'; rw [claim_congr e2'] at hc'
      exact h.sep nm nm' x x' b f f' hx hx' hc hc'
  case mdis =>
    intro nm x b f off hx hc hf
    by_cases hn : C nm
    · exact (hcl nm x b f hn hx hc).2.2 off hf
    · obtain ⟨e1, e2⟩ := hC nm hn
      rw [e1] at hx; rw [claim_congr e2] at hc
      have h0 := h.mdis nm x b f off hx hc hf
      by_cases hd : M' b off = M b off
      · rw [hd]; exact h0
      · rcases hMn b off hd with h1 | h1
        · exact absurd h1 (untouched nm x b f hn hx hc)
        · have := h.csz nm x b f hx hc; omega
  case mval => exact mvalid
  case os => rw [hos]; exact h.os
  case tape => rw [htp]; exact h.tape
  case output => rw [hout]; exact h.output
  case size => exact Nat.le_trans h.size hsz
  case kept =>
    intro b hb hown
    have hnT : ¬ T b := fun hb' => by
      obtain ⟨nm, x, f, _, ho, hc, _⟩ := hT b hb'
      rcases h.perm nm x b f ho hc with h1 | h1
      · omega
      · exact hown h1
    rw [heap b (Nat.lt_of_lt_of_le hb h.size) hnT]
    exact h.kept b hb hown
  case perm =>
    intro nm x b f hx hc
    by_cases hn : C nm
    · rcases (hcl nm x b f hn hx hc).2.1 with h2 | ⟨n3, x3, f3, hC3, ho3, hc3⟩
      · exact .inl (Nat.le_trans h.size h2)
      · exact h.perm n3 x3 b f3 ho3 hc3
    · obtain ⟨e1, e2⟩ := hC nm hn
      rw [e1] at hx; rw [claim_congr e2] at hc
      exact h.perm nm x b f hx hc
  case csz =>
    intro nm x b f hx hc
    by_cases hn : C nm
    · exact (hcl nm x b f hn hx hc).1
    · obtain ⟨e1, e2⟩ := hC nm hn
      rw [e1] at hx; rw [claim_congr e2] at hc
      exact Nat.lt_of_lt_of_le (h.csz nm x b f hx hc) hsz
  case mle => exact h.mle.le_trans hM
  case mnew =>
    intro b off hd
    by_cases hd' : M' b off = M b off
    · rw [hd'] at hd; exact h.mnew b off hd
    · rcases hMn b off hd' with h1 | h1
      · obtain ⟨nm, x, f, _, ho, hc, _⟩ := hT b h1
        exact h.perm nm x b f ho hc
      · exact .inl (Nat.le_trans h.size h1)
  case ext => exact fun nm hn => (hext nm hn).trans (h.ext nm hn)
  case drawn => exact Nat.le_trans h.drawn hdr
/-- The same where names keep their places and the blocks within. -/
theorem RelW.step {E : Env S} {B : Base} (hE : EncOk E) {o o' : Nat → Option (Obj S)} {w w' : World} {φ φ' : Phi} {M M' : Mem} (h : RelW E B o w φ M) (C T : Nat → Prop)
    (hφ : φ.le φ') (hM : M.le M') (hsz : w.heap.size ≤ w'.heap.size) (hos : w'.os = w.os) (htp : w'.tape = w.tape) (hout : w'.output = w.output)
    (heap : ∀ b, b < w.heap.size → ¬ T b → w'.heap[b]? = w.heap[b]?)
    (hT : ∀ b, T b → ∃ nm x f, C nm ∧ o nm = some x ∧ claim φ nm x b f ∧ ∀ off, off < f → w'.cell? (at_ b off) = w.cell? (at_ b off))
    (hMn : ∀ b off, M' b off ≠ M b off → T b ∨ w.heap.size ≤ b)
    (hMv : ∀ b off v, M' b off = some v → M b off = none → w'.cell? (at_ b off) = some v)
    (hC : ∀ nm, ¬ C nm → o' nm = o nm ∧ φ' nm = φ nm)
    (hobj : ∀ nm x, C nm → o' nm = some x → ObjR E φ' M' w' nm x)
    (hfr : ∀ nm, C nm → o' nm = none → φ' nm = none)
    (hcl : ∀ nm x b f, C nm → o' nm = some x → claim φ' nm x b f → b < w'.heap.size ∧
      (w.heap.size ≤ b ∨ ∃ nm' x' f', C nm' ∧ o nm' = some x' ∧ claim φ nm' x' b f') ∧ ∀ off, f ≤ off → M' b off = none)
    (hsep : ∀ nm nm' x x' b f f', C nm → C nm' → o' nm = some x → o' nm' = some x' → claim φ' nm x b f → claim φ' nm' x' b f' → nm = nm')
    (hext : ∀ nm, nm < B.m → φ' nm = φ nm) (hdr : w.drawn ≤ w'.drawn := by exact Nat.le_refl _) : RelW E B o' w' φ' M' :=
  h.step2 hE C T hφ hM hsz hos htp hout heap hT hMn hMv hC hobj hfr hcl hsep (fun nm hn => congrArg (Option.map GI.strip) (hext nm hn)) hdr
theorem GI.strip_eq {g g' : GI} (h : g.strip = g'.strip) : g = { g' with F := g.F } := by
  cases g; cases g'
  simp only [GI.strip, GI.mk.injEq] at h
  obtain ⟨rfl, rfl, rfl, rfl, _⟩ := h
  rfl
end TE
