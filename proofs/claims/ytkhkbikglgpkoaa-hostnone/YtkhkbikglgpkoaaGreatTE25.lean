/- TE: what can be read as data is a plain value. -/
import Derived.Test.YtkhkbikglgpkoaaGreatTE22
import Derived.ChangeArms
namespace TE
open Go Go.RowKit
variable {S : Sig} {E : Env S}

def all2 {α β : Type} (p : α → β → Prop) : List α → List β → Prop
  | [], [] => True
  | a :: x, b :: y => p a b ∧ all2 p x y
  | _, _ => False
theorem all2.append {α β : Type} {p : α → β → Prop} : ∀ {x x' : List α} {y y' : List β}, all2 p x y → all2 p x' y' → all2 p (x ++ x') (y ++ y')
  | [], _, [], _, _, h => h
  | a :: x, _, b :: y, _, h1, h2 => ⟨h1.1, h1.2.append h2⟩
  | [], _, _ :: _, _, h, _ => h.elim
  | _ :: _, _, [], _, h, _ => h.elim
theorem all2.len {α β : Type} {p : α → β → Prop} : ∀ {x : List α} {y : List β}, all2 p x y → x.length = y.length
  | [], [], _ => rfl
  | a :: x, b :: y, h => by simp [h.2.len]
  | [], _ :: _, h => h.elim
  | _ :: _, [], h => h.elim
theorem all2.get {α β : Type} {p : α → β → Prop} : ∀ {x : List α} {y : List β} {i : Nat} {a : α} {b : β}, all2 p x y → x[i]? = some a → y[i]? = some b → p a b
  | [], _, _, _, _, _, h, _ => by simp at h
  | a :: x, [], _, _, _, h, _, _ => h.elim
  | a :: x, b :: y, 0, _, _, h, h1, h2 => by simp at h1 h2; subst h1; subst h2; exact h.1
  | a :: x, b :: y, i + 1, _, _, h, h1, h2 => all2.get h.2 (by simpa using h1) (by simpa using h2)

/-- Kinds of cells of plain values. -/
inductive CK (S : Sig) | bool | int (k : IntKind) | str | sl (c : S.K)
def okN (E : Env S) (kinds : S.K → List (CK S)) : Nat → CK S → TV S → Prop
  | 0, .bool, tv | _ + 1, .bool, tv => ∃ b, tv = .bool b
  | 0, .int k, tv | _ + 1, .int k, tv => ∃ n, tv = .int k n ∧ (Lit.int k n).wf = true
  | 0, .str, tv | _ + 1, .str, tv => ∃ s, tv = .str s ∧ s.length ≤ maxLen
  | 0, .sl _, _ => False
  | n + 1, .sl c, tv => ∃ xs : List (S.El c), tv = .tree c xs ∧ xs.length ≤ maxLen ∧ ∀ x ∈ xs, all2 (okN E kinds n) (kinds c) (E.enc c x)
def kindsFs (P : Program) (rec : TypeId → Option (List (CK S))) : List Field → Nat → Option (List (CK S))
  | [], _ => some []
  | f :: r, off => if f.offset = off then (rec f.type).bind fun a => if a.length = P.cellsOf f.type then (kindsFs P rec r (off + a.length)).map (a ++ ·) else none else none
def kindsOf (P : Program) (code : TypeId → Option S.K) : Nat → TypeId → Option (List (CK S))
  | 0, _ => none
  | d + 1, t => match P.underlying t with
    | some .bool => some [.bool]
    | some (.int k) => some [.int k]
    | some .string => some [.str]
    | some (.slice e) => (code e).map fun c => [.sl c]
    | some (.struct fs) => (kindsFs P (kindsOf P code d) fs.toList 0).bind fun ks => if ks.length = P.cellsOf t then some ks else none
    | _ => none

section
variable {kinds : S.K → List (CK S)} {H : Type} {enc : TypeId × Value → H} {w : World} {base : Nat} {held : Bool}

theorem kindsFs_tv {P : Program} {rec : TypeId → Option (List (CK S))} {n : Nat} {M : Mem} {cs : List Value} : ∀ (fs : List Field) (off : Nat) (ks : List (CK S)), kindsFs P rec fs off = some ks →
    (∀ f ∈ fs, ∀ a, rec f.type = some a → (∀ y ∈ a, y ∈ ks) → ∃ tvs, all2 (okN E kinds n) a tvs ∧ all2 (CR E M) tvs ((cs.drop f.offset).take (P.cellsOf f.type))) →
    ∃ tvs, all2 (okN E kinds n) ks tvs ∧ all2 (CR E M) tvs ((cs.drop off).take ks.length)
  | [], off, ks, h, _ => by cases h; exact ⟨[], trivial, by simp [all2]⟩
  | f :: r, off, ks, h, hf => by
    simp only [kindsFs] at h
    split at h
    · rename_i hoff
      obtain ⟨a, ha, h⟩ := Option.bind_eq_some_iff.1 h
      split at h
      · rename_i hal
        obtain ⟨ks', hks, rfl⟩ := Option.map_eq_some_iff.1 h
        obtain ⟨t1, h1, h2⟩ := hf f (by simp) a ha (fun y hy => List.mem_append_left _ hy)
        obtain ⟨t2, h3, h4⟩ := kindsFs_tv r _ ks' hks fun g hg a' ha' hs => hf g (List.mem_cons_of_mem _ hg) a' ha' fun y hy => List.mem_append_right _ (hs y hy)
        refine ⟨t1 ++ t2, h1.append h3, ?_⟩
        rw [List.length_append, List.take_add]
        rw [hoff, ← hal] at h2
        rw [← List.drop_drop] at h4
        exact h2.append h4
      · cases h
    · cases h

theorem spot_none {a : Addr} {v : Value} (h : w.cell? a = some v) : a = at_ a.block a.off := by
  unfold World.cell? at h
  split at h
  · split at h
    · cases h
    · rename_i hs
      cases a with
      | mk b o s =>
        cases s with
        | none => rfl
        | some s => simp at hs
  · cases h

theorem okN_up : ∀ (n : Nat) (k : CK S) (tv : TV S), okN E kinds n k tv → okN E kinds (n + 1) k tv
  | 0, .bool, _, h => h
  | _ + 1, .bool, _, h => h
  | 0, .int _, _, h => h
  | _ + 1, .int _, _, h => h
  | 0, .str, _, h => h
  | _ + 1, .str, _, h => h
  | 0, .sl _, _, h => h.elim
  | n + 1, .sl c, tv, ⟨xs, h1, h2, h3⟩ => ⟨xs, h1, h2, fun x hx => by
    have up : ∀ (l : List (CK S)) (m : List (TV S)), all2 (okN E kinds n) l m → all2 (okN E kinds (n + 1)) l m := by
      intro l
      induction l with
      | nil => intro m h; cases m with
        | nil => trivial
        | cons _ _ => exact h.elim
      | cons a l ih => intro m h; cases m with
        | nil => exact h.elim
        | cons b m => exact ⟨okN_up n a b h.1, ih m h.2⟩
    exact up _ _ (h3 x hx)⟩
theorem all2_up (n : Nat) : ∀ (l : List (CK S)) (m : List (TV S)), all2 (okN E kinds n) l m → all2 (okN E kinds (n + 1)) l m
  | [], [], _ => trivial
  | [], _ :: _, h => h.elim
  | _ :: _, [], h => h.elim
  | a :: l, b :: m, h => ⟨okN_up n a b h.1, all2_up n l m h.2⟩
theorem trod_tv (hE : EnvOk E) (hk : ∀ c e, E.code e = some c → kindsOf E.P E.code 40 e = some (kinds c)) (hdec : ∀ c tvs n, all2 (okN E kinds n) (kinds c) tvs → ∃ x, E.enc c x = tvs) {G : S.K → Prop} (hG : ∀ c, G c → S.tight c = false ∧ ∀ d, CK.sl d ∈ kinds c → G d) :
    ∀ (n d : Nat) (t : TypeId) (cs : List Value) (x : DataW H × List MemPlace) (ks : List (CK S)), DataW.trod enc E.P w base (fun _ => true) held n t cs = some x → kindsOf E.P E.code d t = some ks → (∀ c, CK.sl c ∈ ks → G c) →
      ∃ tvs, all2 (okN E kinds n) ks tvs ∧ all2 (CR E (fun b off => w.cell? (at_ b off))) tvs cs := by
  intro n
  induction n with
  | zero => intro d t cs x ks h; simp [DataW.trod] at h
  | succ n ih =>
    intro d t cs x ks h hks hgk
    cases d with
    | zero => cases hks
    | succ d =>
      simp only [kindsOf] at hks
      split at hks
      · rename_i hu
        cases hks
        obtain ⟨b, rfl, _⟩ := DataW.trod_bool hu h
        exact ⟨[.bool b], ⟨⟨b, rfl⟩, trivial⟩, ⟨.bool b, trivial⟩⟩
      · rename_i k hu
        cases hks
        obtain ⟨m, rfl, _, hw⟩ := DataW.trod_int hu h
        exact ⟨[.int k m], ⟨⟨m, rfl, hw⟩, trivial⟩, ⟨.int k m, trivial⟩⟩
      · rename_i hu
        cases hks
        obtain ⟨s, rfl, _, hw⟩ := DataW.trod_string hu h
        refine ⟨[.str s.data.toList], ⟨⟨_, rfl, by simpa using hw⟩, trivial⟩, ⟨?_, trivial⟩⟩
        have := CR.str (E := E) (M := fun b off => w.cell? (at_ b off)) s.data.toList
        simpa using this
      · rename_i e hu
        obtain ⟨c, hc, rfl⟩ := Option.map_eq_some_iff.1 hks
        obtain ⟨inf, hinf, hsz, _⟩ := hE.size e c hc
        have hgc := hG c (hgk c (by simp))
        have htg : ∀ {cap : Nat} {xs : List (S.El c)}, S.tight c = true → xs = [] → cap = 0 := fun ht => by rw [hgc.1] at ht; cases ht
        have hcells : E.P.cellsOf e = E.sz c := by unfold Program.cellsOf; rw [hinf]; exact hsz
        have hpos := hE.toEncOk.pos c
        rcases DataW.trod_slice hu h with ⟨rfl, _⟩ | ⟨a, len, cap, elems, rest, n', hn, rfl, _, _, hlc, hcm, hel, hei, hsp, _⟩
        · refine ⟨[.tree c []], ⟨⟨[], rfl, by simp, by simp⟩, trivial⟩, ⟨?_, trivial⟩⟩
          exact CR.tree (c := c) (xs := []) 0 0 (fun _ _ => undef) (Nat.le_refl _) htg (.inl rfl) (fun i x j tv hx => by simp at hx) (fun i x j tv hx => by simp at hx)
        · have hn' : n' = n := by omega
          subst hn'
          rw [hcells] at hei hsp
          have hsp' := hsp rfl
          have hex : ∀ i : Fin len, ∃ x : S.El c, all2 (okN E kinds n') (kinds c) (E.enc c x) ∧ ∃ cs', w.cells? base (a.add (i * E.sz c)) (E.sz c) = some cs' ∧ all2 (CR E (fun b off => w.cell? (at_ b off))) (E.enc c x) cs' := by
            intro i
            have h1 := hei i.1 i.2
            have h2 : elems[i.1]? = some elems[i.1] := List.getElem?_eq_getElem (by rw [hel]; exact i.2)
            rw [h2] at h1
            obtain ⟨cs', h3, h4⟩ := Option.bind_eq_some_iff.1 h1
            obtain ⟨tvs, h5, h6⟩ := ih 40 e cs' _ _ h4 (hk c e hc) hgc.2
            obtain ⟨x, rfl⟩ := hdec c tvs n' h5
            exact ⟨x, h5, cs', h3, h6⟩
          -- the address has no spot where anything is there
          have hat : cap = 0 ∨ a = at_ a.block a.off := by
            rcases Nat.eq_zero_or_pos cap with h0 | h0
            · exact .inl h0
            · right
              have a0 : (a.add 0).add 0 = a := rfl
              have hcell : ∃ v, w.cell? a = some v := by
                rcases Nat.eq_zero_or_pos len with hl | hl
                · have h1 := hsp'.2 0 (by omega)
                  have h2 : rest[0]? = some (rest[0]'(by omega)) := List.getElem?_eq_getElem (by omega)
                  rw [h2] at h1
                  obtain ⟨cs', h3, _⟩ := Option.bind_eq_some_iff.1 h1
                  obtain ⟨_, h4, h5⟩ := World.cells?_some h3
                  have := h5 0 hpos
                  rw [List.getElem?_eq_getElem (by omega), hl, Nat.add_zero, Nat.zero_mul, a0] at this
                  exact ⟨_, this⟩
                · obtain ⟨x, _, cs', h3, _⟩ := hex ⟨0, hl⟩
                  obtain ⟨_, h4, h5⟩ := World.cells?_some h3
                  have := h5 0 hpos
                  rw [List.getElem?_eq_getElem (by omega)] at this
                  simp only [Nat.zero_mul] at this
                  rw [a0] at this
                  exact ⟨_, this⟩
              obtain ⟨v, hv⟩ := hcell
              exact spot_none hv
          let xs : List (S.El c) := List.ofFn fun i => Classical.choose (hex i)
          have hxl : xs.length = len := by simp [xs]
          have hxg : ∀ (i : Nat) x, xs[i]? = some x → ∃ hi : i < len, x = Classical.choose (hex ⟨i, hi⟩) := by
            intro i x hx
            have hi : i < len := by rw [← hxl]; exact (List.getElem?_eq_some_iff.1 hx).1
            refine ⟨hi, ?_⟩
            rw [List.getElem?_eq_getElem (by rw [hxl]; exact hi)] at hx
            simpa [xs] using hx.symm
          have key : ∀ i x j tv, xs[i]? = some x → (E.enc c x)[j]? = some tv → ∃ v, w.cell? (at_ a.block (a.off + i * E.sz c + j)) = some v ∧ CR E (fun b off => w.cell? (at_ b off)) tv v := by
            intro i x j tv hx hj
            obtain ⟨hi, rfl⟩ := hxg i x hx
            obtain ⟨_, cs', h3, h6⟩ := Classical.choose_spec (hex ⟨i, hi⟩)
            obtain ⟨_, h4, h5⟩ := World.cells?_some h3
            have hjl : j < E.sz c := by rw [← hE.toEncOk.len c (Classical.choose (hex ⟨i, hi⟩))]; exact (List.getElem?_eq_some_iff.1 hj).1
            have hcell := h5 j hjl
            rw [List.getElem?_eq_getElem (by omega)] at hcell
            have hcap : cap ≠ 0 := by omega
            have hb : a = at_ a.block a.off := by rcases hat with h | h; exact absurd h hcap; exact h
            have hcell' : w.cell? (((at_ a.block a.off).add (i * E.sz c)).add j) = some (cs'[j]'(by omega)) := by rw [← hb]; exact hcell
            rw [at_add, at_add] at hcell'
            exact ⟨_, hcell', h6.get hj (List.getElem?_eq_getElem (by omega))⟩
          refine ⟨[.tree c xs], ⟨⟨xs, rfl, by omega, fun x hx => ?_⟩, trivial⟩, ⟨?_, trivial⟩⟩
          · obtain ⟨i, hi⟩ := List.getElem?_of_mem hx
            obtain ⟨hi', rfl⟩ := hxg i x hi
            exact (Classical.choose_spec (hex ⟨i, hi'⟩)).1
          · have := CR.tree (E := E) (M := fun b off => w.cell? (at_ b off)) (c := c) (xs := xs) (a := some a) (cap := cap) a.block a.off (fun i j => (w.cell? (at_ a.block (a.off + i * E.sz c + j))).getD undef) (by omega) htg
              (by rcases hat with h | h; exact .inl h; exact .inr (by rw [← h]))
              (fun i x j tv hx hj => by obtain ⟨v, h1, _⟩ := key i x j tv hx hj; simp [h1]) (fun i x j tv hx hj => by obtain ⟨v, h1, h2⟩ := key i x j tv hx hj; simpa [h1] using h2)
            rw [hxl] at this
            exact this
      · rename_i fs hu
        obtain ⟨ks', hks', hks⟩ := Option.bind_eq_some_iff.1 hks
        split at hks
        · rename_i hlen
          cases hks
          obtain ⟨xs, n', hn, _, hcl, hxl, hf⟩ := DataW.trod_struct hu h
          have hn' : n' = n := by omega
          subst hn'
          obtain ⟨tvs, h1, h2⟩ := kindsFs_tv (E := E) (kinds := kinds) (n := n' + 1) (M := fun b off => w.cell? (at_ b off)) (cs := cs) fs.toList 0 _ hks' (fun f hfm a ha hsub => by
            obtain ⟨i, hi⟩ := List.getElem?_of_mem hfm
            have hi2 : fs[i]? = some f := by simpa using hi
            have h3 := hf i f hi2
            have hil : i < xs.length := by rw [hxl]; exact (Array.getElem?_eq_some_iff.1 hi2).1
            rw [List.getElem?_eq_getElem hil] at h3
            obtain ⟨tvs, h4, h5⟩ := ih d f.type _ _ _ h3 ha (fun c hc => hgk c (hsub _ hc))
            exact ⟨tvs, all2_up _ _ _ h4, h5⟩)
          refine ⟨tvs, h1, ?_⟩
          rw [List.drop_zero, hlen, ← hcl, List.take_length] at h2
          exact h2
        · cases hks
      · cases hks

theorem all2_cons {α β : Type} {p : α → β → Prop} {a : α} {x : List α} {y : List β} (h : all2 p (a :: x) y) : ∃ b y', y = b :: y' ∧ p a b ∧ all2 p x y' := by
  cases y with
  | nil => exact h.elim
  | cons b y => exact ⟨b, y, rfl, h.1, h.2⟩
theorem all2_nil {α β : Type} {p : α → β → Prop} {y : List β} (h : all2 p ([] : List α) y) : y = [] := by
  cases y with
  | nil => rfl
  | cons b y => exact h.elim
theorem okN_int {n : Nat} {k : IntKind} {tv : TV S} (h : okN E kinds n (.int k) tv) : ∃ m, tv = .int k m ∧ (Lit.int k m).wf = true := by cases n <;> exact h
theorem okN_bool {n : Nat} {tv : TV S} (h : okN E kinds n .bool tv) : ∃ b, tv = .bool b := by cases n <;> exact h
theorem okN_str {n : Nat} {tv : TV S} (h : okN E kinds n .str tv) : ∃ s, tv = .str s ∧ s.length ≤ maxLen := by cases n <;> exact h
theorem okN_sl {n : Nat} {c : S.K} {tv : TV S} (h : okN E kinds n (.sl c) tv) : ∃ (n' : Nat) (xs : List (S.El c)), tv = .tree c xs ∧ xs.length ≤ maxLen ∧ ∀ x ∈ xs, all2 (okN E kinds n') (kinds c) (E.enc c x) := by
  cases n with
  | zero => exact h.elim
  | succ n => obtain ⟨xs, h1⟩ := h; exact ⟨n, xs, h1⟩
/-- A single cell, or an aggregate. -/
theorem vr_one {M : Mem} {tv : TV S} {v : Value} (hv : v.cells.toList = [v]) (h : all2 (CR E M) [tv] v.cells.toList) : VR E (fun _ => none) M tv v := by
  rw [hv] at h; exact .pure h.1
theorem vr_agg {M : Mem} {tvs : List (TV S)} {cs : Array Value} (h : all2 (CR E M) tvs (Value.agg cs).cells.toList) : VR E (fun _ => none) M (.agg tvs) (.agg cs) := by
  have h' : all2 (CR E M) tvs cs.toList := h
  exact .agg (by simpa using h'.len) fun i tv v h1 h2 => .pure (h'.get h1 (by simpa using h2))
end
/-- What a closed call says of the program. -/
theorem calls_law {f : FuncId} {args : List (TV S)} {xs : Option (List (Obj S))} {ns : List (Obj S)} {b : Bool} (h : CallOK E f args [] ⟨.bool b, xs, ns⟩) (w : World) {vals : Array Value}
    (hv : all2 (VR E (fun _ => none) (fun b off => w.cell? (at_ b off))) args vals.toList) :
    Calls E.P f vals w fun e w' => e = .returned (.bool b) ∧ Below w.heap.size w w' := by
  have hl := hv.len
  refine (h.2 ⟨w, fun _ => False, fun b off => w.cell? (at_ b off), fun _ => none, 0⟩ vals rfl (by simpa using hl) (fun i tv v h1 h2 => hv.get h1 (by simpa using h2)) ?_).mono ?_
  · exact ⟨fun nm x hx => by simp at hx, fun _ _ => rfl, fun nm nm' x x' b f f' hx => by simp at hx, fun nm x b f off hx => by simp at hx, fun b off v hv => hv, rfl, rfl, rfl, Nat.le_refl _, fun _ _ _ => rfl,
      fun nm x b f hx => by simp at hx, fun nm x b f hx => by simp at hx, Mem.le_refl _, fun b off hne => absurd rfl hne, fun _ h => absurd h (Nat.not_lt_zero _), Nat.le_refl _⟩
  · rintro e w' ⟨v, φ, M, he, hv', hW⟩
    rw [hv'.bool] at he
    exact ⟨he, ⟨hW.os, hW.tape, hW.output, hW.size, fun k hk => hW.kept k hk (fun h => h)⟩⟩
end TE
