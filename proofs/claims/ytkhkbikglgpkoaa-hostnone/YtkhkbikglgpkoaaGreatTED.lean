/- TE: calls with many outcomes in regions whose order is drawn. -/
import Derived.Test.YtkhkbikglgpkoaaGreatTEC
namespace TE
open Go
variable {S : Sig} {E : Env S}

theorem selPut_none (l : List (Oper × Eff S)) (c : Nat → TV S) (k : Nat) (D : Nat → Bool) (h : ∀ i, i < l.length → D (k + i) = false) : selPut c l k D = c := by
  induction l generalizing c k with
  | nil => rfl
  | cons p r ih =>
    simp only [selPut]
    rw [if_neg (by have := h 0 (by simp); simpa using this)]
    exact ih c (k + 1) fun i hi => by have := h (i + 1) (by simpa using hi); rwa [show k + 1 + i = k + (i + 1) by omega]
theorem selObj_none (l : List (Oper × Eff S)) (c : Nat → Option (Obj S)) (k : Nat) (D : Nat → Bool) (h : ∀ i, i < l.length → D (k + i) = false) : selObj c l k D = c := by
  induction l generalizing c k with
  | nil => rfl
  | cons p r ih =>
    simp only [selObj]
    rw [if_neg (by have := h 0 (by simp); simpa using this)]
    exact ih c (k + 1) fun i hi => by have := h (i + 1) (by simpa using hi); rwa [show k + 1 + i = k + (i + 1) by omega]
theorem selPut_snoc (l : List (Oper × Eff S)) (p : Oper × Eff S) (c : Nat → TV S) (k : Nat) (D : Nat → Bool) : selPut c (l ++ [p]) k D = if D (k + l.length) = true then putDst (selPut c l k D) p.1.dst p.2.v else selPut c l k D := by
  induction l generalizing c k with
  | nil => obtain ⟨o, e⟩ := p; rfl
  | cons q r ih =>
    obtain ⟨o, e⟩ := q
    simp only [List.cons_append, selPut, List.length_cons]
    rw [ih, show k + 1 + r.length = k + (r.length + 1) by omega]
theorem selObj_snoc (l : List (Oper × Eff S)) (p : Oper × Eff S) (c : Nat → Option (Obj S)) (k : Nat) (D : Nat → Bool) : selObj c (l ++ [p]) k D = if D (k + l.length) = true then setAll (selObj c l k D) p.2.wr else selObj c l k D := by
  induction l generalizing c k with
  | nil => obtain ⟨o, e⟩ := p; rfl
  | cons q r ih =>
    obtain ⟨o, e⟩ := q
    simp only [List.cons_append, selObj, List.length_cons]
    rw [ih, show k + 1 + r.length = k + (r.length + 1) by omega]

/-- What is known of the operations before place m, each of which the evaluator has seen: their effects. -/
structure Pref (E : Env S) (ops : Array Oper) (nt : Nat) (bits : List Nat) (c : Nat → TV S) (ob : Nat → Option (Obj S)) (b : Nat) (an : Nat → Bool) (es : List (Eff S)) (st : St S) : Prop where
  le : es.length ≤ ops.size
  ct : st.t = selPut c (ops.toList.zip es) 0 (fun _ => true)
  co : st.o = selObj ob (ops.toList.zip es) 0 (fun _ => true)
  nx : b ≤ st.next
  fr : ∀ n, st.next ≤ n → st.o n = none
  lt : ∀ (j : Nat) (e : Eff S), es[j]? = some e → ∀ p ∈ e.wr, p.1 < st.next
  dst : ∀ (i : Nat) (o : Oper), i < es.length → ops[i]? = some o → o.guard = none ∧ dstOk nt o.dst = true
  det : ∀ (i : Nat) (o : Oper) (e : Eff S), ops[i]? = some o → es[i]? = some e → an i = false → ∃ bi t, b ≤ bi ∧ (∀ x, t x = selPut c (ops.toList.zip es) 0 (fun m => decide (m < i)) x) ∧
    OpOK E o t (selObj ob (ops.toList.zip es) 0 (fun m => decide (m < i))) bi e ∧ (∀ (j : Nat) (e' : Eff S), es[j]? = some e' → j < i → ∀ p ∈ e'.wr, p.1 < bi) ∧
    ∀ (j : Nat) (e' : Eff S), es[j]? = some e' → j < i → (bits.getD i 0).testBit j = true ∨ e'.foot.apart e.foot = true
  anc : ∀ (i : Nat) (e : Eff S), es[i]? = some e → an i = true → (∀ j, i < j → j < ops.size → (bits.getD j 0).testBit i = true) ∧ ∃ (bi : Nat) (touched : List Nat), (∀ p ∈ e.wr, p.1 ∈ touched ∨ bi ≤ p.1) ∧
    ∀ (j : Nat) (e' : Eff S), es[j]? = some e' → j < i → (bits.getD i 0).testBit j = true ∨ (e'.wr = [] ∧ ∀ n ∈ e'.rd, n ∉ touched ∧ n < bi)

section
variable {ops : Array Oper} {nt : Nat} {bits : List Nat} {c : Nat → TV S} {ob : Nat → Option (Obj S)} {b : Nat} {an : Nat → Bool} {es : List (Eff S)} {st : St S}
theorem zip_snoc {o : Oper} {e : Eff S} (hm : ops[es.length]? = some o) : ops.toList.zip (es ++ [e]) = ops.toList.zip es ++ [(o, e)] := by
  apply List.ext_getElem?
  intro i
  have hlt := (Array.getElem?_eq_some_iff.1 hm).1
  by_cases hi : i < es.length
  · rw [List.getElem?_append_left (by simp; omega)]
    simp only [List.zip, List.getElem?_zipWith']
    rw [List.getElem?_append_left hi]
  · by_cases he : i = es.length
    · subst he
      rw [List.getElem?_append_right (by simp; omega), show es.length - (ops.toList.zip es).length = 0 by simp; omega]
      simp only [List.zip, List.getElem?_zipWith']
      rw [Array.getElem?_toList, hm, List.getElem?_append_right (Nat.le_refl _), Nat.sub_self]
      rfl
    · rw [List.getElem?_eq_none (by simp; omega), List.getElem?_eq_none (by simp; omega)]
theorem zip_len (h : es.length ≤ ops.size) : (ops.toList.zip es).length = es.length := by simp; omega
theorem Pref.snoc {o : Oper} {e : Eff S} (h : Pref E ops nt bits c ob b an es st) (hm : ops[es.length]? = some o) (hd : o.guard = none ∧ dstOk nt o.dst = true) (hnx : st.next ≤ e.nx) (hwr : ∀ p ∈ e.wr, p.1 < e.nx) (hfr : ∀ n, e.nx ≤ n → setAll st.o e.wr n = none)
    (hdet : an es.length = false → OpOK E o st.t st.o st.next e ∧ ∀ (j : Nat) (e' : Eff S), es[j]? = some e' → (bits.getD es.length 0).testBit j = true ∨ e'.foot.apart e.foot = true)
    (hanc : an es.length = true → (∀ j, es.length < j → j < ops.size → (bits.getD j 0).testBit es.length = true) ∧ ∃ (bi : Nat) (touched : List Nat), (∀ p ∈ e.wr, p.1 ∈ touched ∨ bi ≤ p.1) ∧
      ∀ (j : Nat) (e' : Eff S), es[j]? = some e' → (bits.getD es.length 0).testBit j = true ∨ (e'.wr = [] ∧ ∀ n ∈ e'.rd, n ∉ touched ∧ n < bi)) :
    Pref E ops nt bits c ob b an (es ++ [e]) (st.after o e) := by
  have hlt := (Array.getElem?_eq_some_iff.1 hm).1
  have hz := zip_snoc (e := e) hm
  have hzl := zip_len (ops := ops) h.le
  have same : ∀ (D : Nat → Bool), D es.length = false → selPut c (ops.toList.zip (es ++ [e])) 0 D = selPut c (ops.toList.zip es) 0 D ∧ selObj ob (ops.toList.zip (es ++ [e])) 0 D = selObj ob (ops.toList.zip es) 0 D := by
    intro D hD
    rw [hz, selPut_snoc, selObj_snoc, hzl, Nat.zero_add, hD]
    exact ⟨if_neg (by simp), if_neg (by simp)⟩
  have old : ∀ {i : Nat} {x : Eff S}, (es ++ [e])[i]? = some x → (i < es.length ∧ es[i]? = some x) ∨ (i = es.length ∧ x = e) := by
    intro i x hx
    by_cases hi : i < es.length
    · rw [List.getElem?_append_left hi] at hx; exact .inl ⟨hi, hx⟩
    · have := (List.getElem?_eq_some_iff.1 hx).1
      simp only [List.length_append, List.length_cons, List.length_nil] at this
      have hi' : i = es.length := by omega
      subst hi'
      rw [List.getElem?_append_right (Nat.le_refl _), Nat.sub_self] at hx
      cases hx
      exact .inr ⟨rfl, rfl⟩
  refine ⟨by simp; omega, ?_, ?_, Nat.le_trans h.nx hnx, hfr, fun j x hx p hp => ?_, fun i o' hi ho => ?_, fun i o' x ho hx han => ?_, fun i x hx han => ?_⟩
  · show putDst st.t o.dst e.v = _
    rw [hz, selPut_snoc, if_pos rfl, ← h.ct]
  · show setAll st.o e.wr = _
    rw [hz, selObj_snoc, if_pos rfl, ← h.co]
  · show p.1 < e.nx
    rcases old hx with ⟨_, hx⟩ | ⟨_, rfl⟩
    · have := h.lt j x hx p hp; omega
    · exact hwr p hp
  · simp only [List.length_append, List.length_cons, List.length_nil] at hi
    by_cases he : i = es.length
    · subst he; rw [hm] at ho; cases ho; exact hd
    · exact h.dst i o' (by omega) ho
  · rcases old hx with ⟨hi, hx⟩ | ⟨rfl, rfl⟩
    · obtain ⟨bi, t, q1, q2, q3, q4, q5⟩ := h.det i o' x ho hx han
      have hs := same (fun m => decide (m < i)) (by simp; omega)
      refine ⟨bi, t, q1, by rw [hs.1]; exact q2, by rw [hs.2]; exact q3, fun j e' hj hlt => ?_, fun j e' hj hlt => ?_⟩
      · rcases old hj with ⟨_, hj⟩ | ⟨rfl, _⟩
        · exact q4 j e' hj hlt
        · omega
      · rcases old hj with ⟨_, hj⟩ | ⟨rfl, _⟩
        · exact q5 j e' hj hlt
        · omega
    · rw [hm] at ho; cases ho
      obtain ⟨k1, k2⟩ := hdet han
      have hs := same (fun m => decide (m < es.length)) (by simp)
      have all1 : selPut c (ops.toList.zip es) 0 (fun m => decide (m < es.length)) = selPut c (ops.toList.zip es) 0 (fun _ => true) := by
        funext y; exact selPut_congr _ c c 0 _ _ rfl fun i p hp hne => by have := (List.getElem?_eq_some_iff.1 hp).1; rw [hzl] at this; simp at hne; omega
      have all2 : selObj ob (ops.toList.zip es) 0 (fun m => decide (m < es.length)) = selObj ob (ops.toList.zip es) 0 (fun _ => true) := by
        funext y; exact selObj_congr _ ob ob 0 _ _ rfl fun i p hp hne => by have := (List.getElem?_eq_some_iff.1 hp).1; rw [hzl] at this; simp at hne; omega
      refine ⟨st.next, st.t, h.nx, fun x => by rw [hs.1, all1, ← h.ct], by rw [hs.2, all2, ← h.co]; exact k1, fun j e' hj hlt => ?_, fun j e' hj hlt => ?_⟩
      · rcases old hj with ⟨_, hj⟩ | ⟨rfl, _⟩
        · exact h.lt j e' hj
        · omega
      · rcases old hj with ⟨_, hj⟩ | ⟨rfl, _⟩
        · exact k2 j e' hj
        · omega
  · rcases old hx with ⟨hi, hx⟩ | ⟨rfl, rfl⟩
    · obtain ⟨q1, bi, tc, q2, q3⟩ := h.anc i x hx han
      refine ⟨q1, bi, tc, q2, fun j e' hj hlt => ?_⟩
      rcases old hj with ⟨_, hj⟩ | ⟨rfl, _⟩
      · exact q3 j e' hj hlt
      · omega
    · obtain ⟨q1, bi, tc, q2, q3⟩ := hanc han
      refine ⟨q1, bi, tc, q2, fun j e' hj hlt => ?_⟩
      rcases old hj with ⟨_, hj⟩ | ⟨rfl, _⟩
      · exact q3 j e' hj
      · omega
theorem Pref.an_congr {an' : Nat → Bool} (h : Pref E ops nt bits c ob b an es st) (he : ∀ i, i < es.length → an' i = an i) : Pref E ops nt bits c ob b an' es st := by
  have lt : ∀ {i : Nat} {x : Eff S}, es[i]? = some x → i < es.length := fun hx => (List.getElem?_eq_some_iff.1 hx).1
  exact ⟨h.le, h.ct, h.co, h.nx, h.fr, h.lt, h.dst, fun i o x ho hx ha => h.det i o x ho hx (by rw [← he i (lt hx)]; exact ha), fun i x hx ha => h.anc i x hx (by rw [← he i (lt hx)]; exact ha)⟩
theorem Pref.same (h : Pref E ops nt bits c ob b an es st) {o : Oper} {e : Eff S} (hm : ops[es.length]? = some o) {D : Nat → Bool} (hD : D es.length = false) :
    selPut c (ops.toList.zip (es ++ [e])) 0 D = selPut c (ops.toList.zip es) 0 D ∧ selObj ob (ops.toList.zip (es ++ [e])) 0 D = selObj ob (ops.toList.zip es) 0 D := by
  rw [zip_snoc hm, selPut_snoc, selObj_snoc, zip_len h.le, Nat.zero_add, hD]
  exact ⟨if_neg (by simp), if_neg (by simp)⟩
theorem Pref.put (h : Pref E ops nt bits c ob b an es st) {o : Oper} {e : Eff S} (hm : ops[es.length]? = some o) {D D' : Nat → Bool} (hD : D' es.length = true) (hs : ∀ i, i < es.length → D' i = D i) :
    selPut c (ops.toList.zip (es ++ [e])) 0 D' = putDst (selPut c (ops.toList.zip es) 0 D) o.dst e.v ∧ selObj ob (ops.toList.zip (es ++ [e])) 0 D' = setAll (selObj ob (ops.toList.zip es) 0 D) e.wr := by
  have hzl := zip_len (ops := ops) h.le
  have e1 : selPut c (ops.toList.zip es) 0 D' = selPut c (ops.toList.zip es) 0 D := by
    funext y; exact selPut_congr _ c c 0 _ _ rfl fun i p hp hne => by
      have := (List.getElem?_eq_some_iff.1 hp).1; rw [hzl] at this; rw [Nat.zero_add] at hne; exact absurd (hs i this) hne
  have e2 : selObj ob (ops.toList.zip es) 0 D' = selObj ob (ops.toList.zip es) 0 D := by
    funext y; exact selObj_congr _ ob ob 0 _ _ rfl fun i p hp hne => by
      have := (List.getElem?_eq_some_iff.1 hp).1; rw [hzl] at this; rw [Nat.zero_add] at hne; exact absurd (hs i this) hne
  rw [zip_snoc hm, selPut_snoc, selObj_snoc, hzl, Nat.zero_add, hD, if_pos rfl, if_pos rfl, e1, e2]
  exact ⟨rfl, rfl⟩
theorem footOk_spec {fs : List Foot} {f : Nat → Foot → Bool} (h : (fs.zipIdx.all fun p => f p.2 p.1) = true) {j : Nat} {x : Foot} (hj : fs[j]? = some x) : f j x = true := by
  rw [List.all_eq_true] at h
  exact h (x, j) (by rw [List.mem_iff_getElem?]; exact ⟨j, by rw [List.getElem?_zipIdx, hj]; simp⟩)
/-- Up to the next call with many outcomes, or to the end. -/
theorem Pref.advance (hE : EnvOk E) (hf : CallfOK E) {H : Hint S} {R : Type} {k : St S → Option R} {r : R} : ∀ (n : Nat) (an : Nat → Bool) (es : List (Eff S)) (st : St S), ops.size - es.length ≤ n → Pref E ops nt bits c ob b an es st →
    runD E H nt bits (ops.toList.drop es.length) st (es.map Eff.foot) k = some r →
    ∃ (an' : Nat → Bool) (es' : List (Eff S)) (st' : St S), Pref E ops nt bits c ob b an' es' st' ∧ runD E H nt bits (ops.toList.drop es'.length) st' (es'.map Eff.foot) k = some r ∧
      (es'.length = ops.size ∨ ∃ o g args, ops[es'.length]? = some o ∧ multiCall H st'.t o = some (g, args)) ∧ es.length ≤ es'.length ∧ (∀ i, i < es.length → an' i = an i) ∧ (∀ i, es.length ≤ i → i < es'.length → an' i = false) ∧
      ∀ D : Nat → Bool, (∀ i, es.length ≤ i → D i = false) → selPut c (ops.toList.zip es') 0 D = selPut c (ops.toList.zip es) 0 D ∧ selObj ob (ops.toList.zip es') 0 D = selObj ob (ops.toList.zip es) 0 D := by
  intro n
  induction n with
  | zero =>
    intro an es st hn hp h
    exact ⟨an, es, st, hp, h, .inl (by have := hp.le; omega), Nat.le_refl _, fun _ _ => rfl, fun i h1 h2 => by omega, fun _ _ => ⟨rfl, rfl⟩⟩
  | succ n ih =>
    intro an es st hn hp h
    by_cases hlt : es.length < ops.size
    rotate_left
    · exact ⟨an, es, st, hp, h, .inl (by have := hp.le; omega), Nat.le_refl _, fun _ _ => rfl, fun i h1 h2 => by omega, fun _ _ => ⟨rfl, rfl⟩⟩
    obtain ⟨o, hm⟩ : ∃ o, ops[es.length]? = some o := ⟨_, Array.getElem?_eq_getElem hlt⟩
    have hdrop : ops.toList.drop es.length = o :: ops.toList.drop (es.length + 1) := by
      rw [List.drop_eq_getElem_cons (by simpa using hlt)]
      congr 1
      have := (Array.getElem?_eq_some_iff.1 hm).2
      simpa using this
    have h0 := h
    rw [hdrop] at h
    simp only [runD] at h
    split at h
    rotate_left
    · cases h
    rename_i hgd
    simp only [Bool.and_eq_true, Option.isNone_iff_eq_none] at hgd
    split at h
    · rename_i g args hmc
      exact ⟨an, es, st, hp, h0, .inr ⟨o, g, args, hm, hmc⟩, Nat.le_refl _, fun _ _ => rfl, fun i h1 h2 => by omega, fun _ _ => ⟨rfl, rfl⟩⟩
    · rw [opEvalF_eq] at h
      obtain ⟨e, hk, hok⟩ := op_sound hE hf h
      split at hk
      rotate_left
      · cases hk
      rename_i hft
      let an1 : Nat → Bool := fun i => if i = es.length then false else an i
      have hp1 : Pref E ops nt bits c ob b an1 es st := hp.an_congr fun i hi => if_neg (by omega)
      have hp2 : Pref E ops nt bits c ob b an1 (es ++ [e]) (st.after o e) := by
        refine hp1.snoc hm hgd hok.nx (fun p hpw => ?_) (fun n hn => hok.fresh hp.fr n hn) (fun _ => ⟨hok, fun j e' hj => ?_⟩) (fun ha => by simp [an1] at ha)
        · rcases hok.wr p hpw with h1 | ⟨_, h1⟩
          · exact h1.2
          · rcases Nat.lt_or_ge p.1 st.next with h2 | h2
            · exact Nat.lt_of_lt_of_le h2 hok.nx
            · exact absurd (hp.fr _ h2) h1
        · have := footOk_spec (f := fun j x => (bits.getD (es.map Eff.foot).length 0).testBit j || x.apart e.foot) hft (j := j) (x := e'.foot) (by rw [List.getElem?_map, hj]; rfl)
          simpa using this
      have hk' : runD E H nt bits (ops.toList.drop (es ++ [e]).length) (st.after o e) ((es ++ [e]).map Eff.foot) k = some r := by
        simpa using hk
      obtain ⟨an', es', st', q1, q2, q3, q4, q5, q6, q7⟩ := ih an1 (es ++ [e]) (st.after o e) (by simp; omega) hp2 hk'
      have hl : (es ++ [e]).length = es.length + 1 := by simp
      rw [hl] at q4 q5 q6 q7
      refine ⟨an', es', st', q1, q2, q3, by omega, fun i hi => ?_, fun i h1 h2 => ?_, fun D hD => ?_⟩
      · rw [q5 i (by omega)]; exact if_neg (by omega)
      · by_cases he : i = es.length
        · subst he; rw [q5 _ (by omega)]; exact if_pos rfl
        · exact q6 i (by omega) h2
      · obtain ⟨r1, r2⟩ := q7 D fun i hi => hD i (by omega)
        obtain ⟨r3, r4⟩ := hp.same (e := e) hm (hD es.length (Nat.le_refl _))
        exact ⟨r1.trans r3, r2.trans r4⟩
end
set_option maxHeartbeats 4000000 in
/-- A region whose order is drawn, with calls of many outcomes: whatever the order, it ends where the evaluator says. -/
theorem drawn_nd (hE : EnvOk E) (hf : CallfOK E) {H : Hint S} (hm : CallmOK E H) {ops : Array Oper} {nt : Nat} {B : Base} {Q : Exit → Act → World → Prop} {c : Nat → TV S} {ob : Nat → Option (Obj S)} {b : Nat} {R : Type} [Subsingleton R] {k : St S → Option R} {r : R}
    (hedge : edgesOk ops = true) (hpair : pairsOk (fun x y => x.apart ops y) (befores ops.toList []) ops.toList = true)
    (hB : B.m ≤ b) (h0 : ∀ n, b ≤ n → ob n = none) (hQ : ∀ st' a' w', k st' = some r → Inv E B nt st' a' w' → Q .normal a' w') :
    ∀ (fuel : Nat) (listed : Array Bool) (an : Nat → Bool) (es : List (Eff S)) (st : St S) (a : Act) (w : World) (φ : Phi) (M : Mem), listed.size = ops.size → (∀ i o, ops[i]? = some o → listed.getD i false = true → ∀ e ∈ o.after, Region.binds .any e = true → listed.getD e.on false = true) →
      unlisted ops.size (fun i => listed.getD i false) ≤ fuel → Pref E ops nt (befores ops.toList []) c ob b an es st → runD E H nt (befores ops.toList []) (ops.toList.drop es.length) st (es.map Eff.foot) k = some r →
      (es.length = ops.size ∨ ∃ o g args, ops[es.length]? = some o ∧ multiCall H st.t o = some (g, args)) → (∀ i, es.length ≤ i → listed.getD i false = false) → (∀ i, i < es.length → an i = true → listed.getD i false = true) →
      Rel E B nt (selPut c (ops.toList.zip es) 0 (fun i => listed.getD i false)) (selObj ob (ops.toList.zip es) 0 (fun i => listed.getD i false)) a w φ M → wpAny E.P .any ops Q fuel listed a w := by
  obtain ⟨bits, hbits1, hbits2, hbits3⟩ := befores_spec ops.toList []
  simp only [List.nil_append] at hbits1 hbits3
  have hbit : ∀ i, i < ops.size → ∃ s, (befores ops.toList [])[i]? = some s := fun i hi => ⟨_, List.getElem?_eq_getElem (by rw [hbits1, hbits2]; simpa using hi)⟩
  have getD_bit : ∀ {i s : Nat}, (befores ops.toList [])[i]? = some s → (befores ops.toList []).getD i 0 = s := fun h => by rw [List.getD_eq_getElem?_getD, h]; rfl
  have hblen : (befores ops.toList []).length = ops.size := by rw [hbits1, hbits2]; simp
  -- all have come up
  have allDone : ∀ (D : Nat → Bool) (an : Nat → Bool) (es : List (Eff S)) (st : St S) (a : Act) (w : World) (φ : Phi) (M : Mem), (∀ i, i < ops.size → D i = true) → (∀ i, es.length ≤ i → D i = false) → Pref E ops nt (befores ops.toList []) c ob b an es st → runD E H nt (befores ops.toList []) (ops.toList.drop es.length) st (es.map Eff.foot) k = some r →
      Rel E B nt (selPut c (ops.toList.zip es) 0 D) (selObj ob (ops.toList.zip es) 0 D) a w φ M → Q .normal a w := by
    intro D an es st a w φ M hD hDn hp hrun hrel
    have hlen : es.length = ops.size := by
      have := hp.le
      rcases Nat.lt_or_ge es.length ops.size with h1 | h1
      · have h2 := hD _ h1; rw [hDn _ (Nat.le_refl _)] at h2; cases h2
      · omega
    have e1 : selPut c (ops.toList.zip es) 0 D = st.t := by
      rw [hp.ct]; funext x
      exact selPut_congr _ c c 0 D _ rfl fun i p hp' hne => by
        have := (List.getElem?_eq_some_iff.1 hp').1; rw [zip_len hp.le] at this; rw [Nat.zero_add] at hne; exact absurd (hD i (by omega)) hne
    have e2 : selObj ob (ops.toList.zip es) 0 D = st.o := by
      rw [hp.co]; funext x
      exact selObj_congr _ ob ob 0 D _ rfl fun i p hp' hne => by
        have := (List.getElem?_eq_some_iff.1 hp').1; rw [zip_len hp.le] at this; rw [Nat.zero_add] at hne; exact absurd (hD i (by omega)) hne
    rw [e1, e2] at hrel
    rw [hlen, show ops.toList.drop ops.size = [] by simp] at hrun
    exact hQ st a w hrun ⟨φ, M, hrel, Nat.le_trans hB hp.nx, hp.fr⟩
  -- nothing can come up: all have
  have noneReady : ∀ (listed : Array Bool), listed.size = ops.size → Region.ready .any ops listed = [] → ∀ i, i < ops.size → listed.getD i false = true := by
    intro listed hsz hr i
    induction i using Nat.strongRecOn with
    | _ i ih =>
      intro hi
      cases hL : listed.getD i false with
      | true => rfl
      | false =>
        have hg : listed.getD i true = false := by
          have hlt : i < listed.size := by omega
          simp only [Array.getD_eq_getD_getElem?, Array.getElem?_eq_getElem hlt, Option.getD_some] at hL ⊢; exact hL
        have hmem : i ∈ Region.ready .any ops listed := by
          rw [mem_ready]
          refine ⟨hg, ops[i], Array.getElem?_eq_getElem hi, fun e he hb => ?_⟩
          have hlt := edges_spec hedge (Array.getElem?_eq_getElem hi) he hb
          exact ih e.on hlt (by omega)
        rw [hr] at hmem; cases hmem
  intro fuel
  induction fuel with
  | zero =>
    intro listed an es st a w φ M hsz hcl hf' hp hrun hnx hDn hDa hrel
    have hall : ∀ i, i < ops.size → listed.getD i false = true := by
      intro i hi
      cases hL : listed.getD i false with
      | true => rfl
      | false =>
        exfalso
        exact unlisted_pos hi hL hf'
    refine ⟨?_, allDone _ an es st a w φ M hall hDn hp hrun hrel⟩
    cases hr : Region.ready .any ops listed with
    | nil => rfl
    | cons i r =>
      have hm : i ∈ Region.ready .any ops listed := by rw [hr]; simp
      rw [mem_ready] at hm
      obtain ⟨h1, o, ho, _⟩ := hm
      have hi := (Array.getElem?_eq_some_iff.1 ho).1
      have h2 := hall i hi
      have hlt : i < listed.size := by omega
      simp only [Array.getD_eq_getD_getElem?, Array.getElem?_eq_getElem hlt, Option.getD_some] at h1 h2
      rw [h1] at h2; cases h2
  | succ fuel ih =>
    intro listed an es st a w φ M hsz hcl hfu hp hrun hnx hDn hDa hrel
    refine ⟨fun hr => allDone _ an es st a w φ M (noneReady listed hsz hr) hDn hp hrun hrel, fun i hi => ?_⟩
    rw [mem_ready] at hi
    obtain ⟨hun, o, ho, hall⟩ := hi
    have hio := (Array.getElem?_eq_some_iff.1 ho).1
    have hDi : listed.getD i false = false := by
      have hlt : i < listed.size := by omega
      simp only [Array.getD_eq_getD_getElem?, Array.getElem?_eq_getElem hlt, Option.getD_some] at hun ⊢; exact hun
    let D : Nat → Bool := fun i => listed.getD i false
    have hclD : ∀ i o, ops[i]? = some o → D i = true → ∀ e ∈ o.after, Region.binds .any e = true → D e.on = true := hcl
    obtain ⟨si, hsi⟩ := hbit i hio
    have hzl := zip_len (ops := ops) hp.le
    have ziff : ∀ (k : Nat) (p : Oper × Eff S), (ops.toList.zip es)[k]? = some p → ops[k]? = some p.1 ∧ es[k]? = some p.2 ∧ k < ops.size ∧ k < es.length := by
      intro k p hp'
      rw [List.getElem?_zip_eq_some] at hp'
      have h1 : ops[k]? = some p.1 := by simpa using hp'.1
      exact ⟨h1, hp'.2, (Array.getElem?_eq_some_iff.1 h1).1, (List.getElem?_eq_some_iff.1 hp'.2).1⟩
    -- what i waits for has come up
    have pred : ∀ k, si.testBit k = true → D k = true := fun k hb => bits_closed hedge hclD i o si ho hsi hall k hb
    have hszi : ∀ D' : Nat → Bool, (fun m => (listed.setIfInBounds i true).getD m false) = fun m => D m || decide (m = i) := by
      intro _
      funext m
      by_cases hm : m = i
      · subst hm
        have hlt : m < listed.size := by omega
        simp [Array.getD_eq_getD_getElem?, hlt]
      · simp only [hm, decide_false, Bool.or_false, D]
        rw [getD_set_ne false (Ne.symm hm)]
    have hDnew := hszi D
    have hcl' : ∀ j oj, ops[j]? = some oj → (listed.setIfInBounds i true).getD j false = true → ∀ ee ∈ oj.after, Region.binds .any ee = true → (listed.setIfInBounds i true).getD ee.on false = true := by
      intro j oj hj hLj ee hee hbe
      by_cases hji : j = i
      · subst hji
        rw [ho] at hj; cases hj
        exact getD_set_true (hall ee hee hbe)
      · rw [getD_set_ne false (Ne.symm hji)] at hLj
        exact getD_set_true (hcl j oj hj hLj ee hee hbe)
    have hfu' : unlisted ops.size (fun m => (listed.setIfInBounds i true).getD m false) ≤ fuel := by
      rw [hDnew]
      have := unlisted_step (D := D) hio hDi
      have hf' : unlisted ops.size D ≤ fuel + 1 := hfu
      omega
    -- those that differ between 'all before i' and what has come up: operations of the text
    have before : ∀ (k : Nat) (p : Oper × Eff S), (ops.toList.zip es)[k]? = some p → k < i → D k = false → p.1.apart ops o = true ∧ si.testBit k = false := by
      intro k p hp' hki hDk
      obtain ⟨g1, g2, g3, _⟩ := ziff k p hp'
      have hnot : si.testBit k ≠ true := by
        intro hb
        have := pred k hb
        rw [hDk] at this; cases this
      exact ⟨(pairs_spec hpair hki (by simpa using g1) (by simpa using ho) hsi (hbit k g3)).resolve_left hnot, by simpa using hnot⟩
    rcases Nat.lt_trichotomy i es.length with hlt | heq | hgt
    · -- an operation that the evaluator has seen
      have han : an i = false := by
        cases h : an i with
        | false => rfl
        | true => have := hDa i hlt h; rw [hDi] at this; cases this
      obtain ⟨e, he⟩ : ∃ e, es[i]? = some e := ⟨_, List.getElem?_eq_getElem hlt⟩
      obtain ⟨hgd, hd⟩ := hp.dst i o hlt ho
      obtain ⟨bi, t, q1, q2, hok, q3, q4⟩ := hp.det i o e ho he han
      have behind : ∀ (k : Nat) (p : Oper × Eff S), (ops.toList.zip es)[k]? = some p → i < k → D k = true → o.apart ops p.1 = true ∧ (e.foot.apart p.2.foot = true ∨ (e.wr = [] ∧ ∀ n ∈ e.rd, n ∉ p.2.wr.map (·.1))) := by
        intro k p hp' hki hDk
        obtain ⟨g1, g2, g3, _⟩ := ziff k p hp'
        obtain ⟨sk, hsk⟩ := hbit k g3
        have hnot : sk.testBit i ≠ true := by
          intro hb
          have := bits_closed hedge hclD k p.1 sk g1 hsk (hclD k p.1 g1 hDk) i hb
          simp only [D] at this; rw [hDi] at this; cases this
        refine ⟨(pairs_spec hpair hki (by simpa using ho) (by simpa using g1) hsk (hbit i hio)).resolve_left hnot, ?_⟩
        cases hak : an k with
        | false =>
          obtain ⟨_, _, _, _, _, _, q5⟩ := hp.det k p.1 p.2 g1 g2 hak
          have := q5 i e he hki
          rw [getD_bit hsk] at this
          exact .inl (this.resolve_left hnot)
        | true =>
          obtain ⟨_, bk, tc, q5, q6⟩ := hp.anc k p.2 g2 hak
          have := q6 i e he hki
          rw [getD_bit hsk] at this
          obtain ⟨h1, h2⟩ := this.resolve_left hnot
          refine .inr ⟨h1, fun n hn hc => ?_⟩
          obtain ⟨pr, hpr, rfl⟩ := List.mem_map.1 hc
          obtain ⟨h3, h4⟩ := h2 _ hn
          rcases q5 pr hpr with h5 | h5
          · exact h3 h5
          · omega
      have ahead : ∀ (k : Nat) (p : Oper × Eff S), (ops.toList.zip es)[k]? = some p → k < i → D k = false → p.2.foot.apart e.foot = true := by
        intro k p hp' hki hDk
        obtain ⟨g1, g2, g3, _⟩ := ziff k p hp'
        have := q4 k p.2 g2 hki
        rw [getD_bit hsi] at this
        exact this.resolve_left (by rw [(before k p hp' hki hDk).2]; simp)
      have slot : ∀ x, x ∈ o.looksAt ops → selPut c (ops.toList.zip es) 0 D x = selPut c (ops.toList.zip es) 0 (fun m => decide (m < i)) x := by
        intro x hx
        refine selPut_congr _ c c 0 _ _ rfl fun k p hp' hne => ?_
        rw [Nat.zero_add] at hne
        intro hdst
        by_cases hki : k < i
        · have hDk : D k = false := dif_lt hne hki
          exact (Oper.apart_spec (before k p hp' hki hDk).1).1 x hdst hx
        · have hDk : D k = true := dif_ge hne hki
          have hki2 : i < k := by
            rcases Nat.lt_or_eq_of_le (Nat.le_of_not_lt hki) with h | h
            · exact h
            · subst h; simp only [D] at hDk; rw [hDi] at hDk; cases hDk
          exact (Oper.apart_spec (behind k p hp' hki2 hDk).1).2.2 x hdst hx
      have hzi : (ops.toList.zip es)[i]? = some (o, e) := by rw [List.getElem?_zip_eq_some]; exact ⟨by simpa using ho, he⟩
      have hslotNew : selPut c (ops.toList.zip es) 0 (fun m => D m || decide (m = 0 + i)) = putDst (selPut c (ops.toList.zip es) 0 D) o.dst e.v := by
        funext x
        exact selPut_insert (x := x) _ c 0 i D (o, e) hzi (by rw [Nat.zero_add]; exact hDi) (fun j q hj hij hDj hdx => by
          rw [Nat.zero_add] at hDj
          exact (Oper.apart_spec (behind j q hj hij hDj).1).2.1 x hdx)
      have hobjNew : selObj ob (ops.toList.zip es) 0 (fun m => D m || decide (m = 0 + i)) = setAll (selObj ob (ops.toList.zip es) 0 D) e.wr := by
        funext n
        exact selObj_insert (n := n) _ ob 0 i D (o, e) hzi (by rw [Nat.zero_add]; exact hDi) (fun j q hj hij hDj hni hnj => by
          rw [Nat.zero_add] at hDj
          rcases (behind j q hj hij hDj).2 with hap | ⟨hw, _⟩
          · unfold Foot.apart at hap
            simp only [Eff.foot, Bool.or_eq_true, Bool.and_eq_true, List.isEmpty_iff] at hap
            rcases hap with ⟨h1, _⟩ | ⟨⟨h1, _⟩, _⟩
            · rw [h1] at hni; simp at hni
            · exact disj_spec h1 hni hnj
          · rw [hw] at hni; simp at hni)
      rw [Nat.zero_add] at hslotNew hobjNew
      have hnext : ∀ (a' : Act) (w' : World), (∃ φ' M', Rel E B nt (putDst (selPut c (ops.toList.zip es) 0 D) o.dst e.v) (setAll (selObj ob (ops.toList.zip es) 0 D) e.wr) a' w' φ' M') → wpAny E.P .any ops Q fuel (listed.setIfInBounds i true) a' w' := by
        rintro a' w' ⟨φ', M', hrel'⟩
        refine ih (listed.setIfInBounds i true) an es st a' w' φ' M' (by simpa using hsz) hcl' hfu' hp hrun hnx (fun j hj => ?_) (fun j hj ha => getD_set_true (hDa j hj ha)) ?_
        · rw [getD_set_ne false (by omega)]; exact hDn j hj
        · rw [hDnew, hslotNew, hobjNew]; exact hrel'
      unfold wpOp
      simp only [ho]
      rw [wanted_model (b := true) hrel (by unfold wantedT; rw [hgd])]
      simp only [if_true]
      left
      unfold Oper.wp
      refine Oper.wp_mono (o := o) (a := a) (w := w) (K := fun a' w' => ∃ φ' M', Rel E B nt (putDst (selPut c (ops.toList.zip es) 0 D) o.dst e.v) (setAll (selObj ob (ops.toList.zip es) 0 D) e.wr) a' w' φ' M') hnext ?_
      refine hok.run B nt _ _ a w φ M Q hd (fun x hx => ?_) (fun n hn => ?_) (fun n h1 h2 => ?_) (Nat.le_trans hB q1) hrel
      · have := hrel.ev x
        cases x with
        | tmp j =>
          show VR E φ M (t j) _
          rw [q2 j, ← slot j (looks_operand hx)]; exact this
        | const v => exact this
        | func f => exact this
        | global g => exact this
      · -- objects that i reads
        refine selObj_congr _ ob ob 0 _ _ rfl fun k p hp' hne hnk => ?_
        rw [Nat.zero_add] at hne
        by_cases hki : k < i
        · have hDk : D k = false := dif_lt hne hki
          have hap := ahead k p hp' hki hDk
          unfold Foot.apart at hap
          simp only [Eff.foot, Bool.or_eq_true, Bool.and_eq_true, List.isEmpty_iff] at hap
          rcases hap with ⟨h1, _⟩ | ⟨⟨_, h2⟩, _⟩
          · rw [h1] at hnk; simp at hnk
          · rcases h2 with h2 | h2
            · rw [h2] at hnk; simp at hnk
            · exact disj_spec h2 hnk hn
        · have hDk : D k = true := dif_ge hne hki
          have hki2 : i < k := by
            rcases Nat.lt_or_eq_of_le (Nat.le_of_not_lt hki) with h | h
            · exact h
            · subst h; simp only [D] at hDk; rw [hDi] at hDk; cases hDk
          rcases (behind k p hp' hki2 hDk).2 with hap | ⟨_, hrd⟩
          · unfold Foot.apart at hap
            simp only [Eff.foot, Bool.or_eq_true, Bool.and_eq_true, List.isEmpty_iff] at hap
            rcases hap with ⟨_, h1⟩ | ⟨_, h3⟩
            · rw [h1] at hnk; simp at hnk
            · rcases h3 with h3 | h3
              · rw [h3] at hnk; simp at hnk
              · exact disj_spec h3 hnk hn
          · exact hrd n hn hnk
      · -- names that i makes are free
        have hini : selObj ob (ops.toList.zip es) 0 (fun _ => false) n = none := by
          have : ∀ (l : List (Oper × Eff S)) (c : Nat → Option (Obj S)) (k : Nat), selObj c l k (fun _ => false) = c := by
            intro l
            induction l with
            | nil => intro c k; rfl
            | cons p r ih => intro c k; exact ih c (k + 1)
          rw [this]; exact h0 n (Nat.le_trans q1 h1)
        rw [← hini]
        refine selObj_congr _ ob ob 0 _ _ rfl fun k p hp' hne hnk => ?_
        rw [Nat.zero_add] at hne
        have hDk : D k = true := by
          cases hD : D k with
          | true => rfl
          | false => exact absurd hD hne
        obtain ⟨g1, g2, g3, _⟩ := ziff k p hp'
        have hnew := hok.new n h1 h2
        by_cases hki : k < i
        · simp only [List.mem_map] at hnk
          obtain ⟨pr, hpr, rfl⟩ := hnk
          have := q3 k p.2 g2 hki pr hpr
          omega
        · have hki2 : i < k := by
            rcases Nat.lt_or_eq_of_le (Nat.le_of_not_lt hki) with h | h
            · exact h
            · subst h; simp only [D] at hDk; rw [hDi] at hDk; cases hDk
          rcases (behind k p hp' hki2 hDk).2 with hap | ⟨hw, _⟩
          · unfold Foot.apart at hap
            simp only [Eff.foot, Bool.or_eq_true, Bool.and_eq_true, List.isEmpty_iff] at hap
            rcases hap with ⟨h3, _⟩ | ⟨⟨h3, _⟩, _⟩
            · rw [h3] at hnew; simp at hnew
            · exact disj_spec h3 hnew hnk
          · rw [hw] at hnew; simp at hnew
    · -- the call
      subst heq
      obtain ⟨o', g, as, ho', hmc⟩ := hnx.resolve_left (by omega)
      rw [ho] at ho'; cases ho'
      have hdrop : ops.toList.drop es.length = o :: ops.toList.drop (es.length + 1) := by
        rw [List.drop_eq_getElem_cons (by simpa using hio)]
        congr 1
        have := (Array.getElem?_eq_some_iff.1 ho).2
        simpa using this
      rw [hdrop] at hrun
      simp only [runD] at hrun
      split at hrun
      rotate_left
      · cases hrun
      rename_i hgd
      simp only [Bool.and_eq_true, Option.isNone_iff_eq_none] at hgd
      rw [hmc] at hrun
      simp only at hrun
      split at hrun
      · cases hrun
      rename_i args' hshare
      split at hrun
      rotate_left
      · cases hrun
      rename_i hcond
      simp only [Bool.and_eq_true, List.all_eq_true] at hcond
      obtain ⟨hbeh, hflo⟩ := hcond
      obtain ⟨f, args, ts, cap, hop, hg, rfl⟩ := multiCall_spec hmc
      have float : ∀ (j : Nat) (e' : Eff S), es[j]? = some e' → ((befores ops.toList []).getD es.length 0).testBit j = true ∨ (e'.wr = [] ∧ ∀ n ∈ e'.rd, n ∉ reach st.o 400 (namesL args') [] ∧ n < st.next) := by
        intro j e' hj
        have := footOk_spec (f := fun j x => ((befores ops.toList []).getD (es.map Eff.foot).length 0).testBit j || (x.wr.isEmpty && match x.rd with
          | some rd => disj rd (reach st.o 400 (namesL args') []) && rd.all fun n => decide (n < st.next)
          | none => false)) hflo (j := j) (x := e'.foot) (by rw [List.getElem?_map, hj]; rfl)
        simp only [Eff.foot, List.length_map, Bool.or_eq_true, Bool.and_eq_true, List.isEmpty_iff, List.map_eq_nil_iff, List.all_eq_true, decide_eq_true_eq] at this
        rcases this with h1 | ⟨h1, h2, h3⟩
        · exact .inl h1
        · exact .inr ⟨h1, fun n hn => ⟨fun hc => disj_spec h2 hn hc, h3 n hn⟩⟩
      have quiet : ∀ (k : Nat) (p : Oper × Eff S), (ops.toList.zip es)[k]? = some p → D k = false → p.2.wr = [] := by
        intro k p hp' hDk
        obtain ⟨g1, g2, g3, g4⟩ := ziff k p hp'
        have := float k p.2 g2
        rw [getD_bit hsi, (before k p hp' g4 hDk).2] at this
        exact (this.resolve_left (by simp)).1
      have hobj : selObj ob (ops.toList.zip es) 0 D = st.o := by
        rw [hp.co]; funext n
        exact selObj_congr _ ob ob 0 _ _ rfl fun k p hp' hne hnk => by
          rw [Nat.zero_add] at hne
          have hDk : D k = false := by simpa using hne
          rw [quiet k p hp' hDk] at hnk; simp at hnk
      have hslot : ∀ x, x ∈ o.looksAt ops → selPut c (ops.toList.zip es) 0 D x = st.t x := by
        intro x hx
        rw [hp.ct]
        refine selPut_congr _ c c 0 _ _ rfl fun k p hp' hne => ?_
        rw [Nat.zero_add] at hne
        have hDk : D k = false := by simpa using hne
        intro hdst
        exact (Oper.apart_spec (before k p hp' (ziff k p hp').2.2.2 hDk).1).1 x hdst hx
      have hrel0 : Rel E B nt (selPut c (ops.toList.zip es) 0 D) (selObj ob (ops.toList.zip es) 0 D) a w φ M := hrel
      rw [hobj] at hrel0
      have hcall := ok_callM' hE hm hop hg hshare rfl hrun B nt a w φ M Q hgd.2 (fun x hx => by
        have := hrel0.ev x
        cases x with
        | tmp j =>
          show VR E φ M (st.t j) _
          rw [← hslot j (looks_operand hx)]; exact this
        | const v => exact this
        | func f => exact this
        | global g => exact this) (fun _ _ => rfl) hp.fr (Nat.le_trans hB hp.nx) hrel0
      unfold wpOp
      simp only [ho]
      rw [wanted_model (b := true) hrel0 (by unfold wantedT; rw [hgd.1])]
      simp only [if_true]
      left
      unfold Oper.wp
      refine Oper.wp_mono (o := o) (a := a) (w := w) (K := _) ?_ hcall
      rintro a' w' ⟨ef, hk, e2, e3, e4, φ', M', hrel'⟩
      let an1 : Nat → Bool := fun i => if i = es.length then true else an i
      have hp1 : Pref E ops nt (befores ops.toList []) c ob b an1 es st := hp.an_congr fun i hi => if_neg (by omega)
      have hp2 : Pref E ops nt (befores ops.toList []) c ob b an1 (es ++ [ef]) (st.after o ef) := by
        refine hp1.snoc ho hgd e2 (fun p hpw => ?_) (fun n hn => ?_) (fun ha => by simp [an1] at ha) (fun _ => ⟨fun j h1 h2 => ?_, st.next, reach st.o 400 (namesL args') [], fun p hpw => ?_, float⟩)
        · rcases e3 p hpw with h1 | h1
          · obtain ⟨x, hx⟩ := e4 _ h1
            rcases Nat.lt_or_ge p.1 st.next with h2 | h2
            · exact Nat.lt_of_lt_of_le h2 e2
            · rw [hp.fr _ h2] at hx; cases hx
          · exact h1.2
        · by_cases hmem : n ∈ ef.wr.map (·.1)
          · exfalso
            obtain ⟨p, hpw, rfl⟩ := List.mem_map.1 hmem
            rcases e3 p hpw with h2 | h2
            · obtain ⟨x, hx⟩ := e4 _ h2
              rw [hp.fr _ (by omega)] at hx; cases hx
            · omega
          · rw [setAll_not _ _ hmem]; exact hp.fr n (by omega)
        · obtain ⟨sj, hsj⟩ := hbit j h2
          rw [getD_bit hsj]
          have := hbeh sj (by
            rw [List.mem_iff_getElem?]
            exact ⟨j - (es.length + 1), by rw [List.getElem?_drop, List.length_map, show es.length + 1 + (j - (es.length + 1)) = j by omega]; exact hsj⟩)
          simpa using this
        · rcases e3 p hpw with h1 | h1
          · exact .inl h1
          · exact .inr h1.1
      have hk' : runD E H nt (befores ops.toList []) (ops.toList.drop (es ++ [ef]).length) (st.after o ef) ((es ++ [ef]).map Eff.foot) k = some r := by simpa using hk
      obtain ⟨an', es', st', r1, r2, r3, r4, r5, r6, r7⟩ := Pref.advance hE hf _ an1 (es ++ [ef]) (st.after o ef) (Nat.le_refl _) hp2 hk'
      have hl : (es ++ [ef]).length = es.length + 1 := by simp
      rw [hl] at r4 r5 r6 r7
      have hself : (listed.setIfInBounds es.length true).getD es.length false = true := by
        have hlt : es.length < listed.size := by omega
        simp [Array.getD_eq_getD_getElem?, hlt]
      have hout : ∀ j, es.length + 1 ≤ j → (listed.setIfInBounds es.length true).getD j false = false := fun j hj => by
        rw [getD_set_ne false (by omega)]; exact hDn j (by omega)
      refine ih (listed.setIfInBounds es.length true) an' es' st' a' w' φ' M' (by simpa using hsz) hcl' hfu' r1 r2 r3 (fun j hj => hout j (by omega)) (fun j hj ha => ?_) ?_
      · rcases Nat.lt_or_ge j (es.length + 1) with h1 | h1
        · by_cases hje : j = es.length
          · subst hje; exact hself
          · rw [r5 j h1] at ha
            have ha' : an j = true := by rw [← ha]; exact (if_neg hje).symm
            exact getD_set_true (hDa j (by omega) ha')
        · rw [r6 j h1 hj] at ha; cases ha
      · obtain ⟨u1, u2⟩ := r7 (fun m => (listed.setIfInBounds es.length true).getD m false) hout
        obtain ⟨u3, u4⟩ := hp.put (e := ef) ho (D := D) (D' := fun m => (listed.setIfInBounds es.length true).getD m false) hself (fun m hm => getD_set_ne false (by omega))
        rw [u1, u2, u3, u4, hobj]
        exact hrel'
    · -- behind the call: it waits for it
      exfalso
      obtain ⟨o', g, as, ho', hmc⟩ := hnx.resolve_left (by omega)
      have hm' := (Array.getElem?_eq_some_iff.1 ho').1
      have hdrop : ops.toList.drop es.length = o' :: ops.toList.drop (es.length + 1) := by
        rw [List.drop_eq_getElem_cons (by simpa using hm')]
        congr 1
        have := (Array.getElem?_eq_some_iff.1 ho').2
        simpa using this
      rw [hdrop] at hrun
      simp only [runD] at hrun
      split at hrun
      rotate_left
      · cases hrun
      rw [hmc] at hrun
      simp only at hrun
      split at hrun
      · cases hrun
      split at hrun
      rotate_left
      · cases hrun
      rename_i hcond
      simp only [Bool.and_eq_true, List.all_eq_true] at hcond
      have := hcond.1 si (by
        rw [List.mem_iff_getElem?]
        exact ⟨i - (es.length + 1), by rw [List.getElem?_drop, List.length_map, show es.length + 1 + (i - (es.length + 1)) = i by omega]; exact hsi⟩)
      have h2 := pred es.length (by simpa using this)
      simp only [D] at h2
      rw [hDn _ (Nat.le_refl _)] at h2; cases h2

theorem wpAny_perm {P : Program} {Q : Exit → Act → World → Prop} {ops ops' : Array Oper} {n : Nat} {ρ : Nat → Nat} (hn : ops.size = n) (hn' : ops'.size = n) (hρ : ∀ i, i < n → ρ i < n) (hinj : ∀ i j, i < n → j < n → ρ i = ρ j → i = j) (hsur : ∀ j, j < n → ∃ i, i < n ∧ ρ i = j)
    (hop : ∀ i o, ops[i]? = some o → ops'[ρ i]? = some (reOper ρ o) ∧ o.guard = none ∧ ∀ e ∈ o.after, e.on < n) :
    ∀ (fuel : Nat) (listed listed' : Array Bool) (a : Act) (w : World), listed.size = n → listed'.size = n → (∀ i, i < n → listed'.getD (ρ i) false = listed.getD i false) → wpAny P .any ops' Q fuel listed' a w → wpAny P .any ops Q fuel listed a w := by
  have getD2 : ∀ (l : Array Bool) (i : Nat), i < l.size → l.getD i true = l.getD i false := fun l i h => by simp only [Array.getD_eq_getD_getElem?, Array.getElem?_eq_getElem h, Option.getD_some]
  have hready : ∀ (listed listed' : Array Bool), listed.size = n → listed'.size = n → (∀ i, i < n → listed'.getD (ρ i) false = listed.getD i false) → ∀ i, i < n → (i ∈ Region.ready .any ops listed ↔ ρ i ∈ Region.ready .any ops' listed') := by
    intro listed listed' hs hs' hl i hi
    rw [mem_ready, mem_ready, getD2 _ _ (by omega), getD2 _ _ (by rw [hs']; exact hρ i hi), hl i hi]
    obtain ⟨o, ho⟩ : ∃ o, ops[i]? = some o := ⟨_, Array.getElem?_eq_getElem (by omega)⟩
    obtain ⟨h1, _, h3⟩ := hop i o ho
    refine and_congr Iff.rfl ⟨fun ⟨o', ho', h⟩ => ⟨_, h1, fun e he hb => ?_⟩, fun ⟨o', ho', h⟩ => ⟨o, ho, fun e he hb => ?_⟩⟩
    · rw [ho] at ho'; cases ho'
      simp only [reOper, Array.mem_map] at he
      obtain ⟨e0, he0, rfl⟩ := he
      show listed'.getD (ρ e0.on) false = true
      rw [hl _ (h3 e0 he0)]
      exact h e0 he0 hb
    · rw [h1] at ho'; cases ho'
      have := h { e with on := ρ e.on } (by simp only [reOper, Array.mem_map]; exact ⟨e, he, rfl⟩) hb
      rw [← hl _ (h3 e he)]; exact this
  have hnil : ∀ (listed listed' : Array Bool), listed.size = n → listed'.size = n → (∀ i, i < n → listed'.getD (ρ i) false = listed.getD i false) → (Region.ready .any ops listed = [] ↔ Region.ready .any ops' listed' = []) := by
    intro listed listed' hs hs' hl
    constructor
    · intro h
      rw [List.eq_nil_iff_forall_not_mem]
      intro j hj
      have hjn : j < n := by rw [mem_ready] at hj; obtain ⟨_, o, ho, _⟩ := hj; have := (Array.getElem?_eq_some_iff.1 ho).1; omega
      obtain ⟨i, hi, rfl⟩ := hsur j hjn
      have := (hready listed listed' hs hs' hl i hi).2 hj
      rw [h] at this; cases this
    · intro h
      rw [List.eq_nil_iff_forall_not_mem]
      intro i hi
      have hin : i < n := by rw [mem_ready] at hi; obtain ⟨_, o, ho, _⟩ := hi; have := (Array.getElem?_eq_some_iff.1 ho).1; omega
      have := (hready listed listed' hs hs' hl i hin).1 hi
      rw [h] at this; cases this
  intro fuel
  induction fuel with
  | zero => exact fun listed listed' a w hs hs' hl ⟨h1, h2⟩ => ⟨(hnil listed listed' hs hs' hl).2 h1, h2⟩
  | succ fuel ih =>
    intro listed listed' a w hs hs' hl ⟨h1, h2⟩
    refine ⟨fun h => h1 ((hnil listed listed' hs hs' hl).1 h), fun i hi => ?_⟩
    obtain ⟨o, ho⟩ : ∃ o, ops[i]? = some o := by rw [mem_ready] at hi; obtain ⟨_, o, ho, _⟩ := hi; exact ⟨o, ho⟩
    have hin : i < n := by have := (Array.getElem?_eq_some_iff.1 ho).1; omega
    obtain ⟨k1, k2, k3⟩ := hop i o ho
    have h3 := h2 (ρ i) ((hready listed listed' hs hs' hl i hin).1 hi)
    have hnext : ∀ a w, wpAny P .any ops' Q fuel (listed'.setIfInBounds (ρ i) true) a w → wpAny P .any ops Q fuel (listed.setIfInBounds i true) a w := fun a w => by
      refine ih _ _ a w (by simpa using hs) (by simpa using hs') fun j hj => ?_
      by_cases hji : j = i
      · subst hji
        have p1 : ρ j < listed'.size := by rw [hs']; exact hρ j hj
        have p2 : j < listed.size := by omega
        simp [Array.getD_eq_getD_getElem?, p1, p2]
      · rw [getD_set_ne false (Ne.symm hji), getD_set_ne false (fun hc => hji (hinj j i hj hin hc.symm))]
        exact hl j hj
    unfold wpOp at h3 ⊢
    simp only [k1, ho] at h3 ⊢
    have w1 : ∀ t, Region.wanted (reOper ρ o) t = true := fun t => by unfold Region.wanted; rw [show (reOper ρ o).guard = none from k2]
    have w2 : ∀ t, Region.wanted o t = true := fun t => by unfold Region.wanted; rw [k2]
    rw [w1] at h3
    rw [w2]
    simp only [if_true] at h3 ⊢
    rcases h3 with h3 | h3
    · left
      obtain ⟨dst, op, ty, pos, after, guard⟩ := o
      exact Oper.wp_mono hnext h3
    · right
      obtain ⟨dst, op, ty, pos, after, guard⟩ := o
      exact h3
theorem filterMap_get {α β : Type} (f : α → Option β) : ∀ (l : List α), (∀ x ∈ l, ∃ y, f x = some y) → ∀ (i : Nat), (l.filterMap f)[i]? = (l[i]?).bind f
  | [], _, i => by simp
  | x :: r, h, i => by
    obtain ⟨y, hy⟩ := h x (by simp)
    rw [List.filterMap_cons_some hy]
    cases i with
    | zero => simp [hy]
    | succ i => simpa using filterMap_get f r (fun z hz => h z (by simp [hz])) i
theorem filterMap_len {α β : Type} (f : α → Option β) : ∀ (l : List α), (∀ x ∈ l, ∃ y, f x = some y) → (l.filterMap f).length = l.length
  | [], _ => rfl
  | x :: r, h => by
    obtain ⟨y, hy⟩ := h x (by simp)
    rw [List.filterMap_cons_some hy, List.length_cons, List.length_cons, filterMap_len f r fun z hz => h z (by simp [hz])]
theorem selPut_off : ∀ (l : List (Oper × Eff S)) (c : Nat → TV S) (k : Nat), selPut c l k (fun _ => false) = c := by
  intro l
  induction l with
  | nil => intro c k; rfl
  | cons p r ih => intro c k; exact ih c (k + 1)
theorem selObj_off : ∀ (l : List (Oper × Eff S)) (c : Nat → Option (Obj S)) (k : Nat), selObj c l k (fun _ => false) = c := by
  intro l
  induction l with
  | nil => intro c k; rfl
  | cons p r ih => intro c k; exact ih c (k + 1)
theorem regionP_wp (hE : EnvOk E) (hf : CallfOK E) {H : Hint S} (hm : CallmOK E H) {nt : Nat} {π : List Nat} {ops : Array Oper} {R : Type} [Subsingleton R] {st : St S} {k : St S → Option R} {r : R} (h : regionP E H nt π ops st k = some r)
    (id : Nat) (B : Base) (Q : Exit → Act → World → Prop) (a : Act) (w : World) (hi : Inv E B nt st a w) (hQ : ∀ st' a' w', k st' = some r → Inv E B nt st' a' w' → Q .normal a' w') : (Code.region id ops true).wp E.P Q a w := by
  unfold regionP at h
  split at h
  rotate_left
  · cases h
  rename_i hpm
  unfold permOk at hpm
  simp only [Bool.and_eq_true, decide_eq_true_eq, List.all_eq_true, List.mem_range, List.contains_iff_mem, Option.isNone_iff_eq_none, Array.mem_toList_iff] at hpm
  obtain ⟨⟨⟨hlen, hcov⟩, hinv⟩, hops⟩ := hpm
  unfold regionD at h
  split at h
  rotate_left
  · cases h
  rename_i hchk
  simp only [Bool.and_eq_true] at hchk
  obtain ⟨hedge, hpair⟩ := hchk
  obtain ⟨φ, M, hrel, hB, h0⟩ := hi
  have hget : ∀ i, i < ops.size → π.idxOf i < ops.size ∧ π[π.idxOf i]? = some i := fun i hi => by
    have h1 := List.idxOf_lt_length_of_mem (hcov i hi)
    exact ⟨by omega, get_idx (hcov i hi)⟩
  have hπ : ∀ j, j < ops.size → ∃ i, i < ops.size ∧ π[j]? = some i ∧ π.idxOf i = j := by
    intro j hj
    have h1 := hinv j (by omega)
    obtain ⟨i, hi⟩ : ∃ i, π[j]? = some i := ⟨_, List.getElem?_eq_getElem (by omega)⟩
    rw [hi] at h1
    simp only [Bool.and_eq_true, decide_eq_true_eq, beq_iff_eq] at h1
    exact ⟨i, h1.1, hi, h1.2⟩
  have hmem : ∀ i ∈ π, i < ops.size := by
    intro i hi
    obtain ⟨j, hj⟩ := List.mem_iff_getElem?.1 hi
    have hjl := (List.getElem?_eq_some_iff.1 hj).1
    obtain ⟨i', h1, h2, _⟩ := hπ j (by omega)
    rw [hj] at h2; cases h2; exact h1
  have hfm : ∀ x ∈ π, ∃ y, (fun i => (ops[i]?).map (reOper fun j => π.idxOf j)) x = some y := fun x hx => by
    obtain ⟨o, ho⟩ : ∃ o, ops[x]? = some o := ⟨_, Array.getElem?_eq_getElem (hmem x hx)⟩
    exact ⟨reOper (fun j => π.idxOf j) o, by simp only [ho, Option.map_some]⟩
  have hsz : (permOps π ops).size = ops.size := by
    unfold permOps
    rw [List.size_toArray, filterMap_len _ _ hfm, hlen]
  refine wp_region_any hE.mixed ?_
  refine wpAny_perm (n := ops.size) (ρ := fun j => π.idxOf j) rfl hsz (fun i hi => (hget i hi).1) (fun i j hi hj he => ?_) (fun j hj => ?_) (fun i o ho => ?_) ops.size _ (Array.replicate ops.size false) a _ (by simp) (by simp) (fun i hi => ?_) ?_
  · have h1 := (hget i hi).2
    have h2 := (hget j hj).2
    rw [show π.idxOf i = π.idxOf j from he, h2] at h1
    exact (Option.some.inj h1).symm
  · obtain ⟨i, h1, _, h3⟩ := hπ j hj
    exact ⟨i, h1, h3⟩
  · have hio := (Array.getElem?_eq_some_iff.1 ho).1
    refine ⟨?_, ?_, ?_⟩
    · unfold permOps
      rw [List.getElem?_toArray, filterMap_get _ _ hfm, (hget i hio).2]
      simp [ho]
    · exact (hops o (Array.mem_of_getElem? ho)).1
    · exact fun e he => (hops o (Array.mem_of_getElem? ho)).2 e he
  · have hf0 : ∀ j, (Array.replicate ops.size false).getD j false = false := fun j => by
      rw [Array.getD_eq_getD_getElem?, Array.getElem?_replicate]
      split <;> rfl
    rw [hf0, hf0]
  · have hfalse : (fun i => (Array.replicate ops.size false).getD i false) = fun _ => false := by
      funext i
      rw [Array.getD_eq_getD_getElem?, Array.getElem?_replicate]
      split <;> rfl
    have hp0 : Pref E (permOps π ops) nt (befores (permOps π ops).toList []) st.t st.o st.next (fun _ => false) [] st := by
      refine ⟨by simp, ?_, ?_, Nat.le_refl _, h0, ?_, ?_, ?_, ?_⟩
      · simp [selPut]
      · simp [selObj]
      all_goals simp
    obtain ⟨an', es', st', r1, r2, r3, r4, r5, r6, r7⟩ := Pref.advance hE hf _ (fun _ => false) [] st (Nat.le_refl _) hp0 (by simpa using h)
    refine drawn_nd hE hf hm (Q := Q) (B := B) hedge hpair hB h0 hQ ops.size (Array.replicate ops.size false) an' es' st' a _ φ M (by simp [hsz]) (fun i o _ hl => ?_) ?_ r1 r2 r3 (fun i _ => congrFun hfalse i) (fun i hi ha => ?_) ?_
    · have := congrFun hfalse i
      rw [this] at hl; cases hl
    · unfold unlisted
      refine Nat.le_trans (List.length_filter_le _ _) (by simp [hsz])
    · rw [r6 i (by simp) hi] at ha; cases ha
    · rw [hfalse, selPut_off, selObj_off]
      exact ⟨hrel.slots, hrel.nt, hrel.defers, hrel.mem.drew⟩
end TE
