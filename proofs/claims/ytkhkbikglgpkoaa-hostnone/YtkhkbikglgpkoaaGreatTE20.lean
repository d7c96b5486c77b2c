/- TE: ranges over maps that go all ways. -/
import Derived.Test.YtkhkbikglgpkoaaGreatTED
namespace TE
open Go
variable {S : Sig} {E : Env S}

theorem loopsOK_none' {H : Hint S} {m nt N : Nat} (h : ∀ cur hh, H.loops cur = some hh → hh.oracle = none) (hc : ∀ i, H.cuts i = none) : ∀ (c : Code) (cur : Nat), LoopsOK E H m nt N c cur := by
  intro c
  induction c with
  | seq a b iha ihb =>
    refine fun cur => ⟨iha cur, ihb cur, fun J L h1 => ?_⟩
    unfold cutAt at h1
    split at h1
    · rw [hc] at h1; cases h1
    · cases h1
  | cond c a b iha ihb => exact fun cur => ⟨iha cur, ihb cur⟩
  | block id c ih => exact fun cur => ih id
  | loop c ih => exact fun cur => ⟨ih cur, fun hh L h1 h2 => by rw [h cur hh h1] at h2; cases h2⟩
  | _ => exact fun _ => trivial

theorem loopsOK_none {H : Hint S} {m nt N : Nat} (h : ∀ cur hh, H.loops cur = some hh → hh.oracle = none) (c : Code) (cur : Nat) (hc : ∀ i, H.cuts i = none := by intros; rfl) : LoopsOK E H m nt N c cur := loopsOK_none' h hc c cur

theorem allK_spec {α R : Type} [Subsingleton R] {k : α → Option R} {r : R} : ∀ {x : α} {l : List α}, allK k x l = some r → ∀ y ∈ x :: l, k y = some r
  | x, [], h, y, hy => by simp at hy; subst hy; exact h
  | x, z :: l, h, y, hy => by
    simp only [allK] at h
    split at h
    · rename_i a b h1 h2
      rcases List.mem_cons.1 hy with rfl | hy
      · rw [h1]; exact congrArg some (Subsingleton.elim _ _)
      · have := allK_spec h2 y hy
        rw [this]; exact congrArg some (Subsingleton.elim _ _)
    · cases h

/-- Code comes from a state to one of some. -/
def Nd (E : Env S) (m nt : Nat) (wp : (Exit → Act → World → Prop) → Act → World → Prop) (st : St S) (P : Ex → St S → Prop) : Prop :=
  ∀ (B : Base), B.m = m → ∀ (Q : Exit → Act → World → Prop) (a : Act) (w : World), Inv E B nt st a w → (∀ e st' a' w', P e st' → Inv E B nt st' a' w' → Q (toExit e) a' w') → wp Q a w

theorem nextIn_spec {l : List Oper} {o : Oper} {it : Operand} {rest : List Oper} (h : nextIn l = some (o, it, rest)) : l = o :: rest ∧ o.op = .next it false ∧ o.guard = none := by
  unfold nextIn at h
  split at h
  · rename_i o' r
    split at h
    · rename_i it' ho hg
      cases h
      exact ⟨rfl, ho, hg⟩
    · cases h
  · cases h

theorem next_nd (hE : EnvOk E) (hf : CallfOK E) {H : Hint S} {m nt id : Nat} {ops : Array Oper} {R : Type} [Subsingleton R] {o : Oper} {it : Operand} {rest : List Oper} {st : St S} {k : St S → Option R} {r : R} (hin : nextIn ops.toList = some (o, it, rest))
    (h : nextEval E H nt ops o it rest st k = some r) : Nd E m nt ((Code.region id ops false).wp E.P) st fun e st' => e = .normal ∧ k st' = some r := by
  obtain ⟨hops, hop, hgd⟩ := nextIn_spec hin
  unfold nextEval at h
  split at h
  · rename_i nm hit
    split at h
    · rename_i mp since seen stepped hob
      split at h
      · rename_i ag sh vag vc L cl hmp
        split at h
        · rename_i hd
          unfold nextC at h
          split at h
          · rename_i hc
            simp only [Bool.and_eq_true, Bool.or_eq_true, List.all_eq_true, List.any_eq_true, decide_eq_true_eq] at hc
            intro B hBm Q a w hi hQ
            obtain ⟨φ, M, hrel, hB, h0⟩ := hi
            refine wp_region ?_
            have hsz : ops.size = rest.length + 1 := by
              have := congrArg List.length hops
              simpa using this
            have hget0 : ops[0]? = some o := by
              rw [← Array.getElem?_toList, hops]; rfl
            have hgetr : ∀ i, rest[i]? = ops[1 + i]? := by
              intro i
              rw [← Array.getElem?_toList, hops, Nat.add_comm]; rfl
            have hrange : List.range ops.size = 0 :: List.range' 1 rest.length := by
              rw [hsz, List.range_eq_range', List.range'_succ]
            rw [hrange]
            have hw : wantedT ops st.t o = some true := by unfold wantedT; rw [hgd]
            simp only [wpOps, hget0]
            rw [wanted_model hrel hw]
            simp only [if_true]
            left
            unfold Oper.wp
            -- what the iterator and the map are in memory
            have hev := hrel.ev it
            rw [hit] at hev
            obtain ⟨g, hg, e1⟩ := hev.ptr_inv
            obtain ⟨g', gm, hg', hgm, hs0, hb⟩ := hrel.mem.objs nm _ hob
            rw [hg] at hg'; cases hg'
            obtain ⟨g2, hg2, es, cl', hb2, L', l1, l2, l3, _⟩ := hrel.mem.objs mp _ hmp
            rw [hgm] at hg2; cases hg2
            obtain ⟨rfl, rfl⟩ := l3 rfl
            rw [hs0] at e1
            simp only [Nat.zero_mul, Nat.zero_add] at e1
            have born : ∀ x ∈ es, ∃ t ∈ L', t.2.2 = x.born := by
              intro x hx
              obtain ⟨j, hj, rfl⟩ := Array.mem_iff_getElem.1 hx
              have hjl : j < L'.length := by rw [l1]; exact hj
              exact ⟨L'[j], List.getElem_mem _, (l2 j _ _ (List.getElem?_eq_getElem hjl) (Array.getElem?_eq_getElem hj)).2.2.1.symm⟩
            have born' : ∀ t ∈ L', ∃ x ∈ es, t.2.2 = x.born := by
              intro t ht
              obtain ⟨j, hj, rfl⟩ := List.mem_iff_getElem.1 ht
              have hjl : j < es.size := by rw [← l1]; exact hj
              exact ⟨es[j], Array.getElem_mem hjl, (l2 j _ _ (List.getElem?_eq_getElem hj) (Array.getElem?_eq_getElem hjl)).2.2.1.symm⟩
            have hold : ∀ x ∈ es, x.born < since := fun x hx => by
              obtain ⟨t, ht, e⟩ := born x hx
              rw [← e]; exact hc.2 t ht
            have hchk : (!seen.reverse.toArray.isEmpty && !es.isEmpty && es.all (fun x => decide (x.born ≥ stepped))) = false := by
              rcases hc.1 with h1 | h1 | ⟨t, ht, h1⟩
              · have : seen = [] := by simpa using h1
                subst this; rfl
              · have hl0 : L' = [] := by simpa using h1
                have : es.size = 0 := by rw [← l1, hl0]; rfl
                have : es = #[] := Array.eq_empty_of_size_eq_zero this
                subst this; simp
              · obtain ⟨x, hx, e⟩ := born' t ht
                have : es.all (fun x => decide (x.born ≥ stepped)) = false := by
                  rw [Bool.eq_false_iff]
                  intro hall
                  rw [Array.all_eq_true_iff_forall_mem] at hall
                  have := hall x hx
                  simp at this
                  omega
                rw [this]; simp
            -- what follows
            have follow : ∀ (st1 : St S) (a1 : Act) (w1 : World) (φ1 : Phi) (M1 : Mem), st1.next = st.next → (∀ n, st.next ≤ n → st1.o n = none) → Rel E B nt st1.t st1.o a1 w1 φ1 M1 →
                (runC E H nt ops (2 * ops.size + 2) R [] rest st1 [] fun st' _ => k st') = some r → wpOps E.P ops Q (List.range' 1 rest.length) a1 w1 := by
              intro st1 a1 w1 φ1 M1 hn hfr hrel1 hrun
              obtain ⟨es', c', st', nf, htr, hk, hst, hft⟩ := runC_trace hE hf _ _ _ _ _ _ _ _ st1.t hrun (fun _ => .inl rfl)
              refine seq_sound (Q := Q) htr 1 a1 w1 φ1 M1 (fun i => by rw [hgetr]) (by rw [hn]; exact hB) (fun n hh => hfr n (by rw [hn] at hh; exact hh)) hrel1 fun a' w' φ' M' hr' hb' hf' => ?_
              exact hQ .normal st' a' w' ⟨rfl, hk⟩ ⟨φ', M', hr'.weaken hst, Nat.le_trans hB (by rw [hn] at hb'; exact hb'), hf'⟩
            obtain ⟨dst, op', ty', pos, after, guard⟩ := o
            subst hop
            rcases run_nextMap (P := E.P) w g.b gm.b since stepped cl' seen.reverse.toArray es ty' hb hb2 hold hchk with ⟨hnil, hrun⟩ | ⟨x, hx, w1, hw1, hrun⟩
            · have hLnil : (L'.filter fun e => !seen.contains e.2.2) = [] := by
                rw [List.filter_eq_nil_iff]
                intro t ht hcon
                obtain ⟨y, hy, e⟩ := born' t ht
                have : y ∈ es.filter fun e => !seen.reverse.toArray.contains e.born := by
                  rw [Array.mem_filter]
                  refine ⟨hy, ?_⟩
                  rw [← e]; simpa using hcon
                rw [hnil] at this; simp at this
              rw [hLnil] at h
              refine upon_of_value (v := .tuple #[.bool false]) (w' := w) (run_value (by rw [e1]; exact hrun)) ?_
              refine follow ⟨putDst st.t dst (.tup [.bool false]), st.o, st.next⟩ _ _ φ M rfl h0 (hrel.put hd (Phi.le_refl _) (Mem.le_refl _) ?_ hrel.mem) h
              exact .tup rfl fun i tv v h1 h2 => by
                match i with
                | 0 => simp at h1 h2; subst h1; subst h2; exact .pure (.bool _)
                | i + 1 => simp at h1
            · rw [Array.mem_filter] at hx
              obtain ⟨t, ht, ebt⟩ := born x hx.1
              have hmem : t ∈ L'.filter fun e => !seen.contains e.2.2 := by
                rw [List.mem_filter]
                refine ⟨ht, ?_⟩
                rw [ebt]; simpa using hx.2
              have hk : (runC E H nt ops (2 * ops.size + 2) R [] rest ⟨putDst st.t dst (.tup [.bool true, .dead, .dead]), setF st.o nm (some (.iter mp since (t.2.2 :: seen) cl')), st.next⟩ [] fun st' _ => k st') = some r := by
                split at h
                · rename_i hnil; rw [hnil] at hmem; simp at hmem
                · rename_i y l hl
                  rw [hl] at hmem
                  exact allK_spec h t hmem
              have hmem1 : RelW E B st.o w1 φ M := by
                rcases hw1 with rfl | rfl
                · exact hrel.mem
                · exact hrel.mem.drew
              refine upon_of_value (v := .tuple #[.bool true, x.key, x.val]) (run_value (by rw [e1]; exact hrun)) ?_
              have hset := hmem1.setIter (since' := since) (seen' := t.2.2 :: seen) (stepped' := cl') hE.toEncOk hg hgm hs0 hob
              have earr : (t.2.2 :: seen).reverse.toArray = seen.reverse.toArray.push x.born := by
                rw [List.reverse_cons, ebt]; simp
              rw [earr] at hset
              refine follow ⟨putDst st.t dst (.tup [.bool true, .dead, .dead]), setF st.o nm (some (.iter mp since (t.2.2 :: seen) cl')), st.next⟩ _ _ φ M rfl (fun n hn => ?_) (hrel.put hd (Phi.le_refl _) (Mem.le_refl _) ?_ hset) hk
              · show setF st.o nm _ n = none
                rw [setF_ne]
                · exact h0 n hn
                · rintro rfl; rw [h0 _ hn] at hob; cases hob
              · exact .tup rfl fun i tv v h1 h2 => by
                  match i with
                  | 0 => simp at h1 h2; subst h1; subst h2; exact .pure (.bool _)
                  | 1 => simp at h1; subst h1; exact .dead _
                  | 2 => simp at h1; subst h1; exact .dead _
                  | i + 3 => simp at h1
          · cases h
        · cases h
      · cases h
    · cases h
  · cases h

theorem tcode_nd (hE : EnvOk E) (hf : CallfOK E) {H : Hint S} (hm : CallmOK E H) {m nt N : Nat} {R : Type} [Subsingleton R] : ∀ (c : Code) (cur : Nat) (_ : LoopsOK E H m nt N c cur) (st : St S) (K : Ex → St S → Option R) (r : R),
    tcode E H m nt N c cur st K = some r → Nd E m nt (c.wp E.P) st fun e st' => K e st' = some r := by
  intro c
  induction c with
  | skip => intro cur hL st K r h; exact fun B hB Q a w hi hQ => wp_skip (hQ _ _ a w h hi)
  | region id ops draw =>
    intro cur hL st K r h
    simp only [tcode] at h
    split at h
    · rename_i hc
      simp only [Bool.and_eq_true, Bool.not_eq_true'] at hc
      obtain ⟨_, rfl⟩ := hc
      split at h
      · rename_i o it rest hin
        intro B hB Q a w hi hQ
        exact next_nd hE hf hin h B hB Q a w hi fun e st' a' w' ⟨he, hk⟩ hi' => hQ e st' a' w' (by rw [he]; exact hk) hi'
      · intro B hB Q a w hi hQ
        obtain ⟨φ, M, hrel, h1, h2⟩ := hi
        refine wp_region ?_
        have := runM_wp hE hf hm _ _ st 0 _ r h (fun i => by simp) B a w φ M Q h1 h2 hrel (fun st' a' w' hk hi' => hQ .normal st' a' w' hk hi')
        rw [List.range_eq_range']
        simpa using this
    · rename_i hc
      split at h
      · rename_i π hπ
        have hdr : draw = true := by
          cases hn : H.nd with
          | false => rw [hn] at hπ; cases hπ
          | true => rw [hn] at hc; simpa using hc
        subst hdr
        exact fun B hB Q a w hi hQ => regionP_wp hE hf hm h id B Q a w hi fun st' a' w' hk hi' => hQ .normal st' a' w' hk hi'
      · obtain ⟨st', hk, hd⟩ := region_det hE hf h
        exact fun B hB Q a w hi hQ => hd id B Q a w hi fun a' w' hi' => hQ .normal st' a' w' hk hi'
  | seq x y ihx ihy =>
    intro cur hL st K r h
    simp only [tcode] at h
    have h1 := ihx cur hL.1 st _ r h
    intro B hB Q a w hi hQ
    refine wp_seq (h1 B hB _ a w hi fun e st1 a1 w1 hk hi1 => ?_)
    cases e with
    | normal =>
      simp only at hk
      split at hk
      · exact ihy cur hL.2.1 st1 K r hk B hB Q a1 w1 hi1 hQ
      · rename_i J hJ
        split at hk
        · cases hk
        · rename_i vals objs hs
          have hi2 := headOf_sound hE hi1 (by rw [hB]; exact hs)
          split at hk
          · rename_i L hLo
            have h3 := hL.2.2 J L hJ hLo R vals objs _ r hk
            refine ihy cur hL.2.1 _ _ r h3 B hB Q a1 w1 hi2 fun e2 st2 a2 w2 hk2 hi3 => ?_
            replace hk2 : cutK m J.out _ e2 st2 = some r := hk2
            unfold cutK at hk2
            split at hk2
            · rename_i v2 o2 hs2
              exact hQ e2 _ a2 w2 hk2 (headOf_sound hE hi3 (by rw [hB]; exact hs2))
            · cases hk2
          · exact ihy cur hL.2.1 _ K r hk B hB Q a1 w1 hi2 hQ
    | exit i => exact hQ _ _ a1 w1 hk hi1
    | ret => exact hQ _ _ a1 w1 hk hi1
  | cond c x y ihx ihy =>
    intro cur hL st K r h
    simp only [tcode] at h
    split at h
    · rename_i q hq
      have hev : ∀ (B : Base) (a : Act) (w : World), Inv E B nt st a w → a.eval c = .bool q := by
        rintro B a w ⟨φ, M, hrel, _⟩
        have := hrel.ev c
        rw [hq] at this
        exact this.bool
      cases q with
      | true => exact fun B hB Q a w hi hQ => wp_cond (hev B a w hi) (ihx cur hL.1 st K r (by simpa using h) B hB Q a w hi hQ)
      | false => exact fun B hB Q a w hi hQ => wp_cond (hev B a w hi) (ihy cur hL.2 st K r (by simpa using h) B hB Q a w hi hQ)
    · cases h
  | block id c ih =>
    intro cur hL st K r h
    simp only [tcode] at h
    have h1 := ih id hL st _ r h
    intro B hB Q a w hi hQ
    refine wp_block (h1 B hB _ a w hi fun e st1 a1 w1 hk hi1 => ?_)
    cases e with
    | normal => exact hQ .normal st1 a1 w1 hk hi1
    | ret => exact hQ .ret st1 a1 w1 hk hi1
    | exit i =>
      simp only at hk
      show if i = id then Q .normal a1 w1 else Q (.exit i) a1 w1
      split at hk
      · rename_i e; rw [if_pos e]; exact hQ .normal st1 a1 w1 hk hi1
      · rename_i e; rw [if_neg e]; exact hQ (.exit i) st1 a1 w1 hk hi1
  | loop c ih =>
    intro cur hL st K r h
    simp only [tcode] at h
    split at h
    · cases h
    · rename_i hd hhd
      split at h
      · cases h
      · rename_i vals objs hs
        have key : ∀ (n : Nat) (vals : List (TV S)) (objs : List (Obj S)), loopN (fun vals objs k => tcode E H m nt N c cur (mkSt hd.live vals objs) k) (headOf m hd.live hd.fix) (fun e => headOf m (hd.out e).1 (hd.out e).2) n vals objs (fun e vals objs => K e (mkSt (hd.out e).1 vals objs)) = some r → Nd E m nt (loopWp E.P c) (mkSt hd.live vals objs) fun e st' => K e st' = some r := by
          intro n
          induction n with
          | zero => intro vals objs hl; simp [loopN] at hl
          | succ n ihn =>
            intro vals objs hl
            simp only [loopN] at hl
            have h1 := ih cur hL.1 _ _ r hl
            intro B hB Q a w hi hQ
            refine loopWp_round (h1 B hB _ a w hi fun e st1 a1 w1 hk hi1 => ?_)
            cases e with
            | normal =>
              simp only [roundK] at hk
              split at hk
              · rename_i vals' objs' hs''
                exact ihn vals' objs' hk B hB Q a1 w1 (headOf_sound hE hi1 (by rw [hB]; exact hs'')) hQ
              · cases hk
            | exit i =>
              simp only [roundK] at hk
              split at hk
              · rename_i v' o' ho'; exact hQ _ _ a1 w1 hk (headOf_sound hE hi1 (by rw [hB]; exact ho'))
              · cases hk
            | ret =>
              simp only [roundK] at hk
              split at hk
              · rename_i v' o' ho'; exact hQ _ _ a1 w1 hk (headOf_sound hE hi1 (by rw [hB]; exact ho'))
              · cases hk
        have h' : loopN (fun vals objs k => tcode E H m nt N c cur (mkSt hd.live vals objs) k) (headOf m hd.live hd.fix) (fun e => headOf m (hd.out e).1 (hd.out e).2) N vals objs (fun e vals objs => K e (mkSt (hd.out e).1 vals objs)) = some r := by
          split at h
          · rename_i L ho; exact hL.2 hd L hhd ho R vals objs _ r h
          · exact h
        intro B hB Q a w hi hQ
        exact loopWp_loop (key N vals objs h' B hB Q a w (headOf_sound hE hi (by rw [hB]; exact hs)) hQ)
  | exit id => intro cur hL st K r h; exact fun B hB Q a w hi hQ => wp_exit (hQ _ _ a w h hi)
  | ret => intro cur hL st K r h; exact fun B hB Q a w hi hQ => wp_ret (hQ _ _ a w h hi)
  | rangeFunc f ps as b => intro cur hL st K r h; simp [tcode] at h
  | scope b => intro cur hL st K r h; simp [tcode] at h
  | label l => intro cur hL st K r h; simp [tcode] at h
  | goto l => intro cur hL st K r h; simp [tcode] at h
  | refuse s => intro cur hL st K r h; simp [tcode] at h

theorem runFn_nd (hE : EnvOk E) (hf : CallfOK E) {H : Hint S} (hm : CallmOK E H) {N : Nat} {f : FuncId} {fn : Func} {R : Type} [Subsingleton R] {args : List (TV S)} {objs : List (Obj S)} {K : Res S → Option R} {r : R} (hfn : E.P.funcs[f]? = some fn) (hname : (fn.name == "runtime.NumGoroutine") = false)
    (hLo : ∀ c, fn.body = some c → LoopsOK E H objs.length fn.ntmps N c 0) (h : runFn E H N fn args objs K = some r) : CallOKs E f args objs fun res => K res = some r := by
  unfold runFn at h
  split at h
  · cases h
  · rename_i c hbody
    have hdet := tcode_nd hE hf hm c 0 (hLo c hbody) _ _ r h
    refine ⟨⟨fn, hfn, hname, by rw [hbody]; rfl⟩, fun B vals hBm hlen hargs hW => ?_⟩
    refine calls_of_wp hfn hbody (hdet B hBm _ _ B.w ⟨B.φ, B.M, ⟨fun i => ?_, ?_, rfl, hW⟩, ?_, ?_⟩ ?_)
    · show VR E B.φ B.M (args.getD i .undef) ((vals ++ Array.replicate (fn.ntmps - vals.size) Go.undef).getD i Go.undef)
      rw [List.getD_eq_getElem?_getD, Array.getD_eq_getD_getElem?]
      by_cases hi : i < vals.size
      · rw [Array.getElem?_append_left hi]
        have h1 : i < args.length := by omega
        rw [List.getElem?_eq_getElem h1, Array.getElem?_eq_getElem hi]
        exact hargs i _ _ (List.getElem?_eq_getElem h1) (Array.getElem?_eq_getElem hi)
      · rw [Array.getElem?_append_right (by omega), List.getElem?_eq_none_iff.2 (by omega), Array.getElem?_replicate]
        split
        · exact .pure .undef
        · exact .pure .undef
    · simp only [Array.size_append, Array.size_replicate]; omega
    · show B.m ≤ objs.length
      omega
    · intro n hn
      exact List.getElem?_eq_none_iff.2 hn
    · intro e st a' w' hk hi'
      have fin : (match fixAll st H.exit with
        | some st' => (match finish E fn objs.length st' with
          | some r => K r
          | none => none)
        | none => none) = some r → ∃ st', fixAll st H.exit = some st' ∧ ∃ res, finish E fn objs.length st' = some res ∧ K res = some r := by
        intro hk
        split at hk
        · rename_i st' hfx
          split at hk
          · rename_i res hres; exact ⟨st', hfx, res, hres, hk⟩
          · cases hk
        · cases hk
      have hend : (e = .normal ∨ e = .ret) ∧ ∃ st', fixAll st H.exit = some st' ∧ ∃ res, finish E fn objs.length st' = some res ∧ K res = some r := by
        cases e with
        | normal => exact ⟨.inl rfl, fin hk⟩
        | ret => exact ⟨.inr rfl, fin hk⟩
        | exit i => cases hk
      obtain ⟨hex, st', hfx, res, hfin, hK⟩ := hend
      have hi2 := fixAll_sound hE _ _ _ hi' hfx
      obtain ⟨φ, M, hrel, hB, h0⟩ := hi2
      unfold finish at hfin
      split at hfin
      · cases hfin
      · rename_i vs hvs
        simp only at hfin
        split at hfin
        · rename_i hcl
          cases hfin
          obtain ⟨v, hrun, hvr⟩ := results_sound hrel hvs
          rw [← hBm] at hcl
          obtain ⟨hnd, hh, hl⟩ := reach_head st'.o B.m 400 (kids st'.o B.m ++ namesOf (tupOf vs))
          have hks : reach st'.o 400 (kids st'.o objs.length ++ namesOf (tupOf vs)) (List.range objs.length) = reach st'.o 400 (kids st'.o B.m ++ namesOf (tupOf vs)) (List.range B.m) := by rw [hBm]
          rw [hks] at hK
          generalize reach st'.o 400 (kids st'.o B.m ++ namesOf (tupOf vs)) (List.range B.m) = ks at *
          have post : bodyPost E.P fn (fun e w' => ∃ res, K res = some r ∧ ∃ v φ' M', e = .returned v ∧ VR E φ' M' res.v v ∧ RelW E B (fun i => (res.xs.getD objs ++ res.ns)[i]?) w' φ' M') .ret a' w' := by
            refine ⟨hrel.defers, v, hrun, _, hK, v, (fun i : Nat => (ks[i]?).bind φ), M, rfl, hvr.ren fun n hn g hg => ?_, ?_⟩
            · show (ks[ks.idxOf n]?).bind φ = some g
              rw [get_idx (closed_roots hcl (List.mem_append_right _ hn))]; exact hg
            · have := Inv.count hrel.mem hnd hh hcl
              simp only [Option.getD_some, ← List.map_append, List.take_append_drop]
              have e : (fun i : Nat => (List.map (fun n => renObj (fun n => ks.idxOf n) ((st'.o n).getD .gone)) ks)[i]?) = fun i : Nat => (ks[i]?).map fun n => renObj (fun n => ks.idxOf n) ((st'.o n).getD .gone) := by
                funext i; rw [List.getElem?_map]
              rw [e]; exact this
          rcases hex with rfl | rfl
          · exact post
          · exact post
        · cases hfin
end TE
