/- Ranging over maps that are only read. Nothing of a program stands here. -/
import Derived.Test.YtghmmjifmnmbgaaCsl24
set_option linter.unusedVariables false
set_option linter.unusedSimpArgs false
namespace Go.Proofs.Ytghmmjifmnmbgaa.Csl
open Go
open Go.ChangeMaps (setBlock)
section
variable {K V : Type}
def kvOf (e : MapEntry) : Value × Value := (e.key, e.val)
/-- An iterator over the map 'bm': 'rest' is left; 'last' was told last. -/
def MIt (ek : K → Value) (ev : V → Value) (r bm : Nat) (arr : Array MapEntry) (clock : Nat) (last : Option (K × V)) (rest : List (K × V)) : HProp := fun h =>
  ∃ seen c, clock ≤ c ∧ ((leftOf arr seen).toList.map kvOf).Perm (menc ek ev rest) ∧
    (∀ p, last = some p → ∃ s0 e, seen = Array.push s0 e.born ∧ e ∈ arr.toList ∧ kvOf e = (ek p.1, ev p.2) ∧ c = clock) ∧ h = Hp.one r (.mapIter (some bm) clock seen c)
theorem leftOf_nil (arr : Array MapEntry) : leftOf arr #[] = arr := by simp [leftOf]
theorem leftOf_push {arr : Array MapEntry} (hn : (arr.toList.map (·.born)).Nodup) {seen : Array Nat} {e : MapEntry} (he : e ∈ (leftOf arr seen).toList) : (leftOf arr seen).toList.Perm (e :: (leftOf arr (seen.push e.born)).toList) := by
  have hsub : List.Sublist (leftOf arr seen).toList arr.toList := by unfold leftOf; rw [Array.toList_filter]; exact List.filter_sublist
  have hn' : ((leftOf arr seen).toList.map (·.born)).Nodup := List.Nodup.sublist (hsub.map _) hn
  obtain ⟨s, t, hst⟩ := List.append_of_mem he
  have hf : (leftOf arr (seen.push e.born)).toList = (leftOf arr seen).toList.filter fun x => !(x.born == e.born) := by
    unfold leftOf
    rw [Array.toList_filter, Array.toList_filter, List.filter_filter]
    congr 1; funext x
    rw [contains_push]
    cases seen.contains x.born <;> cases (x.born == e.born) <;> rfl
  rw [hf, hst]
  rw [hst] at hn'
  simp only [List.map_append, List.map_cons, List.nodup_append, List.nodup_cons, List.mem_map, List.mem_cons] at hn'
  obtain ⟨_, ⟨h2, _⟩, h3⟩ := hn'
  have fs : s.filter (fun x => !(x.born == e.born)) = s := List.filter_eq_self.2 fun x hx => by
    have := h3 x.born ⟨x, hx, rfl⟩ e.born (.inl rfl)
    simpa using this
  have ft : t.filter (fun x => !(x.born == e.born)) = t := List.filter_eq_self.2 fun x hx => by
    have : x.born ≠ e.born := fun q => h2 ⟨x, hx, q⟩
    simpa using this
  rw [List.filter_append, List.filter_cons, fs, ft]
  simp only [beq_self_eq_true, Bool.not_true, Bool.false_eq_true, if_false]
  exact List.perm_middle
variable {c : Cx} {G : Gp} {ops : Array Oper} {kk : KT} {e : Env} {A A' : List HProp} {lo : List Oper} {d : Nat} {tt mt kt et : TypeId} {pos : String} {af : Array Edge} {gd : Option (Nat × Bool)} {x : Operand}
variable {ek : K → Value} {ev : V → Value} {l rest : List (K × V)} {r bm : Nat} {arr : Array MapEntry} {clock : Nat} {last : Option (K × V)}
theorem St.mit_open {w : World} (s : St G (MIt ek ev r bm arr clock last rest :: A) w) : ∃ seen c, clock ≤ c ∧ ((leftOf arr seen).toList.map kvOf).Perm (menc ek ev rest) ∧ (∀ p, last = some p → ∃ s0 e, seen = Array.push s0 e.born ∧ e ∈ arr.toList ∧ kvOf e = (ek p.1, ev p.2) ∧ c = clock) ∧ St G (pt r (.mapIter (some bm) clock seen c) :: A) w := by
  obtain ⟨h, g, s, d, h1, h2, d', e, ⟨seen, c, m1, m2, m3, q⟩, a⟩ := s
  exact ⟨seen, c, m1, m2, m3, h, g, s, d, h1, h2, d', e, q, a⟩
theorem RunL.rangeMap (hx : opv e x = some (.map (some bm))) (hm : MapIs arr clock (menc ek ev l)) (hg : G bm = some (.map arr clock)) (ht : c.P.underlying mt = some (.map kt et))
    (hw : Wt ops e ⟨some d, .range mt x, tt, pos, af, gd⟩ true) (hlt : Nat.blt d c.fn.ntmps = true)
    (next : ∀ r, RunL c G ops lo kk ((d, .pointer (some ⟨r, 0, none⟩)) :: e) (MIt ek ev r bm arr clock none l :: A)) : RunL c G ops (⟨some d, .range mt x, tt, pos, af, gd⟩ :: lo) kk e A := by
  refine RunL.val (X := Nat) (v := fun r => .pointer (some ⟨r, 0, none⟩)) (A' := fun r => MIt ek ev r bm arr clock none l :: A) hw rfl hlt (fun a w h s => ?_) next
  have e1 := h.opv hx
  generalize a.eval = ρ at e1 ⊢
  refine ⟨w.heap.size, w.alloc (.mapIter (some bm) clock #[] clock), ?_, ?_⟩
  · simp only [execOp, e1, Sem.run_bind, run_range_map w mt kt et bm arr clock ht (s.ro hg), Result.andThen_ok, Sem.run_pure]
  · have hs2 := s.pt_new (w' := w.alloc (.mapIter (some bm) clock #[] clock)) (heap_alloc_new _ _) (fun c hc => heap_alloc_old _ _ hc) (by simp [Alike3, World.alloc, -World.alloc_eq])
    refine hs2.imp fun h q => ⟨#[], clock, Nat.le_refl _, ?_, (fun p hp => by cases hp), q⟩
    rw [leftOf_nil]
    have : arr.toList.map kvOf = menc ek ev l := hm.kv
    rw [this]
theorem RunL.nextMap (hx : opv e x = some (.pointer (some ⟨r, 0, none⟩))) (hm : MapIs arr clock (menc ek ev l)) (hg : G bm = some (.map arr clock)) (hf : Find (MIt ek ev r bm arr clock last rest) A A')
    (hw : Wt ops e ⟨some d, .next x false, tt, pos, af, gd⟩ true) (hlt : Nat.blt d c.fn.ntmps = true)
    (next0 : rest = [] → RunL c G ops lo kk ((d, .tuple #[.bool false]) :: e) A')
    (next1 : ∀ p rest', rest.Perm (p :: rest') → RunL c G ops lo kk ((d, .tuple #[.bool true, ek p.1, ev p.2]) :: e) (MIt ek ev r bm arr clock (some p) rest' :: A')) : RunL c G ops (⟨some d, .next x false, tt, pos, af, gd⟩ :: lo) kk e A := by
  refine RunL.val (X := { q : Option ((K × V) × List (K × V)) // match q with | none => rest = [] | some (p, r') => rest.Perm (p :: r') })
    (v := fun q => match q.1 with | none => .tuple #[.bool false] | some (p, _) => .tuple #[.bool true, ek p.1, ev p.2])
    (A' := fun q => match q.1 with | none => A' | some (p, r') => MIt ek ev r bm arr clock (some p) r' :: A') hw rfl hlt (fun a w h s => ?_) ?_
  · have e1 := h.opv hx
    generalize a.eval = ρ at e1 ⊢
    obtain ⟨seen, c0, m1, m2, m3, s1⟩ := (s.find hf).mit_open
    have hb := s1.ro hg
    rcases run_next_at (P := c.P) w tt r bm clock c0 seen arr clock s1.pt_at hb hm.born m1 with ⟨h0, hr⟩ | ⟨en, hen, w1, hw1, hr⟩
    · have he : rest = [] := by
        have hl := m2.length_eq
        rw [List.length_map, Array.length_toList, h0] at hl
        have : rest.length = 0 := by simpa [menc] using hl.symm
        exact List.eq_nil_of_length_eq_zero this
      exact ⟨⟨none, he⟩, w, by simp only [execOp, e1, Sem.run_bind, hr, Result.andThen_ok, Sem.run_pure], s1.drop⟩
    · have hp := leftOf_push hm.nodup hen
      have hmem : kvOf en ∈ menc ek ev rest := m2.mem_iff.1 (List.mem_map.2 ⟨en, hen, rfl⟩)
      obtain ⟨p, hpm, hpe⟩ := List.mem_map.1 hmem
      obtain ⟨s', t', hst⟩ := List.append_of_mem hpm
      have hperm : rest.Perm (p :: (s' ++ t')) := by rw [hst]; exact List.perm_middle
      refine ⟨⟨some (p, s' ++ t'), hperm⟩, setBlock w1 r (.mapIter (some bm) clock (seen.push en.born) clock), ?_, ?_⟩
      · have hpe' : en.key = ek p.1 ∧ en.val = ev p.2 := by
          have := hpe.symm; simp only [kvOf, Prod.mk.injEq] at this; exact this
        simp only [execOp, e1, Sem.run_bind, hr, Result.andThen_ok, Sem.run_pure, hpe'.1, hpe'.2]
      · have s2 : St G (pt r (.mapIter (some bm) clock seen c0) :: A') w1 := by
          rcases hw1 with rfl | rfl
          · exact s1
          · exact St.same (w := w) rfl ⟨rfl, rfl, rfl, Nat.le_succ _⟩ s1
        have s3 : St G (pt r (.mapIter (some bm) clock (seen.push en.born) clock) :: A') (setBlock w1 r (.mapIter (some bm) clock (seen.push en.born) clock)) := by
          have hlt : r < w1.heap.size := by
            have := s2.pt_at
            rcases Nat.lt_or_ge r w1.heap.size with q | q
            · exact q
            · rw [Array.getElem?_eq_none q] at this; cases this
          refine s2.pt_set ?_ ?_ ⟨rfl, rfl, rfl, Nat.le_refl _⟩
          · simp [setBlock, Array.getElem?_setIfInBounds, hlt]
          · intro c hc; simp [setBlock, Array.getElem?_setIfInBounds, Ne.symm hc]
        refine s3.imp fun h q => ⟨seen.push en.born, clock, Nat.le_refl _, ?_, fun p' hp' => ?_, q⟩
        · have h1 : (kvOf en :: (leftOf arr (seen.push en.born)).toList.map kvOf).Perm (menc ek ev rest) := ((hp.map kvOf).symm).trans m2
          have h2 : (menc ek ev rest).Perm (kvOf en :: menc ek ev (s' ++ t')) := by
            have := hperm.map fun p => (ek p.1, ev p.2)
            rw [List.map_cons, hpe] at this
            exact this
          exact (h1.trans h2).cons_inv
        · cases hp'
          exact ⟨seen, en, rfl, (mem_left hen).1, hpe.symm, rfl⟩
  · intro q
    obtain ⟨q, hq⟩ := q
    cases q with
    | none => exact next0 hq
    | some pr => exact next1 pr.1 pr.2 hq
theorem RunL.entryMap {p : K × V} (hx : opv e x = some (.pointer (some ⟨r, 0, none⟩))) (hm : MapIs arr clock (menc ek ev l)) (hg : G bm = some (.map arr clock)) (hf : Find (MIt ek ev r bm arr clock (some p) rest) A A')
    (hw : Wt ops e ⟨some d, .entry x, tt, pos, af, gd⟩ true) (hlt : Nat.blt d c.fn.ntmps = true)
    (next : RunL c G ops lo kk ((d, .tuple #[ek p.1, ev p.2]) :: e) A) : RunL c G ops (⟨some d, .entry x, tt, pos, af, gd⟩ :: lo) kk e A := by
  refine RunL.val (X := Unit) (v := fun _ => _) (A' := fun _ => A) hw rfl hlt (fun a w h s => ⟨(), w, ?_, s⟩) (fun _ => next)
  have e1 := h.opv hx
  generalize a.eval = ρ at e1 ⊢
  obtain ⟨seen, c0, m1, m2, m3, s1⟩ := (s.find hf).mit_open
  obtain ⟨s0, en, rfl, hen, hkv, hc0⟩ := m3 p rfl
  subst hc0
  have := run_entry_at (P := c.P) w r bm _ s0 arr _ en s1.pt_at (s1.ro hg) hen hm.nodup
  simp only [kvOf, Prod.mk.injEq] at hkv
  simp only [execOp, e1, Sem.run_bind, this, Result.andThen_ok, Sem.run_pure, hkv.1, hkv.2]
end
section
variable {c : Cx} {G : Gp} {ops : Array Oper} {kk : KT} {e : Env} {A A' : List HProp} {lo : List Oper} {st : List Item} {T : TypeId} {sz n cap : Nat} {a : Option Addr} {cs : List Value}
theorem Run.slLen2 (hf : Find (Sl T sz a n cap cs) A A') (next : cs.length = n * sz ∧ n ≤ cap → Run c G st e A) : Run c G st e A := fun ac w h s => next ((s.find hf).Sl_length) ac w h s
theorem RunL.slLen2 (hf : Find (Sl T sz a n cap cs) A A') (next : cs.length = n * sz ∧ n ≤ cap → RunL c G ops lo kk e A) : RunL c G ops lo kk e A := fun ac w h s => next ((s.find hf).Sl_length) ac w h s
end
/-- Two atoms lent at once. -/
theorem Ctr.lend2 {P : Program} {G : Gp} {f : FuncId} {args : List Value} {pre : List HProp} {post : Post} {Q1 Q2 : HProp} {R1 R2 : Gp → Prop} (hl1 : Lends Q1 R1) (hl2 : Lends Q2 R2) (hc : Callable P f) (m1 : ∀ G G', Gp.le G G' → R1 G → R1 G')
    (hs : ∀ G', Gp.le G G' → R1 G' → R2 G' → Ctr P G' f args pre post) : Ctr P G f args (Q1 :: Q2 :: pre) (fun F v A => ∃ A', A = Q1 :: Q2 :: A' ∧ post F v A') :=
  (Ctr.lend hl1 hc fun G1 h1 r1 => Ctr.lend hl2 hc fun G2 h2 r2 => hs G2 (h1.trans h2) (m1 _ _ h2 r1) r2).mono (by
    rintro F v A ⟨A1, rfl, A2, rfl, h⟩
    exact ⟨A2, rfl, h⟩)
end Go.Proofs.Ytghmmjifmnmbgaa.Csl
