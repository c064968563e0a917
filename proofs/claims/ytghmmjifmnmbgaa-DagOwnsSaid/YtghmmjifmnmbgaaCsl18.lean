/- Maps: delete, clear; slices: their front. Nothing of a program stands here. -/
import Derived.Test.YtghmmjifmnmbgaaCsl17
set_option linter.unusedVariables false
set_option linter.unusedSimpArgs false
namespace Go.Proofs.Ytghmmjifmnmbgaa.Csl
open Go
theorem run_setObj_map {P : Program} {G : Gp} {A : List HProp} {w : World} {r : Nat} {arr arr' : Array MapEntry} {c c' : Nat} {es : List (Value × Value)} (s : St G (pt r (.map arr c) :: A) w) (m : MapIs arr' c' es) :
    ∃ w', (setObj r (.map arr' c')).run P w = .ok () w' ∧ St G (Mp r es :: A) w' := by
  have g := s.pt_at
  have hlt : r < w.heap.size := (Array.getElem?_eq_some_iff.1 g).1
  refine ⟨{ w with heap := w.heap.set r (.map arr' c') hlt }, ?_, St.mp_mk m (s.pt_set ?_ ?_ ⟨rfl, rfl, rfl, Nat.le_refl _⟩)⟩
  · simp [setObj, Sem.run, g]
    rw [Array.setIfInBounds]; simp [hlt]
  · simp
  · intro c hc; rw [Array.getElem?_set]; simp [Ne.symm hc]
theorem mdel_at {K V : Type} [DecidableEq K] {ek : K → Value} {ev : V → Value} {k : K} : ∀ {l : List (K × V)} {i j : Nat} {u : V}, midx k l i = some (j, u) → menc ek ev (mdel k l) = (menc ek ev l).eraseIdx (j - i)
  | [], _, _, _, h => by simp [midx] at h
  | p :: l, i, j, u, h => by
    unfold midx at h
    split at h
    · rename_i hk; cases h; simp [mdel, hk, menc]
    · rename_i hk
      have h1 := (midx_lt h).1
      have := mdel_at (ek := ek) (ev := ev) h
      rw [show j - i = (j - (i + 1)) + 1 from by omega]
      simp only [mdel, hk, if_false, menc, List.map_cons, List.eraseIdx_cons_succ]
      simpa [menc] using this
theorem mdel_none {K V : Type} [DecidableEq K] {k : K} : ∀ {l : List (K × V)} {i : Nat}, midx k l i = none → mdel k l = l
  | [], _, _ => rfl
  | p :: l, i, h => by
    unfold midx at h
    split at h
    · cases h
    · rename_i hk; simp [mdel, hk, mdel_none h]
theorem map_eraseIdx0 {α β : Type} {f : α → β} : ∀ {l : List α} {i : Nat}, (l.eraseIdx i).map f = (l.map f).eraseIdx i
  | [], _ => rfl
  | _ :: _, 0 => rfl
  | x :: l, i + 1 => by simp [map_eraseIdx0 (l := l)]
theorem run_delete {P : Program} {G : Gp} {A : List HProp} {w : World} {K V : Type} [DecidableEq K] {mt kt et ty : TypeId} {ats : Array TypeId} {ek : K → Value} {ev : V → Value} {r : Nat} {l : List (K × V)} {k : K} (ha : ats[0]? = some mt) (ht : P.underlying mt = some (.map kt et)) (h : KeyT P kt ek) (s : St G (Mp r (menc ek ev l) :: A) w) :
    ∃ w', (Builtin.delete_ ats ty #[.map (some r), ek k]).run P w = .ok (.tuple #[]) w' ∧ St G (Mp r (menc ek ev (mdel k l)) :: A) w' := by
  obtain ⟨arr, clock, m, s⟩ := s.mp_open
  have g := s.pt_at
  have hkv := m.kv
  cases hq : midx k l 0 with
  | none =>
    obtain ⟨w', e1, e2⟩ := run_setObj_map (P := P) (arr' := arr) (c' := clock) s (es := menc ek ev (mdel k l)) (by rw [mdel_none hq]; exact m)
    refine ⟨w', ?_, e2⟩
    simp only [Builtin.delete_, ha]
    simp only [List.getElem?_toArray, List.getElem?_cons_zero, List.getElem?_cons_succ, Sem.run_bind, run_underlying ht, Result.andThen_ok, MapKept.run_getObj_map g, h.ok, run_findKey h k m.kv, hq]
    simp [e1]
  | some q =>
    obtain ⟨j, u⟩ := q
    obtain ⟨_, h2, p, h3, h4⟩ := midx_lt hq
    rw [Nat.sub_zero] at h2 h3
    have hset := mdel_at (ek := ek) (ev := ev) hq
    rw [Nat.sub_zero] at hset
    have hsz : arr.size = l.length := by have := m.size; simpa [menc] using this
    have hto : (arr.eraseIdxIfInBounds j).toList = arr.toList.eraseIdx j := by
      rw [Array.eraseIdxIfInBounds, dif_pos (by omega)]; simp
    obtain ⟨w', e1, e2⟩ := run_setObj_map (P := P) (arr' := arr.eraseIdxIfInBounds j) (c' := clock) s (es := menc ek ev (mdel k l)) ⟨by rw [hto, hset, ← hkv, map_eraseIdx0], fun e he => m.born e (List.mem_of_mem_eraseIdx (by rw [hto] at he; exact he)), by rw [hto, map_eraseIdx0]; exact m.nodup.eraseIdx _⟩
    refine ⟨w', ?_, e2⟩
    simp only [Builtin.delete_, ha]
    simp only [List.getElem?_toArray, List.getElem?_cons_zero, List.getElem?_cons_succ, Sem.run_bind, run_underlying ht, Result.andThen_ok, MapKept.run_getObj_map g, h.ok, run_findKey h k m.kv, hq]
    simp [e1]
theorem run_clearMap {P : Program} {G : Gp} {A : List HProp} {w : World} {mt kt et ty : TypeId} {ats : Array TypeId} {r : Nat} {es : List (Value × Value)} (ha : ats[0]? = some mt) (ht : P.underlying mt = some (.map kt et)) (s : St G (Mp r es :: A) w) :
    ∃ w', (Builtin.clear_ ats ty #[.map (some r)]).run P w = .ok (.tuple #[]) w' ∧ St G (Mp r [] :: A) w' := by
  obtain ⟨arr, clock, m, s⟩ := s.mp_open
  have g := s.pt_at
  obtain ⟨w', e1, e2⟩ := run_setObj_map (P := P) (arr' := #[]) (c' := clock) s (es := []) ⟨rfl, by simp, by simp⟩
  refine ⟨w', ?_, e2⟩
  simp only [Builtin.clear_, ha]
  simp [run_underlying ht, MapKept.run_getObj_map g, e1]
section
variable {c : Cx} {G : Gp} {ops : Array Oper} {kk : KT} {e : Env} {A A' : List HProp} {lo : List Oper} {st : List Item}
variable {mt kt et tt : TypeId} {pos : String} {af : Array Edge} {gd : Option (Nat × Bool)} {x y : Operand} {r : Nat}
theorem RunL.delete {K V : Type} [DecidableEq K] {ek : K → Value} {ev : V → Value} {l : List (K × V)} {k : K} {ats : Array TypeId} (hx : opv e x = some (.map (some r))) (hy : opv e y = some (ek k)) (ha : ats[0]? = some mt) (hf : Find (Mp r (menc ek ev l)) A A') (ht : c.P.underlying mt = some (.map kt et)) (hk : KeyT c.P kt ek)
    (hw : Wt ops e ⟨none, .call ⟨.builtin .delete, #[x, y], ats⟩, tt, pos, af, gd⟩ true) (next : RunL c G ops lo kk e (Mp r (menc ek ev (mdel k l)) :: A')) : RunL c G ops (⟨none, .call ⟨.builtin .delete, #[x, y], ats⟩, tt, pos, af, gd⟩ :: lo) kk e A := by
  intro a w ho s
  have e1 := ho.opv hx; have e2 := ho.opv hy
  obtain ⟨w', hr, s'⟩ := run_delete (P := c.P) (k := k) (ty := tt) ha ht hk (s.find hf)
  unfold wpList
  rw [if_pos (hw _ a ho)]
  refine .inl ?_
  unfold Oper.wp
  have hx2 : (execOp a.eval ⟨none, .call ⟨.builtin .delete, #[x, y], ats⟩, tt, pos, af, gd⟩).run c.P w = .ok (.value (.tuple #[])) w' := by
    generalize a.eval = ρ at e1 e2 ⊢
    simp only [execOp, resolve]
    simp [invoke, builtin, e1, e2, hr]
  rw [hx2, Oper.upon_value]
  exact next _ _ ho s'
theorem RunL.clearMap {es : List (Value × Value)} {ats : Array TypeId} (hx : opv e x = some (.map (some r))) (ha : ats[0]? = some mt) (hf : Find (Mp r es) A A') (ht : c.P.underlying mt = some (.map kt et))
    (hw : Wt ops e ⟨none, .call ⟨.builtin .clear, #[x], ats⟩, tt, pos, af, gd⟩ true) (next : RunL c G ops lo kk e (Mp r [] :: A')) : RunL c G ops (⟨none, .call ⟨.builtin .clear, #[x], ats⟩, tt, pos, af, gd⟩ :: lo) kk e A := by
  intro a w ho s
  have e1 := ho.opv hx
  obtain ⟨w', hr, s'⟩ := run_clearMap (P := c.P) (ty := tt) ha ht (s.find hf)
  unfold wpList
  rw [if_pos (hw _ a ho)]
  refine .inl ?_
  unfold Oper.wp
  have hx2 : (execOp a.eval ⟨none, .call ⟨.builtin .clear, #[x], ats⟩, tt, pos, af, gd⟩).run c.P w = .ok (.value (.tuple #[])) w' := by
    generalize a.eval = ρ at e1 ⊢
    simp only [execOp, resolve]
    simp [invoke, builtin, e1, hr]
  rw [hx2, Oper.upon_value]
  exact next _ _ ho s'
/-- x[:m] of a slice that is owned. -/
theorem St.Sl_to {w : World} {T : TypeId} {sz : Nat} {a : Option Addr} {n cap : Nat} {cs : List Value} (m : Nat) (hm : m ≤ n) (s : St G (Sl T sz a n cap cs :: A) w) : St G (Sl T sz a m cap (cs.take (m * sz)) :: A) w := by
  rcases s.Sl_open with ⟨rfl, rfl, rfl, rfl, s'⟩ | ⟨b, pre, post, rfl, h1, h2, h3, s'⟩
  · have : m = 0 := by omega
    subst this; simpa using s
  · have hm' : m * sz ≤ cs.length := by rw [h1]; exact Nat.mul_le_mul_right _ hm
    refine St.Sl_mk (pre := pre) (post := cs.drop (m * sz) ++ post) (by simp; omega) (by omega) ?_ ?_
    · have e1 : (cap - m) * sz = (cap - n) * sz + (n - m) * sz := by rw [← Nat.add_mul]; congr 1; omega
      have e2 : (n - m) * sz = n * sz - m * sz := Nat.sub_mul _ _ _
      rw [List.length_append, List.length_drop]; omega
    · have : pre ++ cs.take (m * sz) ++ (cs.drop (m * sz) ++ post) = pre ++ cs ++ post := by
        rw [List.append_assoc, ← List.append_assoc (cs.take _), List.take_append_drop, List.append_assoc]
      rw [this]; exact s'
theorem RunL.toSl {T : TypeId} {sz n cap : Nat} {a : Option Addr} {cs : List Value} (m : Nat) (hf : Find (Sl T sz a n cap cs) A A') (hm : m ≤ n) (next : RunL c G ops lo kk e (Sl T sz a m cap (cs.take (m * sz)) :: A')) : RunL c G ops lo kk e A := fun ac w h s => next ac w h (St.Sl_to m hm (s.find hf))
theorem Run.toSl {T : TypeId} {sz n cap : Nat} {a : Option Addr} {cs : List Value} (m : Nat) (hf : Find (Sl T sz a n cap cs) A A') (hm : m ≤ n) (next : Run c G st e (Sl T sz a m cap (cs.take (m * sz)) :: A')) : Run c G st e A := fun ac w h s => next ac w h (St.Sl_to m hm (s.find hf))
/-- The same, of elements. -/
theorem RunL.toSlF {T : TypeId} {sz cap : Nat} {a : Option Addr} {α : Type} {f : α → List Value} {xs : List α} (m : Nat) (hl : ∀ x ∈ xs, (f x).length = sz) (hf : Find (Sl T sz a xs.length cap (xs.flatMap f)) A A') (hm : m ≤ xs.length) (next : RunL c G ops lo kk e (Sl T sz a (xs.take m).length cap ((xs.take m).flatMap f) :: A')) : RunL c G ops lo kk e A := by
  refine RunL.toSl m hf hm ?_
  rw [flatMap_takeN hl]
  rwa [show (xs.take m).length = m from by simp; omega] at next
theorem Run.toSlF {T : TypeId} {sz cap : Nat} {a : Option Addr} {α : Type} {f : α → List Value} {xs : List α} (m : Nat) (hl : ∀ x ∈ xs, (f x).length = sz) (hf : Find (Sl T sz a xs.length cap (xs.flatMap f)) A A') (hm : m ≤ xs.length) (next : Run c G st e (Sl T sz a (xs.take m).length cap ((xs.take m).flatMap f) :: A')) : Run c G st e A := by
  refine Run.toSl m hf hm ?_
  rw [flatMap_takeN hl]
  rwa [show (xs.take m).length = m from by simp; omega] at next
theorem RunL.fromSlF {T : TypeId} {sz cap : Nat} {a : Option Addr} {α : Type} {f : α → List Value} {xs : List α} (m : Nat) (hl : ∀ x ∈ xs, (f x).length = sz) (hf : Find (Sl T sz a xs.length cap (xs.flatMap f)) A A') (hm : m ≤ xs.length) (next : RunL c G ops lo kk e (Sl T sz (cutAt a m cap sz) (xs.drop m).length (cap - m) ((xs.drop m).flatMap f) :: A')) : RunL c G ops lo kk e A := by
  refine RunL.cutSl m hf hm ?_
  rw [flatMap_dropN hl]
  rwa [List.length_drop] at next
theorem Run.fromSlF {T : TypeId} {sz cap : Nat} {a : Option Addr} {α : Type} {f : α → List Value} {xs : List α} (m : Nat) (hl : ∀ x ∈ xs, (f x).length = sz) (hf : Find (Sl T sz a xs.length cap (xs.flatMap f)) A A') (hm : m ≤ xs.length) (next : Run c G st e (Sl T sz (cutAt a m cap sz) (xs.drop m).length (cap - m) ((xs.drop m).flatMap f) :: A')) : Run c G st e A := by
  refine Run.cutSl m hf hm ?_
  rw [flatMap_dropN hl]
  rwa [List.length_drop] at next
theorem RunD.openEx {X : Type} {φ : X → Prop} {L : X → List HProp} {n : Nat} {listed : Array Bool} (hf : Find (Ex φ L) A A') (next : ∀ x, φ x → RunD c G ops n listed kk e (L x ++ A')) : RunD c G ops n listed kk e A := fun a w h s => by
  obtain ⟨x, hx, s'⟩ := (s.find hf).openEx
  exact next x hx a w h s'
theorem RunL.asSl {T : TypeId} {sz n cap : Nat} {a : Option Addr} {cs : List Value} (cs' : List Value) (n' : Nat) (hf : Find (Sl T sz a n cap cs) A A') (h : cs = cs') (hn : n = n') (next : RunL c G ops lo kk e (Sl T sz a n' cap cs' :: A')) : RunL c G ops lo kk e A := fun ac w ho s => next ac w ho (by rw [← h, ← hn]; exact s.find hf)
theorem Run.asSl {T : TypeId} {sz n cap : Nat} {a : Option Addr} {cs : List Value} (cs' : List Value) (n' : Nat) (hf : Find (Sl T sz a n cap cs) A A') (h : cs = cs') (hn : n = n') (next : Run c G st e (Sl T sz a n' cap cs' :: A')) : Run c G st e A := fun ac w ho s => next ac w ho (by rw [← h, ← hn]; exact s.find hf)
end
end Go.Proofs.Ytghmmjifmnmbgaa.Csl
