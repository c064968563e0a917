/- slices.SortFunc by contract: the library's own proof of it, brought to rows that are owned. Nothing of a program stands here. -/
import Derived.Test.YtghmmjifmnmbgaaCsl23
import Derived.Shelf.SlSortCmp.WholeK
import Derived.Shelf.SlSortCmp.NoneTotal
set_option linter.unusedVariables false
set_option linter.unusedSimpArgs false
namespace Go.Proofs.Ytghmmjifmnmbgaa.Csl
open Go Go.Shelf Go.Sort

/-- A world that holds all that another one held, and parts from it in memory and draws alone, is that one grown. -/
theorem grown_of {w w' : World} (s : St (heapOf w) [] w') : ∃ q os', w' = grow (w.drewN q) os' := by
  obtain ⟨h, ⟨g, o1, o2, o3, o4⟩, _⟩ := s
  have hb : ∀ k, k < w.heap.size → w'.heap[k]? = w.heap[k]? := by
    intro k hk
    have := Array.getElem?_eq_getElem hk
    rw [this]; exact g k _ this
  have hsz : w.heap.size ≤ w'.heap.size := by
    rcases Nat.lt_or_ge w'.heap.size w.heap.size with x | x
    · have := hb w'.heap.size x
      rw [Array.getElem?_eq_none (Nat.le_refl _), Array.getElem?_eq_getElem x] at this
      cases this
    · exact x
  refine ⟨w'.drawn - w.drawn, w'.heap.extract w.heap.size w'.heap.size, ?_⟩
  obtain ⟨hp, tp, dr, os, out⟩ := w'
  obtain ⟨hp0, tp0, dr0, os0, out0⟩ := w
  simp only [heapOf] at o1 o2 o3 o4
  subst o1 o2 o3
  simp only at hb hsz
  have e1 : dr = dr0 + (dr - dr0) := by omega
  have e2 : hp = hp0 ++ hp.extract hp0.size hp.size := ?_
  · simp only [grow, World.drewN]
    rw [← e1, ← e2]
  apply Array.ext_getElem?
  intro i
  rcases Nat.lt_or_ge i hp0.size with q | q
  · rw [hb i q, Array.getElem?_append_left q]
  · rw [Array.getElem?_append_right q]
    rcases Nat.lt_or_ge i hp.size with r | r
    · rw [Array.getElem?_extract, if_pos (by simp; omega)]
      congr 1; omega
    · rw [Array.getElem?_eq_none r, Array.getElem?_eq_none (by rw [Array.size_extract, Nat.min_self]; omega)]
theorem Ctr.exact {P : Program} {f : FuncId} {args : List Value} {u : Value} {w : World} (h : Ctr P (heapOf w) f args [] (fun F v A => v = u ∧ A = F)) :
    Calls P f args.toArray w fun e w' => e = .returned u ∧ ∃ q os', w' = grow (w.drewN q) os' :=
  (h.2 [] w (St.init w)).mono fun e w' ⟨v, A, he, ⟨hv, hA⟩, s⟩ => ⟨by rw [he, hv], grown_of (by rw [hA] at s; exact s)⟩
theorem St.grown {G : Gp} {A : List HProp} {w : World} (s : St G A w) (os : Array Obj) : St G A (grow w os) := by
  obtain ⟨h, g, s, r⟩ := s
  have lt : ∀ {K : Hp}, K.sub w → K.sub (grow w os) := fun {K} t b o e => by
    rw [heap_grow_old w os (Hp.sub_lt t e)]; exact t b o e
  exact ⟨h, ⟨lt g.1, g.2⟩, lt s, r⟩

theorem flatK_get {α : Type} [Inhabited α] (enc : α → List Value) (k : Nat) (hk : ∀ x, (enc x).length = k) : ∀ (xs : List α) (t : Nat), t < xs.length * k → (xs.flatMap enc)[t]? = (enc xs.toArray[t / k]!)[t % k]?
  | [], t, h => by simp at h
  | x :: xs, t, h => by
    have hk0 : 0 < k := by
      rcases Nat.eq_zero_or_pos k with q | q
      · subst q; simp at h
      · exact q
    rw [List.flatMap_cons]
    rcases Nat.lt_or_ge t k with q | q
    · rw [List.getElem?_append_left (by rw [hk]; exact q), Nat.div_eq_of_lt q, Nat.mod_eq_of_lt q]
      simp
    · rw [List.getElem?_append_right (by rw [hk]; exact q), hk, flatK_get enc k hk xs (t - k) (by simp only [List.length_cons, Nat.add_mul, Nat.one_mul] at h; omega)]
      have e1 : t / k = (t - k) / k + 1 := by
        rw [← Nat.add_div_right _ hk0, Nat.sub_add_cancel q]
      have e2 : t % k = (t - k) % k := by rw [Nat.mod_eq_sub_mod q]
      rw [e1, e2]
      congr 2
      simp only [List.getElem!_toArray]
      simp
theorem flatK_eq {α : Type} [Inhabited α] (enc : α → List Value) (k : Nat) (hk : ∀ x, (enc x).length = k) (d : Array α) : flatK enc k d = (d.toList.flatMap enc).toArray := by
  have hl : (d.toList.flatMap enc).length = d.size * k := by
    rw [List.length_flatMap, show (fun x => (enc x).length) = fun _ => k from funext hk]
    simp [List.map_const', List.sum_replicate_nat]
  refine ext_get! (by simp [hl]) fun t ht => ?_
  have ht' : t < d.size * k := by simpa using ht
  rw [get_flatK _ _ _ _ ht']
  have h1 := flatK_get enc k hk d.toList t (by simpa using ht')
  have hm : t % k < k := Nat.mod_lt _ (by rcases Nat.eq_zero_or_pos k with q | q; · subst q; simp at ht'
                                          · exact q)
  simp only [Array.toArray_toList] at h1
  rw [getElem!_pos _ t (by simpa [hl] using ht'), getElem!_pos _ (t % k) (by rw [hk]; exact hm)]
  rw [List.getElem?_eq_getElem (by rw [hl]; exact ht'), List.getElem?_eq_getElem (by rw [hk]; exact hm)] at h1
  simpa using h1.symm

/-- A row whose middle is put anew. -/
theorem St.putRow {G : Gp} {A : List HProp} {w : World} {b : Nat} {T : TypeId} {pre cs post : List Value} {d : Array Value} (s : St G (row b T (pre ++ cs ++ post) :: A) w) (hd : d.size = cs.length) :
    St G (row b T (pre ++ d.toList ++ post) :: A) (Sort.putRow id w b pre.length d) := by
  obtain ⟨fz, hz, s⟩ := s.row_open
  have hb := s.pt_at
  refine St.mkrow (fz := fz) (by simpa [hd] using hz) (s.pt_set ?_ ?_ ⟨rfl, rfl, rfl, Nat.le_refl _⟩)
  · simp only [Sort.putRow, mapBlock, Array.getElem?_modify, hb, if_true, Option.map_some, onCells]
    congr 2
    apply Array.ext_getElem?
    intro i
    simp only [putCells, Array.getElem?_mapIdx]
    rw [List.getElem?_toArray, List.getElem?_toArray]
    rcases Nat.lt_or_ge i pre.length with q | q
    · rw [List.append_assoc, List.append_assoc, List.getElem?_append_left q, List.getElem?_append_left q]
      rw [List.getElem?_eq_getElem q, Option.map_some, if_neg (by omega)]
    · rw [List.append_assoc, List.append_assoc, List.getElem?_append_right q, List.getElem?_append_right q]
      rcases Nat.lt_or_ge (i - pre.length) cs.length with r | r
      · rw [List.getElem?_append_left r, List.getElem?_append_left (by simpa [hd] using r), List.getElem?_eq_getElem r, Option.map_some, if_pos ⟨q, by omega⟩]
        rw [List.getElem?_eq_getElem (by simpa [hd] using r)]
        congr 1
        rw [getElem!_pos _ _ (by rw [hd]; exact r)]
        simp
      · rw [List.getElem?_append_right r, List.getElem?_append_right (by simpa [hd] using r)]
        simp only [Array.length_toList, hd]
        cases post[i - pre.length - cs.length]? with
        | none => rfl
        | some y => rw [Option.map_some, if_neg (by omega)]
  · intro c hc
    simp [Sort.putRow, mapBlock, Array.getElem?_modify, Ne.symm hc]

theorem Seen.holds {G : Gp} {A : List HProp} {w : World} {b : Nat} {T : TypeId} {pre cs post : List Value} (s : St G (row b T (pre ++ cs ++ post) :: A) w) : Holds id w b pre.length cs.toArray := by
  intro j hj
  have hj' : j < cs.length := by simpa using hj
  refine ⟨?_, s.not_frozen (by simp; omega)⟩
  rw [s.seen.cell, List.append_assoc, List.getElem?_append_right (by omega), show pre.length + j - pre.length = j from by omega, List.getElem?_append_left hj', List.getElem?_eq_getElem hj']
  simp [hj']
theorem Bears.callable {P : Program} {f : FuncId} {B : Func} (h : Bears P f B) (hb : B.body.isNone = false) : Callable P f := by
  obtain ⟨nm, hn, hf⟩ := h
  exact ⟨_, hf, hn, hb⟩
theorem St.gp {G : Gp} {A : List HProp} {w : World} (s : St G A w) : G.sub w := by obtain ⟨h, g, _⟩ := s; exact g

theorem sortC {P : Program} {ρ : Ren} {α : Type} [Inhabited α] (L : SlLaysF0.n6 P ρ) {k : Nat} (aE : isAggOf P (ρ.t 24) = some true) (zE : sizeIs P (ρ.t 24) = some k) (enc : α → List Value) (hk : ∀ x, (enc x).length = k) (h1 : ∀ x, ∀ v ∈ enc x, v.isOne = true)
    (cf : α → α → Int) (hO : SWO (ltOf cf)) {g : FuncId} {cb : List Value} (hg : Callable P g) {G : Gp} (hc : ∀ W, G.sub W → ∀ x y, Ctr P (heapOf W) g ([.agg (enc x).toArray, .agg (enc y).toArray] ++ cb) [] (fun F v A => v = .int .i64 (cf x y) ∧ A = F))
    {T : TypeId} {a : Option Addr} {cap : Nat} (xs : List α) (hsz : xs.length < 4611686018427387904) :
    Ctr P G (ρ.f 6) [.slice a xs.length cap, .func (.func g) #[] cb.toArray] [Sl T k a xs.length cap (xs.flatMap enc)]
      (fun F v A => v = .tuple #[] ∧ ∃ ys : List α, ys.Perm xs ∧ (ys.Pairwise fun x y => ltOf cf y x = false) ∧ A = Sl T k a xs.length cap (ys.flatMap enc) :: F) := by
  refine ⟨Bears.callable L.f6 rfl, fun F w s => ?_⟩
  rcases s.Sl_open with ⟨rfl, h0, rfl, hcs, s1⟩ | ⟨b, pre, post, rfl, h1', h2, h3, s1⟩
  · have hx : xs = [] := List.eq_nil_of_length_eq_zero h0
    subst hx
    refine (Go.Proofs.AnyF.slices_SortFunc_none { L with } none 0 _ w).mono ?_
    rintro e w' ⟨rfl, rfl⟩
    exact ⟨_, _, rfl, ⟨rfl, [], .refl _, .nil, rfl⟩, s⟩
  · have hfl := flatK_eq enc k hk xs.toArray
    simp only [List.toList_toArray] at hfl
    have hH : HoldsK enc k w b pre.length xs.toArray := by
      unfold HoldsK; rw [hfl]; exact Seen.holds s1
    have hW : ∀ (m : Nat) (os : Array Obj) (dk : Array α), dk.size = xs.length → St G (row b T (pre ++ dk.toList.flatMap enc ++ post) :: F) (sortWorldK enc k w b pre.length m dk os) := by
      intro m os dk hdk
      refine St.grown ?_ os
      unfold putRowK
      rw [flatK_eq enc k hk dk]
      have e : ∀ l : List α, (l.flatMap enc).length = l.length * k := fun l => by
        rw [List.length_flatMap, show (fun x => (enc x).length) = fun _ => k from funext hk]
        simp [List.map_const', List.sum_replicate_nat]
      have s2 : St G (row b T (pre ++ xs.flatMap enc ++ post) :: F) (Sort.ahead w m) := St.same (w := w) rfl ⟨rfl, rfl, rfl, by simp [Sort.ahead]⟩ s1
      have := St.putRow (d := (dk.toList.flatMap enc).toArray) s2 (by rw [List.size_toArray, e, e, Array.length_toList, hdk])
      simpa using this
    have eg : ∀ args w, (callFunc g args).run P w = .ok (.enter g args) w := by
      obtain ⟨fn, hf, hn, hb⟩ := hg
      intro args w
      have : Enters P g := by
        cases hbb : fn.body with
        | none => rw [hbb] at hb; cases hb
        | some cd => exact enters_of hf hn hbb
      exact this args w
    have hcmp : Go.Proofs.CmpLays P g cb.toArray enc k cf b pre.length xs.toArray.size w := by
      intro m os dk hdk x y
      have := (hc _ (hW m os dk (by simpa using hdk)).gp x y).exact
      simpa using this
    have hh := Go.Proofs.AnyQ.slices_SortFunc L k (fun w => run_isAgg aE) (fun w => run_sizeOf zE) enc hk (fun x v hv => by
      have := h1 x v hv
      cases v <;> simp_all [Value.isOne, Value.oneCell']) cf hO g cb.toArray b pre.length cap xs.toArray w eg hcmp hH s1.seen.lt (by simpa using hsz)
    simp only [List.size_toArray] at hh
    refine hh.mono ?_
    rintro e w' ⟨rfl, d', n, os, hp, hs, rfl⟩
    have hds : d'.size = xs.length := by have := hp.1; simpa using this
    refine ⟨_, _, rfl, ⟨rfl, d'.toList, ?_, ?_, rfl⟩, ?_⟩
    · have := hp.2.2
      rw [Array.extract_eq_self_of_le (by simp [hds])] at this
      simpa using this
    · rw [List.pairwise_iff_getElem]
      intro i j hi hj hij
      have := hs i j (Nat.zero_le _) hij (by simpa [hds] using hj)
      rw [getElem!_pos _ _ (by simpa using hj), getElem!_pos _ _ (by simpa using hi)] at this
      simpa using this
    · refine St.Sl_mk ?_ h2 h3 (hW n os d' hds)
      rw [List.length_flatMap, show (fun x => (enc x).length) = fun _ => k from funext hk]
      simp [List.map_const', List.sum_replicate_nat, hds]
end Go.Proofs.Ytghmmjifmnmbgaa.Csl
