/- Maps. Nothing of a program stands here. -/
import Derived.Test.YtghmmjifmnmbgaaCsl12
import Derived.Maps.RangeRun
set_option linter.unusedVariables false
set_option linter.unusedSimpArgs false
namespace Go.Proofs.Ytghmmjifmnmbgaa.Csl
open Go

structure MapIs (arr : Array MapEntry) (clock : Nat) (es : List (Value × Value)) : Prop where
  kv : arr.toList.map (fun e => (e.key, e.val)) = es
  born : ∀ e ∈ arr.toList, e.born < clock
  nodup : (arr.toList.map (·.born)).Nodup
/-- A map that is owned, with its entries. -/
def Mp (r : Nat) (es : List (Value × Value)) : HProp := fun h => ∃ arr clock, MapIs arr clock es ∧ h = Hp.one r (.map arr clock)
def MpR (G : Gp) (r : Nat) (es : List (Value × Value)) : Prop := ∃ arr clock, MapIs arr clock es ∧ G r = some (.map arr clock)
def MpS (w : World) (r : Nat) (es : List (Value × Value)) : Prop := ∃ arr clock, MapIs arr clock es ∧ w.heap[r]? = some (.map arr clock)
theorem St.mp_open {G : Gp} {r : Nat} {es : List (Value × Value)} {A : List HProp} {w : World} (s : St G (Mp r es :: A) w) : ∃ arr clock, MapIs arr clock es ∧ St G (pt r (.map arr clock) :: A) w := by
  obtain ⟨h, g, s, d, h1, h2, d', e, ⟨arr, clock, m, q⟩, a⟩ := s
  exact ⟨arr, clock, m, h, g, s, d, h1, h2, d', e, q, a⟩
theorem St.mp_mk {G : Gp} {r : Nat} {es : List (Value × Value)} {A : List HProp} {w : World} {arr : Array MapEntry} {clock : Nat} (m : MapIs arr clock es) (s : St G (pt r (.map arr clock) :: A) w) : St G (Mp r es :: A) w := s.imp fun h e => ⟨arr, clock, m, e⟩
theorem St.mp_seen {G : Gp} {r : Nat} {es : List (Value × Value)} {A : List HProp} {w : World} (s : St G (Mp r es :: A) w) : MpS w r es := by
  obtain ⟨arr, clock, m, s⟩ := s.mp_open
  exact ⟨arr, clock, m, s.pt_at⟩
theorem MpR.seen {G : Gp} {r : Nat} {es : List (Value × Value)} {w : World} (h : MpR G r es) (s : G.sub w) : MpS w r es := by
  obtain ⟨arr, clock, m, g⟩ := h
  exact ⟨arr, clock, m, s.1 _ _ g⟩
theorem MpR.mono {G G' : Gp} {r : Nat} {es : List (Value × Value)} (h : Gp.le G G') (m : MpR G r es) : MpR G' r es := by
  obtain ⟨arr, clock, m, g⟩ := m; exact ⟨arr, clock, m, h.at_ _ _ g⟩
theorem MpR.of_mp {G : Gp} {h : Hp} {r : Nat} {es : List (Value × Value)} (m : Mp r es h) (d : Hp.disj G.hp h) : MpR (Gp.join G h) r es := by
  obtain ⟨arr, clock, m, rfl⟩ := m
  exact ⟨arr, clock, m, Hp.join_right d (Hp.one_self _ _)⟩
theorem MpR.in_join {G : Gp} {h1 h2 : Hp} {r : Nat} {es : List (Value × Value)} (d : Hp.disj G.hp (Hp.join h1 h2)) (m : MpR (Gp.join G h2) r es) (d' : Hp.disj h1 h2) : MpR (Gp.join G (Hp.join h1 h2)) r es := by
  obtain ⟨arr, clock, m, g⟩ := m
  refine ⟨arr, clock, m, ?_⟩
  have g' : Hp.join G.hp h2 r = some (.map arr clock) := g
  show Hp.join G.hp (Hp.join h1 h2) r = _
  unfold Hp.join at g' ⊢
  cases hG : G.hp r with
  | some o => rw [hG] at g'; exact g'
  | none =>
    rw [hG] at g'
    have g2 : h2 r = some (.map arr clock) := g'
    rcases d' r with x | x
    · simp only [x]; exact g2
    · rw [x] at g2; cases g2
theorem Lends.Mp {r : Nat} {es : List (Value × Value)} : Lends (Mp r es) (fun G => MpR G r es) := Lends.of fun G h q d => MpR.of_mp q d

/-! ### Keys -/
/-- Keys of a type: how they are told apart. -/
structure KeyT (P : Program) (kt : TypeId) {K : Type} [DecidableEq K] (ek : K → Value) : Prop where
  eq : ∀ a b w, (Op.equal kt (ek a) (ek b)).run P w = .ok (decide (a = b)) w
  ok : ∀ a b w, (Instr.checkKey b 10000 kt (ek a)).run P w = .ok () w
  bits : ∀ a, Instr.sameBits 10000 (ek a) (ek a) = true
  und : ∃ k, P.underlying kt = some k
def mget {K V : Type} [DecidableEq K] (k : K) : List (K × V) → Option V
  | [] => none
  | p :: l => if k = p.1 then some p.2 else mget k l
def mput {K V : Type} [DecidableEq K] (k : K) (v : V) : List (K × V) → List (K × V)
  | [] => [(k, v)]
  | p :: l => if k = p.1 then (k, v) :: l else p :: mput k v l
def mdel {K V : Type} [DecidableEq K] (k : K) : List (K × V) → List (K × V)
  | [] => []
  | p :: l => if k = p.1 then l else p :: mdel k l
def menc {K V : Type} (ek : K → Value) (ev : V → Value) (l : List (K × V)) : List (Value × Value) := l.map fun p => (ek p.1, ev p.2)
def mval {V : Type} (ev : V → Value) (z : Value) : Option V → Value
  | some v => ev v
  | none => z
/-- Where a key stands. -/
def midx {K V : Type} [DecidableEq K] (k : K) : List (K × V) → Nat → Option (Nat × V)
  | [], _ => none
  | p :: l, i => if k = p.1 then some (i, p.2) else midx k l (i + 1)
theorem midx_get {K V : Type} [DecidableEq K] (k : K) : ∀ (l : List (K × V)) (i : Nat), (midx k l i).map (·.2) = mget k l
  | [], _ => rfl
  | p :: l, i => by unfold midx mget; split <;> simp [midx_get k l]
section
variable {P : Program} {w : World} {K V : Type} [DecidableEq K] {kt : TypeId} {ek : K → Value} {ev : V → Value}
theorem run_findAsking (h : KeyT P kt ek) (k : K) : ∀ (arr : List MapEntry) (l : List (K × V)) (i : Nat), arr.map (fun e => (e.key, e.val)) = menc ek ev l →
    (Instr.findAsking kt (ek k) arr i).run P w = .ok ((midx k l i).map fun p => (p.1, ev p.2)) w
  | [], [], i, _ => by simp [Instr.findAsking, midx]
  | [], _ :: _, _, e => by simp [menc] at e
  | _ :: _, [], _, e => by simp [menc] at e
  | x :: arr, p :: l, i, e => by
    simp only [menc, List.map_cons, List.cons.injEq, Prod.mk.injEq] at e
    obtain ⟨⟨e1, e2⟩, e3⟩ := e
    simp only [Instr.findAsking, Sem.run_bind, e1, h.eq k p.1 w, Result.andThen_ok]
    by_cases hk : k = p.1
    · simp [hk, midx, e2]
    · simp only [hk, decide_false, Bool.false_eq_true, if_false, midx]
      exact run_findAsking h k arr l (i + 1) e3
theorem sameNow_eq {kind : TypeDesc} {x y : Value} {b : Bool} (hu : P.underlying kt = some kind) (h : Instr.sameNow kind x y = some b) : (Op.equal kt x y).run P w = .ok b w := by
  unfold Instr.sameNow at h
  split at h
  · split at h
    · rename_i hk; subst hk; cases h; exact run_equalIn_int w 9999 kt _ _ _ _ hu
    · cases h
  · cases h
    show (Op.equalIn (9999 + 1) kt _ _).run P w = _
    rw [run_equalIn_string w 9999 kt _ _ hu, beq_toListBytes]
  · cases h; exact run_equalIn_bool' w 9999 kt _ _ hu
  · cases h
theorem run_findNow {kind : TypeDesc} (hu : P.underlying kt = some kind) (h : KeyT P kt ek) (k : K) : ∀ (arr : List MapEntry) (l : List (K × V)) (i : Nat) (r : Option (Nat × Value)), arr.map (fun e => (e.key, e.val)) = menc ek ev l →
    Instr.findNow kind (ek k) arr i = some r → r = (midx k l i).map fun p => (p.1, ev p.2)
  | [], [], i, r, _, q => by simp [Instr.findNow] at q; simp [midx, q]
  | [], _ :: _, _, _, e, _ => by simp [menc] at e
  | _ :: _, [], _, _, e, _ => by simp [menc] at e
  | x :: arr, p :: l, i, r, e, q => by
    simp only [menc, List.map_cons, List.cons.injEq, Prod.mk.injEq] at e
    obtain ⟨⟨e1, e2⟩, e3⟩ := e
    unfold Instr.findNow at q
    rw [e1] at q
    have key : ∀ b, Instr.sameNow kind (ek k) (ek p.1) = some b → b = decide (k = p.1) := fun b hb => by
      have h1 := sameNow_eq (w := (default : World)) hu hb
      rw [h.eq] at h1
      cases h1; rfl
    split at q
    · rename_i hb
      have := key _ hb
      cases q
      have hk : k = p.1 := by simpa using this.symm
      simp [midx, hk, e2]
    · rename_i hb
      have := key _ hb
      have hk : ¬ k = p.1 := by simpa using this.symm
      rw [run_findNow hu h k arr l (i + 1) r e3 q]
      simp [midx, hk]
    · cases q
theorem run_findKey (h : KeyT P kt ek) (k : K) {arr : Array MapEntry} {l : List (K × V)} (e : arr.toList.map (fun e => (e.key, e.val)) = menc ek ev l) :
    (Instr.findKey kt (ek k) arr.toList).run P w = .ok ((midx k l 0).map fun p => (p.1, ev p.2)) w := by
  obtain ⟨kind, hu⟩ := h.und
  simp only [Instr.findKey, Sem.run_bind, run_underlying hu, Result.andThen_ok]
  cases hq : Instr.findNow kind (ek k) arr.toList 0 with
  | none => exact run_findAsking h k _ l 0 e
  | some r => rw [run_findNow hu h k _ l 0 r e hq]; simp
theorem run_lookup {mt et : TypeId} {r : Nat} {l : List (K × V)} {k : K} {z : Value} {ok : Bool} (ht : P.underlying mt = some (.map kt et)) (hz : zeroIs P et = some z) (h : KeyT P kt ek) (s : MpS w r (menc ek ev l)) :
    (Instr.lookup mt (.map (some r)) (ek k) ok).run P w = .ok (if ok then .tuple #[mval ev z (mget k l), .bool (mget k l).isSome] else mval ev z (mget k l)) w := by
  obtain ⟨arr, clock, m, g⟩ := s
  have hk := run_findKey (w := w) h k m.kv
  simp only [Instr.lookup, Sem.run_bind, run_underlying ht, Result.andThen_ok, MapKept.run_getObj_map g, h.ok, Sem.run_pure, hk, ← midx_get k l 0]
  cases midx k l 0 with
  | none => cases ok <;> simp [run_zero hz, mval]
  | some p => cases ok <;> simp [mval]
/-- What an entry turns into. -/
theorem midx_lt {k : K} : ∀ {l : List (K × V)} {i j : Nat} {v : V}, midx k l i = some (j, v) → i ≤ j ∧ j - i < l.length ∧ ∃ p, l[j - i]? = some p ∧ p.1 = k
  | [], _, _, _, h => by simp [midx] at h
  | p :: l, i, j, v, h => by
    unfold midx at h
    split at h
    · rename_i hk; cases h; exact ⟨Nat.le_refl _, by simp, p, by simp, hk.symm⟩
    · obtain ⟨h1, h2, q, h3, h4⟩ := midx_lt h
      refine ⟨by omega, by simp; omega, q, ?_, h4⟩
      rw [show j - i = (j - (i + 1)) + 1 from by omega]; simpa using h3
theorem mput_at {k : K} {v : V} : ∀ {l : List (K × V)} {i j : Nat} {u : V}, midx k l i = some (j, u) → menc ek ev (mput k v l) = (menc ek ev l).set (j - i) (ek k, ev v)
  | [], _, _, _, h => by simp [midx] at h
  | p :: l, i, j, u, h => by
    unfold midx at h
    split at h
    · rename_i hk; cases h; simp [mput, hk, menc]
    · rename_i hk
      have h1 := (midx_lt h).1
      have := mput_at (v := v) h
      rw [show j - i = (j - (i + 1)) + 1 from by omega]
      simp only [mput, hk, if_false, menc, List.map_cons, List.set_cons_succ]
      simpa [menc] using this
theorem mput_new {k : K} {v : V} : ∀ {l : List (K × V)} {i : Nat}, midx k l i = none → mput k v l = l ++ [(k, v)]
  | [], _, _ => rfl
  | p :: l, i, h => by
    unfold midx at h
    split at h
    · cases h
    · rename_i hk; simp [mput, hk, mput_new h]
theorem modify_toList {α : Type} (a : Array α) (i : Nat) (f : α → α) : (a.modify i f).toList = a.toList.modify i f := by simp
theorem run_mapUpdate {G : Gp} {A : List HProp} {mt et : TypeId} {r : Nat} {l : List (K × V)} {k : K} {v : V} (ht : P.underlying mt = some (.map kt et)) (h : KeyT P kt ek) (s : St G (Mp r (menc ek ev l) :: A) w) :
    ∃ w', (Instr.mapUpdate mt (.map (some r)) (ek k) (ev v)).run P w = .ok () w' ∧ St G (Mp r (menc ek ev (mput k v l)) :: A) w' := by
  obtain ⟨arr, clock, m, s⟩ := s.mp_open
  have g := s.pt_at
  have key : ∀ (arr' : Array MapEntry) (c' : Nat), MapIs arr' c' (menc ek ev (mput k v l)) → ∃ w', (setObj r (.map arr' c')).run P w = .ok () w' ∧ St G (Mp r (menc ek ev (mput k v l)) :: A) w' := by
    intro arr' c' m'
    have hlt : r < w.heap.size := (Array.getElem?_eq_some_iff.1 g).1
    refine ⟨{ w with heap := w.heap.set r (.map arr' c') hlt }, ?_, St.mp_mk m' (s.pt_set ?_ ?_ ⟨rfl, rfl, rfl, Nat.le_refl _⟩)⟩
    · simp [setObj, Sem.run, g]
      rw [Array.setIfInBounds]; simp [hlt]
    · simp
    · intro c hc; rw [Array.getElem?_set]; simp [Ne.symm hc]
  simp only [Instr.mapUpdate, Sem.run_bind, run_underlying ht, Result.andThen_ok, MapKept.run_getObj_map g, h.ok, run_findKey h k m.kv]
  cases hq : midx k l 0 with
  | none =>
    have hl := mput_new (v := v) hq
    suffices hm : MapIs (arr.push { key := ek k, val := ev v, born := clock }) (clock + 1) (menc ek ev (mput k v l)) by
      obtain ⟨w', e1, e2⟩ := key _ _ hm
      exact ⟨w', by simpa using e1, e2⟩
    refine ⟨?_, ?_, ?_⟩
    · rw [hl]; simp [menc, m.kv]
    · intro e he
      rcases List.mem_append.1 (by simpa using he : e ∈ arr.toList ++ [{ key := ek k, val := ev v, born := clock }]) with he | he
      · have := m.born e he; omega
      · rw [List.mem_singleton.1 he]; exact Nat.lt_succ_self _
    · simp only [Array.toList_push, List.map_append, List.map_cons, List.map_nil]
      rw [List.nodup_append]
      refine ⟨m.nodup, by simp, fun a ha b hb => ?_⟩
      obtain ⟨e, he, rfl⟩ := List.mem_map.1 ha
      have := m.born e he
      simp at hb; omega
  | some q =>
    obtain ⟨j, u⟩ := q
    obtain ⟨_, h2, p, h3, h4⟩ := midx_lt hq
    rw [Nat.sub_zero] at h2 h3
    have hset := mput_at (ek := ek) (ev := ev) (v := v) hq
    rw [Nat.sub_zero] at hset
    have hlen : arr.toList.length = l.length := by have := congrArg List.length m.kv; simpa [menc] using this
    have hj : j < arr.size := by rw [← Array.length_toList, hlen]; exact h2
    have hkey : (arr[j]?).map (·.key) = some (ek k) := by
      have e1 := congrArg (fun l => l[j]?) m.kv
      simp only [List.getElem?_map, menc, h3, Option.map_some] at e1
      rw [Array.getElem?_toList] at e1
      cases ha : arr[j]? with
      | none => rw [ha] at e1; simp at e1
      | some x => rw [ha] at e1; simp at e1; simp [e1.1, h4]
    simp only [Option.map_some, hkey, Option.getD_some, Instr.keyThatStays, h.bits, if_true, Sem.run_pure, Result.andThen_ok]
    suffices hm : MapIs (arr.modify j fun e => { e with key := ek k, val := ev v }) clock (menc ek ev (mput k v l)) by
      obtain ⟨w', e1, e2⟩ := key _ _ hm
      exact ⟨w', by simpa using e1, e2⟩
    refine ⟨?_, ?_, ?_⟩
    · rw [hset, ← m.kv, modify_toList]
      apply List.ext_getElem?
      intro i
      simp only [List.getElem?_map, List.getElem?_modify, List.getElem?_set, List.length_map]
      by_cases hi : j = i
      · subst hi
        rw [List.getElem?_eq_getElem (show j < arr.toList.length from by rw [hlen]; exact h2)]
        simp [hlen, h2]
      · cases arr.toList[i]? <;> simp [hi]
    · intro e he
      rw [modify_toList] at he
      obtain ⟨i, hi⟩ := List.getElem?_of_mem he
      rw [List.getElem?_modify] at hi
      cases hx : arr.toList[i]? with
      | none => rw [hx] at hi; simp at hi
      | some x =>
        rw [hx] at hi
        have hb := m.born x (List.mem_of_getElem? hx)
        simp at hi
        rw [← hi]; split <;> exact hb
    · have : (arr.modify j fun e => { e with key := ek k, val := ev v }).toList.map (·.born) = arr.toList.map (·.born) := by
        rw [modify_toList]
        apply List.ext_getElem?
        intro i
        simp only [List.getElem?_map, List.getElem?_modify]
        cases arr.toList[i]? with
        | none => rfl
        | some x => by_cases hi : j = i <;> simp [hi]
      rw [this]; exact m.nodup
end

/-! ### In the walk -/
section
variable {c : Cx} {G : Gp} {ops : Array Oper} {kk : KT} {e : Env} {A A' : List HProp} {lo : List Oper}
variable {d : Nat} {mt kt et tt : TypeId} {pos : String} {af : Array Edge} {gd : Option (Nat × Bool)} {x y z : Operand}
variable {K V : Type} [DecidableEq K] {ek : K → Value} {ev : V → Value} {l : List (K × V)} {k : K} {v : V} {r : Nat} {zv : Value}
theorem RunL.makeMap (hw : Wt ops e ⟨some d, .makeMap mt none, tt, pos, af, gd⟩ true) (hlt : Nat.blt d c.fn.ntmps = true)
    (next : ∀ r, RunL c G ops lo kk ((d, .map (some r)) :: e) (Mp r [] :: A)) : RunL c G ops (⟨some d, .makeMap mt none, tt, pos, af, gd⟩ :: lo) kk e A := by
  refine RunL.val (v := fun r => .map (some r)) (A' := fun r => Mp r [] :: A) hw rfl hlt (fun a w h s => ⟨w.heap.size, { w with heap := w.heap.push (.map #[] 0) }, ?_, ?_⟩) next
  · generalize a.eval = ρ
    simp only [execOp, Option.map_none, Instr.makeMap]
    simp [newObj, Sem.run]
  · refine St.mp_mk (arr := #[]) (clock := 0) ⟨rfl, by simp, by simp⟩ (s.pt_new (by simp) (fun c hc => by simp [Array.getElem?_push, Nat.ne_of_lt hc]) ⟨rfl, rfl, rfl, Nat.le_refl _⟩)
theorem lookup_step {ok : Bool} (hx : opv e x = some (.map (some r))) (hy : opv e y = some (ek k)) (ht : c.P.underlying mt = some (.map kt et)) (hz : zeroIs c.P et = some zv) (hk : KeyT c.P kt ek) {ρ : Operand → Value} {w : World} (ho : Ev e ρ) (s : MpS w r (menc ek ev l)) :
    (execOp ρ ⟨some d, .lookup mt x y ok, tt, pos, af, gd⟩).run c.P w = .ok (.value (if ok then .tuple #[mval ev zv (mget k l), .bool (mget k l).isSome] else mval ev zv (mget k l))) w := by
  have e1 := ho _ _ hx; have e2 := ho _ _ hy
  simp only [execOp, e1, e2, Sem.run_bind, run_lookup ht hz hk s]
  simp
theorem RunL.lookup {ok : Bool} (hx : opv e x = some (.map (some r))) (hy : opv e y = some (ek k)) (hf : Find (Mp r (menc ek ev l)) A A') (ht : c.P.underlying mt = some (.map kt et)) (hz : zeroIs c.P et = some zv) (hk : KeyT c.P kt ek)
    (hw : Wt ops e ⟨some d, .lookup mt x y ok, tt, pos, af, gd⟩ true) (hlt : Nat.blt d c.fn.ntmps = true)
    (next : RunL c G ops lo kk ((d, if ok then .tuple #[mval ev zv (mget k l), .bool (mget k l).isSome] else mval ev zv (mget k l)) :: e) A) : RunL c G ops (⟨some d, .lookup mt x y ok, tt, pos, af, gd⟩ :: lo) kk e A := by
  refine RunL.val (X := Unit) (v := fun _ => _) (A' := fun _ => A) hw rfl hlt (fun a w h s => ⟨(), w, lookup_step hx hy ht hz hk h.ev (s.find hf).mp_seen, s⟩) (fun _ => next)
theorem RunL.lookupR {ok : Bool} (hx : opv e x = some (.map (some r))) (hy : opv e y = some (ek k)) (hm : MpR G r (menc ek ev l)) (ht : c.P.underlying mt = some (.map kt et)) (hz : zeroIs c.P et = some zv) (hk : KeyT c.P kt ek)
    (hw : Wt ops e ⟨some d, .lookup mt x y ok, tt, pos, af, gd⟩ true) (hlt : Nat.blt d c.fn.ntmps = true)
    (next : RunL c G ops lo kk ((d, if ok then .tuple #[mval ev zv (mget k l), .bool (mget k l).isSome] else mval ev zv (mget k l)) :: e) A) : RunL c G ops (⟨some d, .lookup mt x y ok, tt, pos, af, gd⟩ :: lo) kk e A := by
  refine RunL.val (X := Unit) (v := fun _ => _) (A' := fun _ => A) hw rfl hlt (fun a w h s => ⟨(), w, lookup_step hx hy ht hz hk h.ev (hm.seen s.gsub), s⟩) (fun _ => next)
theorem RunD.lookupR {n i : Nat} {listed : Array Bool} {ok : Bool} (hok : regionOk ops = true) (hi : ops[i]? = some ⟨some d, .lookup mt x y ok, tt, pos, af, gd⟩) (hr : (Region.ready .any ops listed).contains i = true) (hx : opv e x = some (.map (some r))) (hy : opv e y = some (ek k)) (hm : MpR G r (menc ek ev l)) (ht : c.P.underlying mt = some (.map kt et)) (hz : zeroIs c.P et = some zv) (hk : KeyT c.P kt ek)
    (hw : Wt ops e ⟨some d, .lookup mt x y ok, tt, pos, af, gd⟩ true) (hlt : Nat.blt d c.fn.ntmps = true) (next : RunD c G ops n (listed.setIfInBounds i true) kk ((d, if ok then .tuple #[mval ev zv (mget k l), .bool (mget k l).isSome] else mval ev zv (mget k l)) :: e) A) (hds : c.ds = [] := by rfl) : RunD c G ops (n + 1) listed kk e A :=
  RunD.quiet hok hi hr rfl hlt hw (fun ρ w he hs => lookup_step hx hy ht hz hk he (hm.seen hs)) next hds
theorem RunL.mapUpdate (hx : opv e x = some (.map (some r))) (hy : opv e y = some (ek k)) (hv : opv e z = some (ev v)) (hf : Find (Mp r (menc ek ev l)) A A') (ht : c.P.underlying mt = some (.map kt et)) (hk : KeyT c.P kt ek)
    (hw : Wt ops e ⟨none, .mapUpdate mt x y z, tt, pos, af, gd⟩ true) (next : RunL c G ops lo kk e (Mp r (menc ek ev (mput k v l)) :: A')) : RunL c G ops (⟨none, .mapUpdate mt x y z, tt, pos, af, gd⟩ :: lo) kk e A := by
  refine RunL.unit hw rfl (fun a w h s => ?_) next
  have e1 := h.opv hx; have e2 := h.opv hy; have e3 := h.opv hv
  generalize a.eval = ρ at e1 e2 e3 ⊢
  obtain ⟨w', hr, s'⟩ := run_mapUpdate (v := v) (k := k) ht hk (s.find hf)
  refine ⟨w', ?_, s'⟩
  simp only [execOp, e1, e2, e3, Sem.run_bind, hr]
  simp
theorem MapIs.size {arr : Array MapEntry} {clock : Nat} {es : List (Value × Value)} (m : MapIs arr clock es) : arr.size = es.length := by rw [← m.kv]; simp
theorem lenMap_step {es : List (Value × Value)} {ats : Array TypeId} {t0 : TypeId} (hx : opv e x = some (.map (some r))) (ha : ats[0]? = some t0) (ht : c.P.underlying t0 = some (.map kt et)) {ρ : Operand → Value} {w : World} (ho : Ev e ρ) (s : MpS w r es) :
    (execOp ρ ⟨some d, .call ⟨.builtin .len, #[x], ats⟩, tt, pos, af, gd⟩).run c.P w = .ok (.value (.int .i64 es.length)) w := by
  have e1 := ho _ _ hx
  obtain ⟨arr, clock, m, g⟩ := s
  simp only [execOp, resolve]
  simp [invoke, builtin, e1, Builtin.len_, ha, run_underlying ht, MapKept.run_getObj_map g, m.size, goInt, Builtin.lenOf]
theorem RunL.lenMap {es : List (Value × Value)} {ats : Array TypeId} {t0 : TypeId} (hx : opv e x = some (.map (some r))) (ha : ats[0]? = some t0) (ht : c.P.underlying t0 = some (.map kt et)) (hf : Find (Mp r es) A A')
    (hw : Wt ops e ⟨some d, .call ⟨.builtin .len, #[x], ats⟩, tt, pos, af, gd⟩ true) (hlt : Nat.blt d c.fn.ntmps = true)
    (next : RunL c G ops lo kk ((d, .int .i64 es.length) :: e) A) : RunL c G ops (⟨some d, .call ⟨.builtin .len, #[x], ats⟩, tt, pos, af, gd⟩ :: lo) kk e A :=
  RunL.val (X := Unit) (v := fun _ => _) (A' := fun _ => A) hw rfl hlt (fun a w h s => ⟨(), w, lenMap_step hx ha ht h.ev (s.find hf).mp_seen, s⟩) (fun _ => next)
theorem RunL.lenMapR {es : List (Value × Value)} {ats : Array TypeId} {t0 : TypeId} (hx : opv e x = some (.map (some r))) (ha : ats[0]? = some t0) (ht : c.P.underlying t0 = some (.map kt et)) (hm : MpR G r es)
    (hw : Wt ops e ⟨some d, .call ⟨.builtin .len, #[x], ats⟩, tt, pos, af, gd⟩ true) (hlt : Nat.blt d c.fn.ntmps = true)
    (next : RunL c G ops lo kk ((d, .int .i64 es.length) :: e) A) : RunL c G ops (⟨some d, .call ⟨.builtin .len, #[x], ats⟩, tt, pos, af, gd⟩ :: lo) kk e A :=
  RunL.val (X := Unit) (v := fun _ => _) (A' := fun _ => A) hw rfl hlt (fun a w h s => ⟨(), w, lenMap_step hx ha ht h.ev (hm.seen s.gsub), s⟩) (fun _ => next)
end
end Go.Proofs.Ytghmmjifmnmbgaa.Csl
