/- Rows of events. -/
import Derived.Test.YtaaondbmkibkkaaGreatD3
set_option linter.unusedVariables false
set_option linter.unusedSimpArgs false
set_option linter.unusedSectionVars false
namespace Go.Proofs.YtaaondbmkibkkaaGreat
open Go Csl


namespace Csl
theorem LawCmp.swo {α β : Type} [Inhabited β] {c : α → α → Int} (h : LawCmp c) (f : β → α) : Go.Sort.SWO (Go.Proofs.ltOf fun x y => c (f x) (f y)) where
  irrefl x := by
    unfold Go.Proofs.ltOf; have := (h.eq0 (f x) (f x)).2 rfl; simp [this]
  trans x y z h1 h2 := by
    unfold Go.Proofs.ltOf at *; simp only [decide_eq_true_iff] at *; exact h.ltTrans h1 h2
  ntrans x y z h1 h2 := by
    unfold Go.Proofs.ltOf at *
    simp only [decide_eq_false_iff_not] at *
    have a1 := h.anti (f x) (f y); have a2 := h.anti (f y) (f z); have a3 := h.anti (f x) (f z)
    have := h.trans (f z) (f y) (f x) (by omega) (by omega)
    omega
instance : Inhabited Pos := ⟨⟨0, .empty⟩⟩
theorem pos_sorted {xs ys : List Pos} (hn : xs.Nodup) (hp : ys.Perm xs) (hs : ys.Pairwise fun x y => Go.Proofs.ltOf (fun p q : Pos => cmpPos p q) y x = false) : ys = srt cmpPos (fun p => p) xs := by
  have hnd : ys.Nodup := hp.nodup_iff.2 hn
  have h1 : Sd cmpPos (fun p : Pos => p) ys := (hs.and hnd).imp fun {a b} q => by
    have q1 := q.1
    unfold Go.Proofs.ltOf at q1
    simp only [decide_eq_false_iff_not] at q1
    exact cmpPos_law.lt_of q1 (Ne.symm q.2)
  exact srt_eq cmpPos_law h1 hp
theorem insS_map {α κ : Type} {c : κ → κ → Int} {f : α → κ} (x : α) : ∀ l : List α, insS c (fun k => k) (f x) (l.map f) = (insS c f x l).map f
  | [] => rfl
  | y :: l => by
    rw [List.map_cons]; unfold insS
    split
    · rw [insS_map x l]; rfl
    · rfl
theorem srt_map {α κ : Type} {c : κ → κ → Int} {f : α → κ} : ∀ l : List α, srt c (fun k => k) (l.map f) = (srt c f l).map f
  | [] => rfl
  | x :: l => by
    have ih := srt_map (c := c) (f := f) l
    unfold srt at ih ⊢
    rw [List.map_cons, List.foldr_cons, List.foldr_cons, ih, insS_map]
theorem srt_filter {α κ : Type} {c : κ → κ → Int} {f : α → κ} (hc : LawCmp c) {l : List α} (hn : (l.map f).Nodup) (m : α → Bool) : srt c f (l.filter m) = (srt c f l).filter m :=
  (srt_eq hc (List.Pairwise.filter m (srt_sd hc hn)) ((srt_perm l).filter m)).symm
theorem perm_map_inv {α β : Type} {f : α → β} : ∀ {m : List β} {l : List α}, (l.map f).Perm m → ∃ l', l.Perm l' ∧ l'.map f = m
  | [], l, h => ⟨[], by have := h.eq_nil; rw [List.map_eq_nil_iff] at this; rw [this], rfl⟩
  | b :: m, l, h => by
    have hb : b ∈ l.map f := h.mem_iff.2 List.mem_cons_self
    obtain ⟨a, ha, rfl⟩ := List.mem_map.1 hb
    obtain ⟨s, t, rfl⟩ := List.append_of_mem ha
    have h1 : ((s ++ t).map f).Perm m := by
      have : ((s ++ a :: t).map f).Perm (f a :: (s ++ t).map f) := by
        rw [List.map_append, List.map_cons, List.map_append]; exact List.perm_middle
      exact (this.symm.trans h).cons_inv
    obtain ⟨l', h2, h3⟩ := perm_map_inv h1
    exact ⟨a :: l', List.perm_middle.trans (h2.cons a), by rw [List.map_cons, h3]⟩
/-- The positions of the nodes that are meant. -/
def PS (l : EL) (mt : Nde → Bool) (xs : XL) : List Pos := (xs.filter fun x => mt (nodeOf l [] x).2.2).map fun x => posOf l x.1
def idsOf (l : EL) (mt : Nde → Bool) (xs : XL) : List ByteArray := (srt cmpPos (fun p => p) (PS l mt xs)).map (·.id)
theorem PS_snoc {l : EL} {mt : Nde → Bool} {xs : XL} {y : Evt × Nat × Sli} : PS l mt (xs ++ [y]) = PS l mt xs ++ (if mt (nodeOf l [] y).2.2 then [posOf l y.1] else []) := by
  unfold PS; rw [List.filter_append, List.map_append]; congr 1
  by_cases h : mt (nodeOf l [] y).2.2 <;> simp [h]
theorem PS_len {l : EL} {mt : Nde → Bool} {xs : XL} : (PS l mt xs).length ≤ xs.length := by unfold PS; rw [List.length_map]; exact List.length_filter_le _ _
theorem PS_nodup {l : EL} {mt : Nde → Bool} {xs : XL} (hn : (xs.evs.map (·.id)).Nodup) : (PS l mt xs).Nodup := by
  have h1 : (xs.map fun x => posOf l x.1).Nodup := by
    have := posOf_nodup (l := l) hn
    unfold XL.evs at this; rw [List.map_map] at this; exact this
  exact List.Nodup.sublist (List.filter_sublist.map _) h1
theorem PS_perm {l : EL} {mt : Nde → Bool} {xs ys : XL} (h : xs.Perm ys) : (PS l mt xs).Perm (PS l mt ys) := (h.filter _).map _
theorem idsOf_all {xs : XL} : idsOf xs.evs (fun _ => true) xs = (allOf xs.evs).map (·.id) := by
  unfold idsOf PS allOf
  rw [show (xs.filter fun x => (fun _ => true) (nodeOf xs.evs [] x).2.2) = xs from List.filter_eq_self.2 fun _ _ => rfl]
  have : (xs.map fun x => posOf xs.evs x.1) = xs.evs.map (posOf xs.evs) := by unfold XL.evs; rw [List.map_map]; rfl
  rw [this, srt_map, List.map_map]; rfl
theorem idsOf_heads {xs : XL} (hn : (xs.evs.map (·.id)).Nodup) : idsOf xs.evs (fun n => !n.parent) xs = headsOf xs.evs := by
  unfold idsOf PS headsOf allOf
  rw [← srt_filter cmpPos_law (posOf_nodup hn)]
  have : ((xs.filter fun x => !(nodeOf xs.evs [] x).2.2.parent).map fun x => posOf xs.evs x.1) = (xs.evs.filter fun v => !isPar xs.evs v.id).map (posOf xs.evs) := by
    have e : (fun x : Evt × Nat × Sli => !(nodeOf xs.evs [] x).2.2.parent) = fun x => !isPar xs.evs x.1.id := by
      funext x; unfold nodeOf; simp [memB]
    rw [e]
    generalize hl : xs.evs = l
    rw [← hl]; unfold XL.evs
    rw [List.filter_map, List.map_map]; rfl
  rw [this, srt_map, List.map_map]; rfl
theorem evOk_len {v : Evt} (h : evOk v = true) : v.ps.length ≤ 4 := by
  unfold evOk evMay headOk at h
  simp only [Bool.and_eq_true, decide_eq_true_eq] at h
  exact h.1.1.1.1.2
def posAt (l : EL) (id : ByteArray) : Pos := if l.has id = true then ⟨depthOf l id, id⟩ else noPos
theorem nl_get {xs : XL} {id : ByteArray} : xs.nl.get id = (xs.find? fun x => decide (x.1.id = id)).map fun x => (nodeOf xs.evs [] x).2.2 := by
  unfold NL.get XL.nl XL.nq
  rw [List.find?_map, Option.map_map]; rfl
theorem evs_get {xs : XL} {id : ByteArray} : xs.evs.get id = (xs.find? fun x => decide (x.1.id = id)).map fun x => x.1 := by
  unfold EL.get XL.evs
  rw [List.find?_map]; rfl
theorem nl_pos {xs : XL} {id : ByteArray} : xs.nl.pos id = posAt xs.evs id := by
  unfold NL.pos posAt
  rw [nl_get, ← get_has, evs_get]
  cases h : xs.find? fun x => decide (x.1.id = id) with
  | none => rfl
  | some x =>
    have : x.1.id = id := by simpa using List.find?_some h
    subst this; rfl
/-- Events, as they lie: each with where its parents lie. -/
abbrev ES := List (Evt × Sli)
def cES (y : Evt × Sli) : List Value := cEvn (y.1.evn y.2)
def slPs (y : Evt × Sli) : HProp := Sl 9 1 y.2.a y.1.ps.length y.2.c (y.1.ps.map Value.string)
def ESok (G : Gp) (ys : ES) : Prop := ∀ y ∈ ys, HasPs G (y.1.evn y.2) y.1.ps
theorem ESok.mono {G G' : Gp} {ys : ES} (h : Gp.le G G') (q : ESok G ys) : ESok G' ys := fun y hy => (q y hy).mono h
theorem ESok.hp {G G' : Gp} {ys : ES} (q : ESok G ys) (h : Hp.le G.hp G'.hp) : ESok G' ys := fun y hy => (q y hy).hp h
def HasES (G : Gp) (s : Sli) (ys : ES) : Prop := s.n = ys.length ∧ SlR G 49 6 s.a ys.length (ys.flatMap cES) ∧ s.n ≤ s.c ∧ ESok G ys
theorem HasES.mono {G G' : Gp} {s : Sli} {ys : ES} (h : Gp.le G G') (q : HasES G s ys) : HasES G' s ys := ⟨q.1, q.2.1.mono h, q.2.2.1, q.2.2.2.mono h⟩
theorem HasES.hp {G G' : Gp} {s : Sli} {ys : ES} (q : HasES G s ys) (h : Hp.le G.hp G'.hp) : HasES G' s ys := ⟨q.1, q.2.1.hp h, q.2.2.1, q.2.2.2.hp h⟩
def HasD (G : Gp) (D : DD) (room : ByteArray) (l : EL) : Prop := D.room = room ∧ ∃ ys : ES, ys.map (·.1) = l ∧ HasES G D.l ys
theorem HasD.mono {G G' : Gp} {D : DD} {room : ByteArray} {l : EL} (h : Gp.le G G') (q : HasD G D room l) : HasD G' D room l := by
  obtain ⟨h1, ys, h2, h3⟩ := q; exact ⟨h1, ys, h2, h3.mono h⟩
theorem HasD.hp {G G' : Gp} {D : DD} {room : ByteArray} {l : EL} (q : HasD G D room l) (h : Hp.le G.hp G'.hp) : HasD G' D room l := by
  obtain ⟨h1, ys, h2, h3⟩ := q; exact ⟨h1, ys, h2, h3.hp h⟩
/-- What stands in a part of what is held, to be read. -/
theorem SlR.of_sl {G : Gp} {h h1 h2 : Hp} {T : TypeId} {sz n c : Nat} {a : Option Addr} {cs : List Value} (q : Sl T sz a n c cs h1) (e : h = Hp.join h1 h2) (d : Hp.disj G.hp h) : SlR (Gp.join G h) T sz a n cs := by
  rcases q with ⟨_, rfl, _, rfl, _⟩ | ⟨b, pre, post, rfl, e1, e2, e3, fz, hz, rfl⟩
  · exact .inl ⟨rfl, rfl⟩
  · subst e
    exact .inr ⟨b, T, pre, post, rfl, e1, fz, Hp.join_right d (Hp.join_left (Hp.one_self _ _))⟩
theorem Lends.manySl {α : Type} {T : TypeId} {sz : Nat} {a : α → Option Addr} {n c : α → Nat} {cs : α → List Value} (l : List α) : Lends (Stars (l.map fun x => Csl.Sl T sz (a x) (n x) (c x) (cs x))) (fun G => ∀ x ∈ l, SlR G T sz (a x) (n x) (cs x)) := Lends.of fun G h q d => by
  intro x hx
  obtain ⟨s, t, rfl⟩ := List.append_of_mem hx
  have q1 : stars ((s ++ x :: t).map fun x => Csl.Sl T sz (a x) (n x) (c x) (cs x)) h := q
  rw [List.map_append, List.map_cons] at q1
  have q2 := stars_perm List.perm_middle q1
  obtain ⟨h1, h2, d', e, q3, _⟩ := q2
  exact SlR.of_sl q3 e d
end Csl


end Go.Proofs.YtaaondbmkibkkaaGreat
