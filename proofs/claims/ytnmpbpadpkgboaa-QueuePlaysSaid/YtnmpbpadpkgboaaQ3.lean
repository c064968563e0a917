/- The queue's atom. -/
import Derived.Test.YtnmpbpadpkgboaaQ2
set_option linter.unusedVariables false
set_option linter.unusedSimpArgs false
set_option linter.unusedSectionVars false
namespace Go.Proofs.Ytnmpbpadpkgboaa
open Go Csl


namespace Csl
def eK (k : Key) : Value := .agg (cKey k).toArray
def eE (e : Edu) : Value := .agg (cEdu e).toArray
def QuA (p : Nat) (most lost : Int) (ks : List Key) (m : List (Key × Edu)) : HProp := Ex (fun _ : Option Addr × Nat × Nat => True) (fun x => [row p 64 [.int .i64 most, .slice x.1 ks.length x.2.1, .map (some x.2.2), .int .i64 lost], Sl 42 5 x.1 ks.length x.2.1 (ks.flatMap cKey), Mp x.2.2 (menc eK eE m)])
section
variable {c : Cx} {G : Gp} {ops : Array Oper} {kk : KT} {e : Env} {A A' : List HProp} {lo : List Oper} {st : List Item} {p r cap n : Nat} {a : Option Addr} {ks : List Key} {m : List (Key × Edu)} {most lost : Int}
theorem Run.openQ (hf : Find (QuA p most lost ks m) A A') (next : ∀ a cap r, Run c G st e (row p 64 [.int .i64 most, .slice a ks.length cap, .map (some r), .int .i64 lost] :: Sl 42 5 a ks.length cap (ks.flatMap cKey) :: Mp r (menc eK eE m) :: A')) : Run c G st e A := Run.openEx hf fun x _ => next x.1 x.2.1 x.2.2
theorem RunL.openQ (hf : Find (QuA p most lost ks m) A A') (next : ∀ a cap r, RunL c G ops lo kk e (row p 64 [.int .i64 most, .slice a ks.length cap, .map (some r), .int .i64 lost] :: Sl 42 5 a ks.length cap (ks.flatMap cKey) :: Mp r (menc eK eE m) :: A')) : RunL c G ops lo kk e A := RunL.openEx hf fun x _ => next x.1 x.2.1 x.2.2
theorem Run.mkQ (ks : List Key) (ht : Take [row p 64 [.int .i64 most, .slice a n cap, .map (some r), .int .i64 lost], Sl 42 5 a n cap (ks.flatMap cKey), Mp r (menc eK eE m)] A A') (hn : n = ks.length) (next : Run c G st e (QuA p most lost ks m :: A')) : Run c G st e A := Run.mkEx (a, cap, r) (by subst hn; exact ht) trivial next
theorem RunL.mkQ (ks : List Key) (ht : Take [row p 64 [.int .i64 most, .slice a n cap, .map (some r), .int .i64 lost], Sl 42 5 a n cap (ks.flatMap cKey), Mp r (menc eK eE m)] A A') (hn : n = ks.length) (next : RunL c G ops lo kk e (QuA p most lost ks m :: A')) : RunL c G ops lo kk e A := RunL.mkEx (a, cap, r) (by subst hn; exact ht) trivial next
theorem Run.slLen {T : TypeId} {sz : Nat} {cs : List Value} (hf : Find (Sl T sz a n cap cs) A A') (next : cs.length = n * sz ∧ n ≤ cap → Run c G st e A) : Run c G st e A := fun ac w h s => next ((s.find hf).Sl_length) ac w h s
end
/-- What waits: 'l', in its row; 'm' tells it by its key. -/
def QueOk (ks : List Key) (m : List (Key × Edu)) (l : List Edu) : Prop := ks = l.map eKey ∧ (∀ k, mget k m = l.find? (fun x => decide (eKey x = k))) ∧ KN m ∧ (l.map eKey).Nodup
def Qu (p : Nat) (most lost : Int) (l : List Edu) : HProp := Ex (fun x : List Key × List (Key × Edu) => QueOk x.1 x.2 l) (fun x => [QuA p most lost x.1 x.2])
def offK (l : List Edu) (k : Key) : List Edu := l.filter (fun x => decide (eKey x ≠ k))
/-- What a put comes to: what waits, how many have gone, what goes, whether, the error. -/
def putL (most lost : Int) (l : List Edu) (e : Edu) : List Edu × Int × Edu × Bool × Int :=
  if eduMay e = false then (l, lost, zeroE, false, 1)
  else if (match l.find? (fun x => decide (eKey x = eKey e)) with | some old => decide (edCmp e old ≤ 0) | none => false) = true then (l, lost, zeroE, false, 0)
  else if ((offK l (eKey e) ++ [e]).length : Int) ≤ most then (offK l (eKey e) ++ [e], lost, zeroE, false, 0)
  else ((offK l (eKey e) ++ [e]).drop 1, lost + 1, ((offK l (eKey e) ++ [e])[0]?).getD zeroE, true, 0)
theorem putL_no {most lost : Int} {l : List Edu} {e : Edu} (h : eduMay e = false) : putL most lost l e = (l, lost, zeroE, false, 1) := by unfold putL; rw [if_pos h]
theorem putL_old {most lost : Int} {l : List Edu} {e old : Edu} (h : eduMay e = true) (ho : l.find? (fun x => decide (eKey x = eKey e)) = some old) (hc : edCmp e old ≤ 0) : putL most lost l e = (l, lost, zeroE, false, 0) := by
  unfold putL; rw [if_neg (by rw [h]; decide), ho, if_pos (by simpa using hc)]
theorem putL_in {most lost : Int} {l : List Edu} {e : Edu} (h : eduMay e = true) (ho : ∀ old, l.find? (fun x => decide (eKey x = eKey e)) = some old → ¬ edCmp e old ≤ 0) (hl : ((offK l (eKey e) ++ [e]).length : Int) ≤ most) : putL most lost l e = (offK l (eKey e) ++ [e], lost, zeroE, false, 0) := by
  unfold putL; rw [if_neg (by rw [h]; decide), if_neg, if_pos hl]
  cases q : l.find? (fun x => decide (eKey x = eKey e)) with
  | none => simp
  | some old => simpa using ho old q
theorem putL_past {most lost : Int} {l : List Edu} {e : Edu} (h : eduMay e = true) (ho : ∀ old, l.find? (fun x => decide (eKey x = eKey e)) = some old → ¬ edCmp e old ≤ 0) (hl : ¬ ((offK l (eKey e) ++ [e]).length : Int) ≤ most) : putL most lost l e = ((offK l (eKey e) ++ [e]).drop 1, lost + 1, ((offK l (eKey e) ++ [e])[0]?).getD zeroE, true, 0) := by
  unfold putL; rw [if_neg (by rw [h]; decide), if_neg, if_neg hl]
  cases q : l.find? (fun x => decide (eKey x = eKey e)) with
  | none => simp
  | some old => simpa using ho old q
section
variable {ks : List Key} {m : List (Key × Edu)} {l : List Edu}
theorem QueOk.nil : QueOk [] [] [] := ⟨rfl, fun _ => rfl, List.nodup_nil, List.nodup_nil⟩
theorem QueOk.len (h : QueOk ks m l) : ks.length = l.length := by rw [h.1, List.length_map]
theorem QueOk.off (h : QueOk ks m l) (k : Key) : QueOk (ks.filter (fun x => decide (x ≠ k))) (mdel k m) (offK l k) := by
  obtain ⟨rfl, h2, h3, h4⟩ := h
  have hm : (l.map eKey).filter (fun x => decide (x ≠ k)) = (offK l k).map eKey := by rw [List.filter_map]; rfl
  refine ⟨hm, fun k' => ?_, h3.mdel, by rw [← hm]; exact h4.filter _⟩
  rw [mget_mdel h3, h2 k', offK, List.find?_filter]
  by_cases q : k' = k
  · subst q
    rw [if_pos rfl]; symm; rw [List.find?_eq_none]; intro x _; simp
  · rw [if_neg q]
    congr 1; funext x
    by_cases q2 : eKey x = k'
    · subst q2; simp [q]
    · simp [q2]
theorem QueOk.add (h : QueOk ks m l) {e : Edu} (hn : eKey e ∉ ks) : QueOk (ks ++ [eKey e]) (mput (eKey e) e m) (l ++ [e]) := by
  obtain ⟨rfl, h2, h3, h4⟩ := h
  refine ⟨by rw [List.map_append]; rfl, fun k' => ?_, h3.mput, ?_⟩
  · rw [mget_mput, h2 k', List.find?_append]
    by_cases q : k' = eKey e
    · subst q
      rw [if_pos rfl]
      have : l.find? (fun x => decide (eKey x = eKey e)) = none := by
        rw [List.find?_eq_none]; intro x hx; simp only [decide_eq_true_eq]; intro ex; exact hn (List.mem_map.2 ⟨x, hx, ex⟩)
      rw [this]; simp
    · rw [if_neg q]
      have : ([e] : List Edu).find? (fun x => decide (eKey x = k')) = none := by rw [List.find?_eq_none]; intro x hx; obtain rfl := List.mem_singleton.1 hx; simpa using Ne.symm q
      rw [this, Option.or_none]
  · rw [List.map_append]
    refine List.nodup_append.2 ⟨h4, by simp, fun a ha b hb => ?_⟩
    obtain rfl := List.mem_singleton.1 hb
    exact fun e1 => hn (e1 ▸ ha)
theorem QueOk.put (h : QueOk ks m l) (e : Edu) : QueOk (ks.filter (fun x => decide (x ≠ eKey e)) ++ [eKey e]) (mput (eKey e) e (mdel (eKey e) m)) (offK l (eKey e) ++ [e]) :=
  (h.off (eKey e)).add (by simp)
theorem find_at : ∀ {l : List Edu} {i : Nat} {x : Edu}, (l.map eKey).Nodup → l[i]? = some x → l.find? (fun y => decide (eKey y = eKey x)) = some x
  | [], _, _, _, hx => by simp at hx
  | y :: l, 0, x, h4, hx => by simp at hx; subst hx; simp
  | y :: l, i + 1, x, h4, hx => by
    rw [List.map_cons, List.nodup_cons] at h4
    simp at hx
    rw [List.find?_cons_of_neg, find_at h4.2 hx]
    simp only [decide_eq_true_eq]; intro q; exact h4.1 (q ▸ List.mem_map.2 ⟨x, List.mem_of_getElem? hx, rfl⟩)
theorem QueOk.at_ (h : QueOk ks m l) {i : Nat} {x : Edu} (hx : l[i]? = some x) : mget (eKey x) m = some x := by rw [h.2.1]; exact find_at h.2.2.2 hx
theorem offK_head {x : Edu} (h : ((x :: l).map eKey).Nodup) : offK (x :: l) (eKey x) = l := by
  rw [List.map_cons, List.nodup_cons] at h
  unfold offK
  rw [List.filter_cons_of_neg (by simp), List.filter_eq_self]
  intro y hy
  simp only [decide_eq_true_eq]; intro q; exact h.1 (q ▸ List.mem_map.2 ⟨y, hy, rfl⟩)
theorem QueOk.first (h : QueOk ks m l) {x : Edu} (hx : l[0]? = some x) : QueOk (ks.filter (fun y => decide (y ≠ eKey x))) (mdel (eKey x) m) (l.drop 1) := by
  have h4 := h.2.2.2
  have := h.off (eKey x)
  cases l with
  | nil => simp at hx
  | cons y l => simp at hx; subst hx; rw [offK_head h4] at this; exact this
theorem offK_len (l : List Edu) (k : Key) : (offK l k).length ≤ l.length := List.length_filter_le _ _
end
end Csl

set_option maxHeartbeats 4000000 in
set_option maxRecDepth 100000 in
theorem drop_ctr {G : Gp} {p : Nat} {most lost : Int} {ks : List Key} {m : List (Key × Edu)} {k : Key} (hb : ks.length ≤ 1000) :
    Ctr Try.prog G 32 [.pointer (some ⟨p, 0, none⟩), .agg (cKey k).toArray] [QuA p most lost ks m] (fun F v A => v = .tuple #[] ∧ A = QuA p most lost (ks.filter (fun x => decide (x ≠ k))) (mdel k m) :: F) := by
  refine Ctr.intro Try.func32 rfl (by kernel_rfl) rfl (fun F => ?_)
  simp only [List.cons_append, List.nil_append]
  refine Run.openQ (by first | ((repeat (first | (with_reducible exact Find.here _) | apply Find.there)); done) | (repeat (first | exact Find.here _ | apply Find.there))) ?_; intro a cap r
  refine Run.slLen (T := 42) (sz := 5) (n := ks.length) (by first | ((repeat (first | (with_reducible exact Find.here _) | apply Find.there)); done) | (repeat (first | exact Find.here _ | apply Find.there))) ?_; intro ⟨_, hcap⟩
  refine Run.sr ?_
  refine RunL.boxA (xs := (cKey k)) rfl (Wt.none rfl) rfl ?_; intro b3
  refine RunL.nil ?_
  refine Run.seq ?_
  refine Run.regionD' (by kernel_rfl) (by kernel_rfl) (fun hok4 => ?_)
  refine RunD.lend (Q := row b3 42 _) Lends.row (by first | ((repeat (first | (with_reducible exact Find.here _) | apply Find.there)); done) | (repeat (first | exact Find.here _ | apply Find.there))) ?_; intro gl1 hlegl1 hl1 backgl1
  refine RunD.lend (Q := row p 64 _) Lends.row (by first | ((repeat (first | (with_reducible exact Find.here _) | apply Find.there)); done) | (repeat (first | exact Find.here _ | apply Find.there))) ?_; intro g1 hleg1 hr1 backg1
  try (replace hl1 := hl1.mono hleg1)
  refine RunD.pure (i := 0) hok4 rfl (by kernel_rfl) (Pure.move rfl) (Wt.none rfl) rfl rfl ?_
  refine RunD.pure (i := 1) hok4 rfl (by kernel_rfl) (Pure.nilCheck rfl) (Wt.none rfl) rfl rfl ?_
  refine RunD.pure (i := 2) hok4 rfl (by kernel_rfl) (Pure.fieldAddr rfl fo64_2) (Wt.none rfl) rfl rfl ?_
  refine RunD.load1R (i := 3) hok4 rfl (by kernel_rfl) rfl (by assumption) (by rfl) agg61 (Wt.none rfl) rfl ?_
  refine RunD.loadNR (vs := (cKey k)) (i := 4) hok4 rfl (by kernel_rfl) rfl (by assumption) agg42 sz42 (by first | exact Nat.le_of_ble_eq_true rfl | (simp; done) | (simp; omega)) rfl (Wt.none rfl) rfl ?_
  refine RunD.one (i := 5) (by kernel_rfl) rfl ?_
  refine RunL.delete (k := k) rfl rfl rfl (by first | ((repeat (first | (with_reducible exact Find.here _) | apply Find.there)); done) | (repeat (first | exact Find.here _ | apply Find.there))) und61 key42 (Wt.none rfl) ?_
  refine RunL.nilD' ?_
  refine RunD.nilB (by kernel_rfl) (fun w sw => backgl1 _ _ (backg1 _ _ (sw))) ?_
  refine Run.lendAll (Q := row b3 42 _) Lends.row (by first | ((repeat (first | (with_reducible exact Find.here _) | apply Find.there)); done) | (repeat (first | exact Find.here _ | apply Find.there))) (fun Ghrb3 hleGhrb3 hrb3 => ?_)
  refine Run.region ?_
  refine RunL.mv rfl rfl ?_
  refine RunL.mv rfl rfl ?_
  refine RunL.pure (Pure.nilCheck rfl) (Wt.none rfl) rfl rfl ?_
  refine RunL.pure (Pure.fieldAddr rfl fo64_1) (Wt.none rfl) rfl rfl ?_
  first | refine RunL.load1 rfl (by first | ((repeat (first | (with_reducible exact Find.here _) | apply Find.there)); done) | (repeat (first | exact Find.here _ | apply Find.there))) (by rfl) agg62 (Wt.none rfl) rfl ?_ | refine RunL.load1R rfl (by assumption) (by rfl) agg62 (Wt.none rfl) rfl ?_
  refine RunL.pure (Pure.makeFunc rfl rfl) (Wt.none rfl) rfl rfl ?_
  refine RunL.call rfl rfl (by rfl) (by repeat (first | (with_reducible exact Take.nil _) | (apply Take.cons (by first | ((repeat (first | (with_reducible exact Find.here _) | apply Find.there)); done) | (repeat (first | exact Find.here _ | apply Find.there)))))) (DeleteFunc_ctr hrb3 (by omega) hcap) (Wt.none rfl) rfl ?_
  rintro _ _ ⟨rfl, hA_⟩
  replace hA_ := hA_.symm; subst hA_
  refine RunL.pure (Pure.nilCheck rfl) (Wt.none rfl) rfl rfl ?_
  refine RunL.pure (Pure.fieldAddr rfl fo64_1) (Wt.none rfl) rfl rfl ?_
  refine RunL.store1 rfl rfl (by first | ((repeat (first | (with_reducible exact Find.here _) | apply Find.there)); done) | (repeat (first | exact Find.here _ | apply Find.there))) sz62 (by rfl) (by simp) (Wt.none rfl) ?_
  try simp only [List.set_cons_zero, List.set_cons_succ]
  refine RunL.nil ?_
  refine Run.mkQ (ks.filter (fun x => decide (x ≠ k))) (by repeat (first | (with_reducible exact Take.nil _) | (apply Take.cons (by first | ((repeat (first | (with_reducible exact Find.here _) | apply Find.there)); done) | (repeat (first | exact Find.here _ | apply Find.there)))))) rfl ?_
  exact Run.fin Try.func32 (res0 rfl) (by exact ⟨rfl, rfl⟩) (by repeat (first | (with_reducible exact Fin.done (by repeat (first | (with_reducible exact Rest.here) | apply Rest.there))) | (apply Fin.cons (by first | ((repeat (first | (with_reducible exact Find.here _) | apply Find.there)); done) | (repeat (first | exact Find.here _ | apply Find.there))))))

end Go.Proofs.Ytnmpbpadpkgboaa
