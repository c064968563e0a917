/- A key in a list of marks. -/
import Derived.Test.YtaaondbmkibkkaaGreatK2
set_option linter.unusedVariables false
set_option linter.unusedSimpArgs false
set_option linter.unusedSectionVars false
namespace Go.Proofs.YtaaondbmkibkkaaGreat
open Go Csl


namespace Csl
def toM (x : K × Pos) : M := ⟨x.1, x.2⟩
def ML (tl : List (K × Pos)) : List M := (srt cmpK (·.1) tl).map toM
theorem ML_len (tl : List (K × Pos)) : (ML tl).length = tl.length := by unfold ML; rw [List.length_map, srt_len]
theorem ML_get {tl : List (K × Pos)} {i : Nat} {m : M} (h : (ML tl)[i]? = some m) : (srt cmpK (·.1) tl)[i]? = some (m.k, m.pos) := by
  unfold ML at h; rw [List.getElem?_map] at h
  cases hq : (srt cmpK (·.1) tl)[i]? with
  | none => rw [hq] at h; cases h
  | some x => rw [hq] at h; cases h; rfl
theorem ML_mget {tl : List (K × Pos)} (hn : KN tl) {i : Nat} {m : M} (h : (ML tl)[i]? = some m) : mget m.k tl = some m.pos :=
  mget_of_mem hn ((srt_perm tl).mem_iff.1 (List.mem_of_getElem? (ML_get h)))
theorem ML_none {tl : List (K × Pos)} {k : K} (h : ∀ m ∈ ML tl, m.k ≠ k) : mget k tl = none := by
  rw [mget_none]; intro hk
  obtain ⟨x, hx, rfl⟩ := List.mem_map.1 hk
  exact h (toM x) (List.mem_map.2 ⟨x, (srt_perm tl).mem_iff.2 hx, rfl⟩) rfl
theorem mput_none {k : K} {q : Pos} : ∀ {l : List (K × Pos)}, mget k l = none → mput k q l = l ++ [(k, q)]
  | [], _ => rfl
  | p :: l, h => by
    unfold mget at h; split at h
    · cases h
    · rename_i hk; unfold mput; rw [if_neg hk, mput_none h]; rfl
theorem mput_set {k : K} {q o : Pos} : ∀ {l : List (K × Pos)} {i : Nat}, KN l → l[i]? = some (k, o) → mput k q l = l.set i (k, q)
  | [], _, _, h => by simp at h
  | p :: l, 0, _, h => by
    simp at h; subst h; simp [mput]
  | p :: l, i + 1, hn, h => by
    have hn' : p.1 ∉ l.map (·.1) ∧ (l.map (·.1)).Nodup := List.nodup_cons.1 hn
    rw [List.getElem?_cons_succ] at h
    have : ¬ k = p.1 := fun e => hn'.1 (by rw [← e]; exact List.mem_map.2 ⟨_, List.mem_of_getElem? h, rfl⟩)
    unfold mput; rw [if_neg this, mput_set hn'.2 h, List.set_cons_succ]
theorem Sd.set_same {l : List (K × Pos)} {i : Nat} {x y : K × Pos} (h : Sd cmpK (·.1) l) (hi : l[i]? = some x) (he : y.1 = x.1) : Sd cmpK (·.1) (l.set i y) := by
  have e : (l.set i y).map (·.1) = l.map (·.1) := by
    rw [List.map_set]
    apply List.ext_getElem?
    intro j
    rw [List.getElem?_set]
    split
    · rename_i hj; subst hj
      split
      · rw [List.getElem?_map, hi]; simp [he]
      · rename_i hlt; exact absurd (by simpa using (List.getElem?_eq_some_iff.1 hi).1) hlt
    · rfl
  unfold Sd at h ⊢
  have e1 : List.Pairwise (fun a b => cmpK a b < 0) (l.map (·.1)) := List.pairwise_map.2 h
  rw [← e] at e1
  exact List.pairwise_map.1 e1
theorem ML_set {tl : List (K × Pos)} (hn : KN tl) {i : Nat} {m : M} {q : Pos} (h : (ML tl)[i]? = some m) : (ML tl).set i ⟨m.k, q⟩ = ML (mput m.k q tl) := by
  have h' := ML_get h
  have hs : KN (srt cmpK (·.1) tl) := hn.perm (srt_perm tl).symm
  unfold ML
  rw [show (⟨m.k, q⟩ : M) = toM (m.k, q) from rfl, ← List.map_set]
  congr 1
  refine srt_eq cmpK_law ((srt_sd cmpK_law hn).set_same h' rfl) ?_
  rw [← mput_set hs h']
  refine perm_of_mget hs.mput hn.mput fun k => ?_
  rw [mget_mput, mget_mput, mget_perm hs (srt_perm tl)]
theorem ML_ins {tl : List (K × Pos)} (hn : KN tl) {k : K} {q : Pos} (hk : mget k tl = none) {n : Nat} (h1 : ∀ j m, j < n → (ML tl)[j]? = some m → beforeK m.k k = true) (h2 : ∀ m, (ML tl)[n]? = some m → beforeK m.k k = false) :
    (ML tl).take n ++ (⟨k, q⟩ : M) :: (ML tl).drop n = ML (mput k q tl) := by
  unfold ML
  rw [show (⟨k, q⟩ : M) = toM (k, q) from rfl, ← List.map_take, ← List.map_drop, ← List.map_cons, ← List.map_append]
  congr 1
  refine srt_eq cmpK_law ((srt_sd cmpK_law hn).ins cmpK_law (fun j y hj hy => ?_) (fun y hy => ?_)) ?_
  · have := h1 j (toM y) hj (by unfold ML; rw [List.getElem?_map, hy]; rfl)
    exact beforeK_cmp.1 this
  · have := h2 (toM y) (by unfold ML; rw [List.getElem?_map, hy]; rfl)
    refine cmpK_law.lt_of (fun e => ?_) (fun e => ?_)
    · rw [show beforeK (toM y).k k = true from beforeK_cmp.2 e] at this; cases this
    · have hm : y ∈ tl := (srt_perm tl).mem_iff.1 (List.mem_of_getElem? hy)
      exact mget_none.1 hk (List.mem_map.2 ⟨y, hm, e⟩)
  · rw [mput_none hk]
    exact ins_perm.trans (((srt_perm tl).cons _).trans (List.perm_append_comm (l₁ := [(k, q)]) (l₂ := tl)))
theorem KN.tput {l : List (K × Pos)} {k : K} {q : Pos} (h : KN l) : KN (tput l k q) := by
  unfold Csl.tput; split
  · exact h.mput
  · exact h
theorem tput_len {l : List (K × Pos)} {k : K} {q : Pos} : (tput l k q).length ≤ l.length + 1 := by
  unfold Csl.tput; split
  · rw [mput_len]; split <;> omega
  · omega
def fillT (g : M → M) (l : List M) : List (K × Pos) := l.foldl (fun t m => tput t (g m).k (g m).pos) []
theorem fillT_succ (g : M → M) {l : List M} {i : Nat} {m : M} (h : l[i]? = some m) : fillT g (l.take (i + 1)) = tput (fillT g (l.take i)) (g m).k (g m).pos := by
  unfold fillT; rw [List.take_add_one, h, List.foldl_append]; rfl
theorem foldl_KN (g : M → M) : ∀ (l : List M) (t : List (K × Pos)), KN t → KN (l.foldl (fun t m => tput t (g m).k (g m).pos) t)
  | [], t, h => h
  | m :: l, t, h => foldl_KN g l _ h.tput
theorem fillT_KN (g : M → M) (l : List M) : KN (fillT g l) := foldl_KN g l [] List.nodup_nil
theorem foldl_len (g : M → M) : ∀ (l : List M) (t : List (K × Pos)), (l.foldl (fun t m => tput t (g m).k (g m).pos) t).length ≤ t.length + l.length
  | [], t => Nat.le_refl _
  | m :: l, t => by have h1 := foldl_len g l (tput t (g m).k (g m).pos); have h2 := tput_len (l := t) (k := (g m).k) (q := (g m).pos); simp only [List.foldl_cons, List.length_cons]; omega
theorem fillT_len (g : M → M) (l : List M) : (fillT g l).length ≤ l.length := by have := foldl_len g l []; rw [List.length_nil, Nat.zero_add] at this; exact this
def GetIs (ms : List M) (k : K) (z : Int) : Prop := (z = -1 ∧ ∀ m ∈ ms, m.k ≠ k) ∨ ∃ i m, z = (i : Nat) ∧ ms[i]? = some m ∧ m.k = k
end Csl

set_option maxRecDepth 100000 in
theorem rGet_ctr {G : Gp} {a : Option Addr} {ms : List M} {cap : Nat} {k : K} (h : SlR G 117 6 a ms.length (ms.flatMap cM)) (hb : ms.length ≤ 1000000) :
    Ctr Tryz.prog G 104 [.slice a ms.length cap, .agg (cK k).toArray] [] (fun F v A => ∃ z, v = .int .i64 z ∧ GetIs ms k z ∧ A = F) := by
  refine Ctr.intro Tryz.func104 rfl (by kernel_rfl) rfl (fun F => ?_)
  simp only [List.nil_append]
  refine sr' ?_
  refine RunL.boxA (xs := (cK k)) rfl (Wt.none rfl) rfl ?_; intro b3
  refine as' rfl (nl' ?_)
  refine la' (row b3 33 _) Lends.row fun G3 hleG3 hrb3 => ?_
  replace h := h.mono hleG3
  refine sq' (sr' (as' rfl (nl' (bl' ?_))))
  refine kp' [0, 3, 5] ?_
  refine lp' F (fun n e A => ∃ (i : Nat), i ≤ ms.length ∧ (∀ j m, j < i → ms[j]? = some m → m.k ≠ k) ∧ n = ms.length - i ∧ e = [(0, .slice a ms.length cap), (3, .pointer (some ⟨b3, 0, none⟩)), (5, .int .i64 (i : Nat))] ∧ A = F) (ms.length) (by exact ⟨0, by omega, fun j m hj => by omega, rfl, rfl, rfl⟩) ?_
  rintro n _ _ ⟨i, hi, hno, rfl, rfl, hA_⟩ ih
  replace hA_ := hA_.symm; subst hA_
  refine sq' (sr' (mv' rfl (mv' rfl (pp' (Pure.lenSl rfl rfl und61) (pp' (Pure.lss rfl rfl) (nl' ?_))))))
  refine Run.cond rfl (fun h1 => ?_) (fun h1 => ?_)
  · try simp only [Z] at h1
    obtain ⟨b, T', pre, post, rfl, hro⟩ := h.open1 (show 0 < ms.length by omega)
    obtain ⟨m, hm⟩ := get_some (xs := ms) (i := i) (by omega)
    refine sk' (sq' (bl' (sq' ?_)))
    refine Run.regionD' (by kernel_rfl) (by kernel_rfl) (fun hok30 => ?_)
    refine dp' 0 hok30 rfl (Pure.move rfl) (dp' 1 hok30 rfl (Pure.move rfl) ?_)
    refine dp' 2 hok30 rfl (Pure.indexAddr rfl rfl und61 sz117 (by omega) (by omega)) ?_
    refine dp' 3 hok30 rfl (Pure.fieldAddr rfl fo117_0) ?_
    refine RunD.loadNR (vs := (cK m.k)) (i := 4) hok30 rfl (by kernel_rfl) rfl hro agg33 sz33 (elemN_len (f := cM) (sz := 6) (j := 0) (n := 4) (fun _ _ => rfl) hm (by decide)) ((elemN_at (f := cM) (sz := 6) (j := 0) (n := 4) (fun _ _ => rfl) hm (by decide)).trans rfl) (Wt.none rfl) rfl ?_
    refine RunD.loadNR (vs := (cK k)) (i := 5) hok30 rfl (by kernel_rfl) rfl (by assumption) agg33 sz33 (by first | exact Nat.le_of_ble_eq_true rfl | (simp; done) | (simp; omega)) rfl (Wt.none rfl) rfl ?_
    refine dp' 6 hok30 rfl (Pure.aeql rfl rfl eqg33 (eqv33 (m.k) (k)) (by decide)) ?_
    refine RunD.nilR (by kernel_rfl) ?_
    refine Run.cond rfl (fun h2 => ?_) (fun h2 => ?_)
    · try simp only [Z] at h2
      refine sr' (mv' rfl (as' rfl (nl' ?_)))
      exact rt' Tryz.func104 (res1 rfl rfl) (by exact ⟨_, rfl, .inr ⟨i, m, rfl, hm, h2⟩, rfl⟩)
    · try simp only [Z] at h2
      refine sk' (ib' (rg' (mv' rfl ?_)))
      first | refine RunL.pure (Pure.addI rfl rfl (by omega)) (Wt.none rfl) rfl rfl ?_ | refine RunL.pure (Pure.add rfl rfl) (Wt.none rfl) rfl rfl ?_
      refine as' rfl (nl' ?_)
      refine kp' [0, 3, 5] ?_
      exact ag' F ih (by exact ⟨i + 1, by omega, lt_succ_of hno hm h2, rfl, rfl, rfl⟩)
  · try simp only [Z] at h1
    refine ex' rfl (sr' (as' rfl (nl' ?_)))
    exact rt' Tryz.func104 (res1 rfl rfl) (by exact ⟨_, rfl, .inl ⟨rfl, all_of_lt hno (by omega)⟩, rfl⟩)

end Go.Proofs.YtaaondbmkibkkaaGreat
