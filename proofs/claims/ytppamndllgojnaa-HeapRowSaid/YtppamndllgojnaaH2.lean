/- Heaps: plain laws. -/
import Derived.Test.YtppamndllgojnaaH1
set_option linter.unusedVariables false
set_option linter.unusedSimpArgs false
set_option linter.unusedSectionVars false
namespace Go.Proofs.Ytppamndllgojnaa
open Go Csl


namespace Csl
def cmpE (a b : E) : Int := orI (cmpI a.tick b.tick) (cmpS a.key b.key)
theorem cmpE_law : LawCmp cmpE := (cmpI_law.lex cmpS_law).map (f := fun e : E => (e.tick, e.key)) (fun a b h => by cases a; cases b; simp_all)
theorem cmpE_refl (a : E) : cmpE a a = 0 := (cmpE_law.eq0 a a).2 rfl
theorem cmpE_le_trans {a b d : E} (h1 : cmpE a b ≤ 0) (h2 : cmpE b d ≤ 0) : cmpE a d ≤ 0 := cmpE_law.trans a b d h1 h2
theorem cmpE_le_of_lt {a b : E} (h : cmpE a b < 0) : cmpE a b ≤ 0 := by omega
theorem cmpE_le_of_not {a b : E} (h : ¬ cmpE a b < 0) : cmpE b a ≤ 0 := by have := cmpE_law.anti a b; omega
def up1 (i : Nat) : Nat := (i - 1) / 2
def HpOk (V : List E) : Prop := ∀ j x y, 0 < j → V[j]? = some x → V[up1 j]? = some y → cmpE y x ≤ 0
def Kids (V : List E) (i : Nat) : Prop := ∀ j x y, 0 < j → up1 j = i → 0 < i → V[j]? = some x → V[up1 i]? = some y → cmpE y x ≤ 0
def HpUp (V : List E) (i : Nat) : Prop := (∀ j x y, 0 < j → j ≠ i → V[j]? = some x → V[up1 j]? = some y → cmpE y x ≤ 0) ∧ Kids V i
def HpDn (V : List E) (i : Nat) : Prop := (∀ j x y, 0 < j → j ≠ i → up1 j ≠ i → V[j]? = some x → V[up1 j]? = some y → cmpE y x ≤ 0) ∧ Kids V i
theorem set_get {l : List E} {i j : Nat} {e x : E} (h : (l.set i e)[j]? = some x) : (i = j ∧ x = e ∧ i < l.length) ∨ (i ≠ j ∧ l[j]? = some x) := by
  rw [List.getElem?_set] at h
  split at h
  · rename_i hij
    split at h
    · cases h; rename_i hl; exact .inl ⟨hij, rfl, by omega⟩
    · cases h
  · rename_i hij; exact .inr ⟨hij, h⟩
theorem set_same0 {l : List E} {i : Nat} {e : E} (h : l[i]? = some e) : l.set i e = l := by
  obtain ⟨hl, rfl⟩ := List.getElem?_eq_some_iff.1 h
  exact List.set_getElem_self hl
/-- The hole is moved to 'p', whose entry is laid at 'i'. -/
theorem hole_perm {l : List E} {i p : Nat} {x e : E} (hi : i < l.length) (hp : l[p]? = some x) (hne : i ≠ p) : ((l.set i x).set p e).Perm (l.set i e) := by
  have hpl := (List.getElem?_eq_some_iff.1 hp).1
  have h1 : (l.set i e).toArray.size = l.length := by simp
  have hs := Array.swap_perm (xs := (l.set i e).toArray) (i := i) (j := p) (by omega) (by omega)
  have hs := Array.perm_iff_toList_perm.1 hs
  refine List.Perm.trans (List.Perm.of_eq ?_) hs
  rw [Array.swap_def]
  simp only [List.getElem_toArray, Array.toList_set, Array.getElem_set]
  have e1 : (l.set i e)[p]'(by simpa using hpl) = x := by rw [List.getElem_set_ne hne]; exact (List.getElem?_eq_some_iff.1 hp).2
  have e2 : (l.set i e)[i]'(by simpa using hi) = e := by simp
  rw [e1, e2, List.set_set]
theorem HpUp.move {l : List E} {i : Nat} {x e : E} (hi : i < l.length) (h0 : 0 < i) (hp : l[up1 i]? = some x) (h : HpUp (l.set i e) i) (hlt : cmpE e x < 0) : HpUp ((l.set i x).set (up1 i) e) (up1 i) := by
  have hne : i ≠ up1 i := by unfold up1; omega
  have gi : (l.set i e)[i]? = some e := by rw [List.getElem?_set]; simp [hi]
  have gp : (l.set i e)[up1 i]? = some x := by rw [List.getElem?_set]; simp [hne, hp]
  have old : ∀ j y, j ≠ i → j ≠ up1 i → ((l.set i x).set (up1 i) e)[j]? = some y → (l.set i e)[j]? = some y := by
    intro j y h1 h2 hy
    rw [List.getElem?_set, if_neg (Ne.symm h2), List.getElem?_set, if_neg (Ne.symm h1)] at hy
    rw [List.getElem?_set, if_neg (Ne.symm h1)]; exact hy
  have new_i : ∀ y, ((l.set i x).set (up1 i) e)[i]? = some y → y = x := by
    intro y hy
    rcases set_get hy with ⟨q, _⟩ | ⟨_, hy⟩
    · exact absurd q.symm hne
    · rcases set_get hy with ⟨_, q, _⟩ | ⟨q, _⟩
      · exact q
      · exact absurd rfl q
  have new_p : ∀ y, ((l.set i x).set (up1 i) e)[up1 i]? = some y → y = e := by
    intro y hy
    rcases set_get hy with ⟨_, q, _⟩ | ⟨q, _⟩
    · exact q
    · exact absurd rfl q
  refine ⟨fun j y z hj hji hy hz => ?_, fun j y z hj hji hpp hy hz => ?_⟩
  · by_cases e1 : j = i
    · subst e1; rw [new_i y hy, new_p z hz]; omega
    · have hy' := old j y e1 hji hy
      by_cases e2 : up1 j = up1 i
      · rw [e2] at hz; rw [new_p z hz]
        exact cmpE_le_trans (cmpE_le_of_lt hlt) (h.1 j y x hj e1 hy' (by rw [e2]; exact gp))
      · by_cases e3 : up1 j = i
        · rw [e3] at hz; rw [new_i z hz]
          exact h.2 j y x hj e3 h0 hy' gp
        · exact h.1 j y z hj e1 hy' (old _ z e3 e2 hz)
  · have hpi : up1 (up1 i) ≠ i := by unfold up1; omega
    have hpp2 : up1 (up1 i) ≠ up1 i := by unfold up1 at *; omega
    have hz' := old _ z hpi hpp2 hz
    have hx : cmpE z x ≤ 0 := h.1 (up1 i) x z hpp (Ne.symm hne) gp hz'
    by_cases e1 : j = i
    · subst e1; rw [new_i y hy]; exact hx
    · by_cases e2 : j = up1 i
      · subst e2; exfalso; unfold up1 at hji hj; omega
      · exact cmpE_le_trans hx (h.1 j y x hj e1 (old j y e1 e2 hy) (by rw [hji]; exact gp))
theorem HpUp.done {V : List E} {i : Nat} {e : E} (h : HpUp V i) (he : V[i]? = some e) (hs : i = 0 ∨ ∀ x, V[up1 i]? = some x → ¬ cmpE e x < 0) : HpOk V := by
  intro j x y hj hx hy
  by_cases e1 : j = i
  · subst e1
    rw [he] at hx; cases hx
    rcases hs with h0 | hs
    · omega
    · exact cmpE_le_of_not (hs y hy)
  · exact h.1 j x y hj e1 hx hy
/-- Down: 'k' is the lesser one of the two below. -/
theorem HpDn.move {l : List E} {i k : Nat} {x e : E} (hi : i < l.length) (hk : up1 k = i) (hk0 : 0 < k) (hp : l[k]? = some x) (h : HpDn (l.set i e) i) (hmin : ∀ j y, 0 < j → up1 j = i → l[j]? = some y → cmpE x y ≤ 0) : HpDn ((l.set i x).set k e) k := by
  have hne : i ≠ k := by unfold up1 at hk; omega
  have gk : (l.set i e)[k]? = some x := by rw [List.getElem?_set]; simp [hne, hp]
  have old : ∀ j y, j ≠ i → j ≠ k → ((l.set i x).set k e)[j]? = some y → (l.set i e)[j]? = some y := by
    intro j y h1 h2 hy
    rw [List.getElem?_set, if_neg (Ne.symm h2), List.getElem?_set, if_neg (Ne.symm h1)] at hy
    rw [List.getElem?_set, if_neg (Ne.symm h1)]; exact hy
  have base : ∀ j y, j ≠ i → (l.set i e)[j]? = some y → l[j]? = some y := by
    intro j y h1 hy; rw [List.getElem?_set, if_neg (Ne.symm h1)] at hy; exact hy
  have new_i : ∀ y, ((l.set i x).set k e)[i]? = some y → y = x := by
    intro y hy
    rcases set_get hy with ⟨q, _⟩ | ⟨_, hy⟩
    · exact absurd q.symm hne
    · rcases set_get hy with ⟨_, q, _⟩ | ⟨q, _⟩
      · exact q
      · exact absurd rfl q
  refine ⟨fun j y z hj hjk hjp hy hz => ?_, fun j y z hj hjk hk1 hy hz => ?_⟩
  · by_cases e1 : j = i
    · subst e1
      rw [new_i y hy]
      exact h.2 k x z hk0 hk hj gk (old _ z (by unfold up1; omega) hjp hz)
    · have hy' := old j y e1 hjk hy
      by_cases e2 : up1 j = i
      · rw [e2] at hz; rw [new_i z hz]
        exact hmin j y hj e2 (base j y e1 hy')
      · exact h.1 j y z hj e1 e2 hy' (old _ z e2 hjp hz)
  · rw [hk] at hz; rw [new_i z hz]
    have e1 : j ≠ i := by intro e0; subst e0; unfold up1 at hjk hk; omega
    have e2 : j ≠ k := by intro e0; subst e0; unfold up1 at hjk; omega
    have hy' := old j y e1 e2 hy
    exact h.1 j y x hj e1 (by rw [hjk]; exact Ne.symm hne) hy' (by rw [hjk]; exact gk)
theorem HpDn.done {l : List E} {i : Nat} {e : E} (h : HpDn (l.set i e) i) (hs : ∀ j y, 0 < j → up1 j = i → l[j]? = some y → cmpE e y ≤ 0) : HpUp (l.set i e) i := by
  refine ⟨fun j x y hj hji hx hy => ?_, h.2⟩
  by_cases e1 : up1 j = i
  · rw [e1] at hy
    rcases set_get hy with ⟨_, rfl, _⟩ | ⟨h2, _⟩
    · rcases set_get hx with ⟨h3, _⟩ | ⟨_, h3⟩
      · exact absurd h3.symm hji
      · exact hs j x hj e1 h3
    · exact absurd rfl h2
  · exact h.1 j x y hj hji e1 hx hy
/-- The lesser one of the two below. -/
def Lesser (l : List E) (i k : Nat) : Prop := 0 < k ∧ up1 k = i ∧ ∀ j y, 0 < j → up1 j = i → l[j]? = some y → ∃ x, l[k]? = some x ∧ cmpE x y ≤ 0
theorem two_kids {i j : Nat} (h0 : 0 < j) (h : up1 j = i) : j = 2 * i + 1 ∨ j = 2 * i + 2 := by unfold up1 at h; omega
theorem Lesser.one {l : List E} {i : Nat} (h : l.length ≤ 2 * i + 2) : Lesser l i (2 * i + 1) := by
  refine ⟨by omega, by unfold up1; omega, fun j y hj hu hy => ?_⟩
  have hlt := (List.getElem?_eq_some_iff.1 hy).1
  rcases two_kids hj hu with rfl | rfl
  · exact ⟨y, hy, by have := cmpE_refl y; omega⟩
  · omega
theorem Lesser.snd {l : List E} {i : Nat} {x y : E} (h1 : l[2 * i + 1]? = some x) (h2 : l[2 * i + 2]? = some y) (h : cmpE y x < 0) : Lesser l i (2 * i + 2) := by
  refine ⟨by omega, by unfold up1; omega, fun j z hj hu hz => ⟨y, h2, ?_⟩⟩
  rcases two_kids hj hu with rfl | rfl
  · rw [h1] at hz; cases hz; omega
  · rw [h2] at hz; cases hz; have := cmpE_refl y; omega
theorem Lesser.fst {l : List E} {i : Nat} {x y : E} (h1 : l[2 * i + 1]? = some x) (h2 : l[2 * i + 2]? = some y) (h : ¬ cmpE y x < 0) : Lesser l i (2 * i + 1) := by
  refine ⟨by omega, by unfold up1; omega, fun j z hj hu hz => ⟨x, h1, ?_⟩⟩
  rcases two_kids hj hu with rfl | rfl
  · rw [h1] at hz; cases hz; have := cmpE_refl x; omega
  · rw [h2] at hz; cases hz; exact cmpE_le_of_not h
theorem HpOk.min {V : List E} (h : HpOk V) {e : E} (h0 : V[0]? = some e) : ∀ (n j : Nat) (x : E), j ≤ n → V[j]? = some x → cmpE e x ≤ 0 := by
  intro n
  induction n with
  | zero => intro j x hj hx; have : j = 0 := by omega
            subst this; rw [h0] at hx; cases hx; have := cmpE_refl e; omega
  | succ n ih =>
    intro j x hj hx
    by_cases hz : j = 0
    · subst hz; rw [h0] at hx; cases hx; have := cmpE_refl e; omega
    · have hlt := (List.getElem?_eq_some_iff.1 hx).1
      have hup : up1 j < V.length := by unfold up1; omega
      obtain ⟨y, hy⟩ := get_some hup
      exact cmpE_le_trans (ih (up1 j) y (by unfold up1; omega) hy) (h j x y (by omega) hx hy)
/-- Where each key stands; 'ek' is left out. -/
def Ix (V : List E) (at_ : List (ByteArray × Int)) (out : ByteArray → Prop) : Prop := (∀ (j : Nat) (y : E), V[j]? = some y → ¬ out y.key → mget y.key at_ = some (j : Int)) ∧ ∀ k z, ¬ out k → mget k at_ = some z → ∃ (j : Nat) (y : E), z = ((j : Nat) : Int) ∧ V[j]? = some y ∧ y.key = k
def KyD (V : List E) : Prop := (V.map E.key).Nodup
theorem KyD.inj {V : List E} (h : KyD V) {i j : Nat} {x y : E} (hx : V[i]? = some x) (hy : V[j]? = some y) (e : x.key = y.key) : i = j := by
  unfold KyD at h
  have h1 : (V.map E.key)[i]? = some x.key := by rw [List.getElem?_map, hx]; rfl
  have h2 : (V.map E.key)[j]? = some y.key := by rw [List.getElem?_map, hy]; rfl
  refine (List.getElem?_inj ?_ h).1 (by rw [h1, h2, e])
  exact (List.getElem?_eq_some_iff.1 h1).1
theorem KyD.perm {V V' : List E} (h : KyD V) (p : V.Perm V') : KyD V' := (p.map E.key).nodup_iff.1 h
theorem KyD.tail {V W : List E} {x : E} (h : KyD V) (p : V.Perm (x :: W)) : KyD W := (List.nodup_cons.1 (h.perm p)).2
/-- The hole goes from 'i' to 'p': the map learns where 'x' is. -/
theorem Ix.move {l : List E} {at_ : List (ByteArray × Int)} {i p : Nat} {x e : E} (hi : i < l.length) (hp : l[p]? = some x) (hne : i ≠ p) (hk : KyD (l.set i e)) (h : Ix (l.set i e) at_ (· = e.key)) : Ix ((l.set i x).set p e) (mput x.key (i : Int) at_) (· = e.key) := by
  have gi : (l.set i e)[i]? = some e := by rw [List.getElem?_set]; simp [hi]
  have gp : (l.set i e)[p]? = some x := by rw [List.getElem?_set]; simp [hne, hp]
  have hxe : x.key ≠ e.key := fun q => hne (hk.inj gi gp q.symm)
  have hpl := (List.getElem?_eq_some_iff.1 hp).1
  have old : ∀ j y, j ≠ i → j ≠ p → (((l.set i x).set p e)[j]? = some y ↔ (l.set i e)[j]? = some y) := by
    intro j y h1 h2
    rw [List.getElem?_set, if_neg (Ne.symm h2), List.getElem?_set, if_neg (Ne.symm h1), List.getElem?_set, if_neg (Ne.symm h1)]
  have new_i : ((l.set i x).set p e)[i]? = some x := by rw [List.getElem?_set, if_neg (Ne.symm hne), List.getElem?_set]; simp [hi]
  have new_p : ((l.set i x).set p e)[p]? = some e := by rw [List.getElem?_set]; simp [hpl]
  refine ⟨fun j y hy ho => ?_, fun k z ho hz => ?_⟩
  · rw [mget_mput]
    by_cases e1 : j = i
    · subst e1; rw [new_i] at hy; cases hy; rw [if_pos rfl]
    · by_cases e2 : j = p
      · subst e2; rw [new_p] at hy; cases hy; exact absurd rfl ho
      · have hy' := (old j y e1 e2).1 hy
        rw [if_neg (fun q => e2 (hk.inj hy' gp q))]
        exact h.1 j y hy' ho
  · rw [mget_mput] at hz
    split at hz
    · rename_i hkx; cases hz; exact ⟨i, x, rfl, new_i, hkx.symm⟩
    · rename_i hkx
      obtain ⟨j, y, rfl, hy, rfl⟩ := h.2 k z ho hz
      have e1 : j ≠ i := by intro q; subst q; rw [gi] at hy; cases hy; exact ho rfl
      have e2 : j ≠ p := by intro q; subst q; rw [gp] at hy; cases hy; exact hkx rfl
      exact ⟨j, y, rfl, (old j y e1 e2).2 hy, rfl⟩
theorem Ix.done {l : List E} {at_ : List (ByteArray × Int)} {i : Nat} {e : E} (hi : i < l.length) (hk : KyD (l.set i e)) (h : Ix (l.set i e) at_ (· = e.key)) : Ix (l.set i e) (mput e.key (i : Int) at_) (fun _ => False) := by
  have gi : (l.set i e)[i]? = some e := by rw [List.getElem?_set]; simp [hi]
  refine ⟨fun j y hy ho => ?_, fun k z ho hz => ?_⟩
  · rw [mget_mput]
    split
    · rename_i q; rw [hk.inj hy gi q]
    · rename_i q; exact h.1 j y hy q
  · rw [mget_mput] at hz
    split at hz
    · rename_i q; cases hz; exact ⟨i, e, rfl, gi, q.symm⟩
    · rename_i q; exact h.2 k z q hz
theorem Ix.weak {V : List E} {at_ : List (ByteArray × Int)} {φ ψ : ByteArray → Prop} (h : Ix V at_ φ) (i : ∀ k, φ k → ψ k) : Ix V at_ ψ := ⟨fun j y hy ho => h.1 j y hy (fun q => ho (i _ q)), fun k z ho hz => h.2 k z (fun q => ho (i _ q)) hz⟩
/-! ### Tables of ticks -/
def toE (x : ByteArray × Int) : E := ⟨x.2, x.1⟩
def ofE (e : E) : ByteArray × Int := (e.key, e.tick)
theorem toE_of (e : E) : toE (ofE e) = e := rfl
/-- All of a table, in their row. -/
def EL (tl : List (ByteArray × Int)) : List E := srt cmpE id (tl.map toE)
theorem EL_perm (tl : List (ByteArray × Int)) : (EL tl).Perm (tl.map toE) := srt_perm _
theorem EL_len (tl : List (ByteArray × Int)) : (EL tl).length = tl.length := by rw [(EL_perm tl).length_eq, List.length_map]
theorem toE_nodup {tl : List (ByteArray × Int)} (h : KN tl) : ((tl.map toE).map id).Nodup := by
  rw [List.map_id]
  unfold List.Nodup
  rw [List.pairwise_map]
  refine List.Pairwise.imp (fun {a b} hab e => hab ?_) h.nodup
  have : ofE (toE a) = ofE (toE b) := by rw [e]
  exact this
theorem EL_sd {tl : List (ByteArray × Int)} (h : KN tl) : Sd cmpE id (EL tl) := srt_sd cmpE_law (toE_nodup h)
theorem EL_eq {l : List E} {tl : List (ByteArray × Int)} (h : Sd cmpE id l) (p : l.Perm (tl.map toE)) : l = EL tl := srt_eq cmpE_law h p
theorem EL_congr {tl tl' : List (ByteArray × Int)} (h : KN tl) (p : tl.Perm tl') : EL tl = EL tl' := srt_congr cmpE_law (toE_nodup h) (p.map _)
theorem EL_mget {tl : List (ByteArray × Int)} (hn : KN tl) {e : E} (h : e ∈ EL tl) : mget e.key tl = some e.tick := by
  obtain ⟨x, hx, rfl⟩ := List.mem_map.1 ((EL_perm tl).mem_iff.1 h)
  exact mget_of_mem hn hx
theorem EL_mem {tl : List (ByteArray × Int)} {k : ByteArray} {t : Int} (h : mget k tl = some t) : (⟨t, k⟩ : E) ∈ EL tl := (EL_perm tl).mem_iff.2 (List.mem_map.2 ⟨(k, t), mget_mem h, rfl⟩)
theorem EL_none {tl : List (ByteArray × Int)} {k : ByteArray} (h : ∀ e ∈ EL tl, e.key ≠ k) : mget k tl = none := by
  cases hq : mget k tl with
  | none => rfl
  | some t => exact absurd rfl (h _ (EL_mem hq))
theorem mget_cons {K V : Type} [DecidableEq K] {k : K} {p : K × V} {l : List (K × V)} : mget k (p :: l) = if k = p.1 then some p.2 else mget k l := rfl
theorem mdel_perm {tl rest : List (ByteArray × Int)} {k : ByteArray} {v : Int} (hn : KN tl) (p : tl.Perm ((k, v) :: rest)) : (mdel k tl).Perm rest := by
  have hr : KN ((k, v) :: rest) := hn.perm p
  have hr' : k ∉ rest.map (·.1) ∧ (rest.map (·.1)).Nodup := List.nodup_cons.1 hr
  refine perm_of_mget hn.mdel hr'.2 fun k' => ?_
  rw [mget_mdel hn, mget_perm hn p, mget_cons]
  split
  · rename_i e; subst e; exact (mget_none.2 hr'.1).symm
  · rfl
theorem mput_perm_del {tl : List (ByteArray × Int)} {k : ByteArray} {v : Int} (hn : KN tl) : (mput k v tl).Perm ((k, v) :: mdel k tl) := by
  have h2 : KN ((k, v) :: mdel k tl) := List.nodup_cons.2 ⟨fun h => by
    have := mget_mdel (k := k) (k' := k) hn
    rw [if_pos rfl] at this
    exact mget_none.1 this h, hn.mdel⟩
  refine perm_of_mget hn.mput h2 fun k' => ?_
  rw [mget_mput, mget_cons]
  split
  · rfl
  · rename_i e; rw [mget_mdel hn, if_neg e]
theorem mdel_absent {tl : List (ByteArray × Int)} {k : ByteArray} : mget k tl = none → mdel k tl = tl := fun h => mdel_none (i := 0) (by
  cases hq : midx k tl 0 with
  | none => rfl
  | some q => have := midx_get k tl 0; rw [hq, h] at this; cases this)
theorem mput_del_perm {tl : List (ByteArray × Int)} {k : ByteArray} {t : Int} (hn : KN tl) : (mput k t (mdel k tl)).Perm (mput k t tl) :=
  perm_of_mget hn.mdel.mput hn.mput fun k' => by
    rw [mget_mput, mget_mput]
    split
    · rfl
    · rename_i e; rw [mget_mdel hn, if_neg e]
theorem mdel_len {tl : List (ByteArray × Int)} {k : ByteArray} {v : Int} (h : mget k tl = some v) : (mdel k tl).length + 1 = tl.length := by
  induction tl with
  | nil => cases h
  | cons p l ih =>
    unfold mget at h; unfold mdel
    split
    · simp
    · rename_i hk; rw [if_neg hk] at h; simp [ih h]
theorem Sd.sub {l l' : List E} (h : Sd cmpE id l) (s : l'.Sublist l) : Sd cmpE id l' := List.Pairwise.sublist s h
/-- One entry is taken out. -/
theorem EL_del {tl : List (ByteArray × Int)} (hn : KN tl) {i : Nat} {e : E} (h : (EL tl)[i]? = some e) : (EL tl).take i ++ (EL tl).drop (i + 1) = EL (mdel e.key tl) := by
  have hl := (List.getElem?_eq_some_iff.1 h).1
  have hsplit : EL tl = (EL tl).take i ++ e :: (EL tl).drop (i + 1) := by
    have h2 : (EL tl).drop i = e :: (EL tl).drop (i + 1) := by rw [List.drop_eq_getElem_cons hl]; congr 1; exact (List.getElem?_eq_some_iff.1 h).2
    rw [← h2, List.take_append_drop]
  have hsub : ((EL tl).take i ++ (EL tl).drop (i + 1)).Sublist (EL tl) := by
    have h3 : ((EL tl).take i ++ (EL tl).drop (i + 1)).Sublist ((EL tl).take i ++ e :: (EL tl).drop (i + 1)) := List.Sublist.append_left (List.sublist_cons_self _ _) _
    rwa [← hsplit] at h3
  refine EL_eq ((EL_sd hn).sub hsub) ?_
  have p1 : (EL tl).Perm (e :: ((EL tl).take i ++ (EL tl).drop (i + 1))) := by
    conv => lhs; rw [hsplit]
    exact List.perm_middle
  have p2 : tl.Perm ((e.key, e.tick) :: ((EL tl).take i ++ (EL tl).drop (i + 1)).map ofE) := by
    have h4 := ((EL_perm tl).symm.trans p1).map ofE
    rw [List.map_map] at h4
    have e5 : List.map (ofE ∘ toE) tl = tl := by rw [show ofE ∘ toE = id from rfl, List.map_id]
    rw [e5] at h4; exact h4
  have p3 := (mdel_perm hn p2).symm.map toE
  rw [List.map_map, show toE ∘ ofE = id from rfl, List.map_id] at p3
  exact p3
theorem EL_ins {tl : List (ByteArray × Int)} (hn : KN tl) {k : ByteArray} {t : Int} (hk : mget k tl = none) {n : Nat} (h1 : ∀ j e, j < n → (EL tl)[j]? = some e → cmpE e ⟨t, k⟩ < 0) (h2 : ∀ e, (EL tl)[n]? = some e → ¬ cmpE e ⟨t, k⟩ < 0) :
    (EL tl).take n ++ (⟨t, k⟩ : E) :: (EL tl).drop n = EL (mput k t tl) := by
  refine EL_eq ((EL_sd hn).ins cmpE_law (fun j y hj hy => h1 j y hj hy) (fun y hy => cmpE_law.lt_of (h2 y hy) (fun q => ?_))) ?_
  · have hm := EL_mget hn (List.mem_of_getElem? hy)
    have q' : y = ⟨t, k⟩ := q
    subst q'; rw [hk] at hm; cases hm
  · have p1 := ((mput_perm_del (v := t) (k := k) hn).map toE).symm
    rw [mdel_absent hk] at p1
    exact (ins_perm.trans ((EL_perm tl).cons _)).trans p1
theorem EL_head {tl : List (ByteArray × Int)} (hn : KN tl) {V : List E} (p : V.Perm (tl.map toE)) (h : HpOk V) {e : E} (h0 : V[0]? = some e) : (EL tl)[0]? = some e := by
  have hp : V.Perm (EL tl) := p.trans (EL_perm tl).symm
  have hm : e ∈ EL tl := hp.mem_iff.1 (List.mem_of_getElem? h0)
  have hlen : 0 < (EL tl).length := by rw [← hp.length_eq]; exact (List.getElem?_eq_some_iff.1 h0).1
  obtain ⟨m, hm0⟩ := get_some (xs := EL tl) (i := 0) hlen
  rw [hm0]
  obtain ⟨j, hj⟩ := List.getElem?_of_mem (hp.mem_iff.2 (List.mem_of_getElem? hm0))
  have h1 := h.min h0 j j m (Nat.le_refl _) hj
  obtain ⟨j2, hj2⟩ := List.getElem?_of_mem hm
  have h2 : cmpE m e ≤ 0 := by
    by_cases z : j2 = 0
    · subst z; rw [hm0] at hj2; cases hj2; have := cmpE_refl e; omega
    · have hl2 := (List.getElem?_eq_some_iff.1 hj2).1
      have := List.pairwise_iff_getElem.1 (EL_sd hn) 0 j2 hlen hl2 (by omega)
      rw [(List.getElem?_eq_some_iff.1 hm0).2, (List.getElem?_eq_some_iff.1 hj2).2] at this
      exact cmpE_le_of_lt this
  have h3 := cmpE_law.anti e m
  rw [(cmpE_law.eq0 e m).1 (by omega)]
/-- The last entry laid over another one. -/
theorem last_perm {V : List E} {i : Nat} {x e : E} (hx : V[i]? = some x) (he : V[V.length - 1]? = some e) (hi : i < V.length - 1) : V.Perm (x :: (V.take (V.length - 1)).set i e) := by
  have hl : V = V.take (V.length - 1) ++ [e] := by
    have h1 : V.drop (V.length - 1) = [e] := by
      rw [List.drop_eq_getElem_cons (by omega)]
      rw [show V.length - 1 + 1 = V.length from by omega, List.drop_length]
      congr 1; exact (List.getElem?_eq_some_iff.1 he).2
    rw [← h1, List.take_append_drop]
  have hil : i < (V.take (V.length - 1)).length := by simp; omega
  have hset : ((V.take (V.length - 1)).set i x) = V.take (V.length - 1) := by
    apply List.ext_getElem?
    intro j
    rw [List.getElem?_set]
    split
    · rename_i q; subst q; rw [List.getElem?_take, if_pos hi, hx]; try simp [hi]
    · rfl
  have hp := hole_perm (l := V.take (V.length - 1) ++ [e]) (i := i) (p := V.length - 1) (x := e) (e := x) (by simp; omega) (by rw [← hl]; exact he) (by omega)
  have e1 : ((V.take (V.length - 1) ++ [e]).set i e).set (V.length - 1) x = (V.take (V.length - 1)).set i e ++ [x] := by
    rw [List.set_append_left _ _ hil, List.set_append_right _ _ (by simp)]
    simp
  have e2 : (V.take (V.length - 1) ++ [e]).set i x = V := by rw [List.set_append_left _ _ hil, hset, ← hl]
  rw [e1, e2] at hp
  exact hp.symm.trans (List.perm_append_comm (l₁ := (V.take (V.length - 1)).set i e) (l₂ := [x]))
theorem last_perm0 {V : List E} {x : E} (he : V[V.length - 1]? = some x) : V.Perm (x :: V.take (V.length - 1)) := by
  have hlt := (List.getElem?_eq_some_iff.1 he).1
  have hl : V = V.take (V.length - 1) ++ [x] := by
    have h1 : V.drop (V.length - 1) = [x] := by
      rw [List.drop_eq_getElem_cons (by omega)]
      rw [show V.length - 1 + 1 = V.length from by omega, List.drop_length]
      congr 1; exact (List.getElem?_eq_some_iff.1 he).2
    rw [← h1, List.take_append_drop]
  have := List.perm_append_comm (l₁ := V.take (V.length - 1)) (l₂ := [x])
  rw [← hl] at this; exact this
theorem take_get {V : List E} {m j : Nat} {x : E} (h : (V.take m)[j]? = some x) : j < m ∧ V[j]? = some x := by
  rw [List.getElem?_take] at h
  split at h
  · rename_i q; exact ⟨q, h⟩
  · cases h
theorem HpOk.dn {V : List E} {i : Nat} {e : E} (h : HpOk V) (hi : i < V.length - 1) : HpDn ((V.take (V.length - 1)).set i e) i := by
  obtain ⟨x0, hx0⟩ := get_some (xs := V) (i := i) (by omega)
  refine ⟨fun j x y hj hji hjp hx hy => ?_, fun j x y hj hjp hi0 hx hy => ?_⟩
  · rcases set_get hx with ⟨q, _⟩ | ⟨_, hx⟩
    · exact absurd q.symm hji
    · rcases set_get hy with ⟨q, _⟩ | ⟨_, hy⟩
      · exact absurd q.symm hjp
      · exact h j x y hj (take_get hx).2 (take_get hy).2
  · have hji : j ≠ i := by intro q; subst q; unfold up1 at hjp; omega
    have hpi : up1 i ≠ i := by unfold up1; omega
    rcases set_get hx with ⟨q, _⟩ | ⟨_, hx⟩
    · exact absurd q.symm hji
    · rcases set_get hy with ⟨q, _⟩ | ⟨_, hy⟩
      · exact absurd q.symm hpi
      · exact cmpE_le_trans (h i x0 y hi0 hx0 (take_get hy).2) (h j x x0 hj (take_get hx).2 (by rw [hjp]; exact hx0))
theorem HpOk.front {V : List E} (h : HpOk V) (m : Nat) : HpOk (V.take m) := fun j x y hj hx hy => h j x y hj (take_get hx).2 (take_get hy).2
theorem HpOk.behind {V : List E} (h : HpOk V) (e : E) : HpUp (V ++ [e]) V.length := by
  refine ⟨fun j x y hj hji hx hy => ?_, fun j x y hj hjp h0 hx hy => ?_⟩
  · have hlt := (List.getElem?_eq_some_iff.1 hx).1
    simp at hlt
    have h1 : j < V.length := by omega
    rw [List.getElem?_append_left h1] at hx
    rw [List.getElem?_append_left (by unfold up1; omega)] at hy
    exact h j x y hj hx hy
  · have hlt := (List.getElem?_eq_some_iff.1 hx).1
    simp at hlt
    unfold up1 at hjp; omega
/-- What the map tells, an entry being taken out at 'i' and the last one laid there. -/
theorem Ix.del {V : List E} {at_ : List (ByteArray × Int)} {i : Nat} {x e : E} (hk : KyD V) (hn : KN at_) (h : Ix V at_ (fun _ => False)) (hx : V[i]? = some x) (he : V[V.length - 1]? = some e) (hi : i < V.length - 1) : Ix ((V.take (V.length - 1)).set i e) (mput e.key (i : Int) (mdel x.key at_)) (fun _ => False) := by
  have hil : i < (V.take (V.length - 1)).length := by simp; omega
  refine ⟨fun j y hy _ => ?_, fun k z _ hz => ?_⟩
  · rw [mget_mput]
    rcases set_get hy with ⟨rfl, rfl, _⟩ | ⟨hne, hy⟩
    · rw [if_pos rfl]
    · obtain ⟨hj, hy⟩ := take_get hy
      rw [if_neg (fun q => by have := hk.inj hy he q; omega), mget_mdel hn, if_neg (fun q => hne (hk.inj hx hy q.symm))]
      exact h.1 j y hy id
  · rw [mget_mput] at hz
    split at hz
    · rename_i q; cases hz
      exact ⟨i, e, rfl, by rw [List.getElem?_set, if_pos rfl, if_pos hil], q.symm⟩
    · rename_i q
      rw [mget_mdel hn] at hz
      split at hz
      · cases hz
      · rename_i q2
        obtain ⟨j, y, rfl, hy, rfl⟩ := h.2 k z id hz
        have hji : j ≠ i := by intro q3; subst q3; rw [hx] at hy; cases hy; exact q2 rfl
        have hjl : j ≠ V.length - 1 := by intro q3; subst q3; rw [he] at hy; cases hy; exact q rfl
        have hlt := (List.getElem?_eq_some_iff.1 hy).1
        exact ⟨j, y, rfl, by rw [List.getElem?_set, if_neg (Ne.symm hji), List.getElem?_take, if_pos (by omega)]; exact hy, rfl⟩
theorem Ix.delLast {V : List E} {at_ : List (ByteArray × Int)} {x : E} (hk : KyD V) (hn : KN at_) (h : Ix V at_ (fun _ => False)) (hx : V[V.length - 1]? = some x) : Ix (V.take (V.length - 1)) (mdel x.key at_) (fun _ => False) := by
  refine ⟨fun j y hy _ => ?_, fun k z _ hz => ?_⟩
  · obtain ⟨hj, hy⟩ := take_get hy
    rw [mget_mdel hn, if_neg (fun q => by have := hk.inj hy hx q; omega)]
    exact h.1 j y hy id
  · rw [mget_mdel hn] at hz
    split at hz
    · cases hz
    · rename_i q
      obtain ⟨j, y, rfl, hy, rfl⟩ := h.2 k z id hz
      have hjl : j ≠ V.length - 1 := by intro q3; subst q3; rw [hx] at hy; cases hy; exact q rfl
      have hlt := (List.getElem?_eq_some_iff.1 hy).1
      exact ⟨j, y, rfl, by rw [List.getElem?_take, if_pos (by omega)]; exact hy, rfl⟩
/-- All that is held together. -/
structure HqOk (V : List E) (at_ tl : List (ByteArray × Int)) : Prop where
  perm : V.Perm (tl.map toE)
  kn : KN tl
  ka : KN at_
  hp : HpOk V
  ix : Ix V at_ (fun _ => False)
theorem HqOk.kd {V : List E} {at_ tl : List (ByteArray × Int)} (h : HqOk V at_ tl) : KyD V := by
  unfold KyD
  have p := h.perm.map E.key
  rw [List.map_map] at p
  exact p.nodup_iff.2 h.kn
theorem HqOk.len {V : List E} {at_ tl : List (ByteArray × Int)} (h : HqOk V at_ tl) : V.length = tl.length := by rw [h.perm.length_eq, List.length_map]
theorem HqOk.has {V : List E} {at_ tl : List (ByteArray × Int)} (h : HqOk V at_ tl) {k : ByteArray} {z : Int} (hz : mget k at_ = some z) : ∃ j x, z = ((j : Nat) : Int) ∧ V[j]? = some x ∧ x.key = k ∧ mget k tl = some x.tick := by
  obtain ⟨j, y, rfl, hy, rfl⟩ := h.ix.2 k z id hz
  obtain ⟨q, hq, rfl⟩ := List.mem_map.1 (h.perm.mem_iff.1 (List.mem_of_getElem? hy))
  exact ⟨j, _, rfl, hy, rfl, mget_of_mem h.kn hq⟩
theorem HqOk.hasnt {V : List E} {at_ tl : List (ByteArray × Int)} (h : HqOk V at_ tl) {k : ByteArray} (hz : mget k at_ = none) : mget k tl = none := by
  cases hq : mget k tl with
  | none => rfl
  | some t =>
    obtain ⟨j, hj⟩ := List.getElem?_of_mem (h.perm.mem_iff.2 (List.mem_map.2 ⟨(k, t), mget_mem hq, rfl⟩))
    have := h.ix.1 j _ hj id
    rw [show (toE (k, t)).key = k from rfl, hz] at this; cases this
end Csl


end Go.Proofs.Ytppamndllgojnaa
