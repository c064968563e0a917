/- Parks. -/
import Derived.Test.YtaaondbmkibkkaaGreatV4
set_option linter.unusedVariables false
set_option linter.unusedSimpArgs false
set_option linter.unusedSectionVars false
namespace Go.Proofs.YtaaondbmkibkkaaGreat
open Go Csl
theorem und25 : Tryz.prog.underlying 25 = some (Go.TypeDesc.slice 23) := Tryz.underlying25
theorem und51 : Tryz.prog.underlying 51 = some (Go.TypeDesc.slice 34) := Tryz.underlying51
theorem by23 : bytesIs Tryz.prog 23 = some 112 := by kernel_rfl
theorem pl141 : placesOf Tryz.prog 141 = some ([(0, 1), (1, 1), (2, 1)], (.agg #[(.int .i64 0), (.slice none 0 0), (.int .i64 0)])) := by kernel_rfl
theorem fo141_1 : fieldOff Tryz.prog 141 1 = some 1 := by kernel_rfl
theorem agg25 : isAggOf Tryz.prog 25 = some false := by kernel_rfl
theorem fo141_2 : fieldOff Tryz.prog 141 2 = some 2 := by kernel_rfl
theorem fo141_0 : fieldOff Tryz.prog 141 0 = some 0 := by kernel_rfl
theorem sz25 : sizeIs Tryz.prog 25 = some 1 := by kernel_rfl
theorem zz82 : zeroIs Tryz.prog 82 = some (.agg #[(.int .i64 0), (.slice none 0 0), (.int .i64 0)]) := by kernel_rfl
theorem fo82_1 : fieldOff Tryz.prog 82 1 = some 1 := by kernel_rfl
theorem agg82 : isAggOf Tryz.prog 82 = some true := by kernel_rfl
theorem sz82 : sizeIs Tryz.prog 82 = some 3 := by kernel_rfl
theorem fo82_0 : fieldOff Tryz.prog 82 0 = some 0 := by kernel_rfl
theorem fo82_2 : fieldOff Tryz.prog 82 2 = some 2 := by kernel_rfl
theorem pl82 : placesOf Tryz.prog 82 = some ([(0, 1), (1, 1), (2, 1)], (.agg #[(.int .i64 0), (.slice none 0 0), (.int .i64 0)])) := by kernel_rfl

namespace Csl
section
variable {P : Program} {e : Env} {d : Option Tmp} {t tt E : TypeId} {pos : String} {af : Array Edge} {gd : Option (Nat × Bool)} {x y z u : Operand} {sz : Nat} {a : Option Addr} {n cap : Nat}
theorem Pure.sliceMid3 {k1 k2 k3 : IntKind} {i j m : Int} (hx : opv e x = some (.slice a n cap)) (hy : opv e y = some (.int k1 i)) (hz : opv e z = some (.int k2 j)) (hu : opv e u = some (.int k3 m)) (ht : P.underlying t = some (.slice E)) (hs : sizeIs P E = some sz)
    (h0 : 0 ≤ i) (h1 : i ≤ j) (h2 : j ≤ m) (h3 : m ≤ cap) : Pure P e ⟨d, .slice t x (some y) (some z) (some u), tt, pos, af, gd⟩ (.slice (cutAt a i.toNat m.toNat sz) (j.toNat - i.toNat) (m.toNat - i.toNat)) := fun ρ w ho => by
  have e1 := ho _ _ hx; have e2 := ho _ _ hy; have e3 := ho _ _ hz; have e4 := ho _ _ hu
  simp only [execOp, e1, Option.map_some, e2, e3, e4, Sem.run_bind]
  rw [run_sliceSl ht hs (l := i.toNat) (h := j.toNat) (m := m.toNat) (by simp [Instr.sliceBounds, run_sliceBound (P := P) (w := w) (kk := k3) (code := .slice3Acap) (by omega : 0 ≤ m) h3, run_sliceBound (P := P) (w := w) (kk := k2) (code := .slice3B) (by omega : 0 ≤ j) (by omega : j ≤ (m.toNat : Nat)), run_sliceBound (P := P) (w := w) (kk := k1) (code := .slice3C) (by omega : 0 ≤ i) (by omega : i ≤ (j.toNat : Nat))])]
  rfl
end
/-- 'append(s[:i], s[j:]...)' of a slice that is owned. -/
theorem run_append_del {P : Program} {G : Gp} {A : List HProp} {w : World} {st xt E : TypeId} {ats : Array TypeId} {ty : TypeId} {xd : TypeDesc} {sz : Nat} {a : Option Addr} {n cap i j : Nat} {x : Value} {cs : List Value}
    (hs : ats[0]? = some st) (hx : ats[1]? = some xt) (hu : P.underlying st = some (.slice E)) (hxu : P.underlying xt = some xd) (hxi : isInt xd = false)
    (hsz : sizeIs P E = some sz) (hij : i ≤ j) (hj : j ≤ n) (hn : 0 < n) (sx : Src P w sz x (n - j) (cs.drop (j * sz))) (h1 : ∀ u ∈ cs, u.isOne = true) (s : St G (Sl E sz a n cap cs :: A) w) :
    ∃ w', (Builtin.append_ ats ty #[.slice a i cap, x]).run P w = .ok (.slice a (i + (n - j)) cap) w' ∧ St G (Sl E sz a n cap (cs.take (i * sz) ++ cs.drop (j * sz) ++ cs.drop ((i + (n - j)) * sz)) :: A) w' := by
  obtain ⟨sx1, sx2, sx3⟩ := sx
  have sx2' := sx2 w rfl
  have hxs : xd = .string ∨ ∃ E', xd = .slice E' := by cases xd <;> first | exact .inl rfl | exact .inr ⟨_, rfl⟩ | simp [isInt] at hxi
  rcases s.Sl_open with ⟨rfl, rfl, rfl, rfl, s'⟩ | ⟨b, pre, post, rfl, g1, g2, g3, s'⟩
  · omega
  · have hroom : i + (n - j) ≤ cap := by omega
    have hk : i * sz + (n - j) * sz = (i + (n - j)) * sz := by rw [Nat.add_mul]
    have hle : (i + (n - j)) * sz ≤ n * sz := Nat.mul_le_mul_right _ (by omega)
    have h8 : i * sz ≤ n * sz := Nat.mul_le_mul_right _ (by omega)
    have h9 : i * sz ≤ j * sz := Nat.mul_le_mul_right _ hij
    have h10 : j * sz ≤ n * sz := Nat.mul_le_mul_right _ hj
    obtain ⟨w', hr, s2⟩ := run_storeCells (P := P) (off := pre.length + i * sz) (cs.drop (j * sz)) w (pre ++ cs ++ post) 0 s' (by simp; omega) (fun u hu => h1 u (List.mem_of_mem_drop hu))
    refine ⟨w', ?_, ?_⟩
    · simp only [Builtin.append_, hs, hx]
      simp only [List.getElem?_toArray, List.getElem?_cons_zero, List.getElem?_cons_succ, Sem.run_bind, run_underlying hu, run_underlying hxu, Result.andThen_ok, run_sizeOf hsz, Sem.run_pure]
      rcases hxs with rfl | ⟨E', rfl⟩
      all_goals
        simp only [Bool.false_eq_true, if_false, Sem.run_bind, sx1, Result.andThen_ok, if_pos hroom, sx2', Bool.not_false, if_true, add_off, hr]
        simp
    · have e : setRange (pre ++ cs ++ post) (pre.length + i * sz + 0) (cs.drop (j * sz)) = pre ++ (cs.take (i * sz) ++ cs.drop (j * sz) ++ cs.drop ((i + (n - j)) * sz)) ++ post := by
        unfold setRange
        have hdl : (cs.drop (j * sz)).length = (n - j) * sz := sx3
        have e1 : (pre ++ cs ++ post).take (pre.length + i * sz + 0) = pre ++ cs.take (i * sz) := by
          rw [Nat.add_zero, List.append_assoc, List.take_append, List.take_of_length_le (by omega), Nat.add_sub_cancel_left, List.take_append_of_le_length (by omega)]
        have e2 : (pre ++ cs ++ post).drop (pre.length + i * sz + 0 + (cs.drop (j * sz)).length) = cs.drop ((i + (n - j)) * sz) ++ post := by
          rw [hdl, Nat.add_zero, List.append_assoc, show pre.length + i * sz + (n - j) * sz = pre.length + (i + (n - j)) * sz by omega, List.drop_append, List.drop_of_length_le (by omega), List.nil_append, Nat.add_sub_cancel_left, List.drop_append_of_le_length (by omega)]
        rw [e1, e2]; simp [List.append_assoc]
      rw [e] at s2
      refine St.Sl_mk ?_ g2 g3 s2
      rw [List.length_append, List.length_append, List.length_take, List.length_drop, List.length_drop, g1, Nat.min_eq_left (by omega)]
      have : j * sz ≤ n * sz := Nat.mul_le_mul_right _ hj
      have h7 : (n - j) * sz = n * sz - j * sz := Nat.sub_mul _ _ _
      omega
section
variable {c : Cx} {G : Gp} {ops : Array Oper} {k : KT} {e : Env} {A A' : List HProp} {l : List Oper} {d : Nat} {tt st xt E : TypeId} {pos : String} {af : Array Edge} {gd : Option (Nat × Bool)} {x y : Operand} {ats : Array TypeId} {xd : TypeDesc} {xv : Value} {sz : Nat} {a : Option Addr} {n cap i j : Nat} {cs : List Value}
theorem RunL.appendDel (hx : opv e x = some (.slice a i cap)) (hy : opv e y = some xv) (hf : Find (Sl E sz a n cap cs) A A') (hs : ats[0]? = some st) (hxt : ats[1]? = some xt) (hu : c.P.underlying st = some (.slice E)) (hxu : c.P.underlying xt = some xd) (hxi : isInt xd = false)
    (hsz : sizeIs c.P E = some sz) (hij : i ≤ j) (hj : j ≤ n) (hn : 0 < n) (hsrc : ∀ w, St G A w → Src c.P w sz xv (n - j) (cs.drop (j * sz))) (h1 : ∀ u ∈ cs, u.isOne = true)
    (hw : Wt ops e ⟨some d, .call ⟨.builtin .append, #[x, y], ats⟩, tt, pos, af, gd⟩ true) (hlt : Nat.blt d c.fn.ntmps = true)
    (next : RunL c G ops l k ((d, .slice a (i + (n - j)) cap) :: e) (Sl E sz a n cap (cs.take (i * sz) ++ cs.drop (j * sz) ++ cs.drop ((i + (n - j)) * sz)) :: A')) :
    RunL c G ops (⟨some d, .call ⟨.builtin .append, #[x, y], ats⟩, tt, pos, af, gd⟩ :: l) k e A := by
  refine RunL.val (X := Unit) (v := fun _ => .slice a (i + (n - j)) cap) (A' := fun _ => Sl E sz a n cap (cs.take (i * sz) ++ cs.drop (j * sz) ++ cs.drop ((i + (n - j)) * sz)) :: A') hw rfl hlt (fun ac w h s => ?_) (fun _ => next)
  have e1 := h.opv hx; have e2 := h.opv hy
  have hq := hsrc w s
  obtain ⟨w', hr, s'⟩ := run_append_del (P := c.P) (ty := tt) hs hxt hu hxu hxi hsz hij hj hn hq h1 (s.find hf)
  refine ⟨(), w', ?_, s'⟩
  generalize ac.eval = ρ at e1 e2 ⊢
  rw [exec_append, e1, e2, hr]; rfl
end
theorem del_cells {α : Type} {f : α → List Value} {sz : Nat} {xs : List α} (hf : ∀ x, (f x).length = sz) (h0 : 0 < xs.length) : ((xs.flatMap f).take (0 * sz) ++ (xs.flatMap f).drop (1 * sz) ++ (xs.flatMap f).drop ((xs.length - 1) * sz)).take ((xs.length - 1) * sz) = (xs.drop 1).flatMap f := by
  cases xs with
  | nil => exact absurd h0 (Nat.lt_irrefl _)
  | cons x t =>
    have hl : (t.flatMap f).length = t.length * sz := flatMap_length (fun x _ => hf x)
    have e : (List.flatMap f (x :: t)).drop (1 * sz) = t.flatMap f := by
      rw [List.flatMap_cons, Nat.one_mul, List.drop_append, List.drop_of_length_le (by rw [hf]; exact Nat.le_refl _), hf, Nat.sub_self]; rfl
    rw [Nat.zero_mul, List.take_zero, List.nil_append, e, List.length_cons, Nat.add_sub_cancel, List.take_append_of_le_length (by omega), List.take_of_length_le (by omega)]; rfl
theorem Run.fromPk {c : Cx} {G : Gp} {e : Env} {A A' : List HProp} {st : List Item} {E : TypeId} {sz cap : Nat} {a : Option Addr} {α : Type} {f : α → List Value} {xs : List α} (m : Nat) (hl : ∀ x ∈ xs, (f x).length = sz) (hf : Find (Sl E sz a xs.length cap (xs.flatMap f)) A A') (hm : m ≤ xs.length)
    (next : Run c G st e (Sl E sz (cutAt a m cap sz) (xs.length - m) (cap - m) ((xs.drop m).flatMap f) :: A')) : Run c G st e A := fun ac w h s => next ac w h (by
  have := St.Sl_from m hm (s.find hf)
  rwa [flatMap_dropN hl] at this)
/-! ### Parks -/
def Pk (p : Nat) (most : Int) (es : List Edu) (lost : Int) : HProp := Ex (fun _ : Option Addr × Nat => True) (fun x => [row p 141 [.int .i64 most, .slice x.1 es.length x.2, .int .i64 lost], Sl 23 11 x.1 es.length x.2 (es.flatMap cEdu)])
def pputL (most : Int) (es : List Edu) (e : Edu) : List Edu := if e ∈ es then es else if ((es ++ [e]).length : Nat) ≤ most then es ++ [e] else (es ++ [e]).drop 1
def pputN (most : Int) (es : List Edu) (e : Edu) (lost : Int) : Int := if e ∈ es then lost else if ((es ++ [e]).length : Nat) ≤ most then lost else lost + 1
def takesB (room event : ByteArray) (e : Edu) : Bool := decide (bl e.room = bl room) && decide (bl e.event = bl event)
section
variable {c : Cx} {G : Gp} {ops : Array Oper} {kk : KT} {e : Env} {A A' : List HProp} {lo : List Oper} {st : List Item} {p n cap : Nat} {a : Option Addr} {most lost : Int} {es : List Edu}
theorem Run.openPk (hf : Find (Pk p most es lost) A A') (next : ∀ a cap, Run c G st e (row p 141 [.int .i64 most, .slice a es.length cap, .int .i64 lost] :: Sl 23 11 a es.length cap (es.flatMap cEdu) :: A')) : Run c G st e A := Run.openEx hf fun x _ => next x.1 x.2
theorem RunL.openPk (hf : Find (Pk p most es lost) A A') (next : ∀ a cap, RunL c G ops lo kk e (row p 141 [.int .i64 most, .slice a es.length cap, .int .i64 lost] :: Sl 23 11 a es.length cap (es.flatMap cEdu) :: A')) : RunL c G ops lo kk e A := RunL.openEx hf fun x _ => next x.1 x.2
theorem Run.mkPk (es : List Edu) (ht : Take [row p 141 [.int .i64 most, .slice a es.length cap, .int .i64 lost], Sl 23 11 a es.length cap (es.flatMap cEdu)] A A') (next : Run c G st e (Pk p most es lost :: A')) : Run c G st e A := Run.mkEx (a, cap) ht trivial next
end
end Csl

set_option maxHeartbeats 4000000 in
set_option maxRecDepth 100000 in
theorem indexEdu_ctr {G : Gp} {a : Option Addr} {cap : Nat} {xs : List Edu} {x : Edu} (h : SlR G 23 11 a xs.length (xs.flatMap cEdu)) (hb : xs.length ≤ 1000000) :
    Ctr Tryz.prog G 117 [.slice a xs.length cap, .agg (cEdu x).toArray] [] (fun F v A => ∃ r : Int, v = .int .i64 r ∧ (0 ≤ r ↔ x ∈ xs) ∧ A = F) := by
  refine Ctr.intro Tryz.func117 rfl (by kernel_rfl) rfl (fun F => ?_)
  simp only [List.nil_append]
  refine sr' ?_
  refine RunL.boxA (xs := (cEdu x)) rfl (Wt.none rfl) rfl ?_; intro b3
  refine as' rfl (nl' ?_)
  refine la' (row b3 23 _) Lends.row fun G3 hleG3 hrb3 => ?_
  replace h := h.mono hleG3
  refine sq' (sr' (mv' rfl (pp' (Pure.lenSl rfl rfl und25) (mv' rfl (nl' (bl' ?_))))))
  refine kp' [0, 3, 6, 7, 8] ?_
  refine lp' F (fun n e_ A => ∃ (i : Nat), i ≤ xs.length ∧ (∀ j y, j < i → xs[j]? = some y → y ≠ x) ∧ n = xs.length - i ∧ e_ = [(0, .slice a xs.length cap), (3, .pointer (some ⟨b3, 0, none⟩)), (6, .slice a xs.length cap), (7, .int .i64 (xs.length : Nat)), (8, .int .i64 (i : Nat))] ∧ A = F) (xs.length) (by exact ⟨0, by omega, fun j y hj => absurd hj (Nat.not_lt_zero _), rfl, rfl, rfl⟩) ?_
  rintro n _ _ ⟨i, hi, hall, rfl, rfl, hA_⟩ ih
  replace hA_ := hA_.symm; subst hA_
  refine sr' (pp' (Pure.lss rfl rfl) (nl' (sq' ?_)))
  refine Run.cond rfl (fun h1 => ?_) (fun h1 => ?_)
  · try simp only [Z] at h1
    obtain ⟨y, hy⟩ := get_some (xs := xs) (i := i) (by omega)
    obtain ⟨bb, Tb_, preb, postb, rfl, hro⟩ := h.open1 (show 0 < xs.length by omega)
    refine sk' (sq' (bl' (sr' (mv' rfl (as' rfl (nl' (sq' ?_)))))))
    refine Run.regionD' (by kernel_rfl) (by kernel_rfl) (fun hok33 => ?_)
    refine RunD.loadNR (vs := (cEdu x)) (i := 0) hok33 rfl (by kernel_rfl) rfl (by assumption) agg23 sz23 (by first | exact Nat.le_of_ble_eq_true rfl | (simp; done) | (simp; omega)) rfl (Wt.none rfl) rfl ?_
    refine dp' 1 hok33 rfl (Pure.move rfl) (dp' 2 hok33 rfl (Pure.move rfl) ?_)
    refine dp' 3 hok33 rfl (Pure.indexAddr rfl rfl und25 sz23 (by omega) (by omega)) ?_
    refine RunD.loadNR (vs := (cEdu y)) (i := 4) hok33 rfl (by kernel_rfl) rfl hro agg23 sz23 (elemN_len (pre := preb) (post := postb) (f := cEdu) (sz := 11) (j := 0) (n := 11) (fun _ _ => rfl) hy (by decide)) ((elemN_at (pre := preb) (post := postb) (f := cEdu) (sz := 11) (j := 0) (n := 11) (fun _ _ => rfl) hy (by decide)).trans rfl) (Wt.none rfl) rfl ?_
    refine dp' 5 hok33 rfl (Pure.aeql rfl rfl eqg23 (eqv23 (x) (y)) (by decide)) ?_
    refine RunD.nilR (by kernel_rfl) ?_
    refine Run.cond rfl (fun h2 => ?_) (fun h2 => ?_)
    · try simp only [Z] at h2
      refine sr' (mv' rfl (as' rfl (nl' ?_)))
      exact rt' Tryz.func117 (res1 rfl rfl) (by exact ⟨_, rfl, ⟨fun _ => h2 ▸ List.mem_of_getElem? hy, fun _ => by omega⟩, rfl⟩)
    · try simp only [Z] at h2
      refine sk' (ib' (rg' ?_))
      first | refine RunL.pure (Pure.addI rfl rfl (by omega)) (Wt.none rfl) rfl rfl ?_ | refine RunL.pure (Pure.add rfl rfl) (Wt.none rfl) rfl rfl ?_
      refine mv' rfl (nl' ?_)
      refine kp' [0, 3, 6, 7, 8] ?_
      exact ag' F ih (by exact ⟨i + 1, by omega, lt_succ_of hall hy (fun q => h2 q.symm), rfl, rfl, rfl⟩)
  · try simp only [Z] at h1
    refine ex' rfl (sr' (as' rfl (nl' ?_)))
    exact rt' Tryz.func117 (res1 rfl rfl) (by exact ⟨_, rfl, ⟨fun q => by omega, fun q => absurd rfl (all_of_lt hall (by omega) x q)⟩, rfl⟩)

set_option maxHeartbeats 4000000 in
set_option maxRecDepth 100000 in
theorem containsEdu_ctr {G : Gp} {a : Option Addr} {cap : Nat} {xs : List Edu} {x : Edu} (h : SlR G 23 11 a xs.length (xs.flatMap cEdu)) (hb : xs.length ≤ 1000000) :
    Ctr Tryz.prog G 84 [.slice a xs.length cap, .agg (cEdu x).toArray] [] (fun F v A => v = .bool (decide (x ∈ xs)) ∧ A = F) := by
  refine Ctr.intro Tryz.func84 rfl (by kernel_rfl) rfl (fun F => ?_)
  simp only [List.nil_append]
  refine sr' ?_
  refine RunL.boxA (xs := (cEdu x)) rfl (Wt.none rfl) rfl ?_; intro b3
  refine as' rfl (nl' ?_)
  refine la' (row b3 23 _) Lends.row fun G3 hleG3 hrb3 => ?_
  replace h := h.mono hleG3
  refine sr' (mv' rfl (lA' (cEdu x) rfl agg23 sz23 ?_))
  refine ca' rfl rfl (s := indexEdu_ctr (x := x) h hb) (q := ?_)
  rintro _ _ ⟨r, rfl, hr, hA_⟩
  replace hA_ := hA_.symm; subst hA_
  refine pp' (Pure.geq rfl rfl) (as' rfl (nl' ?_))
  exact rt' Tryz.func84 (res1 rfl rfl) (by exact ⟨by congr 1; exact decide_eq_decide.2 hr, rfl⟩)

set_option maxHeartbeats 4000000 in
set_option maxRecDepth 100000 in
theorem indexKey_ctr {G : Gp} {a : Option Addr} {cap : Nat} {xs : List K} {x : K} (h : SlR G 34 4 a xs.length (xs.flatMap cK)) (hb : xs.length ≤ 1000000) :
    Ctr Tryz.prog G 95 [.slice a xs.length cap, .agg (cK x).toArray] [] (fun F v A => ∃ r : Int, v = .int .i64 r ∧ (0 ≤ r ↔ x ∈ xs) ∧ A = F) := by
  refine Ctr.intro Tryz.func95 rfl (by kernel_rfl) rfl (fun F => ?_)
  simp only [List.nil_append]
  refine sr' ?_
  refine RunL.boxA (xs := (cK x)) rfl (Wt.none rfl) rfl ?_; intro b3
  refine as' rfl (nl' ?_)
  refine la' (row b3 34 _) Lends.row fun G3 hleG3 hrb3 => ?_
  replace h := h.mono hleG3
  refine sq' (sr' (mv' rfl (pp' (Pure.lenSl rfl rfl und51) (mv' rfl (nl' (bl' ?_))))))
  refine kp' [0, 3, 6, 7, 8] ?_
  refine lp' F (fun n e_ A => ∃ (i : Nat), i ≤ xs.length ∧ (∀ j y, j < i → xs[j]? = some y → y ≠ x) ∧ n = xs.length - i ∧ e_ = [(0, .slice a xs.length cap), (3, .pointer (some ⟨b3, 0, none⟩)), (6, .slice a xs.length cap), (7, .int .i64 (xs.length : Nat)), (8, .int .i64 (i : Nat))] ∧ A = F) (xs.length) (by exact ⟨0, by omega, fun j y hj => absurd hj (Nat.not_lt_zero _), rfl, rfl, rfl⟩) ?_
  rintro n _ _ ⟨i, hi, hall, rfl, rfl, hA_⟩ ih
  replace hA_ := hA_.symm; subst hA_
  refine sr' (pp' (Pure.lss rfl rfl) (nl' (sq' ?_)))
  refine Run.cond rfl (fun h1 => ?_) (fun h1 => ?_)
  · try simp only [Z] at h1
    obtain ⟨y, hy⟩ := get_some (xs := xs) (i := i) (by omega)
    obtain ⟨bb, Tb_, preb, postb, rfl, hro⟩ := h.open1 (show 0 < xs.length by omega)
    refine sk' (sq' (bl' (sr' (mv' rfl (as' rfl (nl' (sq' ?_)))))))
    refine Run.regionD' (by kernel_rfl) (by kernel_rfl) (fun hok33 => ?_)
    refine RunD.loadNR (vs := (cK x)) (i := 0) hok33 rfl (by kernel_rfl) rfl (by assumption) agg34 sz34 (by first | exact Nat.le_of_ble_eq_true rfl | (simp; done) | (simp; omega)) rfl (Wt.none rfl) rfl ?_
    refine dp' 1 hok33 rfl (Pure.move rfl) (dp' 2 hok33 rfl (Pure.move rfl) ?_)
    refine dp' 3 hok33 rfl (Pure.indexAddr rfl rfl und51 sz34 (by omega) (by omega)) ?_
    refine RunD.loadNR (vs := (cK y)) (i := 4) hok33 rfl (by kernel_rfl) rfl hro agg34 sz34 (elemN_len (pre := preb) (post := postb) (f := cK) (sz := 4) (j := 0) (n := 4) (fun _ _ => rfl) hy (by decide)) ((elemN_at (pre := preb) (post := postb) (f := cK) (sz := 4) (j := 0) (n := 4) (fun _ _ => rfl) hy (by decide)).trans rfl) (Wt.none rfl) rfl ?_
    refine dp' 5 hok33 rfl (Pure.aeql rfl rfl eqg34 (eqv34 (x) (y)) (by decide)) ?_
    refine RunD.nilR (by kernel_rfl) ?_
    refine Run.cond rfl (fun h2 => ?_) (fun h2 => ?_)
    · try simp only [Z] at h2
      refine sr' (mv' rfl (as' rfl (nl' ?_)))
      exact rt' Tryz.func95 (res1 rfl rfl) (by exact ⟨_, rfl, ⟨fun _ => h2 ▸ List.mem_of_getElem? hy, fun _ => by omega⟩, rfl⟩)
    · try simp only [Z] at h2
      refine sk' (ib' (rg' ?_))
      first | refine RunL.pure (Pure.addI rfl rfl (by omega)) (Wt.none rfl) rfl rfl ?_ | refine RunL.pure (Pure.add rfl rfl) (Wt.none rfl) rfl rfl ?_
      refine mv' rfl (nl' ?_)
      refine kp' [0, 3, 6, 7, 8] ?_
      exact ag' F ih (by exact ⟨i + 1, by omega, lt_succ_of hall hy (fun q => h2 q.symm), rfl, rfl, rfl⟩)
  · try simp only [Z] at h1
    refine ex' rfl (sr' (as' rfl (nl' ?_)))
    exact rt' Tryz.func95 (res1 rfl rfl) (by exact ⟨_, rfl, ⟨fun q => by omega, fun q => absurd rfl (all_of_lt hall (by omega) x q)⟩, rfl⟩)

set_option maxHeartbeats 4000000 in
set_option maxRecDepth 100000 in
theorem containsKey_ctr {G : Gp} {a : Option Addr} {cap : Nat} {xs : List K} {x : K} (h : SlR G 34 4 a xs.length (xs.flatMap cK)) (hb : xs.length ≤ 1000000) :
    Ctr Tryz.prog G 57 [.slice a xs.length cap, .agg (cK x).toArray] [] (fun F v A => v = .bool (decide (x ∈ xs)) ∧ A = F) := by
  refine Ctr.intro Tryz.func57 rfl (by kernel_rfl) rfl (fun F => ?_)
  simp only [List.nil_append]
  refine sr' ?_
  refine RunL.boxA (xs := (cK x)) rfl (Wt.none rfl) rfl ?_; intro b3
  refine as' rfl (nl' ?_)
  refine la' (row b3 34 _) Lends.row fun G3 hleG3 hrb3 => ?_
  replace h := h.mono hleG3
  refine sr' (mv' rfl (lA' (cK x) rfl agg34 sz34 ?_))
  refine ca' rfl rfl (s := indexKey_ctr (x := x) h hb) (q := ?_)
  rintro _ _ ⟨r, rfl, hr, hA_⟩
  replace hA_ := hA_.symm; subst hA_
  refine pp' (Pure.geq rfl rfl) (as' rfl (nl' ?_))
  exact rt' Tryz.func57 (res1 rfl rfl) (by exact ⟨by congr 1; exact decide_eq_decide.2 hr, rfl⟩)

set_option maxHeartbeats 4000000 in
set_option maxRecDepth 100000 in
theorem cloneEdu_ctr {G : Gp} {a : Option Addr} {c : Nat} {xs : List Edu} (h : SlR G 23 11 a xs.length (xs.flatMap cEdu)) (hb : xs.length ≤ 1000000) :
    Ctr Tryz.prog G 74 [.slice a xs.length c] [] (fun F v A => ∃ a' c', v = .slice a' xs.length c' ∧ A = Sl 23 11 a' (xs).length c' ((xs).flatMap cEdu) :: F) := by
  refine Ctr.intro Tryz.func74 rfl (by kernel_rfl) rfl (fun F => ?_)
  simp only [List.nil_append]
  cases a with
| none => ?_
| some ad => ?_
  · skip
    obtain rfl : xs = [] := by
      rcases h with ⟨h0, _⟩ | ⟨b, T', pre, post, h0, _⟩
      · exact List.eq_nil_of_length_eq_zero h0
      · cases h0
    refine sr' (as' rfl (nl' (sq' (sr' (mv' rfl (pp' (Pure.slEqNil rfl rfl und25) (nl' ?_)))))))
    refine Run.cond rfl (fun hc1 => ?_) (fun hc1 => ?_)
    rotate_left
    · try simp only [Z] at hc1
      exfalso
      simp at hc1
    try simp only [Z] at hc1
    refine sr' (as' rfl (nl' ?_))
    refine Run.nilSl 23 11 ?_
    exact rt' Tryz.func74 (res1 rfl rfl) (by exact ⟨_, _, rfl, rfl⟩)
  · skip
    refine sr' (as' rfl (nl' (sq' (sr' (mv' rfl (pp' (Pure.slEqNil rfl rfl und25) (nl' ?_)))))))
    refine Run.cond rfl (fun hc2 => ?_) (fun hc2 => ?_)
    · try simp only [Z] at hc2
      exfalso
      simp at hc2
    try simp only [Z] at hc2
    refine sk' (sr' ?_)
    refine RunL.lit0 und25 sz23 (Wt.none rfl) rfl ?_; intro b5
    refine mv' rfl ?_
    refine RunL.append (m := xs.length) (n' := xs.length) (cs' := xs.flatMap cEdu) rfl rfl (by first | ((repeat (first | (with_reducible exact F0 _) | apply F1)); done) | (repeat (first | exact F0 _ | apply F1))) rfl rfl und25 und25 rfl sz23 zz23 rfl by23 (by simp; omega) (by simp; omega) (fun w sw => (h.src sw)) (isOne_flat (f := cEdu) (fun _ => rfl)) (by simp) (by simp) (Wt.none rfl) rfl ?_; intro a1 c1
    refine as' rfl (nl' ?_)
    exact rt' Tryz.func74 (res1 rfl rfl) (by exact ⟨_, _, rfl, rfl⟩)

set_option maxHeartbeats 4000000 in
set_option maxRecDepth 100000 in
theorem deleteEdu_ctr {G : Gp} {a : Option Addr} {cap : Nat} {xs : List Edu} (hb : xs.length ≤ 1000000) (h0 : 0 < xs.length) (hc : xs.length ≤ cap) :
    Ctr Tryz.prog G 85 [.slice a xs.length cap, .int .i64 0, .int .i64 1] [Sl 23 11 a (xs).length cap ((xs).flatMap cEdu)] (fun F v A => v = .slice a (xs.drop 1).length cap ∧ A = Sl 23 11 a (xs.drop 1).length cap ((xs.drop 1).flatMap cEdu) :: F) := by
  refine Ctr.intro Tryz.func85 rfl (by kernel_rfl) rfl (fun F => ?_)
  simp only [List.cons_append, List.nil_append]
  refine sr' (as' rfl (nl' (sr' (mv' rfl (mv' rfl (mv' rfl (mv' rfl (pp' (Pure.lenSl rfl rfl und25) ?_))))))))
  refine pp' (Pure.sliceMid3 rfl rfl rfl rfl und25 sz23 (by first | omega | (simp; done) | (simp; omega)) (by first | omega | (simp; done) | (simp; omega)) (by first | omega | (simp; done) | (simp; omega)) (by first | omega | (simp; done) | (simp; omega))) ?_
  refine nl' (sq' (sr' (mv' rfl (mv' rfl (pp' (Pure.eql rfl rfl) (nl' ?_))))))
  refine Run.cond rfl (fun hc1 => ?_) (fun hc1 => ?_)
  · try simp only [Z] at hc1
    exfalso
    first | exact hc1 rfl | exact hc1 trivial | (simp at hc1; done)
  try simp only [Z] at hc1
  refine sk' (sr' (mv' rfl (pp' (Pure.lenSl rfl rfl und25) (as' rfl (nl' (sq' ?_))))))
  refine Run.regionD' (by kernel_rfl) (by kernel_rfl) (fun hok29 => ?_)
  refine dp' 0 hok29 rfl (Pure.move rfl) (dp' 1 hok29 rfl (Pure.move rfl) ?_)
  refine dp' 2 hok29 rfl (Pure.sliceTo rfl rfl und25 sz23 (by first | omega | (simp; done) | (simp; omega)) (by first | omega | (simp; done) | (simp; omega))) ?_
  refine dp' 3 hok29 rfl (Pure.move rfl) (dp' 4 hok29 rfl (Pure.move rfl) ?_)
  refine dp' 5 hok29 rfl (Pure.sliceFrom rfl rfl und25 sz23 (by first | omega | (simp; done) | (simp; omega)) (by first | omega | (simp; done) | (simp; omega))) ?_
  refine RunD.one (i := 6) (by kernel_rfl) rfl ?_
  refine RunL.appendDel (E := 23) (sz := 11) (a := a) (n := xs.length) (cap := cap) (i := 0) (j := 1) (cs := xs.flatMap cEdu) rfl rfl (by first | ((repeat (first | (with_reducible exact F0 _) | apply F1)); done) | (repeat (first | exact F0 _ | apply F1))) rfl rfl und25 und25 rfl sz23 (by omega) (by omega) (by omega) (fun w sw => by have := St.srcFromF (P := Tryz.prog) (f := cEdu) (xs := xs) 1 (fun _ _ => rfl) (by omega) (sw.find (p := Sl 23 11 a xs.length cap (xs.flatMap cEdu)) (by first | ((repeat (first | (with_reducible exact F0 _) | apply F1)); done) | (repeat (first | exact F0 _ | apply F1)))); rw [flatMap_dropN (f := cEdu) (sz := 11) (xs := xs) (m := 1) (fun _ _ => rfl)]; exact this) (isOne_flat (f := cEdu) (fun _ => rfl)) (Wt.none rfl) rfl ?_
  simp only [Nat.zero_add]
  refine RunL.nilD' ?_
  refine dp' 7 hok29 rfl (Pure.assign rfl) ?_
  refine RunD.nilR (by kernel_rfl) ?_
  refine sr' (mv' rfl (mv' rfl (pp' (Pure.lenSl rfl rfl und25) (mv' rfl ?_))))
  refine pp' (Pure.sliceMid rfl rfl rfl und25 sz23 (by first | omega | (simp; done) | (simp; omega)) (by first | omega | (simp; done) | (simp; omega)) (by first | omega | (simp; done) | (simp; omega))) ?_
  refine RunL.clearTail (T := 23) (sz := 11) (n := xs.length) (cap := cap) (i := xs.length - 1) (a := a) (by first | rfl | (rw [Int.toNat_natCast]; rfl)) rfl (by first | ((repeat (first | (with_reducible exact F0 _) | apply F1)); done) | (repeat (first | exact F0 _ | apply F1))) und25 zz23 rfl (by decide) (by omega) (Wt.none rfl) ?_
  refine nl' (sr' (mv' rfl (as' rfl (nl' ?_))))
  rw [del_cells (f := cEdu) (sz := 11) (fun _ => rfl) h0]
  exact rt' Tryz.func85 (res1 rfl rfl) (by exact ⟨by rw [List.length_drop], by rw [List.length_drop]⟩)

end Go.Proofs.YtaaondbmkibkkaaGreat
