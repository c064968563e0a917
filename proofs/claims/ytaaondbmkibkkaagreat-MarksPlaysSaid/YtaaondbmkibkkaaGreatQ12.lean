/- Step by step. -/
import Derived.Test.YtaaondbmkibkkaaGreatQ6
set_option linter.unusedVariables false
set_option linter.unusedSimpArgs false
set_option linter.unusedSectionVars false
namespace Go.Proofs.YtaaondbmkibkkaaGreat
open Go Csl
theorem cb29 : Callable Tryz.prog 29 := ⟨_, Tryz.func29, by kernel_rfl, by kernel_rfl⟩
theorem cb24 : Callable Tryz.prog 24 := ⟨_, Tryz.func24, by kernel_rfl, by kernel_rfl⟩
theorem cb36 : Callable Tryz.prog 36 := ⟨_, Tryz.func36, by kernel_rfl, by kernel_rfl⟩
theorem cb39 : Callable Tryz.prog 39 := ⟨_, Tryz.func39, by kernel_rfl, by kernel_rfl⟩

namespace Csl
section
variable {c : Cx} {G : Gp} {k : List Item} {e : Env} {A A2 : List HProp}
theorem af' (F : List HProp) {I : Nat → Env → List HProp → Prop} {n m : Nat} (ih : ∀ m e' A', m < n → I m e' A' → Run c G k e' A') (hI : I m e A2) (t : Fin F A2 A := by repeat (first | (with_reducible apply Fin.done; repeat (first | (with_reducible apply Rest.here) | apply Rest.there)) | (apply Fin.cons (by first | ((repeat (first | (with_reducible exact F0 _) | apply F1)); done) | (repeat (first | exact F0 _ | apply F1)))))) (hlt : m < n := by omega) : Run c G k e A := Run.againF ih hI t hlt
theorem mf' (F : List HProp) {M : Env → List HProp → Prop} (hk : ∀ e A, M e A → Run c G k e A) (hM : M e A2) (t : Fin F A2 A := by repeat (first | (with_reducible apply Fin.done; repeat (first | (with_reducible apply Rest.here) | apply Rest.there)) | (apply Fin.cons (by first | ((repeat (first | (with_reducible exact F0 _) | apply F1)); done) | (repeat (first | exact F0 _ | apply F1)))))) : Run c G k e A := Run.meetF hk hM t
end
end Csl

namespace Csl
/-- What is kept, in all. -/
def MS.okw (s : MS) (n : Nat) : Prop := KN s.tl ∧ s.small ∧ 0 ≤ s.lost ∧ (s.tl.length : Int) + (s.es.length : Int) + s.lost ≤ (n : Nat)
section
variable {most : Int} {vg : VG} {s : MS} {e : Edu} {room event : ByteArray} {n : Nat}
theorem MS.okw0 (n : Nat) : MS.okw ⟨[], [], 0⟩ n := ⟨List.nodup_nil, (fun e h => by cases h), by show (0 : Int) ≤ 0; omega, by show ((0 : Nat) : Int) + ((0 : Nat) : Int) + 0 ≤ _; omega⟩
theorem MS.okw.ok (h : s.okw n) : s.ok n := by
  obtain ⟨h1, h2, h3, h4⟩ := h
  exact ⟨h1, by omega, by omega, h2, h3, by omega⟩
theorem MS.okw.mono {m : Nat} (h : s.okw n) (q : n ≤ m) : s.okw m := ⟨h.1, h.2.1, h.2.2.1, by have := h.2.2.2; omega⟩
theorem park_sum {most : Int} {es : List Edu} {e : Edu} {k : Int} : ((pputL most es e).length : Int) + pputN most es e k ≤ (es.length : Int) + k + 1 := by
  unfold pputL pputN; split
  · omega
  · split
    · rw [List.length_append, List.length_singleton]; omega
    · rw [List.length_drop, List.length_append, List.length_singleton]; omega
theorem MS.okw.put (h : s.okw n) (hs : eduSmall e) : (mPut most vg s e).1.okw (n + 1) := by
  have hok := mPut_ok (most := most) (vg := vg) h.ok hs
  obtain ⟨h1, h2, h3, h4⟩ := h
  refine ⟨hok.1, hok.2.2.2.1, hok.2.2.2.2.1, ?_⟩
  by_cases hk : e.kind = 1 ∧ eduLocal e = true
  · by_cases q : fitsI (vg e.room) e.event e.thread = 4
    · rw [mPut_park hk q]
      have := park_sum (most := most) (es := s.es) (e := e) (k := s.lost)
      show (s.tl.length : Int) + ((pputL most s.es e).length : Int) + pputN most s.es e s.lost ≤ _
      omega
    · by_cases q0 : fitsI (vg e.room) e.event e.thread = 0
      · rw [mPut_in hk q0]
        have hl := tput_len (l := s.tl) (k := kOf e) (q := posAt (vg e.room) e.event)
        show ((tput s.tl (kOf e) (posAt (vg e.room) e.event)).length : Int) + (s.es.length : Int) + s.lost ≤ _
        omega
      · rw [mPut_bad hk q q0]; show (s.tl.length : Int) + (s.es.length : Int) + s.lost ≤ _; omega
  · rw [mPut_arg hk]; show (s.tl.length : Int) + (s.es.length : Int) + s.lost ≤ _; omega
theorem MS.okw.fold : ∀ (l : List Edu) (q : MS × List K) (n : Nat), (∀ e ∈ l, eduSmall e) → q.1.okw n → (l.foldl (arrS most vg) q).1.okw (n + l.length)
  | [], q, n, _, h => h
  | e :: l, q, n, hs, h => by
    have h1 : (arrS most vg q e).1.okw (n + 1) := h.put (hs e List.mem_cons_self)
    have := MS.okw.fold l (arrS most vg q e) (n + 1) (fun x hx => hs x (List.mem_cons_of_mem _ hx)) h1
    rw [List.foldl_cons]
    exact this.mono (by rw [List.length_cons]; omega)
theorem filter_two (p : Edu → Bool) : ∀ l : List Edu, (l.filter p).length + (l.filter (fun y => !p y)).length = l.length
  | [] => rfl
  | x :: l => by
    have ih := filter_two p l
    cases hp : p x with
    | true => rw [List.filter_cons_of_pos hp, List.filter_cons_of_neg (by simp [hp])]; simp only [List.length_cons]; omega
    | false => rw [List.filter_cons_of_neg (by simp [hp]), List.filter_cons_of_pos (by simp [hp])]; simp only [List.length_cons]; omega
theorem MS.okw.arr (h : s.okw n) : (mArr most vg s room event).1.okw n ∧ (mArr most vg s room event).2.length ≤ n := by
  refine ⟨?_, (mArr_ok h.ok).2⟩
  unfold mArr; split
  · obtain ⟨h1, h2, h3, h4⟩ := h
    have hf := filter_two (takesB room event) s.es
    have ht : (mTake s room event).okw (n - (s.es.filter (takesB room event)).length) := ⟨h1, fun e he => h2 e (List.mem_filter.1 he).1, h3, by show (s.tl.length : Int) + ((s.es.filter (fun y => !takesB room event y)).length : Int) + s.lost ≤ _; omega⟩
    exact (MS.okw.fold (most := most) (vg := vg) (s.es.filter (takesB room event)) (mTake s room event, []) _ (fun e he => h2 e (List.mem_filter.1 he).1) ht).mono (by omega)
  · exact h
theorem vadd_congr {a b : VL} (h : ∀ r, vget a r = vget b r) (v : Evt) (r : ByteArray) : vget (vaddL a v) r = vget (vaddL b v) r := by
  rw [vget_add, vget_add, h v.room, h r]

end
end Csl

theorem likeO_ctr {G : Gp} {a b : Option Addr} {c1 c2 : Nat} {xs : List M} (hb : xs.length ≤ 1000000) : Ctr Tryz.prog G 24 [.slice a xs.length c1, .slice b xs.length c2] [Sl 115 6 a (xs).length c1 ((xs).flatMap cM), Sl 117 6 b (xs).length c2 ((xs).flatMap cM)] (fun F v A => v = .bool true ∧ A = Sl 115 6 a (xs).length c1 ((xs).flatMap cM) :: Sl 117 6 b (xs).length c2 ((xs).flatMap cM) :: F) :=
  (Ctr.lend2 (Q1 := Sl 115 6 a (xs).length c1 ((xs).flatMap cM)) (Q2 := Sl 117 6 b (xs).length c2 ((xs).flatMap cM)) (R1 := fun G => SlR G 115 6 a xs.length (xs.flatMap cM) ∧ xs.length ≤ c1) (R2 := fun G => SlR G 117 6 b xs.length (xs.flatMap cM) ∧ xs.length ≤ c2) Lends.Sl Lends.Sl cb24 (fun G G' h r => ⟨r.1.mono h, r.2⟩) (fun G' hle hr hr2 => like_ctr hr.1 hr2.1 hb)).mono (by rintro F v A ⟨A', rfl, h⟩; obtain ⟨rfl, rfl⟩ := h; exact ⟨rfl, rfl⟩)
theorem keysO_ctr {G : Gp} {a b : Option Addr} {c1 c2 : Nat} {xs : List K} (hb : xs.length ≤ 1000000) : Ctr Tryz.prog G 36 [.slice a xs.length c1, .slice b xs.length c2] [Sl 34 4 a (xs).length c1 ((xs).flatMap cK), Sl 33 4 b (xs).length c2 ((xs).flatMap cK)] (fun F v A => v = .bool true ∧ A = Sl 34 4 a (xs).length c1 ((xs).flatMap cK) :: Sl 33 4 b (xs).length c2 ((xs).flatMap cK) :: F) :=
  (Ctr.lend2 (Q1 := Sl 34 4 a (xs).length c1 ((xs).flatMap cK)) (Q2 := Sl 33 4 b (xs).length c2 ((xs).flatMap cK)) (R1 := fun G => SlR G 34 4 a xs.length (xs.flatMap cK) ∧ xs.length ≤ c1) (R2 := fun G => SlR G 33 4 b xs.length (xs.flatMap cK) ∧ xs.length ≤ c2) Lends.Sl Lends.Sl cb36 (fun G G' h r => ⟨r.1.mono h, r.2⟩) (fun G' hle hr hr2 => keys_ctr hr.1 hr2.1 hb)).mono (by rintro F v A ⟨A', rfl, h⟩; obtain ⟨rfl, rfl⟩ := h; exact ⟨rfl, rfl⟩)
theorem sameO_ctr {G : Gp} {a b : Option Addr} {c1 c2 : Nat} {xs : List Edu} (hb : xs.length ≤ 1000000) : Ctr Tryz.prog G 39 [.slice a xs.length c1, .slice b xs.length c2] [Sl 23 11 a (xs).length c1 ((xs).flatMap cEdu), Sl 23 11 b (xs).length c2 ((xs).flatMap cEdu)] (fun F v A => v = .bool true ∧ A = Sl 23 11 a (xs).length c1 ((xs).flatMap cEdu) :: Sl 23 11 b (xs).length c2 ((xs).flatMap cEdu) :: F) :=
  (Ctr.lend2 (Q1 := Sl 23 11 a (xs).length c1 ((xs).flatMap cEdu)) (Q2 := Sl 23 11 b (xs).length c2 ((xs).flatMap cEdu)) (R1 := fun G => SlR G 23 11 a xs.length (xs.flatMap cEdu) ∧ xs.length ≤ c1) (R2 := fun G => SlR G 23 11 b xs.length (xs.flatMap cEdu) ∧ xs.length ≤ c2) Lends.Sl Lends.Sl cb39 (fun G G' h r => ⟨r.1.mono h, r.2⟩) (fun G' hle hr hr2 => same_ctr hr.1 hr2.1 hb)).mono (by rintro F v A ⟨A', rfl, h⟩; obtain ⟨rfl, rfl⟩ := h; exact ⟨rfl, rfl⟩)
set_option maxHeartbeats 1000000 in
set_option maxRecDepth 100000 in
theorem WaitsR_ctr {G : Gp} {pm pt pp : Nat} {most : Int} {es : List Edu} {lost : Int} (h : Ro G pm 60 [.pointer (some ⟨pt, 0, none⟩), .pointer (some ⟨pp, 0, none⟩)]) (hb : es.length ≤ 1000000) :
    Ctr Tryz.prog G 14 [.pointer (some ⟨pm, 0, none⟩)] [Pk pp most es lost] (fun F v A => ∃ a c, v = .slice a es.length c ∧ A = Sl 23 11 a (es).length c ((es).flatMap cEdu) :: Pk pp most es lost :: F) := by
  refine Ctr.intro Tryz.func14 rfl (by kernel_rfl) rfl (fun F => ?_)
  simp only [List.cons_append, List.nil_append]
  refine sr' (as' rfl (nl' (sr' (mv' rfl (pp' (Pure.nilCheck rfl) (pp' (Pure.fieldAddr rfl fo60_1) (l1' rfl agg58 ?_)))))))
  refine ca' rfl rfl (s := AllP_ctr hb) (q := ?_)
  rintro _ _ ⟨za, zc, rfl, hA_⟩
  replace hA_ := hA_.symm; subst hA_
  refine as' rfl (nl' ?_)
  exact rt' Tryz.func14 (res1 rfl rfl) (by exact ⟨za, zc, rfl, rfl⟩)

set_option maxHeartbeats 1000000 in
set_option maxRecDepth 100000 in
theorem LostR_ctr {G : Gp} {pm pt pp : Nat} {most : Int} {es : List Edu} {lost : Int} (h : Ro G pm 60 [.pointer (some ⟨pt, 0, none⟩), .pointer (some ⟨pp, 0, none⟩)]) :
    Ctr Tryz.prog G 23 [.pointer (some ⟨pm, 0, none⟩)] [Pk pp most es lost] (fun F v A => v = .int .i64 lost ∧ A = Pk pp most es lost :: F) := by
  refine Ctr.intro Tryz.func23 rfl (by kernel_rfl) rfl (fun F => ?_)
  simp only [List.cons_append, List.nil_append]
  refine sr' (as' rfl (nl' (sr' (mv' rfl (pp' (Pure.nilCheck rfl) (pp' (Pure.fieldAddr rfl fo60_1) (l1' rfl agg58 ?_)))))))
  refine ca' rfl rfl (s := LostP_ctr) (q := ?_)
  rintro _ _ ⟨rfl, hA_⟩
  replace hA_ := hA_.symm; subst hA_
  refine as' rfl (nl' ?_)
  exact rt' Tryz.func23 (res1 rfl rfl) (by exact ⟨rfl, rfl⟩)

set_option maxHeartbeats 1000000 in
set_option maxRecDepth 100000 in
theorem MarksPlays_ctr {G : Gp} {z : Int} (hz : -9223372036854775808 ≤ z ∧ z ≤ 9223372036854775807) {aa : Option Addr} {ca : Nat} {ga : List GG} (ha : SlR G 130 4 aa ga.length (ga.flatMap cGG)) (hia : GsIn G ga) {ab : Option Addr} {cb : Nat} {gb : List GG} (hb : SlR G 130 4 ab gb.length (gb.flatMap cGG)) (hib : GsIn G gb) {al : Option Addr} {cl : Nat} {l : List Edu} (hl : SlR G 23 11 al l.length (l.flatMap cEdu)) (hlo : ∀ x ∈ l, okEdu x) {aw : Option Addr} {cw : Nat} {bs : List Bool} (hrw : SlR G 4 1 aw bs.length (bs.map Value.bool)) (hbn : bs.length ≤ 9223372036854775807) :
    Ctr Tryz.prog G 7 [.int .i64 z, .slice aa ga.length ca, .slice ab gb.length cb, .slice al l.length cl, .slice aw bs.length cw] [] (fun F v A => v = .bool true ∧ A = F) := by
  refine Ctr.intro Tryz.func7 rfl (by kernel_rfl) rfl (fun F => ?_)
  simp only [List.nil_append]
  obtain ⟨xa, hxa, hgxa⟩ := hia
  have hgsa : SlR G 130 4 aa xa.length (xa.flatMap cGX) := by rw [← hxa, List.length_map, gx_flat] at ha; exact ha
  have hgla : ga.length = xa.length := by rw [← hxa, List.length_map]
  obtain ⟨xb, hxb, hgxb⟩ := hib
  have hgsb : SlR G 130 4 ab xb.length (xb.flatMap cGX) := by rw [← hxb, List.length_map, gx_flat] at hb; exact hb
  have hglb : gb.length = xb.length := by rw [← hxb, List.length_map]
  refine sr' (as' rfl (nl' (sr' (mv' rfl ?_))))
  refine ca' rfl rfl (s := Around_ctr (z := z) (m := 4) hz (by omega)) (q := ?_)
  rintro _ _ ⟨rfl, hA_⟩
  replace hA_ := hA_.symm; subst hA_
  have hz4 := around_lt (z := z) (m := 4) (by decide)
  obtain ⟨most, hmost⟩ : ∃ most, most = 1 + around z 4 := ⟨_, rfl⟩
  first | refine RunL.pure (Pure.addI rfl rfl (by omega)) (Wt.none rfl) rfl rfl ?_ | refine RunL.pure (Pure.add rfl rfl) (Wt.none rfl) rfl rfl ?_
  refine as' rfl (nl' (sr' (mv' rfl ?_)))
  rw [← hmost]
  refine ca' rfl rfl (s := NewM1_ctr (z := most) (by omega)) (q := ?_)
  rintro _ _ ⟨pm, rfl, hA_⟩
  replace hA_ := hA_.symm; subst hA_
  refine mv' rfl (pp' (Pure.extract rfl rfl) (pp' (Pure.extract rfl rfl) (as' rfl (as' rfl (nl' (sr' ?_))))))
  refine ca' rfl rfl (s := NewV_ctr) (q := ?_)
  rintro _ _ ⟨pv, rfl, hA_⟩
  replace hA_ := hA_.symm; subst hA_
  refine as' rfl (nl' (sq' (sr' (mv' rfl (pp' (Pure.ptrEqNil rfl rfl und26) (mv' rfl (py' (Pure.move rfl) (py' (Pure.ptrEqNil rfl rfl und30) (pp' (Pure.pickF rfl rfl) (mv' rfl (py' (Pure.move rfl) (py' (Pure.neq rfl rfl) (pp' (Pure.pickF rfl rfl) (nl' ?_))))))))))))))
  refine Run.cond rfl (fun hc1 => ?_) (fun hc1 => ?_)
  · try simp only [Z] at hc1
    exfalso
    first | exact hc1 rfl | exact hc1 trivial | (simp at hc1; done)
  try simp only [Z] at hc1
  refine sk' (sr' (mv' rfl (pp' (Pure.buildL (ps := [(0, _)]) (zs := [(.int .i64 0), (.slice none 0 0), (.int .i64 0)]) (xs := (cPP ((⟨most, ⟨none, 0, 0⟩, 0⟩ : PP)))) pl82 rfl rfl rfl rfl) (pp' (Pure.buildL (ps := [(1, _)]) (zs := [(.slice none 0 0), (.int .i64 0), (.slice none 0 0), (.int .i64 0)]) (xs := (cSS ((sS none 0 none 0 most ⟨[], [], 0⟩)))) pl84 rfl rfl rfl rfl) ?_))))
  refine RunL.alloc zz84 (Wt.none rfl) rfl ?_; intro b15
  refine sW' (cSS ((sS none 0 none 0 most ⟨[], [], 0⟩))) rfl rfl sz84 ?_
  refine nl' (sr' ?_)
  refine RunL.alloc zz65 (Wt.none rfl) rfl ?_; intro b16
  refine nl' (sr' (mv' rfl (mv' rfl ?_)))
  rw [hgla, hglb]
  refine ca' rfl rfl (s := Made_ctr (xa := xa) (xb := xb) hgsa hgxa hgsb hgxb) (q := ?_)
  rintro _ _ ⟨K, ay, cy, ys, hyl, hYK, rfl, hA_⟩
  replace hA_ := hA_.symm; subst hA_
  have hyn : ys.length ≤ 18 := by rw [← List.length_map (f := (·.1)), hyl]; exact evs_len xa xb
  have hwf := evs_wf (xa := xa) (xb := xb)
  refine as' rfl (nl' ?_)
  refine la' (Sl 49 6 ay ys.length cy _) Lends.Sl fun Ghys hleGhys hys => ?_
  replace hgsa := hgsa.mono hleGhys
  replace hgxa := hgxa.mono hleGhys
  replace hgsb := hgsb.mono hleGhys
  replace hgxb := hgxb.mono hleGhys
  replace hl := hl.mono hleGhys
  replace hrw := hrw.mono hleGhys
  obtain ⟨hys, hyc⟩ := hys
  refine Run.nilSl 117 6 ?_
  refine Run.nilSl 23 11 ?_
  refine sq' (sr' (as' rfl (nl' (bl' ?_))))
  refine kp' [3, 4, 12, 14, 15, 16, 17, 18] ?_
  refine lp' F (fun n e_ A => ∃ (i : Nat) (vl : VL) (s : MS) (K1 : Hp) (V : VV) (zs : ZV) (la pa : Option Addr) (lc pc : Nat), i ≤ 16 ∧ (s.okw i ∧ Hp.le K K1 ∧ HasZ (gk K1) V zs ∧ zs.length ≤ i ∧ (vget (zs.map (fun z : DD × ByteArray × EL => z.2)) = vget vl) ∧ ∀ r, (vget vl r).length ≤ i) ∧ n = 16 - i ∧ e_ = [(3, .slice al l.length cl), (4, .slice aw bs.length cw), (12, .pointer (some ⟨pm, 0, none⟩)), (14, .pointer (some ⟨pv, 0, none⟩)), (15, .pointer (some ⟨b15, 0, none⟩)), (16, .pointer (some ⟨b16, 0, none⟩)), (17, .slice ay ys.length cy), (18, .int .i64 (i : Nat))] ∧ A = row b15 84 (cSS (sS la lc pa pc most s)) :: row b16 65 (cVV V) :: Sl 117 6 la (ML (s.tl)).length lc ((ML (s.tl)).flatMap cM) :: Sl 23 11 pa (s.es).length pc ((s.es).flatMap cEdu) :: Pool K1 :: Vw pv vl :: Mk pm most s :: F) (16) (by exact ⟨0, [], ⟨[], [], 0⟩, K, (⟨⟨none, 0, 0⟩⟩ : VV), [], none, none, 0, 0, by omega, ⟨MS.okw0 0, Hp.le_refl _, ⟨rfl, .inl ⟨rfl, rfl⟩, Nat.le_refl _, fun z hz => by cases hz⟩, Nat.le_refl _, rfl, fun r => Nat.zero_le _⟩, rfl, rfl, rfl⟩) ?_
  rintro n _ _ ⟨i, vl, s, K1, V, zs, la, pa, lc, pc, hi, hF, rfl, rfl, hA_⟩ ih
  replace hA_ := hA_.symm; subst hA_
  refine sq' (sr' (mv' rfl (mv' rfl (pp' (Pure.lenSl rfl rfl und25) (pp' (Pure.lss rfl rfl) (mv' rfl ?_))))))
  refine RunL.split (d := 58) rfl (fun c1 => ?_) (fun c1 => ?_)
  · try simp only [Z] at c1
    refine py' (Pure.move rfl) (py' (Pure.lss rfl rfl) (pp' (Pure.pickT rfl rfl) (nl' ?_)))
    refine Run.cond rfl (fun c2 => ?_) (fun c2 => ?_)
    · try simp only [Z] at c2
      obtain ⟨x, hx⟩ := get_some (xs := l) (i := i) (by omega)
      have hxo := hlo x (List.mem_of_getElem? hx)
      obtain ⟨bx, Tx, prex, postx, hpx, hrox⟩ := hl.open1 (show 0 < l.length by omega)
      obtain ⟨hF1, hF2, hF3, hF4, hF5, hF6⟩ := hF
      obtain ⟨hw1, hw2, hw3, hw4⟩ := id hF1
      have hzr : ∀ r, (vget (zs.map (fun z : DD × ByteArray × EL => z.2)) r).length ≤ 1000 := fun r => by rw [hF5]; exact Nat.le_trans (hF6 r) (by omega)
      refine sk' (sq' (bl' (sr' (mv' rfl (mv' rfl ?_)))))
      refine pp' (Pure.indexAddr (opvSl rfl hpx) rfl und25 sz23 (by omega) (by omega)) ?_
      refine RunL.loadNR (vs := (cEdu x)) rfl hrox agg23 sz23 (elemN_len (pre := prex) (post := postx) (f := cEdu) (sz := 11) (j := 0) (n := 11) (fun _ _ => rfl) hx (by decide)) ((elemN_at (pre := prex) (post := postx) (f := cEdu) (sz := 11) (j := 0) (n := 11) (fun _ _ => rfl) hx (by decide)).trans rfl) (Wt.none rfl) rfl ?_
      refine ca' rfl rfl (s := Waits12_ctr (e := x) hxo) (q := ?_)
      rintro _ _ ⟨rfl, hA_⟩
      replace hA_ := hA_.symm; subst hA_
      refine RunL.alloc zz23 (Wt.none rfl) rfl ?_; intro b19
      refine sW' (cEdu ((waitsE x))) rfl rfl sz23 ?_
      refine nl' (sq' ?_)
      refine Run.cut (fun e_ A => ∃ u : Edu, eduSmall u ∧ e_ = [(3, .slice al l.length cl), (4, .slice aw bs.length cw), (12, .pointer (some ⟨pm, 0, none⟩)), (14, .pointer (some ⟨pv, 0, none⟩)), (15, .pointer (some ⟨b15, 0, none⟩)), (16, .pointer (some ⟨b16, 0, none⟩)), (17, .slice ay ys.length cy), (18, .int .i64 (i : Nat)), (19, .pointer (some ⟨b19, 0, none⟩))] ∧ A = row b19 23 (cEdu u) :: row b15 84 (cSS (sS la lc pa pc most s)) :: row b16 65 (cVV V) :: Sl 117 6 la (ML (s.tl)).length lc ((ML (s.tl)).flatMap cM) :: Sl 23 11 pa (s.es).length pc ((s.es).flatMap cEdu) :: Pool K1 :: Vw pv vl :: Mk pm most s :: F) (fun e A hM => ?_) (fun hk => ?_)
      · obtain ⟨u, hus, rfl, hA_⟩ := hM
        replace hA_ := hA_.symm; subst hA_
        refine lb' (Pool K1) Lends.Pool fun gp hlegp hK backgp => ?_
        have hgsa_gp := hgsa.mono hlegp
        have hgxa_gp := hgxa.mono hlegp
        have hgsb_gp := hgsb.mono hlegp
        have hgxb_gp := hgxb.mono hlegp
        have hl_gp := hl.mono hlegp
        have hrw_gp := hrw.mono hlegp
        have hys_gp := hys.mono hlegp
        have hrox_gp := hrox.mono hlegp
        have hZ := hF3.hp (G' := gp) hK
        obtain ⟨s1, hs1⟩ : ∃ s1, s1 = (mPut most (vget vl) s u).1 := ⟨_, rfl⟩
        obtain ⟨o1, ho1⟩ : ∃ o1, o1 = (mPut most (vget vl) s u).2.1 := ⟨_, rfl⟩
        obtain ⟨f1, hf1⟩ : ∃ f1, f1 = (mPut most (vget vl) s u).2.2 := ⟨_, rfl⟩
        have hok1 : s1.okw (i + 1) := by rw [hs1]; exact hF1.put hus
        refine sr' (lA' (cSS ((sS la lc pa pc most s))) rfl agg84 sz84 ?_)
        refine lA' (cVV V) rfl agg65 sz65 ?_
        refine lA' (cEdu u) rfl agg23 sz23 ?_
        refine ca' rfl rfl (s := rPutM_ctr (e := u) (s := s) hZ (by omega) hzr hus hw1 (by omega) (by omega) ⟨by omega, by omega⟩) (q := ?_)
        rintro _ _ ⟨la1, lc1, pa1, pc1, rfl, hA_⟩
        replace hA_ := hA_.symm; subst hA_
        rw [hF5, ← hs1, ← ho1, ← hf1]
        refine mv' rfl (pp' (Pure.extract rfl rfl) (pp' (Pure.extract rfl rfl) (pp' (Pure.extract rfl rfl) ?_)))
        refine RunL.alloc zz84 (Wt.none rfl) rfl ?_; intro b20
        refine sW' (cSS ((sS la1 lc1 pa1 pc1 most s1))) rfl rfl sz84 ?_
        refine as' rfl (as' rfl (nl' ?_))
        refine Run.backB backgp ?_
        refine sr' (lA' (cSS ((sS la1 lc1 pa1 pc1 most s1))) rfl agg84 sz84 ?_)
        refine sW' (cSS ((sS la1 lc1 pa1 pc1 most s1))) rfl rfl sz84 ?_
        refine nl' (sr' (mv' rfl (mv' rfl (lA' (cEdu u) rfl agg23 sz23 ?_))))
        refine ca' rfl rfl (s := Ctr.lend Lends.Vw cb16 (fun G' hle hr => PutM_ctr (e := u) (s := s) hr hus (by omega) ⟨by omega, by omega⟩)) (q := ?_)
        rintro _ _ ⟨_, rfl, rfl, hA_⟩
        replace hA_ := hA_.symm; subst hA_
        rw [← hs1, ← ho1, ← hf1]
        refine mv' rfl (pp' (Pure.extract rfl rfl) (pp' (Pure.extract rfl rfl) (as' rfl (as' rfl (nl' (sq' (sr' (mv' rfl (mv' rfl (pp' (Pure.bneq rfl rfl und4) (mv' rfl ?_)))))))))))
        refine RunL.split (d := 107) rfl (fun hg2 => ?_) (fun hg2 => ?_)
        · try simp only [Z] at hg2
          exfalso
          first | exact hg2 rfl | exact hg2 trivial | (simp at hg2; done)
        try simp only [Z] at hg2
        refine py' (Pure.move rfl) (py' (Pure.move rfl) (py' (Pure.neq rfl rfl) (pp' (Pure.pickF rfl rfl) (nl' ?_))))
        refine Run.cond rfl (fun hc3 => ?_) (fun hc3 => ?_)
        · try simp only [Z] at hc3
          exfalso
          first | exact hc3 rfl | exact hc3 trivial | (simp at hc3; done)
        try simp only [Z] at hc3
        refine sk' (sq' ?_)
        refine Run.cut (fun e_ A => ∃ (vl2 : VL) (s2 : MS) (K2 : Hp) (V2 : VV) (zs2 : ZV) (la2 pa2 : Option Addr) (lc2 pc2 : Nat), (s2.okw (i + 1) ∧ Hp.le K K2 ∧ HasZ (gk K2) V2 zs2 ∧ zs2.length ≤ (i + 1) ∧ (vget (zs2.map (fun z : DD × ByteArray × EL => z.2)) = vget vl2) ∧ ∀ r, (vget vl2 r).length ≤ (i + 1)) ∧ e_ = [(3, .slice al l.length cl), (4, .slice aw bs.length cw), (12, .pointer (some ⟨pm, 0, none⟩)), (14, .pointer (some ⟨pv, 0, none⟩)), (15, .pointer (some ⟨b15, 0, none⟩)), (16, .pointer (some ⟨b16, 0, none⟩)), (17, .slice ay ys.length cy), (18, .int .i64 (i : Nat))] ∧ A = row b15 84 (cSS (sS la2 lc2 pa2 pc2 most s2)) :: row b16 65 (cVV V2) :: Sl 117 6 la2 (ML (s2.tl)).length lc2 ((ML (s2.tl)).flatMap cM) :: Sl 23 11 pa2 (s2.es).length pc2 ((s2.es).flatMap cEdu) :: Pool K2 :: Vw pv vl2 :: Mk pm most s2 :: F) (fun e A hM => ?_) (fun hk => ?_)
        · obtain ⟨vl2, s2, K2, V2, zs2, la2, pa2, lc2, pc2, hF2_, rfl, hA_⟩ := hM
          replace hA_ := hA_.symm; subst hA_
          obtain ⟨hW1, hW2, hW3, hW4, hW5, hW6⟩ := hF2_
          obtain ⟨hx1, hx2, hx3, hx4⟩ := id hW1
          have hml := ML_len s2.tl
          have hfl : ((ML s2.tl).filter (fun x => !isPriv x)).length ≤ s2.tl.length := by rw [← hml]; exact List.length_filter_le _ _
          refine Run.openMk (p := pm) (s := s2) (by first | ((repeat (first | (with_reducible exact F0 _) | apply F1)); done) | (repeat (first | exact F0 _ | apply F1))) ?_; intro pt pp
          refine sq' ?_
          refine Run.regionD' (by kernel_rfl) (by kernel_rfl) (fun hok211 => ?_)
          refine ld' (row b15 84 _) Lends.row ?_; intro gl1 hlegl1 hl1 backgl1
          have hgsa_gl1 := hgsa.mono hlegl1
          have hgxa_gl1 := hgxa.mono hlegl1
          have hgsb_gl1 := hgsb.mono hlegl1
          have hgxb_gl1 := hgxb.mono hlegl1
          have hl_gl1 := hl.mono hlegl1
          have hrw_gl1 := hrw.mono hlegl1
          have hys_gl1 := hys.mono hlegl1
          have hrox_gl1 := hrox.mono hlegl1
          refine ld' (row pm 60 _) Lends.row ?_; intro gm hlegm hgm backgm
          try (replace hl1 := hl1.mono hlegm)
          have hgsa_gm := hgsa_gl1.mono hlegm
          have hgxa_gm := hgxa_gl1.mono hlegm
          have hgsb_gm := hgsb_gl1.mono hlegm
          have hgxb_gm := hgxb_gl1.mono hlegm
          have hl_gm := hl_gl1.mono hlegm
          have hrw_gm := hrw_gl1.mono hlegm
          have hys_gm := hys_gl1.mono hlegm
          have hrox_gm := hrox_gl1.mono hlegm
          refine dp' 0 hok211 rfl (Pure.move rfl) (dp' 1 hok211 rfl (Pure.nilCheck rfl) (dp' 2 hok211 rfl (Pure.fieldAddr rfl fo60_0) (dl' 3 hok211 rfl rfl agg57 ?_)))
          refine dp' 5 hok211 rfl (Pure.fieldAddr rfl fo84_0) (dl' 6 hok211 rfl rfl agg61 ?_)
          refine RunD.one (i := 4) (by kernel_rfl) rfl ?_
          refine ca' rfl rfl (s := AllO_ctr hx1 (by omega)) (q := ?_)
          rintro _ _ ⟨a7, c7, rfl, hA_⟩
          replace hA_ := hA_.symm; subst hA_
          refine RunL.nilD' ?_
          refine RunD.one (i := 7) (by kernel_rfl) rfl ?_
          refine ca' rfl rfl (s := likeO_ctr (by omega)) (q := ?_)
          rintro _ _ ⟨rfl, hA_⟩
          replace hA_ := hA_.symm; subst hA_
          refine RunL.nilD' ?_
          refine dp' 8 hok211 rfl (Pure.not rfl) (dp' 9 hok211 rfl (Pure.move rfl) ?_)
          refine RunD.split (d := 181) rfl (fun hg4 => ?_) (fun hg4 => ?_)
          · try simp only [Z] at hg4
            exfalso
            first | exact hg4 rfl | exact hg4 trivial | (simp at hg4; done)
          try simp only [Z] at hg4
          refine dp' 10 hok211 rfl (Pure.move rfl) (dp' 11 hok211 rfl (Pure.nilCheck rfl) (dp' 12 hok211 rfl (Pure.fieldAddr rfl fo60_0) (dl' 13 hok211 rfl rfl agg57 ?_)))
          refine dp' 15 hok211 rfl (Pure.fieldAddr rfl fo84_0) (dl' 16 hok211 rfl rfl agg61 ?_)
          refine RunD.one (i := 14) (by kernel_rfl) rfl ?_
          refine ca' rfl rfl (s := PublicO_ctr hx1 (by omega)) (q := ?_)
          rintro _ _ ⟨a8, c8, rfl, hA_⟩
          replace hA_ := hA_.symm; subst hA_
          refine RunL.nilD' ?_
          refine RunD.one (i := 17) (by kernel_rfl) rfl ?_
          refine ca' rfl rfl (s := rPublicO_ctr (xs := ML s2.tl) (by omega)) (q := ?_)
          rintro _ _ ⟨a9, c9, rfl, hA_⟩
          replace hA_ := hA_.symm; subst hA_
          refine RunL.nilD' ?_
          refine RunD.one (i := 18) (by kernel_rfl) rfl ?_
          refine ca' rfl rfl (s := likeO_ctr (xs := ((ML s2.tl).filter (fun x => !isPriv x))) (by omega)) (q := ?_)
          rintro _ _ ⟨rfl, hA_⟩
          replace hA_ := hA_.symm; subst hA_
          refine RunL.nilD' ?_
          refine dp' 19 hok211 rfl (Pure.not rfl) (dp' 20 hok211 rfl (Pure.pickF rfl rfl) (dp' 21 hok211 rfl (Pure.move rfl) ?_))
          refine RunD.split (d := 193) rfl (fun hg5 => ?_) (fun hg5 => ?_)
          · try simp only [Z] at hg5
            exfalso
            first | exact hg5 rfl | exact hg5 trivial | (simp at hg5; done)
          try simp only [Z] at hg5
          refine dp' 22 hok211 rfl (Pure.move rfl) (dp' 24 hok211 rfl (Pure.fieldAddr rfl fo84_1) (dp' 25 hok211 rfl (Pure.fieldAddr rfl fo82_1) (dl' 26 hok211 rfl rfl agg25 ?_)))
          refine RunD.one (i := 23) (by kernel_rfl) rfl ?_
          refine ca' rfl rfl (s := WaitsR_ctr (pp := pp) (es := s2.es) (lost := s2.lost) hgm (by omega)) (q := ?_)
          rintro _ _ ⟨a5, c5, rfl, hA_⟩
          replace hA_ := hA_.symm; subst hA_
          refine RunL.nilD' ?_
          refine RunD.one (i := 27) (by kernel_rfl) rfl ?_
          refine ca' rfl rfl (s := sameO_ctr (xs := s2.es) (by omega)) (q := ?_)
          rintro _ _ ⟨rfl, hA_⟩
          replace hA_ := hA_.symm; subst hA_
          refine RunL.nilD' ?_
          refine dp' 28 hok211 rfl (Pure.not rfl) (dp' 29 hok211 rfl (Pure.pickF rfl rfl) (dp' 30 hok211 rfl (Pure.move rfl) ?_))
          refine RunD.split (d := 202) rfl (fun hg6 => ?_) (fun hg6 => ?_)
          · try simp only [Z] at hg6
            exfalso
            first | exact hg6 rfl | exact hg6 trivial | (simp at hg6; done)
          try simp only [Z] at hg6
          refine dp' 31 hok211 rfl (Pure.move rfl) (dp' 33 hok211 rfl (Pure.fieldAddr rfl fo84_1) (dp' 34 hok211 rfl (Pure.fieldAddr rfl fo82_2) (dl' 35 hok211 rfl rfl agg3 ?_)))
          refine RunD.one (i := 32) (by kernel_rfl) rfl ?_
          refine ca' rfl rfl (s := LostR_ctr (pp := pp) (es := s2.es) (lost := s2.lost) hgm) (q := ?_)
          rintro _ _ ⟨rfl, hA_⟩
          replace hA_ := hA_.symm; subst hA_
          refine RunL.nilD' ?_
          refine dp' 36 hok211 rfl (Pure.neq rfl rfl) (dp' 37 hok211 rfl (Pure.pickF rfl rfl) ?_)
          refine RunD.nilB (by kernel_rfl) (fun w sw => backgl1 _ _ (backgm _ _ (sw))) ?_
          refine Run.cond rfl (fun hc7 => ?_) (fun hc7 => ?_)
          · try simp only [Z] at hc7
            exfalso
            first | exact hc7 rfl | exact hc7 trivial | (simp at hc7; done)
          try simp only [Z] at hc7
          refine sk' (ib' (rg' (mv' rfl ?_)))
          first | refine RunL.pure (Pure.addI rfl rfl (by omega)) (Wt.none rfl) rfl rfl ?_ | refine RunL.pure (Pure.add rfl rfl) (Wt.none rfl) rfl rfl ?_
          refine as' rfl (nl' ?_)
          refine Run.mkMk (s2) (by repeat (first | (with_reducible exact Take.nil _) | (apply Take.cons (by first | ((repeat (first | (with_reducible exact F0 _) | apply F1)); done) | (repeat (first | exact F0 _ | apply F1)))))) ?_
          refine kp' [3, 4, 12, 14, 15, 16, 17, 18] ?_
          exact af' F ih (by exact ⟨i + 1, vl2, s2, K2, V2, zs2, la2, pa2, lc2, pc2, by omega, ⟨hW1, hW2, hW3, hW4, hW5, hW6⟩, rfl, rfl, rfl⟩)
        · skip
          refine sr' (mv' rfl (mv' rfl (pp' (Pure.lenSl rfl rfl und44) (pp' (Pure.lss rfl rfl) (nl' ?_)))))
          refine Run.cond rfl (fun w1 => ?_) (fun w1 => ?_)
          · try simp only [Z] at w1
            obtain ⟨y, hy⟩ := get_some (xs := ys) (i := i) (by omega)
            obtain ⟨v, sv⟩ := y
            have hym := List.mem_of_getElem? hy
            have hvm : v ∈ evsL xa xb := by rw [← hyl]; exact List.mem_map.2 ⟨_, hym, rfl⟩
            obtain ⟨be, Te, pree, poste, hpe, hroe⟩ := hys.open1 (show 0 < ys.length by omega)
            refine sr' (mv' rfl (mv' rfl (mv' rfl ?_)))
            refine pp' (Pure.indexAddr (opvSl rfl hpe) rfl und44 sz49 (by omega) (by omega)) ?_
            refine lB' (Pool K1) Lends.Pool fun gp1 hlegp1 hK backgp1 => ?_
            have hgsa_gp1 := hgsa.mono hlegp1
            have hgxa_gp1 := hgxa.mono hlegp1
            have hgsb_gp1 := hgsb.mono hlegp1
            have hgxb_gp1 := hgxb.mono hlegp1
            have hl_gp1 := hl.mono hlegp1
            have hrw_gp1 := hrw.mono hlegp1
            have hys_gp1 := hys.mono hlegp1
            have hrox_gp1 := hrox.mono hlegp1
            have hroe_gp1 := hroe.mono hlegp1
            have hyk := (hYK.hp (G' := gk K1) hF2).hp (G' := gp1) hK
            refine RunL.loadNR (vs := (cEvn ((v.evn sv)))) rfl hroe_gp1 agg49 sz49 (elemN_len (pre := pree) (post := poste) (f := cES) (sz := 6) (j := 0) (n := 6) (fun _ _ => rfl) hy (by decide)) ((elemN_at (pre := pree) (post := poste) (f := cES) (sz := 6) (j := 0) (n := 6) (fun _ _ => rfl) hy (by decide)).trans rfl) (Wt.none rfl) rfl ?_
            refine ca' rfl rfl (s := AddV_ctr (e := v.evn sv) (ps := v.ps) (hyk _ hym) (hwf v hvm) (fun r => by have := hF6 r; omega)) (q := ?_)
            rintro _ _ ⟨rfl, hA_⟩
            replace hA_ := hA_.symm; subst hA_
            rw [ev_evn]
            refine nl' ?_
            refine Run.backB backgp1 ?_
            refine sq' ?_
            refine Run.cut (fun e_ A => ∃ (b25 : Nat) (K2 : Hp) (V2 : VV) (zs2 : ZV), (Hp.le K K2 ∧ HasZ (gk K2) V2 zs2 ∧ zs2.length ≤ i + 1 ∧ vget (zs2.map (fun z : DD × ByteArray × EL => z.2)) = vget (vaddL vl v)) ∧ e_ = [(3, .slice al l.length cl), (4, .slice aw bs.length cw), (12, .pointer (some ⟨pm, 0, none⟩)), (14, .pointer (some ⟨pv, 0, none⟩)), (15, .pointer (some ⟨b15, 0, none⟩)), (16, .pointer (some ⟨b16, 0, none⟩)), (17, .slice ay ys.length cy), (18, .int .i64 (i : Nat)), (25, .pointer (some ⟨b25, 0, none⟩))] ∧ A = row b25 65 (cVV V2) :: row b15 84 (cSS (sS la1 lc1 pa1 pc1 most s1)) :: row b16 65 (cVV V) :: Sl 117 6 la1 (ML (s1.tl)).length lc1 ((ML (s1.tl)).flatMap cM) :: Sl 23 11 pa1 (s1.es).length pc1 ((s1.es).flatMap cEdu) :: Pool K2 :: Vw pv (vaddL vl v) :: Mk pm most s1 :: F) (fun e A hM => ?_) (fun hk => ?_)
            · obtain ⟨b25, K2, V2, zs2, ⟨hg1, hg2, hg3, hg4⟩, rfl, hA_⟩ := hM
              replace hA_ := hA_.symm; subst hA_
              refine sr' (lA' (cVV V2) rfl agg65 sz65 ?_)
              refine sW' (cVV V2) rfl rfl sz65 ?_
              refine nl' (sr' (mv' rfl (mv' rfl ?_)))
              refine pp' (Pure.indexAddr (opvSl rfl hpx) rfl und25 sz23 (by omega) (by omega)) ?_
              refine pp' (Pure.fieldAddr rfl fo23_9) ?_
              refine RunL.load1R rfl hrox ((elem_at (pre := prex) (post := postx) (f := cEdu) (sz := 11) (j := 9) (fun _ _ => rfl) hx (by decide)).trans rfl) agg3 (Wt.none rfl) rfl ?_
              first | refine RunL.pure (Pure.remI rfl rfl (by omega) (by omega)) (Wt.none rfl) rfl rfl ?_ | refine RunL.pure (Pure.rem rfl rfl (by omega)) (Wt.none rfl) rfl rfl ?_
              refine pp' (Pure.neq rfl rfl) (nl' ?_)
              refine Run.cond rfl (fun w2 => ?_) (fun w2 => ?_)
              · try simp only [Z] at w2
                refine sq' ?_
                refine Run.cut (fun e_ A => ∃ (b27 : Nat) (la2 pa2 ao : Option Addr) (lc2 pc2 co : Nat), e_ = [(3, .slice al l.length cl), (4, .slice aw bs.length cw), (12, .pointer (some ⟨pm, 0, none⟩)), (14, .pointer (some ⟨pv, 0, none⟩)), (15, .pointer (some ⟨b15, 0, none⟩)), (16, .pointer (some ⟨b16, 0, none⟩)), (17, .slice ay ys.length cy), (18, .int .i64 (i : Nat)), (27, .pointer (some ⟨b27, 0, none⟩)), (28, .slice ao (mArr most (vget (vaddL vl v)) s1 v.room v.id).2.length co)] ∧ A = row b27 84 (cSS (sS la2 lc2 pa2 pc2 most (mArr most (vget (vaddL vl v)) s1 v.room v.id).1)) :: Sl 33 4 ao ((mArr most (vget (vaddL vl v)) s1 v.room v.id).2).length co (((mArr most (vget (vaddL vl v)) s1 v.room v.id).2).flatMap cK) :: row b15 84 (cSS (sS la1 lc1 pa1 pc1 most s1)) :: row b16 65 (cVV V2) :: Sl 117 6 la2 (ML ((mArr most (vget (vaddL vl v)) s1 v.room v.id).1.tl)).length lc2 ((ML ((mArr most (vget (vaddL vl v)) s1 v.room v.id).1.tl)).flatMap cM) :: Sl 23 11 pa2 ((mArr most (vget (vaddL vl v)) s1 v.room v.id).1.es).length pc2 (((mArr most (vget (vaddL vl v)) s1 v.room v.id).1.es).flatMap cEdu) :: Pool K2 :: Vw pv (vaddL vl v) :: Mk pm most s1 :: F) (fun e A hM => ?_) (fun hk => ?_)
                · obtain ⟨b27, la2, pa2, ao, lc2, pc2, co, rfl, hA_⟩ := hM
                  replace hA_ := hA_.symm; subst hA_
                  refine sr' (lA' (cSS ((sS la2 lc2 pa2 pc2 most (mArr most (vget (vaddL vl v)) s1 v.room v.id).1))) rfl agg84 sz84 ?_)
                  refine sW' (cSS ((sS la2 lc2 pa2 pc2 most (mArr most (vget (vaddL vl v)) s1 v.room v.id).1))) rfl rfl sz84 ?_
                  refine nl' (sq' ?_)
                  refine Run.regionD' (by kernel_rfl) (by kernel_rfl) (fun hok398 => ?_)
                  refine dp' 0 hok398 rfl (Pure.move rfl) (dp' 1 hok398 rfl (Pure.move rfl) (dp' 2 hok398 rfl (Pure.move rfl) (dp' 3 hok398 rfl (Pure.move rfl) ?_)))
                  refine dp' 4 hok398 rfl (Pure.indexAddr (opvSl rfl hpe) rfl und44 sz49 (by omega) (by omega)) ?_
                  refine dp' 5 hok398 rfl (Pure.fieldAddr rfl fo49_1) ?_
                  refine RunD.load1R (i := 6) hok398 rfl (by kernel_rfl) rfl hroe ((elem_at (pre := pree) (post := poste) (f := cES) (sz := 6) (j := 1) (fun _ _ => rfl) hy (by decide)).trans rfl) agg9 (Wt.none rfl) rfl ?_
                  refine dp' 7 hok398 rfl (Pure.move rfl) (dp' 8 hok398 rfl (Pure.move rfl) ?_)
                  refine dp' 9 hok398 rfl (Pure.indexAddr (opvSl rfl hpe) rfl und44 sz49 (by omega) (by omega)) ?_
                  refine dp' 10 hok398 rfl (Pure.fieldAddr rfl fo49_0) ?_
                  refine RunD.load1R (i := 11) hok398 rfl (by kernel_rfl) rfl hroe ((elem_at (pre := pree) (post := poste) (f := cES) (sz := 6) (j := 0) (fun _ _ => rfl) hy (by decide)).trans rfl) agg9 (Wt.none rfl) rfl ?_
                  refine dp' 13 hok398 rfl (Pure.move rfl) ?_
                  refine RunD.one (i := 12) (by kernel_rfl) rfl ?_
                  refine ca' rfl rfl (s := Ctr.lend Lends.Vw cb22 (fun G' hle hr => ArriveM_ctr (nn := i + 1) (room := v.room) (event := v.id) hr hok1.ok (by omega))) (q := ?_)
                  rintro _ _ ⟨_, rfl, a9, c9, rfl, hA_⟩
                  replace hA_ := hA_.symm; subst hA_
                  refine RunL.nilD' ?_
                  refine RunD.one (i := 14) (by kernel_rfl) rfl ?_
                  refine ca' rfl rfl (s := keysO_ctr (by have := (hok1.arr (most := most) (vg := vget (vaddL vl v)) (room := v.room) (event := v.id)).2; omega)) (q := ?_)
                  rintro _ _ ⟨rfl, hA_⟩
                  replace hA_ := hA_.symm; subst hA_
                  refine RunL.nilD' ?_
                  refine dp' 15 hok398 rfl (Pure.not rfl) ?_
                  refine RunD.nilR (by kernel_rfl) ?_
                  refine Run.cond rfl (fun hc8 => ?_) (fun hc8 => ?_)
                  · try simp only [Z] at hc8
                    exfalso
                    first | exact hc8 rfl | exact hc8 trivial | (simp at hc8; done)
                  try simp only [Z] at hc8
                  refine sk' ?_
                  refine kp' [3, 4, 12, 14, 15, 16, 17, 18] ?_
                  exact mf' F hk (by exact ⟨(vaddL vl v), (mArr most (vget (vaddL vl v)) s1 v.room v.id).1, K2, V2, zs2, la2, pa2, lc2, pc2, ⟨hok1.arr.1, hg1, hg2, by omega, hg4, fun r => by have := hF6 r; have := vadd_len (vl := vl) (v := v) r; omega⟩, rfl, rfl⟩)
                · skip
                  refine lb' (Pool K2) Lends.Pool fun gp2 hlegp2 hK backgp2 => ?_
                  have hgsa_gp2 := hgsa.mono hlegp2
                  have hgxa_gp2 := hgxa.mono hlegp2
                  have hgsb_gp2 := hgsb.mono hlegp2
                  have hgxb_gp2 := hgxb.mono hlegp2
                  have hl_gp2 := hl.mono hlegp2
                  have hrw_gp2 := hrw.mono hlegp2
                  have hys_gp2 := hys.mono hlegp2
                  have hrox_gp2 := hrox.mono hlegp2
                  have hroe_gp2 := hroe.mono hlegp2
                  have hZ := hg2.hp (G' := gp2) hK
                  refine Run.regionD' (by kernel_rfl) (by kernel_rfl) (fun hok444 => ?_)
                  refine ld' (row b15 84 _) Lends.row ?_; intro gl2 hlegl2 hl2 backgl2
                  have hgsa_gl2 := hgsa_gp2.mono hlegl2
                  have hgxa_gl2 := hgxa_gp2.mono hlegl2
                  have hgsb_gl2 := hgsb_gp2.mono hlegl2
                  have hgxb_gl2 := hgxb_gp2.mono hlegl2
                  have hl_gl2 := hl_gp2.mono hlegl2
                  have hrw_gl2 := hrw_gp2.mono hlegl2
                  have hys_gl2 := hys_gp2.mono hlegl2
                  have hrox_gl2 := hrox_gp2.mono hlegl2
                  have hroe_gl2 := hroe_gp2.mono hlegl2
                  have hZ_gl2 := hZ.mono hlegl2
                  refine ld' (row b16 65 _) Lends.row ?_; intro gl3 hlegl3 hl3 backgl3
                  have hl2 := hl2.mono hlegl3
                  have hgsa_gl3 := hgsa_gl2.mono hlegl3
                  have hgxa_gl3 := hgxa_gl2.mono hlegl3
                  have hgsb_gl3 := hgsb_gl2.mono hlegl3
                  have hgxb_gl3 := hgxb_gl2.mono hlegl3
                  have hl_gl3 := hl_gl2.mono hlegl3
                  have hrw_gl3 := hrw_gl2.mono hlegl3
                  have hys_gl3 := hys_gl2.mono hlegl3
                  have hrox_gl3 := hrox_gl2.mono hlegl3
                  have hroe_gl3 := hroe_gl2.mono hlegl3
                  have hZ_gl3 := hZ_gl2.mono hlegl3
                  refine RunD.loadNR (vs := (cSS ((sS la1 lc1 pa1 pc1 most s1)))) (i := 0) hok444 rfl (by kernel_rfl) rfl (by assumption) agg84 sz84 (by first | exact Nat.le_of_ble_eq_true rfl | (simp; done) | (simp; omega)) rfl (Wt.none rfl) rfl ?_
                  refine RunD.loadNR (vs := (cVV V2)) (i := 1) hok444 rfl (by kernel_rfl) rfl (by assumption) agg65 sz65 (by first | exact Nat.le_of_ble_eq_true rfl | (simp; done) | (simp; omega)) rfl (Wt.none rfl) rfl ?_
                  refine dp' 2 hok444 rfl (Pure.move rfl) (dp' 3 hok444 rfl (Pure.move rfl) ?_)
                  refine dp' 4 hok444 rfl (Pure.indexAddr (opvSl rfl hpe) rfl und44 sz49 (by omega) (by omega)) ?_
                  refine dp' 5 hok444 rfl (Pure.fieldAddr rfl fo49_1) ?_
                  refine RunD.load1R (i := 6) hok444 rfl (by kernel_rfl) rfl hroe_gl3 ((elem_at (pre := pree) (post := poste) (f := cES) (sz := 6) (j := 1) (fun _ _ => rfl) hy (by decide)).trans rfl) agg9 (Wt.none rfl) rfl ?_
                  refine dp' 7 hok444 rfl (Pure.move rfl) (dp' 8 hok444 rfl (Pure.move rfl) ?_)
                  refine dp' 9 hok444 rfl (Pure.indexAddr (opvSl rfl hpe) rfl und44 sz49 (by omega) (by omega)) ?_
                  refine dp' 10 hok444 rfl (Pure.fieldAddr rfl fo49_0) ?_
                  refine RunD.load1R (i := 11) hok444 rfl (by kernel_rfl) rfl hroe_gl3 ((elem_at (pre := pree) (post := poste) (f := cES) (sz := 6) (j := 0) (fun _ _ => rfl) hy (by decide)).trans rfl) agg9 (Wt.none rfl) rfl ?_
                  refine RunD.two (i := 12) (j := 16) (by kernel_rfl) rfl rfl ?_ ?_
                  · skip
                    refine ca' rfl rfl (s := rArriveM_ctr (s := s1) (nn := i + 1) (room := v.room) (event := v.id) hZ_gl3 (by omega) (fun r => by rw [hg4]; have := vadd_len (vl := vl) (v := v) r; have := hF6 r; omega) hok1.ok (by omega)) (q := ?_)
                    rintro _ _ ⟨la2, lc2, pa2, pc2, ao, co, rfl, hA_⟩
                    replace hA_ := hA_.symm; subst hA_
                    rw [hg4]
                    refine RunL.nilD' ?_
                    refine dp' 13 hok444 rfl (Pure.move rfl) (dp' 14 hok444 rfl (Pure.extract rfl rfl) (dp' 15 hok444 rfl (Pure.extract rfl rfl) ?_))
                    refine RunD.one (i := 16) (by kernel_rfl) rfl ?_
                    · skip
                      refine RunL.alloc zz84 (Wt.none rfl) rfl ?_; intro b27
                      refine RunL.nilD' ?_
                      refine RunD.one (i := 17) (by kernel_rfl) rfl ?_
                      · skip
                        refine sW' (cSS ((sS la2 lc2 pa2 pc2 most (mArr most (vget (vaddL vl v)) s1 v.room v.id).1))) rfl rfl sz84 ?_
                        refine RunL.nilD' ?_
                        refine dp' 18 hok444 rfl (Pure.assign rfl) ?_
                        refine RunD.nilB (by kernel_rfl) (fun w sw => backgl2 _ _ (backgl3 _ _ (sw))) ?_
                        refine Run.backB backgp2 ?_
                        refine kp' [3, 4, 12, 14, 15, 16, 17, 18, 27, 28] ?_
                        exact mf' F hk (by exact ⟨b27, la2, pa2, ao, lc2, pc2, co, rfl, rfl⟩)
                  · skip
                    refine RunL.alloc zz84 (Wt.none rfl) rfl ?_; intro b27
                    refine RunL.nilD' ?_
                    refine RunD.one (i := 12) (by kernel_rfl) rfl ?_
                    · skip
                      refine ca' rfl rfl (s := rArriveM_ctr (s := s1) (nn := i + 1) (room := v.room) (event := v.id) hZ_gl3 (by omega) (fun r => by rw [hg4]; have := vadd_len (vl := vl) (v := v) r; have := hF6 r; omega) hok1.ok (by omega)) (q := ?_)
                      rintro _ _ ⟨la2, lc2, pa2, pc2, ao, co, rfl, hA_⟩
                      replace hA_ := hA_.symm; subst hA_
                      rw [hg4]
                      refine RunL.nilD' ?_
                      refine dp' 13 hok444 rfl (Pure.move rfl) (dp' 14 hok444 rfl (Pure.extract rfl rfl) (dp' 15 hok444 rfl (Pure.extract rfl rfl) ?_))
                      refine RunD.one (i := 17) (by kernel_rfl) rfl ?_
                      · skip
                        refine sW' (cSS ((sS la2 lc2 pa2 pc2 most (mArr most (vget (vaddL vl v)) s1 v.room v.id).1))) rfl rfl sz84 ?_
                        refine RunL.nilD' ?_
                        refine dp' 18 hok444 rfl (Pure.assign rfl) ?_
                        refine RunD.nilB (by kernel_rfl) (fun w sw => backgl2 _ _ (backgl3 _ _ (sw))) ?_
                        refine Run.backB backgp2 ?_
                        refine kp' [3, 4, 12, 14, 15, 16, 17, 18, 27, 28] ?_
                        exact mf' F hk (by exact ⟨b27, la2, pa2, ao, lc2, pc2, co, rfl, rfl⟩)
              · try simp only [Z] at w2
                refine sk' ?_
                refine kp' [3, 4, 12, 14, 15, 16, 17, 18] ?_
                exact mf' F hk (by exact ⟨(vaddL vl v), s1, K2, V2, zs2, la1, pa1, lc1, pc1, ⟨hok1, hg1, hg2, by omega, hg4, fun r => by have := hF6 r; have := vadd_len (vl := vl) (v := v) r; omega⟩, rfl, rfl⟩)
            · skip
              refine Run.regionD' (by kernel_rfl) (by kernel_rfl) (fun hok530 => ?_)
              refine ld' (row b16 65 _) Lends.row ?_; intro gl4 hlegl4 hl4 backgl4
              have hgsa_gl4 := hgsa.mono hlegl4
              have hgxa_gl4 := hgxa.mono hlegl4
              have hgsb_gl4 := hgsb.mono hlegl4
              have hgxb_gl4 := hgxb.mono hlegl4
              have hl_gl4 := hl.mono hlegl4
              have hrw_gl4 := hrw.mono hlegl4
              have hys_gl4 := hys.mono hlegl4
              have hrox_gl4 := hrox.mono hlegl4
              have hroe_gl4 := hroe.mono hlegl4
              refine RunD.loadNR (vs := (cVV V)) (i := 0) hok530 rfl (by kernel_rfl) rfl (by assumption) agg65 sz65 (by first | exact Nat.le_of_ble_eq_true rfl | (simp; done) | (simp; omega)) rfl (Wt.none rfl) rfl ?_
              refine dp' 1 hok530 rfl (Pure.move rfl) (dp' 2 hok530 rfl (Pure.move rfl) ?_)
              refine dp' 3 hok530 rfl (Pure.indexAddr (opvSl rfl hpe) rfl und44 sz49 (by omega) (by omega)) ?_
              refine RunD.loadNR (vs := (cEvn ((v.evn sv)))) (i := 4) hok530 rfl (by kernel_rfl) rfl hroe_gl4 agg49 sz49 (elemN_len (pre := pree) (post := poste) (f := cES) (sz := 6) (j := 0) (n := 6) (fun _ _ => rfl) hy (by decide)) ((elemN_at (pre := pree) (post := poste) (f := cES) (sz := 6) (j := 0) (n := 6) (fun _ _ => rfl) hy (by decide)).trans rfl) (Wt.none rfl) rfl ?_
              refine RunD.two (i := 5) (j := 9) (by kernel_rfl) rfl rfl ?_ ?_
              · skip
                refine ca' rfl rfl (s := rAddV_ctr (e := v.evn sv) (ps := v.ps) hF3 (by omega) (hzr _) ((hYK.hp (G' := gk K1) hF2) _ hym) (hwf v hvm)) (q := ?_)
                rintro _ _ ⟨K2, V2, zs2, hg1, hg2, hg3, hg4, rfl, hA_⟩
                replace hA_ := hA_.symm; subst hA_
                rw [ev_evn] at hg3
                refine RunL.nilD' ?_
                refine dp' 6 hok530 rfl (Pure.move rfl) (dp' 7 hok530 rfl (Pure.extract rfl rfl) (dp' 8 hok530 rfl (Pure.extract rfl rfl) ?_))
                refine RunD.one (i := 9) (by kernel_rfl) rfl ?_
                · skip
                  refine RunL.alloc zz65 (Wt.none rfl) rfl ?_; intro b25
                  refine RunL.nilD' ?_
                  refine RunD.one (i := 10) (by kernel_rfl) rfl ?_
                  · skip
                    refine sW' (cVV V2) rfl rfl sz65 ?_
                    refine RunL.nilD' ?_
                    refine dp' 11 hok530 rfl (Pure.assign rfl) ?_
                    refine RunD.nilB (by kernel_rfl) (fun w sw => backgl4 _ _ (sw)) ?_
                    refine kp' [3, 4, 12, 14, 15, 16, 17, 18, 25] ?_
                    exact mf' F hk (by exact ⟨b25, K2, V2, zs2, ⟨hF2.trans hg1, hg2, by omega, funext fun r => by rw [hg3 r]; exact vadd_congr (fun r => congrFun hF5 r) v r⟩, rfl, rfl⟩)
              · skip
                refine RunL.alloc zz65 (Wt.none rfl) rfl ?_; intro b25
                refine RunL.nilD' ?_
                refine RunD.one (i := 5) (by kernel_rfl) rfl ?_
                · skip
                  refine ca' rfl rfl (s := rAddV_ctr (e := v.evn sv) (ps := v.ps) hF3 (by omega) (hzr _) ((hYK.hp (G' := gk K1) hF2) _ hym) (hwf v hvm)) (q := ?_)
                  rintro _ _ ⟨K2, V2, zs2, hg1, hg2, hg3, hg4, rfl, hA_⟩
                  replace hA_ := hA_.symm; subst hA_
                  rw [ev_evn] at hg3
                  refine RunL.nilD' ?_
                  refine dp' 6 hok530 rfl (Pure.move rfl) (dp' 7 hok530 rfl (Pure.extract rfl rfl) (dp' 8 hok530 rfl (Pure.extract rfl rfl) ?_))
                  refine RunD.one (i := 10) (by kernel_rfl) rfl ?_
                  · skip
                    refine sW' (cVV V2) rfl rfl sz65 ?_
                    refine RunL.nilD' ?_
                    refine dp' 11 hok530 rfl (Pure.assign rfl) ?_
                    refine RunD.nilB (by kernel_rfl) (fun w sw => backgl4 _ _ (sw)) ?_
                    refine kp' [3, 4, 12, 14, 15, 16, 17, 18, 25] ?_
                    exact mf' F hk (by exact ⟨b25, K2, V2, zs2, ⟨hF2.trans hg1, hg2, by omega, funext fun r => by rw [hg3 r]; exact vadd_congr (fun r => congrFun hF5 r) v r⟩, rfl, rfl⟩)
          · try simp only [Z] at w1
            refine sk' ?_
            refine kp' [3, 4, 12, 14, 15, 16, 17, 18] ?_
            exact mf' F hk (by exact ⟨vl, s1, K1, V, zs, la1, pa1, lc1, pc1, ⟨hok1, hF2, hF3, by omega, hF5, fun r => Nat.le_succ_of_le (hF6 r)⟩, rfl, rfl⟩)
      · skip
        refine sr' (mv' rfl (mv' rfl (pp' (Pure.lenSl rfl rfl und80) (pp' (Pure.lss rfl rfl) (mv' rfl ?_)))))
        refine RunL.split (d := 73) rfl (fun r1 => ?_) (fun r1 => ?_)
        · try simp only [Z] at r1
          obtain ⟨bo, hbo⟩ := get_some (xs := bs) (i := (min ((i : Nat) : Int) (((bs.length : Nat) : Int) - 1)).toNat) (by omega)
          obtain ⟨bb, Tb_, preb, postb, hpb, hrob⟩ := hrw.open1 (show 0 < bs.length by omega)
          refine py' (Pure.move rfl) (py' (Pure.move rfl) (py' (Pure.move rfl) (py' (Pure.lenSl rfl rfl und80) ?_)))
          first | refine RunL.pure (Pure.subI rfl rfl (by omega)) (Wt.yes rfl rfl rfl) rfl rfl ?_ | refine RunL.pure (Pure.sub rfl rfl) (Wt.yes rfl rfl rfl) rfl rfl ?_
          refine py' (Pure.min2 rfl rfl) ?_
          refine py' (Pure.indexAddr (opvSl rfl hpb) rfl und80 sz4 (by omega) (by omega)) ?_
          refine RunL.load1R rfl hrob (elem1_at hbo) agg4 (Wt.yes rfl rfl rfl) rfl ?_
          refine pp' (Pure.pickT rfl rfl) (nl' ?_)
          refine Run.cond rfl (fun r2 => ?_) (fun r2 => ?_)
          · try simp only [Z] at r2
            refine rg' (mv' rfl (mv' rfl ?_))
            refine pp' (Pure.indexAddr (opvSl rfl hpx) rfl und25 sz23 (by omega) (by omega)) ?_
            refine RunL.loadNR (vs := (cEdu x)) rfl hrox agg23 sz23 (elemN_len (pre := prex) (post := postx) (f := cEdu) (sz := 11) (j := 0) (n := 11) (fun _ _ => rfl) hx (by decide)) ((elemN_at (pre := prex) (post := postx) (f := cEdu) (sz := 11) (j := 0) (n := 11) (fun _ _ => rfl) hx (by decide)).trans rfl) (Wt.none rfl) rfl ?_
            refine ca' rfl rfl (s := Few3_ctr (e := x)) (q := ?_)
            rintro _ _ ⟨rfl, hA_⟩
            replace hA_ := hA_.symm; subst hA_
            refine sW' (cEdu ((fewE x))) rfl rfl sz23 ?_
            refine nl' ?_
            refine kp' [3, 4, 12, 14, 15, 16, 17, 18, 19] ?_
            exact mf' F hk (by exact ⟨fewE x, few_small x, rfl, rfl⟩)
          · try simp only [Z] at r2
            refine sk' ?_
            refine kp' [3, 4, 12, 14, 15, 16, 17, 18, 19] ?_
            exact mf' F hk (by exact ⟨waitsE x, waits_small x, rfl, rfl⟩)
        · try simp only [Z] at r1
          refine no' (no' (no' (no' (no' (no' (no' (no' (pp' (Pure.pickF rfl rfl) (nl' (cF' (sk' ?_)))))))))))
          refine kp' [3, 4, 12, 14, 15, 16, 17, 18, 19] ?_
          exact mf' F hk (by exact ⟨waitsE x, waits_small x, rfl, rfl⟩)
    · try simp only [Z] at c2
      refine ex' rfl (sr' ?_)
      refine ca' rfl rfl (s := lives_ctr) (q := ?_)
      rintro _ _ ⟨rfl, hA_⟩
      replace hA_ := hA_.symm; subst hA_
      refine as' rfl (nl' ?_)
      exact rt' Tryz.func7 (res1 rfl rfl) (by exact ⟨rfl, rfl⟩)
  · try simp only [Z] at c1
    refine no' (no' (pp' (Pure.pickF rfl rfl) (nl' (cF' (ex' rfl (sr' ?_))))))
    refine ca' rfl rfl (s := lives_ctr) (q := ?_)
    rintro _ _ ⟨rfl, hA_⟩
    replace hA_ := hA_.symm; subst hA_
    refine as' rfl (nl' ?_)
    exact rt' Tryz.func7 (res1 rfl rfl) (by exact ⟨rfl, rfl⟩)

end Go.Proofs.YtaaondbmkibkkaaGreat
