/- Marks: the example. -/
import Derived.Test.YtaaondbmkibkkaaGreatQ5
set_option linter.unusedVariables false
set_option linter.unusedSimpArgs false
set_option linter.unusedSectionVars false
namespace Go.Proofs.YtaaondbmkibkkaaGreat
open Go Csl
theorem cb16 : Callable Tryz.prog 16 := ⟨_, Tryz.func16, by kernel_rfl, by kernel_rfl⟩
theorem cb22 : Callable Tryz.prog 22 := ⟨_, Tryz.func22, by kernel_rfl, by kernel_rfl⟩
theorem und26 : Tryz.prog.underlying 26 = some (Go.TypeDesc.pointer 60) := Tryz.underlying26
theorem und30 : Tryz.prog.underlying 30 = some (Go.TypeDesc.pointer 102) := Tryz.underlying30

namespace Csl
theorem choose_list {α β : Type} {P : α → β → Prop} : ∀ {l : List α}, (∀ x ∈ l, ∃ y, P x y) → ∃ zs : List (α × β), zs.map (·.1) = l ∧ ∀ z ∈ zs, P z.1 z.2
  | [], _ => ⟨[], rfl, fun z h => by cases h⟩
  | x :: l, h => by
    obtain ⟨y, hy⟩ := h x List.mem_cons_self
    obtain ⟨zs, h1, h2⟩ := choose_list fun u hu => h u (List.mem_cons_of_mem _ hu)
    refine ⟨(x, y) :: zs, by rw [List.map_cons, h1], fun z hz => ?_⟩
    rcases List.mem_cons.1 hz with rfl | hz
    · exact hy
    · exact h2 z hz
/-- What came in: what events are made of. -/
def PsIn (G : Gp) (e : Evn) : Prop := ∃ ps, HasPs G e ps
theorem ps_in {G : Gp} {e : Evn} {P : List ByteArray → Prop} {Q : Prop} (h : ∃ xs : List ByteArray, xs.length = e.par.n ∧ P xs ∧ SlR G 9 1 e.par.a xs.length (xs.map Value.string) ∧ Q) : PsIn G e := by
  obtain ⟨xs, h1, _, h2, _⟩ := h; exact ⟨xs, h1.symm, h2⟩
def GsIn (G : Gp) (gs : List GG) : Prop := ∃ xs : List GX, xs.map (·.1) = gs ∧ GXok G xs
theorem gs_in {G : Gp} {gs : List GG} {Q : GG → Prop} (h : ∀ x ∈ gs, okGG x ∧ ∃ zs : List Int, zs.length = x.par.n ∧ (∀ z ∈ zs, (Lit.int .i64 z).wf = true) ∧ SlR G 3 1 x.par.a zs.length (zs.map (Value.int .i64)) ∧ Q x) : GsIn G gs := by
  obtain ⟨zs, h1, h2⟩ := choose_list (P := fun x zs => okGG x ∧ HasI G x.par zs) (l := gs) fun x hx => by
    obtain ⟨h0, zs, a1, a2, a3, _⟩ := h x hx
    exact ⟨zs, h0, a1.symm, a3, a2⟩
  exact ⟨zs, h1, h2⟩
theorem gx_flat (xs : List GX) : (xs.map (·.1)).flatMap cGG = xs.flatMap cGX := by rw [List.flatMap_map]; rfl
end Csl

namespace Csl
theorem thread_named (z : Int) : threadB (bl (threadOf z)) = true := by
  unfold threadOf
  split
  · decide +kernel
  · split
    · decide +kernel
    · unfold threadB; simp [event_named]
theorem good_small (e : Edu) : (goodE e).room.size ≤ 5 ∧ (goodE e).user.size ≤ 5 ∧ (goodE e).event.size ≤ 5 ∧ (goodE e).thread.size ≤ 5 := by
  have h0 : ByteArray.empty.size = 0 := rfl
  have hr := roomOf_size e.span
  have hu := userOf_size e.state
  have he := eventOf_size (evNum e)
  have ht := threadOf_size e.thread.size
  unfold goodE good0
  split
  · simp only; omega
  · split
    · simp only; omega
    · simp only; omega
theorem good_nums (e : Edu) : (1 ≤ (goodE e).kind ∧ (goodE e).kind ≤ 3) ∧ (0 ≤ (goodE e).span ∧ (goodE e).span ≤ 60) ∧ (0 ≤ (goodE e).state ∧ (goodE e).state ≤ 2) ∧ (0 ≤ (goodE e).tick ∧ (goodE e).tick ≤ 99) ∧ (0 ≤ (goodE e).stamp ∧ (goodE e).stamp ≤ 8) := by
  have h0 := around_lt (z := e.kind) (m := 3) (by decide)
  have h1 := around_lt (z := e.tick) (m := 100) (by decide)
  have h2 := around_lt (z := e.stamp) (m := 9) (by decide)
  have h3 := around_lt (z := e.span) (m := 60) (by decide)
  have h4 := around_lt (z := e.span) (m := 3) (by decide)
  unfold goodE good0
  split
  · simp only; omega
  · split
    · simp only; split <;> omega
    · simp only; omega
theorem good_ok (e : Edu) : okEdu (goodE e) := by
  obtain ⟨s1, s2, s3, s4⟩ := good_small e
  obtain ⟨n1, n2, n3, n4, n5⟩ := good_nums e
  exact ⟨i64_wf (by omega), by omega, by omega, by omega, by omega, i64_wf (by omega), i64_wf (by omega), i64_wf (by omega), i64_wf (by omega)⟩
theorem goodE_small (e : Edu) : eduSmall (goodE e) := by obtain ⟨s1, s2, s3, s4⟩ := good_small e; exact ⟨by omega, by omega, by omega, by omega⟩
theorem pub_ok (e : Edu) : okEdu (pubE e) := good_ok e
theorem pub_small (e : Edu) : eduSmall (pubE e) := goodE_small e
theorem few_ok {e : Edu} (h : okEdu e) : okEdu (fewE e) := by
  obtain ⟨h1, _, _, _, _, h2⟩ := h
  have q := fun s => cut_size s 40
  have := q e.room; have := q e.user; have := q e.event; have := q e.thread
  exact ⟨h1, by show (cut _ _).size ≤ _; omega, by show (cut _ _).size ≤ _; omega, by show (cut _ _).size ≤ _; omega, by show (cut _ _).size ≤ _; omega, h2⟩
theorem few_small (e : Edu) : eduSmall (fewE e) := by
  have q := fun s => cut_size s 40
  have := q e.room; have := q e.user; have := q e.event; have := q e.thread
  exact ⟨by show (cut _ _).size ≤ _; omega, by show (cut _ _).size ≤ _; omega, by show (cut _ _).size ≤ _; omega, by show (cut _ _).size ≤ _; omega⟩

theorem waits_small (e : Edu) : eduSmall (waitsE e) := by
  obtain ⟨h1, h2, _, h4⟩ := goodE_small { e with kind := 0 }
  exact ⟨h1, h2, by show (eventOf _).size ≤ _; rw [eventOf_size]; decide, h4⟩
theorem evs_len (xa xb : List GX) : (evsL xa xb).length ≤ 18 := by unfold evsL; rw [List.length_append, madeL_len, madeL_len]; omega
theorem evs_wf {xa xb : List GX} : ∀ v ∈ evsL xa xb, evWf v := fun v hv => by
  rcases List.mem_append.1 hv with hv | hv
  · exact madeL_wf (by decide) xa v hv
  · exact madeL_wf (by decide) xb v hv
theorem vadd_len {vl : VL} {v : Evt} (r : ByteArray) : (vget (vaddL vl v) r).length ≤ (vget vl r).length + 1 := by
  rw [vget_add]; split
  · rename_i h; subst h; unfold addL; split
    · simp
    · omega
  · omega
theorem fits_has {l : EL} {id thread : ByteArray} (h : fitsI l id thread = 0) : l.has id = true := by
  cases hh : l.has id with
  | true => rfl
  | false => rw [fits_none (get_nil.2 hh)] at h; cases h
theorem mPut_cases {most : Int} {vg : VG} {s : MS} {e : Edu} : ((mPut most vg s e).2.1 = false ∧ (mPut most vg s e).1.tl = s.tl) ∨ ((mPut most vg s e).2.1 = true ∧ (mPut most vg s e).2.2 = 0 ∧ (mPut most vg s e).1.tl = tput s.tl (kOf e) (posAt (vg e.room) e.event) ∧ adopts s.tl (kOf e) (posAt (vg e.room) e.event) = true ∧ (vg e.room).has e.event = true) := by
  by_cases hk : e.kind = 1 ∧ eduLocal e = true
  · by_cases q : fitsI (vg e.room) e.event e.thread = 4
    · rw [mPut_park hk q]; exact .inl ⟨rfl, rfl⟩
    · by_cases q0 : fitsI (vg e.room) e.event e.thread = 0
      · rw [mPut_in hk q0]
        cases had : adopts s.tl (kOf e) (posAt (vg e.room) e.event) with
        | true => exact .inr ⟨rfl, rfl, rfl, rfl, fits_has q0⟩
        | false => exact .inl ⟨rfl, by show tput _ _ _ = _; unfold tput; rw [had]; rfl⟩
      · rw [mPut_bad hk q q0]; exact .inl ⟨rfl, rfl⟩
  · rw [mPut_arg hk]; exact .inl ⟨rfl, rfl⟩
theorem adopts_bef {l : List (K × Pos)} {k : K} {q : Pos} (h : adopts l k q = true) (hs : (mget k l).isSome = true) : beforePos ((mget k l).getD noPos) q = true := by
  rw [adopts_eq, hs] at h; simp at h; exact beforePos_cmp.2 h
theorem good_zero (e : Edu) : goodE { e with kind := 0 } = { good0 { e with kind := 0 } with room := roomOf e.span, event := eventOf (evNum { e with kind := 0 }), thread := threadOf e.thread.size, priv := e.priv } := if_pos (by show 1 + around 0 3 = 1; decide)
theorem wr_local (e : Edu) {room id : ByteArray} (hr : namedB 33 (bl room) = true) (hi : eventB (bl id) = true) : ({ waitsE e with room := room, event := id } : Edu).kind = 1 ∧ eduLocal { waitsE e with room := room, event := id } = true := by
  have h1 := around_lt (z := e.tick) (m := 100) (by decide)
  have h2 := around_lt (z := e.stamp) (m := 9) (by decide)
  have hw : ({ waitsE e with room := room, event := id } : Edu) = ⟨1, room, userOf e.state, id, threadOf e.thread.size, e.priv, false, 0, 0, around e.tick 100, around e.stamp 9⟩ := by unfold waitsE; rw [good_zero e]; rfl
  rw [hw]
  refine ⟨rfl, ?_⟩
  have hk : eduKind ⟨1, room, userOf e.state, id, threadOf e.thread.size, e.priv, false, 0, 0, around e.tick 100, around e.stamp 9⟩ = true := by
    unfold eduKind; rw [if_pos rfl]
    show (namedB 33 (bl room) && (eventB (bl id) && (threadB (bl (threadOf e.thread.size)) && _))) = true
    rw [hr, hi, thread_named]; rfl
  unfold eduLocal; rw [hk]
  show (namedB 64 (bl (userOf e.state)) && (inR (around e.tick 100) && (inR (around e.stamp 9) && true))) = true
  rw [user_named, show inR (around e.tick 100) = true by unfold inR; simp; omega, show inR (around e.stamp 9) = true by unfold inR; simp; omega]; rfl
theorem waits_local (e : Edu) : (waitsE e).kind = 1 ∧ eduLocal (waitsE e) = true := wr_local e (room := (waitsE e).room) (id := (waitsE e).event) (by
  unfold waitsE; rw [good_zero e]; exact room_named _) (event_named _)
theorem vadd_made {vl : VL} {room : ByteArray} {l : EL} (hg : Good room l) {i : Nat} {u : Evt} (hu : l[i]? = some u) (h : ∀ r, vget vl r = if r = room then l.take i else []) : ∀ r, vget (vaddL vl u) r = if r = room then l.take (i + 1) else [] := fun r => by
  have hr := (hg.mem (List.mem_of_getElem? hu)).2
  rw [vget_add, hr]
  split
  · rw [h room, if_pos rfl, addL_ok (hg i u hu), List.take_add_one, hu]; rfl
  · rename_i hn; rw [h r, if_neg hn]
theorem good_new {room : ByteArray} {l : EL} (hg : Good room l) {i : Nat} {v : Evt} (hv : l[i]? = some v) : EL.has (l.take i) v.id = false := (addRc_zero.1 (hg i v hv)).2.2.1
theorem made_named {room : ByteArray} {xs : List GX} {v : Evt} (hv : v ∈ madeL room xs) : eventB (bl v.id) = true := by
  obtain ⟨j, hj⟩ := List.getElem?_of_mem hv
  rw [show v.id = eventOf (j : Nat) from made_mids _ _ j v hj]; exact event_named _
theorem evSize {v : Evt} (h : v.id.size = 3) : v.id.size ≤ 1000 := by omega
theorem made_size {room : ByteArray} {xs : List GX} {v : Evt} (hv : v ∈ madeL room xs) : v.id.size = 3 := by
  obtain ⟨j, hj⟩ := List.getElem?_of_mem hv
  rw [show v.id = eventOf (j : Nat) from made_mids _ _ j v hj]; exact eventOf_size _
theorem ok_one {wr : Edu} (h : eduSmall wr) : (MS.mk [] [wr] 0).ok 1 := ⟨List.nodup_nil, Nat.zero_le _, by show List.length [wr] ≤ 1; exact Nat.le_refl 1, (fun e he => by obtain rfl := List.mem_singleton.1 he; exact h), by show (0 : Int) ≤ 0; omega, by show (0 : Int) ≤ 1; omega⟩
theorem s1_len {wr : Edu} : (MS.mk [] [wr] 0).es.length ≤ 100000 := by show List.length [wr] ≤ _; simp
theorem s1_len6 {wr : Edu} : (MS.mk [] [wr] 0).es.length ≤ 1000000 := by show List.length [wr] ≤ _; simp
theorem s_lost {a : List (K × Pos)} {b : List Edu} : -1000000 ≤ (MS.mk a b 0).lost ∧ (MS.mk a b 0).lost ≤ 1000000 := ⟨by show (-1000000 : Int) ≤ 0; omega, by show (0 : Int) ≤ 1000000; omega⟩
theorem wait_first {vg : VG} {wr : Edu} (hk : wr.kind = 1 ∧ eduLocal wr = true) (h : fitsI (vg wr.room) wr.event wr.thread = 4) : mPut 4 vg ⟨[], [], 0⟩ wr = (⟨[], [wr], 0⟩, false, 0) := by
  rw [mPut_park hk h]; simp [pputL, pputN]
theorem wait_more {vg : VG} {wr : Edu} (hk : wr.kind = 1 ∧ eduLocal wr = true) (h : fitsI (vg wr.room) wr.event wr.thread = 4) : mPut 4 vg ⟨[], [wr], 0⟩ wr = (⟨[], [wr], 0⟩, false, 0) := by
  rw [mPut_park hk h]; simp [pputL, pputN]
theorem fits_cases {l : EL} {id thread : ByteArray} (h : l.has id = true) : fitsI l id thread = 0 ∨ fitsI l id thread = 7 := by
  unfold fitsI
  cases hg : l.get id with
  | none => rw [get_nil.1 hg] at h; cases h
  | some u => dsimp only; split
              · exact .inl rfl
              · exact .inr rfl
theorem wait_arr {vg : VG} {wr : Edu} (h : (vg wr.room).has wr.event = true) : mArr 4 vg ⟨[], [wr], 0⟩ wr.room wr.event = ((mPut 4 vg ⟨[], [], 0⟩ wr).1, if (mPut 4 vg ⟨[], [], 0⟩ wr).2.1 = true then [kOf wr] else []) := by
  rw [mArr_yes h]
  have ht : takesB wr.room wr.event wr = true := by unfold takesB; simp
  unfold mTake arrF
  simp only [List.filter_cons, ht, if_true, Bool.not_true, List.filter_nil, if_false, Bool.false_eq_true, List.foldl_cons, List.foldl_nil]
  unfold arrS
  simp
theorem wait_after {vg : VG} {wr : Edu} (hk : wr.kind = 1 ∧ eduLocal wr = true) (h : (vg wr.room).has wr.event = true) : ∃ (tl : List (K × Pos)) (out : List K) (on : Bool) (f : Int), (mPut 4 vg ⟨[], [], 0⟩ wr).1 = ⟨tl, [], 0⟩ ∧ (mPut 4 vg ⟨[], [], 0⟩ wr).2.1 = on ∧ (mPut 4 vg ⟨[], [], 0⟩ wr).2.2 = f ∧ (mArr 4 vg ⟨[], [wr], 0⟩ wr.room wr.event).2 = out ∧ (mArr 4 vg ⟨[], [wr], 0⟩ wr.room wr.event).1 = ⟨tl, [], 0⟩ ∧
    ((on = true ∧ f = 0 ∧ out.length = 1 ∧ (mget (kOf wr) tl).isSome = true) ∨ (on = false ∧ f = 7 ∧ out.length = 0 ∧ (mget (kOf wr) tl).isSome = false)) := by
  rw [wait_arr h]
  rcases fits_cases (thread := wr.thread) h with h0 | h7
  · rw [mPut_in hk h0]
    have had : adopts ([] : List (K × Pos)) (kOf wr) (posAt (vg wr.room) wr.event) = true := rfl
    refine ⟨_, _, _, _, rfl, rfl, rfl, rfl, rfl, .inl ⟨had, rfl, ?_, ?_⟩⟩
    · show (if adopts [] (kOf wr) (posAt (vg wr.room) wr.event) = true then [kOf wr] else []).length = 1
      rw [if_pos had]; rfl
    · show (mget (kOf wr) (tput [] (kOf wr) (posAt (vg wr.room) wr.event))).isSome = true
      rw [tput_get]; rfl
  · rw [mPut_bad hk (by rw [h7]; decide) (by rw [h7]; decide)]
    exact ⟨_, _, _, _, rfl, rfl, rfl, rfl, rfl, .inr ⟨rfl, h7, rfl, rfl⟩⟩
/-! ### The example -/
def lvE : Edu := ⟨1, ⟨#[33, 114, 58, 115]⟩, ⟨#[64, 97, 58, 115]⟩, ⟨#[36, 98]⟩, .empty, false, false, 0, 0, 0, 0⟩
def lvV : Evt := ⟨⟨#[36, 98]⟩, ⟨#[33, 114, 58, 115]⟩, [], .empty, ⟨#[64, 97, 58, 115]⟩, 0⟩
theorem lvE_small : eduSmall lvE := by unfold eduSmall; decide +kernel
theorem lv_kind : lvE.kind = 1 ∧ eduLocal lvE = true := by decide +kernel
theorem lv_fits : fitsI (vget [] lvE.room) lvE.event lvE.thread = 4 := by decide +kernel
theorem lv_put : mPut 2 (vget []) ⟨[], [], 0⟩ lvE = (⟨[], [lvE], 0⟩, false, 0) := by
  rw [mPut_park lv_kind lv_fits]
  rw [show pputL 2 (MS.mk [] [] 0).es lvE = [lvE] from by decide +kernel, show pputN 2 (MS.mk [] [] 0).es lvE (MS.mk [] [] 0).lost = 0 from by decide +kernel]
theorem lvV_wf : evWf lvV := by
  have h : ((lvV.id.size ≤ 1000 ∧ lvV.room.size ≤ 1000 ∧ lvV.thread.size ≤ 1000 ∧ lvV.user.size ≤ 1000) ∧ (lvV.does = 0 ∧ (∀ p ∈ lvV.ps, p.size ≤ 1000)) ∧ lvV.ps.length ≤ 1000) := by decide +kernel
  obtain ⟨⟨h1, h2, h3, h4⟩, ⟨h5, h6⟩, h7⟩ := h
  exact evWf_of h1 h2 h3 h4 (by rw [h5]; decide) h6 h7
abbrev lvS : MS := ⟨[], [lvE], 0⟩
theorem lv_ok1 : lvS.ok 1 := ⟨List.nodup_nil, by decide, by decide, (fun e he => by obtain rfl := List.mem_singleton.1 he; exact lvE_small), by decide, by decide⟩
theorem lv_out : (mArr 2 (vget (vaddL [] lvV)) lvS ⟨#[33, 114, 58, 115]⟩ ⟨#[36, 98]⟩).2.length = 1 := by decide +kernel
theorem lv_es : (mArr 2 (vget (vaddL [] lvV)) lvS ⟨#[33, 114, 58, 115]⟩ ⟨#[36, 98]⟩).1.es.length = 0 := by decide +kernel
theorem lv_tl : (mArr 2 (vget (vaddL [] lvV)) lvS ⟨#[33, 114, 58, 115]⟩ ⟨#[36, 98]⟩).1.tl.length = 1 := by decide +kernel
theorem lv_ok2 : (mArr 2 (vget (vaddL [] lvV)) lvS ⟨#[33, 114, 58, 115]⟩ ⟨#[36, 98]⟩).1.ok 2 := (mArr_ok lv_ok1).1
end Csl

theorem NewM1_ctr {G : Gp} {z : Int} (hz : 1 ≤ z ∧ z ≤ 1000) : Ctr Tryz.prog G 10 [.int .i64 z] [] (fun F v A => ∃ pm, v = .tuple #[.pointer (some ⟨pm, 0, none⟩), .int .i64 0] ∧ A = Mk pm z ⟨[], [], 0⟩ :: F) :=
  NewM_ctr.mono (by rintro F v A (⟨h, _⟩ | ⟨_, h⟩)
                    · omega
                    · exact h)
set_option maxHeartbeats 1000000 in
set_option maxRecDepth 100000 in
theorem lives_ctr {G : Gp} :
    Ctr Tryz.prog G 17 [] [] (fun F v A => v = .bool true ∧ A = F) := by
  refine Ctr.intro Tryz.func17 rfl (by kernel_rfl) rfl (fun F => ?_)
  simp only [List.nil_append]
  refine sr' (as' rfl (nl' (sr' ?_)))
  refine ca' rfl rfl (s := NewM1_ctr (z := 2) (by first | decide | omega)) (q := ?_)
  rintro _ _ ⟨pm, rfl, hA_⟩
  replace hA_ := hA_.symm; subst hA_
  refine mv' rfl (pp' (Pure.extract rfl rfl) (pp' (Pure.extract rfl rfl) (as' rfl (as' rfl (nl' (sr' ?_))))))
  refine ca' rfl rfl (s := NewV_ctr) (q := ?_)
  rintro _ _ ⟨pv, rfl, hA_⟩
  replace hA_ := hA_.symm; subst hA_
  refine as' rfl (nl' (sq' (sr' (mv' rfl (pp' (Pure.ptrEqNil rfl rfl und26) (mv' rfl (py' (Pure.move rfl) (py' (Pure.ptrEqNil rfl rfl und30) (pp' (Pure.pickF rfl rfl) (mv' rfl (py' (Pure.move rfl) (py' (Pure.neq rfl rfl) (pp' (Pure.pickF rfl rfl) (nl' ?_))))))))))))))
  refine Run.cond rfl (fun hc1 => ?_) (fun hc1 => ?_)
  · try simp only [Z] at hc1
    exfalso
    first | exact hc1 rfl | exact hc1 trivial | (simp at hc1; done)
  try simp only [Z] at hc1
  refine sk' (sr' (pp' (Pure.buildL (ps := [(0, _), (1, _), (2, _), (3, _)]) (zs := [(.int .i64 0), (.string .empty), (.string .empty), (.string .empty), (.string .empty), (.bool false), (.bool false), (.int .i64 0), (.int .i64 0), (.int .i64 0), (.int .i64 0)]) (xs := (cEdu lvE)) pl23 rfl rfl rfl rfl) ?_))
  refine RunL.alloc zz23 (Wt.none rfl) rfl ?_; intro b4
  refine sW' (cEdu lvE) rfl rfl sz23 ?_
  refine nl' (sr' (mv' rfl (mv' rfl (lA' (cEdu lvE) rfl agg23 sz23 ?_))))
  refine ca' rfl rfl (s := Ctr.lend Lends.Vw cb16 (fun G' hle hr => PutM_ctr (e := lvE) hr lvE_small (by decide) (by decide))) (q := ?_)
  rintro _ _ ⟨_, rfl, rfl, hA_⟩
  replace hA_ := hA_.symm; subst hA_
  rw [lv_put]
  refine mv' rfl (pp' (Pure.extract rfl rfl) (pp' (Pure.extract rfl rfl) (as' rfl (as' rfl (nl' (sr' (mv' rfl (pp' (Pure.buildL (ps := [(0, _), (1, _), (4, _)]) (zs := [(.string .empty), (.string .empty), (.slice none 0 0), (.string .empty), (.string .empty), (.int .i64 0)]) (xs := (cEvn ((lvV.evn (⟨none, 0, 0⟩ : Sli))))) pl49 rfl rfl rfl rfl) ?_))))))))
  refine ca' rfl rfl (s := AddV_ctr (e := lvV.evn (⟨none, 0, 0⟩ : Sli)) (ps := []) ⟨rfl, .inl ⟨rfl, rfl⟩⟩ lvV_wf (fun r => by rw [show vget [] r = [] from rfl]; exact Nat.zero_le _)) (q := ?_)
  rintro _ _ ⟨rfl, hA_⟩
  replace hA_ := hA_.symm; subst hA_
  rw [show Evn.ev (lvV.evn (⟨none, 0, 0⟩ : Sli)) [] = lvV from rfl]
  refine nl' (sr' (mv' rfl (mv' rfl ?_)))
  refine ca' rfl rfl (s := Ctr.lend Lends.Vw cb22 (fun G' hle hr => ArriveM_ctr (nn := 1) hr lv_ok1 (by decide))) (q := ?_)
  rintro _ _ ⟨_, rfl, a9, c9, rfl, hA_⟩
  replace hA_ := hA_.symm; subst hA_
  rw [lv_out]
  refine as' rfl (nl' (sr' (mv' rfl (pp' (Pure.not rfl) (mv' rfl ?_)))))
  refine RunL.split (d := 39) rfl (fun hg2 => ?_) (fun hg2 => ?_)
  rotate_left
  · try simp only [Z] at hg2
    exfalso
    first | exact hg2 rfl | exact hg2 trivial | (simp at hg2; done)
  try simp only [Z] at hg2
  refine py' (Pure.move rfl) (py' (Pure.eql rfl rfl) (pp' (Pure.pickT rfl rfl) (mv' rfl ?_)))
  refine RunL.split (d := 43) rfl (fun hg3 => ?_) (fun hg3 => ?_)
  rotate_left
  · try simp only [Z] at hg3
    exfalso
    first | exact hg3 rfl | exact hg3 trivial | (simp at hg3; done)
  try simp only [Z] at hg3
  refine py' (Pure.move rfl) (py' (Pure.lenSl rfl rfl und51) (py' (Pure.eql rfl rfl) (pp' (Pure.pickT rfl rfl) (mv' rfl ?_))))
  refine RunL.split (d := 48) rfl (fun hg4 => ?_) (fun hg4 => ?_)
  rotate_left
  · try simp only [Z] at hg4
    exfalso
    first | exact hg4 rfl | exact hg4 trivial | (simp at hg4; done)
  try simp only [Z] at hg4
  refine py' (Pure.move rfl) ?_
  refine ca' rfl rfl (s := WaitsM_ctr (by rw [lv_es]; decide)) (q := ?_)
  rintro _ _ ⟨a8, c8, rfl, hA_⟩
  replace hA_ := hA_.symm; subst hA_
  rw [lv_es]
  refine py' (Pure.lenSl rfl rfl und25) (py' (Pure.eql rfl rfl) (pp' (Pure.pickT rfl rfl) (mv' rfl ?_)))
  refine RunL.split (d := 54) rfl (fun hg5 => ?_) (fun hg5 => ?_)
  rotate_left
  · try simp only [Z] at hg5
    exfalso
    first | exact hg5 rfl | exact hg5 trivial | (simp at hg5; done)
  try simp only [Z] at hg5
  refine py' (Pure.move rfl) ?_
  refine RunL.openMk (by first | ((repeat (first | (with_reducible exact F0 _) | apply F1)); done) | (repeat (first | exact F0 _ | apply F1))) ?_; intro pt pp
  refine py' (Pure.nilCheck rfl) (py' (Pure.fieldAddr rfl fo60_0) (l1' rfl agg57 ?_))
  refine ca' rfl rfl (s := AllO_ctr lv_ok2.1 (by rw [lv_tl]; decide)) (q := ?_)
  rintro _ _ ⟨a7, c7, rfl, hA_⟩
  replace hA_ := hA_.symm; subst hA_
  rw [ML_len, lv_tl]
  refine py' (Pure.lenSl rfl rfl und55) (py' (Pure.eql rfl rfl) (pp' (Pure.pickT rfl rfl) (as' rfl (nl' ?_))))
  exact rt' Tryz.func17 (res1 rfl rfl) (by exact ⟨rfl, rfl⟩)

end Go.Proofs.YtaaondbmkibkkaaGreat
