/- Views, plainly. -/
import Derived.Test.YtaaondbmkibkkaaGreatK7
set_option linter.unusedVariables false
set_option linter.unusedSimpArgs false
set_option linter.unusedSectionVars false
namespace Go.Proofs.YtaaondbmkibkkaaGreat
open Go Csl


namespace Csl
/-! ### Lending of many -/
theorem Gp.join_join (G : Gp) (K1 K2 : Hp) : (G.join K1).join K2 = G.join (Hp.join K1 K2) := by unfold Gp.join; simp only [Hp.join_assoc]
def LendsL (L : List HProp) (R : Gp → Prop) : Prop := ∀ (G : Gp) (A : List HProp) (w : World), St G (L ++ A) w → ∃ K, R (Gp.join G K) ∧ St (Gp.join G K) A w ∧ ∀ A' w', St (Gp.join G K) A' w' → St G (L ++ A') w'
theorem LendsL.nil : LendsL [] (fun _ => True) := fun G A w s => ⟨Hp.empty, trivial, by rw [Gp.join_empty]; exact s, fun A' w' s' => by rw [Gp.join_empty] at s'; exact s'⟩
theorem LendsL.cons {Q : HProp} {L : List HProp} {R1 R2 : Gp → Prop} (h1 : Lends Q R1) (m : ∀ G G', Gp.le G G' → R1 G → R1 G') (h2 : LendsL L R2) : LendsL (Q :: L) (fun G => R1 G ∧ R2 G) := fun G A w s => by
  obtain ⟨K1, r1, s1, b1⟩ := h1 G (L ++ A) w s
  obtain ⟨K2, r2, s2, b2⟩ := h2 _ A w s1
  refine ⟨Hp.join K1 K2, ⟨?_, ?_⟩, ?_, ?_⟩
  · rw [← Gp.join_join]; exact m _ _ Gp.le_join r1
  · rw [← Gp.join_join]; exact r2
  · rw [← Gp.join_join]; exact s2
  · intro A' w' s'
    rw [← Gp.join_join] at s'
    exact b1 _ _ (b2 _ _ s')
theorem LendsL.map {α : Type} {f : α → HProp} {R : α → Gp → Prop} (h : ∀ x, Lends (f x) (R x)) (m : ∀ x G G', Gp.le G G' → R x G → R x G') : ∀ xs : List α, LendsL (xs.map f) (fun G => ∀ x ∈ xs, R x G)
  | [] => fun G A w s => by
    obtain ⟨K, _, s1, b⟩ := LendsL.nil G A w s
    exact ⟨K, (fun x hx => by cases hx), s1, b⟩
  | x :: xs => fun G A w s => by
    obtain ⟨K, ⟨r1, r2⟩, s1, b⟩ := LendsL.cons (h x) (m x) (LendsL.map h m xs) G A w s
    refine ⟨K, fun y hy => ?_, s1, b⟩
    rcases List.mem_cons.1 hy with rfl | hy
    · exact r1
    · exact r2 y hy
theorem Lends.stars {L : List HProp} {R : Gp → Prop} (h : LendsL L R) : Lends (Stars L) R := fun G A w s => by
  obtain ⟨K, r, s1, b⟩ := h G A w (St.stars_split.1 s)
  exact ⟨K, r, s1, fun A' w' s' => St.stars_split.2 (b A' w' s')⟩
theorem Lends.ex {X : Type} {φ : X → Prop} {L : X → List HProp} {R : X → Gp → Prop} (h : ∀ x, φ x → LendsL (L x) (R x)) : Lends (Ex φ L) (fun G => ∃ x, φ x ∧ R x G) := fun G A w s => by
  obtain ⟨x, hx, s1⟩ := s.openEx
  obtain ⟨K, r, s2, b⟩ := h x hx G A w s1
  exact ⟨K, ⟨x, hx, r⟩, s2, fun A' w' s' => St.mkEx hx (b A' w' s')⟩
theorem LendsL.imp {L : List HProp} {R R' : Gp → Prop} (h : LendsL L R) (i : ∀ G, R G → R' G) : LendsL L R' := fun G A w s => by
  obtain ⟨K, r, q⟩ := h G A w s; exact ⟨K, i _ r, q⟩
/-! ### Views, plainly -/
abbrev VL := List (ByteArray × EL)
def vget (vl : VL) (room : ByteArray) : EL := (mget room vl).getD []
def vaddL (vl : VL) (v : Evt) : VL := if addRc v.room (vget vl v.room) v = 0 then mput v.room (vget vl v.room ++ [v]) vl else vl
def fitsI (l : EL) (id thread : ByteArray) : Int := match l.get id with
  | none => 4
  | some u => if thread = .empty ∨ (thread = ⟨#[109, 97, 105, 110]⟩ ∧ u.thread = .empty) ∨ thread = id ∨ thread = u.thread then 0 else 7
theorem vget_add (vl : VL) (v : Evt) (r : ByteArray) : vget (vaddL vl v) r = if r = v.room then addL v.room (vget vl v.room) v else vget vl r := by
  unfold vaddL addL
  by_cases h : addRc v.room (vget vl v.room) v = 0
  · rw [if_pos h, if_pos h]
    show (mget r (mput v.room _ vl)).getD [] = _
    rw [mget_mput]
    by_cases hr : r = v.room
    · rw [if_pos hr, if_pos hr]; rfl
    · rw [if_neg hr, if_neg hr]; rfl
  · rw [if_neg h, if_neg h]
    by_cases hr : r = v.room
    · rw [if_pos hr, hr]
    · rw [if_neg hr]
abbrev XV := List (ByteArray × Nat × EL)
def XV.ids (xs : XV) : List (ByteArray × Nat) := xs.map fun x => (x.1, x.2.1)
def XV.vl (xs : XV) : VL := xs.map fun x => (x.1, x.2.2)
def dgA (x : ByteArray × Nat × EL) : HProp := Dg x.2.1 x.1 x.2.2
theorem xv_get {xs : XV} {room : ByteArray} : ∀ {pd : Nat}, mget room xs.ids = some pd → ∃ s t l, xs = s ++ (room, pd, l) :: t ∧ (∀ y ∈ s, y.1 ≠ room) ∧ mget room xs.vl = some l := by
  induction xs with
  | nil => intro pd h; cases h
  | cons x xs ih =>
    intro pd h
    obtain ⟨r, q, l⟩ := x
    simp only [XV.ids, XV.vl, List.map_cons] at h ⊢
    unfold mget at h ⊢
    split at h
    · rename_i hr
      have hr' : room = r := hr
      cases h
      refine ⟨[], xs, l, by rw [← hr']; rfl, (fun y hy => by cases hy), ?_⟩
      rw [if_pos hr']
    · rename_i hr
      obtain ⟨s, t, l', e, hn, hg⟩ := ih h
      refine ⟨(r, q, l) :: s, t, l', by rw [e]; rfl, fun y hy => ?_, ?_⟩
      · rcases List.mem_cons.1 hy with rfl | hy
        · exact fun z => hr z.symm
        · exact hn y hy
      · rw [if_neg hr]; exact hg
theorem xv_none {xs : XV} {room : ByteArray} : mget room xs.ids = none ↔ mget room xs.vl = none := by
  rw [mget_none, mget_none]; simp [XV.ids, XV.vl, List.map_map]
theorem mput_mid {V : Type} {room : ByteArray} {a b : V} : ∀ {s t : List (ByteArray × V)}, (∀ y ∈ s, y.1 ≠ room) → mput room b (s ++ (room, a) :: t) = s ++ (room, b) :: t
  | [], t, _ => by unfold mput; simp
  | x :: s, t, h => by
    have hx : ¬ room = x.1 := fun e => h x List.mem_cons_self e.symm
    show mput room b (x :: (s ++ (room, a) :: t)) = _
    unfold mput; rw [if_neg hx, mput_mid fun y hy => h y (List.mem_cons_of_mem _ hy)]; rfl
theorem mput_end {V : Type} {room : ByteArray} {b : V} {s : List (ByteArray × V)} (h : mget room s = none) : mput room b s = s ++ [(room, b)] := by
  refine mput_new (i := 0) ?_
  have h1 := midx_get room s 0
  rw [h] at h1
  cases q : midx room s 0 with
  | none => rfl
  | some z => rw [q] at h1; cases h1
theorem xv_same {xs s t : XV} {room : ByteArray} {pd : Nat} {l : EL} (h : xs = s ++ (room, pd, l) :: t) (hn : ∀ y ∈ s, y.1 ≠ room) : mput room pd xs.ids = xs.ids := by
  subst h
  unfold XV.ids
  rw [List.map_append, List.map_cons]
  exact mput_mid fun y hy => by obtain ⟨z, hz, rfl⟩ := List.mem_map.1 hy; exact hn z hz
theorem xv_set {xs s t : XV} {room : ByteArray} {pd : Nat} {l l' : EL} (h : xs = s ++ (room, pd, l) :: t) (hn : ∀ y ∈ s, y.1 ≠ room) : mput room l' xs.vl = XV.vl (s ++ (room, pd, l') :: t) ∧ XV.ids (s ++ (room, pd, l') :: t) = xs.ids := by
  subst h
  unfold XV.vl XV.ids
  rw [List.map_append, List.map_cons, List.map_append, List.map_cons, List.map_append, List.map_cons, List.map_append, List.map_cons]
  exact ⟨mput_mid fun y hy => by obtain ⟨z, hz, rfl⟩ := List.mem_map.1 hy; exact hn z hz, rfl⟩
/-- A view: rooms and their dags. -/
def Vw (p : Nat) (vl : VL) : HProp := Ex (fun x : Nat × XV => x.2.vl = vl) (fun x => [row p 102 [.map (some x.1)], Mp x.1 (menc eS eN x.2.ids), Stars (x.2.map dgA)])
def VwR (G : Gp) (p : Nat) (vl : VL) : Prop := ∃ x : Nat × XV, x.2.vl = vl ∧ Ro G p 102 [.map (some x.1)] ∧ MpR G x.1 (menc eS eN x.2.ids) ∧ (∀ y ∈ x.2, DgR G y.2.1 y.1 y.2.2)
theorem VwR.mono {G G' : Gp} {p : Nat} {vl : VL} (h : Gp.le G G') (q : VwR G p vl) : VwR G' p vl := by
  obtain ⟨x, h1, h2, h3, h4⟩ := q; exact ⟨x, h1, h2.mono h, h3.mono h, fun y hy => (h4 y hy).mono h⟩
theorem Lends.Vw {p : Nat} {vl : VL} : Lends (Csl.Vw p vl) (fun G => VwR G p vl) := by
  intro G A w s
  have key : ∀ x : Nat × XV, x.2.vl = vl → LendsL [Csl.row p 102 [.map (some x.1)], Csl.Mp x.1 (menc eS eN x.2.ids), Stars (x.2.map dgA)] (fun G => Ro G p 102 [.map (some x.1)] ∧ MpR G x.1 (menc eS eN x.2.ids) ∧ (∀ y ∈ x.2, DgR G y.2.1 y.1 y.2.2) ∧ True) := fun x hx =>
    LendsL.cons Lends.row (fun _ _ h q => q.mono h) (LendsL.cons Lends.Mp (fun _ _ h q => q.mono h) (LendsL.cons (Lends.stars (LendsL.map (f := dgA) (R := fun y G => DgR G y.2.1 y.1 y.2.2) (fun y => Lends.Dg) (fun y _ _ h q => q.mono h) x.2)) (fun _ _ h q y hy => (q y hy).mono h) LendsL.nil))
  obtain ⟨K, ⟨x, hx, h1, h2, h3, _⟩, s1, b⟩ := Lends.ex key G A w s
  exact ⟨K, ⟨x, hx, h1, h2, h3⟩, s1, b⟩
section
variable {c : Cx} {G : Gp} {ops : Array Oper} {kk : KT} {e : Env} {A A' : List HProp} {lo : List Oper} {st : List Item} {p : Nat} {vl : VL}
theorem Run.openVw (hf : Find (Vw p vl) A A') (next : ∀ r xs, XV.vl xs = vl → Run c G st e (row p 102 [.map (some r)] :: Mp r (menc eS eN xs.ids) :: Stars (xs.map dgA) :: A')) : Run c G st e A := Run.openEx hf fun x h => next x.1 x.2 h
theorem RunL.openVw (hf : Find (Vw p vl) A A') (next : ∀ r xs, XV.vl xs = vl → RunL c G ops lo kk e (row p 102 [.map (some r)] :: Mp r (menc eS eN xs.ids) :: Stars (xs.map dgA) :: A')) : RunL c G ops lo kk e A := RunL.openEx hf fun x h => next x.1 x.2 h
theorem Run.mkVw (r : Nat) (xs : XV) (h : xs.vl = vl) (ht : Take [row p 102 [.map (some r)], Mp r (menc eS eN xs.ids), Stars (xs.map dgA)] A A') (next : Run c G st e (Vw p vl :: A')) : Run c G st e A := Run.mkEx (r, xs) ht h next
end
/-! ### The reference's views -/
abbrev ZV := List (DD × ByteArray × EL)
def HasZ (G : Gp) (V : VV) (zs : ZV) : Prop := V.d.n = zs.length ∧ SlR G 76 2 V.d.a zs.length (zs.flatMap fun z => cDD z.1) ∧ V.d.n ≤ V.d.c ∧ ∀ z ∈ zs, HasD G z.1 z.2.1 z.2.2 ∧ Good z.2.1 z.2.2
theorem HasZ.hp {G G' : Gp} {V : VV} {zs : ZV} (q : HasZ G V zs) (h : Hp.le G.hp G'.hp) : HasZ G' V zs := ⟨q.1, q.2.1.hp h, q.2.2.1, fun z hz => ⟨(q.2.2.2 z hz).1.hp h, (q.2.2.2 z hz).2⟩⟩
theorem HasZ.mono {G G' : Gp} {V : VV} {zs : ZV} (h : Gp.le G G') (q : HasZ G V zs) : HasZ G' V zs := q.hp h.at_
def HasV (G : Gp) (V : VV) (vl : VL) : Prop := ∃ zs : ZV, zs.map (·.2) = vl ∧ HasZ G V zs
theorem HasV.hp {G G' : Gp} {V : VV} {vl : VL} (q : HasV G V vl) (h : Hp.le G.hp G'.hp) : HasV G' V vl := by
  obtain ⟨zs, h1, h2⟩ := q; exact ⟨zs, h1, h2.hp h⟩
theorem HasV.mono {G G' : Gp} {V : VV} {vl : VL} (h : Gp.le G G') (q : HasV G V vl) : HasV G' V vl := q.hp h.at_
theorem HasV.nil {G : Gp} : HasV G ⟨⟨none, 0, 0⟩⟩ [] := ⟨[], rfl, rfl, .inl ⟨rfl, rfl⟩, Nat.le_refl _, fun z hz => by cases hz⟩
theorem HasD.nil {G : Gp} {room : ByteArray} : HasD G ⟨room, ⟨none, 0, 0⟩⟩ room [] := ⟨rfl, [], rfl, rfl, .inl ⟨rfl, rfl⟩, Nat.le_refl _, fun y hy => by cases hy⟩
theorem vget_first {vl : VL} {room : ByteArray} {i : Nat} {l : EL} (h : vl[i]? = some (room, l)) (hn : ∀ j x, j < i → vl[j]? = some x → x.1 ≠ room) : vget vl room = l := by
  unfold vget
  induction vl generalizing i with
  | nil => simp at h
  | cons x vl ih =>
    cases i with
    | zero => simp at h; subst h; unfold mget; rw [if_pos rfl]; rfl
    | succ i =>
      rw [List.getElem?_cons_succ] at h
      have hx : ¬ room = x.1 := fun e => hn 0 x (by omega) rfl e.symm
      unfold mget; rw [if_neg hx]
      exact ih h fun j y hj hy => hn (j + 1) y (by omega) (by rw [List.getElem?_cons_succ]; exact hy)
theorem vget_none {vl : VL} {room : ByteArray} (h : ∀ x ∈ vl, x.1 ≠ room) : vget vl room = [] := by
  unfold vget; rw [mget_none.2 fun q => by obtain ⟨x, hx, e⟩ := List.mem_map.1 q; exact h x hx e]; rfl
def leB (a b : ByteArray) : Bool := Op.bytesLess (bl a) (bl b) || decide (bl a = bl b)
/-- One dag more, where it belongs: how far it has come. -/
def insV (room : ByteArray) (nx : DD × ByteArray × EL) (q : ZV × Bool) (z : DD × ByteArray × EL) : ZV × Bool :=
  let o1 : ZV × Bool := if !q.2 && leB room z.2.1 then (q.1 ++ [nx], true) else q
  if z.2.1 ≠ room then (o1.1 ++ [z], o1.2) else o1
def insF (room : ByteArray) (nx : DD × ByteArray × EL) (zs : ZV) : ZV × Bool := zs.foldl (insV room nx) ([], false)
def insE (nx : DD × ByteArray × EL) (q : ZV × Bool) : ZV := if q.2 then q.1 else q.1 ++ [nx]
theorem insF_take {room : ByteArray} {nx : DD × ByteArray × EL} {zs : ZV} {i : Nat} {z : DD × ByteArray × EL} (h : zs[i]? = some z) : insF room nx (zs.take (i + 1)) = insV room nx (insF room nx (zs.take i)) z := by
  unfold insF; rw [List.take_add_one, h, List.foldl_append]; rfl
def insM (q : ZV × Bool) : Nat := q.1.length + if q.2 then 0 else 1
theorem insV_len {room : ByteArray} {nx : DD × ByteArray × EL} {q : ZV × Bool} {z : DD × ByteArray × EL} : insM (insV room nx q z) ≤ insM q + 1 := by
  obtain ⟨o, d⟩ := q
  unfold insV insM
  cases d <;> cases hl : leB room z.2.1 <;> by_cases hr : z.2.1 = room <;> simp [hl, hr] <;> omega
theorem insF_len {room : ByteArray} {nx : DD × ByteArray × EL} : ∀ (zs : ZV) (q : ZV × Bool), insM (zs.foldl (insV room nx) q) ≤ insM q + zs.length
  | [], q => by simp
  | z :: zs, q => by have h1 := insF_len (room := room) (nx := nx) zs (insV room nx q z); have h2 := insV_len (room := room) (nx := nx) (q := q) (z := z); simp only [List.foldl_cons, List.length_cons]; omega
theorem insE_len {nx : DD × ByteArray × EL} {q : ZV × Bool} : (insE nx q).length = insM q := by
  obtain ⟨o, d⟩ := q
  unfold insE insM; cases d <;> simp
theorem ins_len {room : ByteArray} {nx : DD × ByteArray × EL} (zs : ZV) : (insE nx (insF room nx zs)).length ≤ zs.length + 1 := by
  rw [insE_len]; have := insF_len (room := room) (nx := nx) zs ([], false); unfold insF; simp [insM] at this ⊢; omega
theorem insF_le {room : ByteArray} {nx : DD × ByteArray × EL} {zs : ZV} {i : Nat} (h : i ≤ zs.length) : (insF room nx (zs.take i)).1.length ≤ i + 1 := by
  have := insF_len (room := room) (nx := nx) (zs.take i) ([], false)
  unfold insF; simp [insM] at this ⊢; omega
def ofD (zs : ZV) (room : ByteArray) : DD := match zs.find? (fun z => decide (z.2.1 = room)) with
  | some z => z.1
  | none => ⟨room, ⟨none, 0, 0⟩⟩
theorem of_first {zs : ZV} {room : ByteArray} {i : Nat} {z : DD × ByteArray × EL} (h : zs[i]? = some z) (hr : z.2.1 = room) (hn : ∀ j x, j < i → zs[j]? = some x → x.2.1 ≠ room) : ofD zs room = z.1 ∧ vget (zs.map (·.2)) room = z.2.2 := by
  obtain ⟨hi, hz⟩ := List.getElem?_eq_some_iff.1 h
  constructor
  · have : zs.find? (fun z => decide (z.2.1 = room)) = some z := by
      rw [List.find?_eq_some_iff_getElem]
      refine ⟨by simpa using hr, i, hi, hz, fun j hj => ?_⟩
      have := hn j zs[j] hj (List.getElem?_eq_getElem _)
      simpa using this
    unfold ofD; rw [this]
  · refine vget_first (i := i) (by rw [List.getElem?_map, h, ← hr]; rfl) fun j x hj hx => ?_
    rw [List.getElem?_map] at hx
    cases hq : zs[j]? with
    | none => rw [hq] at hx; cases hx
    | some y => rw [hq] at hx; cases hx; exact hn j y hj hq
theorem of_none {zs : ZV} {room : ByteArray} (h : ∀ z ∈ zs, z.2.1 ≠ room) : ofD zs room = ⟨room, ⟨none, 0, 0⟩⟩ ∧ vget (zs.map (·.2)) room = [] := by
  constructor
  · have : zs.find? (fun z => decide (z.2.1 = room)) = none := by
      rw [List.find?_eq_none]; intro z hz; simpa using h z hz
    unfold ofD; rw [this]
  · exact vget_none fun x hx => by obtain ⟨z, hz, rfl⟩ := List.mem_map.1 hx; exact h z hz
theorem first_or {zs : ZV} (room : ByteArray) : (∃ (i : Nat) (z : DD × ByteArray × EL), zs[i]? = some z ∧ z.2.1 = room ∧ ∀ j x, j < i → zs[j]? = some x → x.2.1 ≠ room) ∨ ∀ z ∈ zs, z.2.1 ≠ room := by
  cases h : zs.findIdx? fun z => decide (z.2.1 = room) with
  | none => exact .inr fun z hz => by rw [List.findIdx?_eq_none_iff] at h; simpa using h z hz
  | some i =>
    rw [List.findIdx?_eq_some_iff_getElem] at h
    obtain ⟨hi, h1, h2⟩ := h
    refine .inl ⟨i, zs[i], List.getElem?_eq_getElem hi, by simpa using h1, fun j x hj hx => ?_⟩
    have := h2 j hj
    obtain ⟨hj', rfl⟩ := List.getElem?_eq_some_iff.1 hx
    simpa using this
theorem HasZ.of {G : Gp} {V : VV} {zs : ZV} (h : HasZ G V zs) (room : ByteArray) : HasD G (ofD zs room) room (vget (zs.map (·.2)) room) ∧ Good room (vget (zs.map (·.2)) room) := by
  rcases first_or (zs := zs) room with ⟨i, z, hz, hr, hn⟩ | hn
  · obtain ⟨e1, e2⟩ := of_first hz hr hn
    have := h.2.2.2 z (List.mem_of_getElem? hz)
    rw [e1, e2, ← hr]; exact this
  · obtain ⟨e1, e2⟩ := of_none hn
    rw [e1, e2]; exact ⟨HasD.nil, Good.nil room⟩
theorem ins_mem {room : ByteArray} {nx : DD × ByteArray × EL} {P : DD × ByteArray × EL → Prop} (hnx : P nx) : ∀ (zs : ZV) (q : ZV × Bool), (∀ z ∈ q.1, P z) → (∀ z ∈ zs, P z) → ∀ z ∈ insE nx (zs.foldl (insV room nx) q), P z
  | [], q, h, _ => fun z hz => by
    replace hz : z ∈ insE nx q := hz
    unfold insE at hz
    by_cases hq : q.2 = true
    · rw [if_pos hq] at hz; exact h z hz
    · rw [if_neg hq] at hz
      rcases List.mem_append.1 hz with hz | hz
      · exact h z hz
      · obtain rfl := List.mem_singleton.1 hz; exact hnx
  | y :: zs, q, h, h2 => ins_mem hnx zs (insV room nx q y) (fun z hz => by
      unfold insV at hz; dsimp only at hz
      have h3 : ∀ z ∈ (if !q.2 && leB room y.2.1 then (q.1 ++ [nx], true) else q).1, P z := fun z hz => by
        split at hz
        · rcases List.mem_append.1 hz with hz | hz
          · exact h z hz
          · obtain rfl := List.mem_singleton.1 hz; exact hnx
        · exact h z hz
      split at hz
      · rcases List.mem_append.1 hz with hz | hz
        · exact h3 z hz
        · obtain rfl := List.mem_singleton.1 hz; exact h2 _ List.mem_cons_self
      · exact h3 z hz) (fun z hz => h2 z (List.mem_cons_of_mem _ hz))
theorem mget_app {V : Type} {k : ByteArray} : ∀ {s t : List (ByteArray × V)}, mget k (s ++ t) = match mget k s with | some v => some v | none => mget k t
  | [], t => rfl
  | x :: s, t => by
    show (if k = x.1 then some x.2 else mget k (s ++ t)) = (match (if k = x.1 then some x.2 else mget k s) with | some v => some v | none => mget k t)
    by_cases h : k = x.1
    · rw [if_pos h, if_pos h]
    · rw [if_neg h, if_neg h]; exact mget_app
theorem ins_get {room : ByteArray} {D : DD} {l : EL} (r : ByteArray) : ∀ (zs : ZV) (q : ZV × Bool) (vl : VL), (q.2 = true → mget room (q.1.map (·.2)) = some l) → (q.2 = false → mget room (q.1.map (·.2)) = none) → (r ≠ room → mget r (q.1.map (·.2)) = mget r vl) →
    (r ≠ room → mget r ((insE (D, room, l) (zs.foldl (insV room (D, room, l)) q)).map (·.2)) = mget r (vl ++ zs.map (·.2))) ∧ mget room ((insE (D, room, l) (zs.foldl (insV room (D, room, l)) q)).map (·.2)) = some l
  | [], q, vl, h1, h2, h3 => by
    simp only [List.foldl_nil, List.map_nil, List.append_nil]
    unfold insE
    cases hq : q.2 with
    | true => exact ⟨h3, h1 hq⟩
    | false =>
      simp only [Bool.false_eq_true, if_false, List.map_append, List.map_cons, List.map_nil]
      refine ⟨fun hr => ?_, ?_⟩
      · rw [mget_app, h3 hr]
        cases mget r vl with
        | some v => rfl
        | none => show mget r [(room, l)] = none; unfold mget; rw [if_neg hr]; rfl
      · rw [mget_app, h2 hq]; show mget room [(room, l)] = some l; unfold mget; rw [if_pos rfl]
  | z :: zs, q, vl, h1, h2, h3 => by
    simp only [List.foldl_cons, List.map_cons]
    have e : vl ++ z.2 :: zs.map (·.2) = (vl ++ [z.2]) ++ zs.map (·.2) := by simp
    rw [e]
    have hstep : ∀ q1 : ZV × Bool, q1 = (if !q.2 && leB room z.2.1 then (q.1 ++ [(D, room, l)], true) else q) →
        (q1.2 = true → mget room (q1.1.map (·.2)) = some l) ∧ (q1.2 = false → mget room (q1.1.map (·.2)) = none) ∧ (r ≠ room → mget r (q1.1.map (·.2)) = mget r vl) := by
      intro q1 hq1
      subst hq1
      split
      · rename_i hc
        have hq : q.2 = false := by simp at hc; exact hc.1
        refine ⟨fun _ => ?_, (fun h => by cases h), fun hr => ?_⟩
        · simp only [List.map_append, List.map_cons, List.map_nil]; rw [mget_app, h2 hq]; show mget room [(room, l)] = some l; unfold mget; rw [if_pos rfl]
        · simp only [List.map_append, List.map_cons, List.map_nil]; rw [mget_app, h3 hr]
          cases mget r vl with
          | some v => rfl
          | none => show mget r [(room, l)] = none; unfold mget; rw [if_neg hr]; rfl
      · exact ⟨h1, h2, h3⟩
    obtain ⟨k1, k2, k3⟩ := hstep _ rfl
    refine ins_get r zs _ (vl ++ [z.2]) ?_ ?_ ?_
    all_goals unfold insV; dsimp only
    · split
      · rename_i hz
        intro h
        simp only [List.map_append, List.map_cons, List.map_nil]
        rw [mget_app, k1 h]
      · exact k1
    · split
      · rename_i hz
        intro h
        simp only [List.map_append, List.map_cons, List.map_nil]
        rw [mget_app, k2 h]; show mget room [z.2] = none; unfold mget; rw [if_neg (fun q => hz q.symm)]; rfl
      · exact k2
    · intro hr
      split
      · simp only [List.map_append, List.map_cons, List.map_nil]
        rw [mget_app, k3 hr, mget_app]
      · rename_i hz
        have hz' : z.2.1 = room := Classical.byContradiction hz
        rw [k3 hr, mget_app]
        cases mget r vl with
        | some v => rfl
        | none => show none = mget r [z.2]; unfold mget; rw [if_neg (fun q => hr (q.trans hz'))]; rfl
/-- What is told of a view is the same. -/
def VEq (a b : VL) : Prop := ∀ r, vget a r = vget b r
theorem ins_vget {zs : ZV} {room : ByteArray} {D : DD} {l : EL} (r : ByteArray) : vget ((insE (D, room, l) (insF room (D, room, l) zs)).map (·.2)) r = if r = room then l else vget (zs.map (·.2)) r := by
  obtain ⟨h1, h2⟩ := ins_get (D := D) (l := l) (room := room) r zs ([], false) [] (fun h => by cases h) (fun _ => rfl) (fun _ => rfl)
  unfold vget insF
  by_cases hr : r = room
  · rw [if_pos hr, hr, h2]; rfl
  · rw [if_neg hr, h1 hr]; rfl
end Csl


end Go.Proofs.YtaaondbmkibkkaaGreat
