/- Slices: what a slice value stands for, owned or only read; slicing, appending, conversions. Nothing of a program stands here. -/
import Derived.Test.YtghmmjifmnmbgaaCsl4
set_option linter.unusedVariables false
set_option linter.unusedSimpArgs false
namespace Go.Proofs.Ytghmmjifmnmbgaa.Csl
open Go

/-- The slice '.slice a n cap' of elements of type 'T', 'sz' cells each, that owns its block and holds the cells 'cs'. -/
def Sl (T : TypeId) (sz : Nat) (a : Option Addr) (n cap : Nat) (cs : List Value) : HProp := fun h =>
  (a = none ∧ n = 0 ∧ cap = 0 ∧ cs = [] ∧ h = Hp.empty) ∨
  ∃ b pre post, a = some ⟨b, pre.length, none⟩ ∧ cs.length = n * sz ∧ n ≤ cap ∧ (cap - n) * sz ≤ post.length ∧ row b T (pre ++ cs ++ post) h
/-- The same, only read. -/
def SlR (G : Gp) (T : TypeId) (sz : Nat) (a : Option Addr) (n : Nat) (cs : List Value) : Prop :=
  (n = 0 ∧ cs = []) ∨ ∃ b T' pre post, a = some ⟨b, pre.length, none⟩ ∧ cs.length = n * sz ∧ Ro G b T' (pre ++ cs ++ post)

theorem SlR.length {G : Gp} {T : TypeId} {sz : Nat} {a : Option Addr} {n : Nat} {cs : List Value} (h : SlR G T sz a n cs) : cs.length = n * sz := by
  rcases h with ⟨rfl, rfl⟩ | ⟨b, T', pre, post, _, h, _⟩
  · simp
  · exact h
theorem SlR.join {G : Gp} {T : TypeId} {sz : Nat} {a : Option Addr} {n : Nat} {cs : List Value} {K : Hp} (h : SlR G T sz a n cs) : SlR (Gp.join G K) T sz a n cs := by
  rcases h with h | ⟨b, T', pre, post, h1, h2, h3⟩
  · exact .inl h
  · exact .inr ⟨b, T', pre, post, h1, h2, h3.join⟩
theorem St.emp {G : Gp} {A : List HProp} {w : World} (s : St G A w) : St G ((fun h => h = Hp.empty) :: A) w := by
  obtain ⟨h, g, s, d, a⟩ := s
  exact ⟨h, g, s, d, Hp.empty, h, Hp.empty_disj h, (Hp.empty_join h).symm, rfl, a⟩
theorem St.Sl_nil {G : Gp} {A : List HProp} {w : World} (T : TypeId) (sz : Nat) (s : St G A w) : St G (Sl T sz none 0 0 [] :: A) w :=
  s.emp.imp fun h e => .inl ⟨rfl, rfl, rfl, rfl, e⟩
theorem St.cases {G : Gp} {P Q : HProp} {A : List HProp} {w : World} (s : St G ((fun h => P h ∨ Q h) :: A) w) : St G (P :: A) w ∨ St G (Q :: A) w := by
  obtain ⟨h, g, s, d, h1, h2, d', e, p | q, a⟩ := s
  · exact .inl ⟨h, g, s, d, h1, h2, d', e, p, a⟩
  · exact .inr ⟨h, g, s, d, h1, h2, d', e, q, a⟩
theorem St.Sl_open {G : Gp} {A : List HProp} {w : World} {T : TypeId} {sz : Nat} {a : Option Addr} {n cap : Nat} {cs : List Value} (s : St G (Sl T sz a n cap cs :: A) w) :
    (a = none ∧ n = 0 ∧ cap = 0 ∧ cs = [] ∧ St G A w) ∨ ∃ b pre post, a = some ⟨b, pre.length, none⟩ ∧ cs.length = n * sz ∧ n ≤ cap ∧ (cap - n) * sz ≤ post.length ∧ St G (row b T (pre ++ cs ++ post) :: A) w := by
  have s0 := s
  obtain ⟨h, g, s, d, h1, h2, d', e, p | ⟨b, pre, post, x1, x2, x3, x4, x5⟩, a'⟩ := s
  · obtain ⟨p1, p2, p3, p4, p5⟩ := p
    exact .inl ⟨p1, p2, p3, p4, s0.drop⟩
  · exact .inr ⟨b, pre, post, x1, x2, x3, x4, h, g, s, d, h1, h2, d', e, x5, a'⟩
theorem St.Sl_mk {G : Gp} {A : List HProp} {w : World} {T : TypeId} {sz n cap b : Nat} {cs pre post : List Value} (h1 : cs.length = n * sz) (h2 : n ≤ cap) (h3 : (cap - n) * sz ≤ post.length)
    (s : St G (row b T (pre ++ cs ++ post) :: A) w) : St G (Sl T sz (some ⟨b, pre.length, none⟩) n cap cs :: A) w :=
  s.imp fun h r => .inr ⟨b, pre, post, rfl, h1, h2, h3, r⟩
theorem St.Sl_length {G : Gp} {A : List HProp} {w : World} {T : TypeId} {sz : Nat} {a : Option Addr} {n cap : Nat} {cs : List Value} (s : St G (Sl T sz a n cap cs :: A) w) : cs.length = n * sz ∧ n ≤ cap := by
  rcases s.Sl_open with ⟨_, rfl, rfl, rfl, _⟩ | ⟨_, _, _, _, h, h', _⟩
  · simp
  · exact ⟨h, h'⟩
/-- A slice is lent. -/
theorem St.lend_Sl {G : Gp} {A : List HProp} {w : World} {T : TypeId} {sz : Nat} {a : Option Addr} {n cap : Nat} {cs : List Value} (s : St G (Sl T sz a n cap cs :: A) w) :
    ∃ K : Hp, St (Gp.join G K) A w ∧ SlR (Gp.join G K) T sz a n cs ∧ ∀ A' w', St (Gp.join G K) A' w' → St G (Sl T sz a n cap cs :: A') w' := by
  rcases s.Sl_open with ⟨rfl, rfl, rfl, rfl, s1⟩ | ⟨b, pre, post, rfl, h1, h2, h3, s⟩
  · refine ⟨Hp.empty, by rw [Gp.join_empty]; exact s1, .inl ⟨rfl, rfl⟩, fun A' w' s' => ?_⟩
    rw [Gp.join_empty] at s'; exact s'.Sl_nil T sz
  · obtain ⟨fz, hz, hn, s⟩ := s.lend_row
    refine ⟨_, s, .inr ⟨b, T, pre, post, rfl, h1, Ro.one hn⟩, fun A' w' s' => ?_⟩
    exact St.Sl_mk h1 h2 h3 (St.mkrow hz (s'.back hn))

/-! ### Where elements come from -/
/-- 'm' elements of 'sz' cells, 'vs' all together, told by the value 'x' in the world 'w'. -/
def Src (P : Program) (w : World) (sz : Nat) (x : Value) (m : Nat) (vs : List Value) : Prop :=
  (∀ w' : World, (Builtin.lenOf x).run P w' = .ok m w') ∧ (∀ w' : World, w'.heap = w.heap → (Builtin.firstCells sz m x).run P w' = .ok vs.toArray w') ∧ vs.length = m * sz
theorem Seen.same {w w' : World} {b : Nat} {T : TypeId} {cs : List Value} (e : w'.heap = w.heap) (s : Seen w b T cs) : Seen w' b T cs := by
  obtain ⟨fz, h⟩ := s.at_; exact ⟨fz, by rw [e]; exact h⟩
theorem Seen.src {P : Program} {w : World} {b : Nat} {T : TypeId} {sz m cap : Nat} {pre vs post : List Value} (s : Seen w b T (pre ++ vs ++ post)) (h : vs.length = m * sz) : Src P w sz (.slice (some ⟨b, pre.length, none⟩) m cap) m vs := by
  refine ⟨fun _ => by simp [Builtin.lenOf], fun w' e => ?_, h⟩
  simp only [Builtin.firstCells]
  rw [run_loadCells (s.same e) (by simp; omega)]
  congr 2
  rw [List.append_assoc, List.drop_append_of_le_length (Nat.le_refl _), List.drop_length, List.nil_append, ← h, List.take_append_of_le_length (Nat.le_refl _), List.take_length]
theorem SlR.src {P : Program} {G : Gp} {A : List HProp} {w : World} {T : TypeId} {sz : Nat} {a : Option Addr} {n cap : Nat} {cs : List Value} (r : SlR G T sz a n cs) (s : St G A w) : Src P w sz (.slice a n cap) n cs := by
  rcases r with ⟨rfl, rfl⟩ | ⟨b, T', pre, post, rfl, h, r⟩
  · refine ⟨fun _ => by simp [Builtin.lenOf], fun w' e => ?_, by simp⟩
    cases a with
    | none => simp [Builtin.firstCells]
    | some a => simp [Builtin.firstCells, loadCells, loadCellsFrom]
  · exact (r.seen s).src h
theorem St.src {P : Program} {G : Gp} {A : List HProp} {w : World} {T : TypeId} {sz : Nat} {a : Option Addr} {n cap : Nat} {cs : List Value} (s : St G (Sl T sz a n cap cs :: A) w) : Src P w sz (.slice a n cap) n cs := by
  rcases s.Sl_open with ⟨rfl, rfl, rfl, rfl, s⟩ | ⟨b, pre, post, rfl, h1, h2, h3, s⟩
  · exact ⟨fun _ => by simp [Builtin.lenOf], fun _ _ => by simp [Builtin.firstCells], by simp⟩
  · exact s.seen.src h1
def bv (b : UInt8) : Value := .int .u8 b.toNat
theorem Src.str {P : Program} {w : World} (s : ByteArray) : Src P w 1 (.string s) s.size (s.data.toList.map bv) := by
  refine ⟨fun _ => by simp [Builtin.lenOf], fun w' _ => ?_, by simp⟩
  have : s.extract 0 s.size = s := ByteArray.extract_zero_size
  simp only [Builtin.firstCells, this, Sem.run_pure]
  congr 1
  apply Array.ext'
  simp [bv]

/-! ### append -/
theorem growBy_bound {need : Nat} : ∀ r c, c ≤ 2 * need + 400 → Builtin.growBy need r c ≤ 2 * need + 400
  | 0, c, h => h
  | r + 1, c, h => by
    unfold Builtin.growBy; split
    · exact h
    · rename_i hc; exact growBy_bound r _ (by omega)
theorem nextslicecap_bound {need old : Nat} (h : old < need) : Builtin.nextslicecap need old ≤ 2 * need + 400 := by
  unfold Builtin.nextslicecap; split
  · omega
  · split
    · omega
    · exact growBy_bound 4 old (by omega)
theorem length_zeroCells (z : Array Value) (n : Nat) : (Builtin.zeroCells z n).toList.length = n * z.size := by
  simp [Builtin.zeroCells]

def isInt : TypeDesc → Bool | .string => false | .slice _ => false | _ => true
/-- Where there is no room: a new row. -/
theorem run_append_new {P : Program} {G : Gp} {A : List HProp} {w : World} {st xt E : TypeId} {ats : Array TypeId} {ty : TypeId} {xd : TypeDesc} {z : Value} {sz by_ : Nat} {a : Option Addr} {n cap m : Nat} {x : Value} {cs vs : List Value}
    (hs : ats[0]? = some st) (hx : ats[1]? = some xt) (hu : P.underlying st = some (.slice E)) (hxu : P.underlying xt = some xd) (hxi : isInt xd = false)
    (hsz : sizeIs P E = some sz) (hz : zeroIs P E = some z) (hzz : z.cells.size = sz) (hb : bytesIs P E = some by_)
    (hroom : cap < n + m) (hbig : (2 * (n + m) + 400) * by_ ≤ 281474976710656) (hlen : n + m ≤ 9223372036854775807)
    (so : Src P w sz (.slice a n cap) n cs) (sx : Src P w sz x m vs) (s : St G A w) :
    ∃ a' cap' w', (Builtin.append_ ats ty #[.slice a n cap, x]).run P w = .ok (.slice a' (n + m) cap') w' ∧ St G (Sl E sz a' (n + m) cap' (cs ++ vs) :: A) w' := by
  have hi : ∀ w' : World, ∃ i, (typeInfo E).run P w' = .ok i w' ∧ i.bytes = by_ := fun w' => run_bytes hb
  have hcapb := nextslicecap_bound hroom
  have h1 : ¬ (Builtin.nextslicecap (n + m) cap * by_ > 2 ^ 48) := by
    have := Nat.mul_le_mul_right by_ hcapb
    omega
  generalize hw2 : ({ w with drawn := w.drawn + 1 } : World) = w2
  have e2 : w2.heap = w.heap := by rw [← hw2]
  generalize hq : (Question.appendCap (n + m) cap E).cut (w.tape w.drawn (.appendCap (n + m) cap E)) = newCap
  have hge : n + m ≤ newCap := by rw [← hq]; simp only [Question.cut]; exact Nat.le_add_right _ _
  have s2 : St G A w2 := s.same e2 (by rw [← hw2]; exact ⟨rfl, rfl, rfl, Nat.le_succ _⟩)
  have hmax : ¬ (((n + m : Nat) : Int) > IntKind.i64.max) := by rw [show IntKind.i64.max = 9223372036854775807 from by decide]; omega
  obtain ⟨i1, hi1, hb1⟩ := hi w
  obtain ⟨i2, hi2, hb2⟩ := hi w2
  refine ⟨some ⟨w2.heap.size, 0, none⟩, newCap, { w2 with heap := w2.heap.push (.cells (cs.toArray ++ vs.toArray ++ Builtin.zeroCells z.cells (newCap - (n + m))) E) }, ?_, ?_⟩
  · obtain ⟨so1, so2, so3⟩ := so
    obtain ⟨sx1, sx2, sx3⟩ := sx
    have hnle : ¬ (n + m ≤ cap) := by omega
    simp only [Builtin.append_, hs, hx]
    simp only [List.getElem?_toArray, List.getElem?_cons_zero, List.getElem?_cons_succ, Sem.run_bind, run_underlying hu, run_underlying hxu, Result.andThen_ok, run_sizeOf hsz, Sem.run_pure]
    have hxs : xd = .string ∨ ∃ E', xd = .slice E' := by cases xd <;> first | exact .inl rfl | exact .inr ⟨_, rfl⟩ | simp [isInt] at hxi
    rcases hxs with rfl | ⟨E', rfl⟩
    all_goals
      simp only [Bool.false_eq_true, if_false, Sem.run_bind, sx1, Result.andThen_ok, if_neg hnle, hi1, hb1, hmax, false_and, h1, run_choose, Question.forced, hq, hw2, hi2, hb2, run_askRoom, so2 w2 e2, sx2 w2 e2, Bool.not_false, if_true, run_zero hz]
      simp [newRow]
  · have hlz := length_zeroCells z.cells (newCap - (n + m))
    rw [hzz] at hlz
    have := s2.alloc E (([] : List Value) ++ (cs ++ vs) ++ (Builtin.zeroCells z.cells (newCap - (n + m))).toList)
    refine St.Sl_mk (pre := []) (post := (Builtin.zeroCells z.cells (newCap - (n + m))).toList) (by rw [List.length_append, so.2.2, sx.2.2, Nat.add_mul]) hge (by rw [hlz]; exact Nat.le_refl _) ?_
    have e : (([] : List Value) ++ (cs ++ vs) ++ (Builtin.zeroCells z.cells (newCap - (n + m))).toList).toArray = cs.toArray ++ vs.toArray ++ Builtin.zeroCells z.cells (newCap - (n + m)) := by
      apply Array.ext'; simp
    rw [e] at this; exact this

/-- Where there is room: the slice's own block is written. -/
theorem run_append_room {P : Program} {G : Gp} {A : List HProp} {w : World} {st xt E : TypeId} {ats : Array TypeId} {ty : TypeId} {xd : TypeDesc} {sz : Nat} {a : Option Addr} {n cap m : Nat} {x : Value} {cs vs : List Value}
    (hs : ats[0]? = some st) (hx : ats[1]? = some xt) (hu : P.underlying st = some (.slice E)) (hxu : P.underlying xt = some xd) (hxi : isInt xd = false)
    (hsz : sizeIs P E = some sz) (hroom : n + m ≤ cap) (sx : Src P w sz x m vs) (h1 : ∀ u ∈ vs, u.isOne = true) (s : St G (Sl E sz a n cap cs :: A) w) :
    ∃ a' cap' w', (Builtin.append_ ats ty #[.slice a n cap, x]).run P w = .ok (.slice a' (n + m) cap') w' ∧ St G (Sl E sz a' (n + m) cap' (cs ++ vs) :: A) w' := by
  obtain ⟨sx1, sx2, sx3⟩ := sx
  have sx2' := sx2 w rfl
  have hxs : xd = .string ∨ ∃ E', xd = .slice E' := by cases xd <;> first | exact .inl rfl | exact .inr ⟨_, rfl⟩ | simp [isInt] at hxi
  rcases s.Sl_open with ⟨rfl, rfl, rfl, rfl, s'⟩ | ⟨b, pre, post, rfl, g1, g2, g3, s'⟩
  · have hm : m = 0 := by omega
    subst hm
    have hv : vs = [] := by rw [Nat.zero_mul] at sx3; exact List.length_eq_zero_iff.1 sx3
    subst hv
    refine ⟨none, 0, w, ?_, by simpa using s⟩
    simp only [Builtin.append_, hs, hx]
    simp only [List.getElem?_toArray, List.getElem?_cons_zero, List.getElem?_cons_succ, Sem.run_bind, run_underlying hu, run_underlying hxu, Result.andThen_ok, run_sizeOf hsz, Sem.run_pure]
    rcases hxs with rfl | ⟨E', rfl⟩
    all_goals
      simp only [Bool.false_eq_true, if_false, Sem.run_bind, sx1, Result.andThen_ok, if_pos hroom, sx2', Bool.not_false, if_true]
      simp
  · have hmz : m * sz ≤ post.length := by
      have : m * sz ≤ (cap - n) * sz := Nat.mul_le_mul_right _ (by omega)
      omega
    obtain ⟨w', hr, s2⟩ := run_storeCells (P := P) (off := pre.length + n * sz) vs w (pre ++ cs ++ post) 0 s' (by simp; omega) h1
    refine ⟨some ⟨b, pre.length, none⟩, cap, w', ?_, ?_⟩
    · simp only [Builtin.append_, hs, hx]
      simp only [List.getElem?_toArray, List.getElem?_cons_zero, List.getElem?_cons_succ, Sem.run_bind, run_underlying hu, run_underlying hxu, Result.andThen_ok, run_sizeOf hsz, Sem.run_pure]
      rcases hxs with rfl | ⟨E', rfl⟩
      all_goals
        simp only [Bool.false_eq_true, if_false, Sem.run_bind, sx1, Result.andThen_ok, if_pos hroom, sx2', Bool.not_false, if_true, add_off, hr]
        simp
    · have e : setRange (pre ++ cs ++ post) (pre.length + n * sz + 0) vs = pre ++ (cs ++ vs) ++ post.drop vs.length := by
        unfold setRange
        have e1 : pre.length + n * sz + 0 = (pre ++ cs).length := by simp [g1]
        rw [e1, List.take_append_of_le_length (Nat.le_refl _), List.take_length, List.drop_append, List.drop_of_length_le (by omega)]
        simp [List.append_assoc]
      rw [e] at s2
      refine St.Sl_mk (by rw [List.length_append, g1, sx3, Nat.add_mul]) hroom ?_ s2
      rw [List.length_drop, sx3]
      have : (cap - (n + m)) * sz + m * sz = (cap - n) * sz := by rw [← Nat.add_mul]; congr 1; omega
      omega

section
variable {c : Cx} {G : Gp} {ops : Array Oper} {k : KT} {e : Env} {A A' : List HProp} {l : List Oper}
variable {d : Nat} {tt st xt E : TypeId} {pos : String} {af : Array Edge} {gd : Option (Nat × Bool)} {x y : Operand} {ats : Array TypeId} {xd : TypeDesc} {z xv : Value} {sz by_ : Nat} {a : Option Addr} {n cap m : Nat} {cs vs : List Value}
theorem exec_append {ρ : Operand → Value} {P : Program} {w : World} {dd : Option Tmp} : (execOp ρ ⟨dd, .call ⟨.builtin .append, #[x, y], ats⟩, tt, pos, af, gd⟩).run P w = ((Builtin.append_ ats tt #[ρ x, ρ y]).run P w).andThen fun v w' => .ok (.value v) w' := by
  simp only [execOp, resolve]
  simp [invoke, builtin]
/-- 'append' onto a slice that is owned. -/
theorem RunL.append (hx : opv e x = some (.slice a n cap)) (hy : opv e y = some xv) (hf : Find (Sl E sz a n cap cs) A A') (hs : ats[0]? = some st) (hxt : ats[1]? = some xt) (hu : c.P.underlying st = some (.slice E)) (hxu : c.P.underlying xt = some xd) (hxi : isInt xd = false)
    (hsz : sizeIs c.P E = some sz) (hz : zeroIs c.P E = some z) (hzz : z.cells.size = sz) (hb : bytesIs c.P E = some by_) (hbig : (2 * (n + m) + 400) * by_ ≤ 281474976710656) (hlen : n + m ≤ 9223372036854775807)
    (hsrc : ∀ w, St G A w → Src c.P w sz xv m vs) (h1 : ∀ u ∈ vs, u.isOne = true)
    {n' : Nat} {cs' : List Value} (hn' : n + m = n') (hc' : cs ++ vs = cs') (hw : Wt ops e ⟨some d, .call ⟨.builtin .append, #[x, y], ats⟩, tt, pos, af, gd⟩ true) (hlt : Nat.blt d c.fn.ntmps = true)
    (next : ∀ a' cap', RunL c G ops l k ((d, .slice a' n' cap') :: e) (Sl E sz a' n' cap' cs' :: A')) :
    RunL c G ops (⟨some d, .call ⟨.builtin .append, #[x, y], ats⟩, tt, pos, af, gd⟩ :: l) k e A := by
  subst hn'; subst hc'
  refine RunL.val (X := Option Addr × Nat) (v := fun q => .slice q.1 (n + m) q.2) (A' := fun q => Sl E sz q.1 (n + m) q.2 (cs ++ vs) :: A') hw rfl hlt (fun w0 w h s => ?_) (fun q => next q.1 q.2)
  have e1 := h.opv hx; have e2 := h.opv hy
  rw [exec_append, e1, e2]
  have s' := s.find hf
  have key : ∃ a' cap' w', (Builtin.append_ ats tt #[.slice a n cap, xv]).run c.P w = .ok (.slice a' (n + m) cap') w' ∧ St G (Sl E sz a' (n + m) cap' (cs ++ vs) :: A') w' := by
    rcases Nat.lt_or_ge cap (n + m) with hr | hr
    · obtain ⟨a', cap', w', hr', s2⟩ := run_append_new (ty := tt) hs hxt hu hxu hxi hsz hz hzz hb hr hbig hlen s'.src (hsrc w s) s'
      exact ⟨a', cap', w', hr', (s2.perm (.swap _ _ _)).drop⟩
    · exact run_append_room hs hxt hu hxu hxi hsz hr (hsrc w s) h1 s'
  obtain ⟨a', cap', w', hr, s2⟩ := key
  exact ⟨(a', cap'), w', by rw [hr]; rfl, s2⟩
/-- 'append' onto a slice without room: it is only read. -/
theorem RunL.appendN (hx : opv e x = some (.slice a n cap)) (hy : opv e y = some xv) (hs : ats[0]? = some st) (hxt : ats[1]? = some xt) (hu : c.P.underlying st = some (.slice E)) (hxu : c.P.underlying xt = some xd) (hxi : isInt xd = false)
    (hsz : sizeIs c.P E = some sz) (hz : zeroIs c.P E = some z) (hzz : z.cells.size = sz) (hb : bytesIs c.P E = some by_) (hbig : (2 * (n + m) + 400) * by_ ≤ 281474976710656) (hlen : n + m ≤ 9223372036854775807)
    (hroom : cap < n + m) (hso : ∀ w, St G A w → Src c.P w sz (.slice a n cap) n cs) (hsrc : ∀ w, St G A w → Src c.P w sz xv m vs)
    {n' : Nat} {cs' : List Value} (hn' : n + m = n') (hc' : cs ++ vs = cs') (hw : Wt ops e ⟨some d, .call ⟨.builtin .append, #[x, y], ats⟩, tt, pos, af, gd⟩ true) (hlt : Nat.blt d c.fn.ntmps = true)
    (next : ∀ a' cap', RunL c G ops l k ((d, .slice a' n' cap') :: e) (Sl E sz a' n' cap' cs' :: A)) :
    RunL c G ops (⟨some d, .call ⟨.builtin .append, #[x, y], ats⟩, tt, pos, af, gd⟩ :: l) k e A := by
  subst hn'; subst hc'
  refine RunL.val (X := Option Addr × Nat) (v := fun q => .slice q.1 (n + m) q.2) (A' := fun q => Sl E sz q.1 (n + m) q.2 (cs ++ vs) :: A) hw rfl hlt (fun w0 w h s => ?_) (fun q => next q.1 q.2)
  have e1 := h.opv hx; have e2 := h.opv hy
  rw [exec_append, e1, e2]
  obtain ⟨a', cap', w', hr, s2⟩ := run_append_new (ty := tt) hs hxt hu hxu hxi hsz hz hzz hb hroom hbig hlen (hso w s) (hsrc w s) s
  exact ⟨(a', cap'), w', by rw [hr]; rfl, s2⟩
/-- 'append' onto nil. -/
theorem RunL.append0 (hx : opv e x = some (.slice none 0 0)) (hy : opv e y = some xv) (hs : ats[0]? = some st) (hxt : ats[1]? = some xt) (hu : c.P.underlying st = some (.slice E)) (hxu : c.P.underlying xt = some xd) (hxi : isInt xd = false)
    (hsz : sizeIs c.P E = some sz) (hz : zeroIs c.P E = some z) (hzz : z.cells.size = sz) (hb : bytesIs c.P E = some by_) (hbig : (2 * m + 400) * by_ ≤ 281474976710656) (hlen : m ≤ 9223372036854775807)
    (hsrc : ∀ w, St G A w → Src c.P w sz xv m vs)
    (hw : Wt ops e ⟨some d, .call ⟨.builtin .append, #[x, y], ats⟩, tt, pos, af, gd⟩ true) (hlt : Nat.blt d c.fn.ntmps = true)
    (next : ∀ a' cap', RunL c G ops l k ((d, .slice a' m cap') :: e) (Sl E sz a' m cap' vs :: A)) :
    RunL c G ops (⟨some d, .call ⟨.builtin .append, #[x, y], ats⟩, tt, pos, af, gd⟩ :: l) k e A := by
  refine RunL.val (X := Option Addr × Nat) (v := fun q => .slice q.1 m q.2) (A' := fun q => Sl E sz q.1 m q.2 vs :: A) hw rfl hlt (fun w0 w h s => ?_) (fun q => next q.1 q.2)
  have e1 := h.opv hx; have e2 := h.opv hy
  rw [exec_append, e1, e2]
  have s' := s.Sl_nil E sz
  have sx := hsrc w s
  have key : ∃ a' cap' w', (Builtin.append_ ats tt #[.slice none 0 0, xv]).run c.P w = .ok (.slice a' (0 + m) cap') w' ∧ St G (Sl E sz a' (0 + m) cap' ([] ++ vs) :: A) w' := by
    rcases Nat.eq_zero_or_pos m with hm | hm
    · subst hm
      have hv : vs = [] := by have := sx.2.2; rw [Nat.zero_mul] at this; exact List.length_eq_zero_iff.1 this
      subst hv
      exact run_append_room hs hxt hu hxu hxi hsz (by omega) sx (by simp) s'
    · obtain ⟨a', cap', w', hr', s2⟩ := run_append_new (ty := tt) hs hxt hu hxu hxi hsz hz hzz hb (by omega : 0 < 0 + m) (by rw [Nat.zero_add]; exact hbig) (by omega) s'.src sx s'
      exact ⟨a', cap', w', hr', (s2.perm (.swap _ _ _)).drop⟩
  obtain ⟨a', cap', w', hr, s2⟩ := key
  rw [Nat.zero_add] at hr s2
  exact ⟨(a', cap'), w', by rw [hr]; rfl, s2⟩

theorem RunL.buildSlice {p : Array (Nat × Operand)} {n : Nat} {vs : List Value} {ps : List (Nat × Value)} (hu : c.P.underlying st = some (.slice E)) (hsz : sizeIs c.P E = some sz) (hz : zeroIs c.P E = some z) (hn : n * sz ≤ 16777216) (hpos : n * sz ≠ 0)
    (hp : opvs e (p.toList.map (·.2)) = some (ps.map (·.2))) (hpi : p.toList.map (·.1) = ps.map (·.1))
    (hv : Instr.fill (fun i => some (i * sz, sz)) ((Array.range (n * sz)).map (z.cells[· % z.cells.size]!)) ps = some vs.toArray) (hl : vs.length = n * sz)
    (hw : Wt ops e ⟨some d, .buildSlice st n p, tt, pos, af, gd⟩ true) (hlt : Nat.blt d c.fn.ntmps = true)
    (next : ∀ b, RunL c G ops l k ((d, .slice (some ⟨b, 0, none⟩) n n) :: e) (Sl E sz (some ⟨b, 0, none⟩) n n vs :: A)) :
    RunL c G ops (⟨some d, .buildSlice st n p, tt, pos, af, gd⟩ :: l) k e A := by
  refine RunL.val (v := fun b => .slice (some ⟨b, 0, none⟩) n n) (A' := fun b => Sl E sz (some ⟨b, 0, none⟩) n n vs :: A) hw rfl hlt (fun a w h s => ?_) next
  have h1 := Ev.opvs h.ev hp
  generalize a.eval = ρ at h1 ⊢
  have h2 : (p.map fun (i, x) => (i, ρ x)).toList = ps := by
    rw [Array.toList_map]
    have : ∀ (q : List (Nat × Operand)) (r : List (Nat × Value)), q.map (·.1) = r.map (·.1) → (q.map (·.2)).map ρ = r.map (·.2) → q.map (fun (i, x) => (i, ρ x)) = r := by
      intro q
      induction q with
      | nil => intro r a b; cases r <;> simp_all
      | cons y q ih =>
        intro r a b
        cases r with
        | nil => simp at a
        | cons u r =>
          simp only [List.map_cons, List.cons.injEq] at a b ⊢
          exact ⟨Prod.ext a.1 b.1, ih r a.2 b.2⟩
    exact this _ _ hpi h1
  have hn' : ¬ (n * sz > 2 ^ 24) := by omega
  refine ⟨w.heap.size, { w with heap := w.heap.push (.cells vs.toArray E) }, ?_, ?_⟩
  · simp only [execOp, Instr.buildSlice, Sem.run_bind, run_underlying hu, Result.andThen_ok, run_sizeOf hsz, if_neg hn', if_neg hpos, run_zero hz, Sem.run_pure, h2, hv]
    simp [newRow, run_zero hz, hv, h2]
  · have := s.alloc E ([] ++ vs ++ [])
    simp only [List.nil_append, List.append_nil] at this
    exact St.Sl_mk (pre := []) (post := []) hl (Nat.le_refl _) (by simp) (by simpa using this)
end
end Go.Proofs.Ytghmmjifmnmbgaa.Csl
