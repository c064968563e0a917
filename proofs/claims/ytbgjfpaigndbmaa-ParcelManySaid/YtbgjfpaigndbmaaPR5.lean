/- Made parcels, plainly. -/
import Derived.Test.YtbgjfpaigndbmaaPR4
set_option linter.unusedVariables false
set_option linter.unusedSimpArgs false
set_option linter.unusedSectionVars false
namespace Go.Proofs.Ytbgjfpaigndbmaa
open Go Csl


namespace Csl
def fT (t : Option Addr × List UInt8 × Nat) : Value := .slice t.1 t.2.1.length t.2.2
def HTS (G : Gp) (ts : List (Option Addr × List UInt8 × Nat)) : Prop := ∀ t ∈ ts, SlR G 5 1 t.1 t.2.1.length (t.2.1.map bv) ∧ t.2.1.length ≤ 1000000 ∧ t.2.1.length ≤ t.2.2
theorem HTS.mono {G G' : Gp} {ts : List (Option Addr × List UInt8 × Nat)} (h : HTS G ts) (hle : G.le G') : HTS G' ts := fun t ht => ⟨(h t ht).1.mono hle, (h t ht).2⟩
theorem prcSame_self {p q : Prc} {xs : List Edu} (h1 : p.ack = q.ack) (h2 : p.frm = q.frm) (h3 : p.to_ = q.to_) (h4 : p.id = q.id) : prcSame p q xs xs = true := by simp [prcSame, h1, h2, h3, h4]
theorem prcBytes_len0 {p : Prc} {xs : List Edu} : (prcBytes p xs).length = (prcBytes p xs).length - 1 + 1 := by
  have : 0 < (prcBytes p xs).length := by unfold prcBytes prcHead flg; simp
  omega
theorem prcBytes_len {p : Prc} {xs : List Edu} (h : prcMay p xs = true) (hx : ∀ x ∈ xs, eduSmall x ∧ okEdu x) (hn : xs.length ≤ 1000) : (prcBytes p xs).length ≤ 69 + 5009 * xs.length := by
  obtain ⟨h1, h2, h3, h4, h5, _⟩ := may_facts h
  have a := txt_small h1; have b := txt_small h2
  have n1 := numN_le p.id.toNat (by omega)
  have hf : ∀ l : List Edu, (∀ x ∈ l, eduSmall x ∧ okEdu x) → (l.flatMap eduTxt).length ≤ 5009 * l.length := by
    intro l
    induction l with
    | nil => intro _; simp
    | cons x l ih =>
      intro hl
      have h1 := eduTxt_len (hl x List.mem_cons_self).1 (hl x List.mem_cons_self).2
      have h2 := ih (fun y hy => hl y (List.mem_cons_of_mem _ hy))
      rw [List.flatMap_cons, List.length_append, List.length_cons]; omega
  have hxs := hf xs hx
  have n2 := numN_le xs.length (by omega)
  unfold prcBytes prcHead flg
  simp only [List.length_append, List.length_cons, List.length_nil]
  omega
theorem good_may (p : Prc) (xs : List Edu) {s : Sli} (hs : s.n = (goodL p xs).length) : prcMay (goodP p s) (goodL p xs) = true := by
  have h3 := around_lt (z := (p.frm.size : Nat)) (m := 3) (by decide)
  have h2 := around_lt (z := (p.to_.size : Nat)) (m := 2) (by decide)
  have h4 := around_lt (z := p.id) (m := 1099511627776) (by decide)
  have key : ∀ (i : _root_.Fin 3) (j : _root_.Fin 2), (serverB (bl (serverOf (i.val : Int))) && (serverB (bl (serverOf ((i.val : Int) + 1 + (j.val : Int)))) && decide (¬ bl (serverOf (i.val : Int)) = bl (serverOf ((i.val : Int) + 1 + (j.val : Int)))))) = true := by decide +kernel
  have := key ⟨(around p.frm.size 3).toNat, by omega⟩ ⟨(around p.to_.size 2).toNat, by omega⟩
  simp only [show (((around p.frm.size 3).toNat : Nat) : Int) = around p.frm.size 3 from by omega, show (((around p.to_.size 2).toNat : Nat) : Int) = around p.to_.size 2 from by omega, Bool.and_eq_true, decide_eq_true_eq] at this
  have hl := goodL_len p xs
  have hall : (goodL p xs).all eduMay = true := by
    rw [List.all_eq_true]; intro x hx
    unfold goodL at hx
    split at hx
    · cases hx
    · obtain ⟨y, _, rfl⟩ := List.mem_map.1 hx; exact pub_may y
  have hack : (!p.ack || ((s.n : Int) == 0)) = true := by
    cases ha : p.ack
    · rfl
    · have : goodL p xs = [] := by unfold goodL; rw [if_pos ha]
      rw [this] at hs
      have h0 : s.n = 0 := hs
      rw [h0]; rfl
  unfold prcMay goodP
  simp only [this.1, this.2.1, this.2.2, hall, hack, Bool.true_and, Bool.and_true, not_false_eq_true, decide_true, Bool.and_eq_true, decide_eq_true_eq]
  omega
theorem answer_may {p : Prc} {xs : List Edu} (h : prcMay p xs = true) : prcMay ⟨true, p.to_, p.frm, p.id, ⟨none, 0, 0⟩⟩ [] = true := by
  unfold prcMay at h ⊢
  simp only [Bool.and_eq_true, decide_eq_true_eq] at h ⊢
  obtain ⟨h1, h2, h3, h4, h5, _⟩ := h
  exact ⟨h2, h1, fun q => h3 q.symm, h4, h5, by decide, rfl, rfl⟩
theorem eduBytes_pub (y : Edu) : (eduBytes (pubE y)).length ≤ 1000 := by
  obtain ⟨s1, s2, s3, s4⟩ := good_small y
  obtain ⟨h1, h2, h3, h4, h5⟩ := pub_nums y
  have n1 := numN_le (pubE y).kind.toNat (by omega); have n2 := numN_le (pubE y).span.toNat (by omega); have n3 := numN_le (pubE y).state.toNat (by omega); have n4 := numN_le (pubE y).tick.toNat (by omega); have n5 := numN_le (pubE y).stamp.toNat (by omega)
  have tl : ∀ s : ByteArray, s.size ≤ 5 → (txt s).length ≤ 14 := fun s h => by unfold txt; have := numN_le s.size (by omega); rw [List.length_append, bl_length]; omega
  have t1 := tl (pubE y).room s1; have t2 := tl (pubE y).user s2; have t3 := tl (pubE y).event s3; have t4 := tl (pubE y).thread s4
  unfold eduBytes eduTexts eduNums flg
  simp only [List.length_append, List.flatMap_cons, List.flatMap_nil, List.length_nil, List.length_cons]
  omega
def Pubs (xs : List Edu) : Prop := ∀ x ∈ xs, ∃ y, x = pubE y
theorem goodL_pubs (p : Prc) (xs : List Edu) : Pubs (goodL p xs) := by
  intro x hx
  unfold goodL at hx
  split at hx
  · cases hx
  · obtain ⟨y, _, rfl⟩ := List.mem_map.1 hx; exact ⟨y, rfl⟩
theorem rdGo_put {p : Prc} : ∀ {xs ys : List Edu}, Pubs xs → rdGo 1000 34 p xs.length ys (xs.flatMap eduTxt) 0 = if prcMay (withE p ⟨none, (ys ++ xs).length, 0⟩) (ys ++ xs) = true then some (p, ys ++ xs) else none
  | [], ys, _ => by
    show rdGo 1000 34 p 0 ys [] 0 = _
    unfold rdGo
    rw [List.append_nil, show rdEnd [] 0 = 0 from rfl]
    simp
  | x :: xs, ys, h => by
    obtain ⟨y, rfl⟩ := h x List.mem_cons_self
    have hl := eduBytes_pub y
    obtain ⟨s1, s2, s3, s4⟩ := good_small y
    have e1 : rdText 1000 ((pubE y :: xs).flatMap eduTxt) 0 = (eduBytes (pubE y), xs.flatMap eduTxt, 0) := by
      rw [List.flatMap_cons]; unfold eduTxt; exact rdText_put (by omega) (by omega)
    have e2 : finE (rdE 34 (eduBytes (pubE y))) = (pubE y, 0) := by
      rw [rdE_bytes rfl (pub_nums y) (pub_small y) ⟨by show ((goodE y).room.size : Int) ≤ 34; omega, by show ((goodE y).user.size : Int) ≤ 34; omega, by show ((goodE y).event.size : Int) ≤ 34; omega, by show ((goodE y).thread.size : Int) ≤ 34; omega⟩]
      unfold finE; rw [if_pos ⟨rfl, pub_may y⟩]
    show rdGo 1000 34 p (xs.length + 1) ys _ 0 = _
    unfold rdGo
    rw [e1]
    simp only [e2]
    rw [if_pos ⟨trivial, trivial⟩, rdGo_put (fun z hz => h z (List.mem_cons_of_mem _ hz)), List.append_assoc]
    rfl
theorem rdP_put {p : Prc} {xs : List Edu} (ho : okPrc p) (hs : p.frm.size ≤ 16 ∧ p.to_.size ≤ 16) (hid : 0 ≤ p.id) (hx : Pubs xs) (hn : xs.length ≤ 1000) : rdP 16 1000 34 (prcBytes p xs) = if (xs.length : Int) ≤ 100 ∧ prcMay (withE p ⟨none, xs.length, 0⟩) xs = true then some (⟨p.ack, p.frm, p.to_, p.id, ⟨none, 0, 0⟩⟩, xs) else none := by
  have hi := wf_i64 ho.2.2
  have e0 : prcBytes p xs = (if p.ack then 1 else 0) :: (txt p.frm ++ (txt p.to_ ++ (numN p.id.toNat ++ (numN ((xs.length : Nat) : Int).toNat ++ xs.flatMap eduTxt)))) := by
    simp [prcBytes, prcHead, flg]
  unfold rdP
  rw [e0, rdFlag_put]; simp only
  rw [rdText_txt (by omega) (by omega)]; simp only
  rw [rdText_txt (by omega) (by omega)]; simp only
  rw [rdNum_int ⟨hid, hi.2⟩]; simp only
  rw [rdNum_int (by omega)]; simp only
  rw [mkS_bl, mkS_bl, Int.toNat_natCast, rdGo_put hx, List.nil_append]
  by_cases h : (xs.length : Int) ≤ 100
  · simp only [h, true_and, if_true]; rfl
  · simp only [h, false_and, and_false, if_false]
theorem rdGo_len {m2 em : Int} {p : Prc} : ∀ {n : Nat} {xs : List Edu} {bs : List UInt8} {er : Int} {q : Prc × List Edu}, rdGo m2 em p n xs bs er = some q → q.2.length ≤ 100
  | 0, xs, bs, er, q, h => by
    unfold rdGo at h
    split at h
    · rename_i hc; cases h
      have := (may_facts hc.2).2.2.2.2.1
      have h2 : ((xs.length : Nat) : Int) ≤ 100 := this
      show xs.length ≤ 100
      omega
    · cases h
  | n + 1, xs, bs, er, q, h => by
    unfold rdGo at h
    split at h
    · exact rdGo_len h
    · cases h
theorem rdP_len {m1 m2 em : Int} {bs : List UInt8} {p : Prc} {xs : List Edu} (h : rdP m1 m2 em bs = some (p, xs)) : xs.length ≤ 100 := by
  unfold rdP at h
  simp only at h
  split at h
  · exact rdGo_len (q := (p, xs)) h
  · cases h
end Csl


end Go.Proofs.Ytbgjfpaigndbmaa
