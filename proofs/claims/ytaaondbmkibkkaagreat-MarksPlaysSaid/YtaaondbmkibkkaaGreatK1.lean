/- How keys stand. -/
import Derived.Test.YtaaondbmkibkkaaGreatE4
set_option linter.unusedVariables false
set_option linter.unusedSimpArgs false
set_option linter.unusedSectionVars false
namespace Go.Proofs.YtaaondbmkibkkaaGreat
open Go Csl
theorem fo34_0 : fieldOff Tryz.prog 34 0 = some 0 := by kernel_rfl
theorem fo34_1 : fieldOff Tryz.prog 34 1 = some 1 := by kernel_rfl
theorem fo34_2 : fieldOff Tryz.prog 34 2 = some 2 := by kernel_rfl
theorem fo34_3 : fieldOff Tryz.prog 34 3 = some 3 := by kernel_rfl
theorem fo33_0 : fieldOff Tryz.prog 33 0 = some 0 := by kernel_rfl
theorem fo33_1 : fieldOff Tryz.prog 33 1 = some 1 := by kernel_rfl
theorem fo33_2 : fieldOff Tryz.prog 33 2 = some 2 := by kernel_rfl
theorem fo33_3 : fieldOff Tryz.prog 33 3 = some 3 := by kernel_rfl
theorem pl120 : placesOf Tryz.prog 120 = some ([(0, 1)], (.agg #[(.map none)])) := by kernel_rfl
theorem fo120_0 : fieldOff Tryz.prog 120 0 = some 0 := by kernel_rfl
theorem agg118 : isAggOf Tryz.prog 118 = some false := by kernel_rfl
theorem und118 : Tryz.prog.underlying 118 = some (Go.TypeDesc.map 34 69) := Tryz.underlying118
theorem und61 : Tryz.prog.underlying 61 = some (Go.TypeDesc.slice 117) := Tryz.underlying61
theorem fo117_0 : fieldOff Tryz.prog 117 0 = some 0 := by kernel_rfl
theorem cb104 : Callable Tryz.prog 104 := ⟨_, Tryz.func104, by kernel_rfl, by kernel_rfl⟩
theorem fo117_1 : fieldOff Tryz.prog 117 1 = some 4 := by kernel_rfl
theorem zz117 : zeroIs Tryz.prog 117 = some (.agg #[(.string .empty), (.string .empty), (.string .empty), (.bool false), (.int .i64 0), (.string .empty)]) := by kernel_rfl
theorem by117 : bytesIs Tryz.prog 117 = some 80 := by kernel_rfl
theorem pl117 : placesOf Tryz.prog 117 = some ([(0, 4), (4, 2)], (.agg #[(.string .empty), (.string .empty), (.string .empty), (.bool false), (.int .i64 0), (.string .empty)])) := by kernel_rfl
theorem cb28 : Callable Tryz.prog 28 := ⟨_, Tryz.func28, by kernel_rfl, by kernel_rfl⟩
theorem fo115_0 : fieldOff Tryz.prog 115 0 = some 0 := by kernel_rfl
theorem cb60 : Callable Tryz.prog 60 := ⟨_, Tryz.func60, by kernel_rfl, by kernel_rfl⟩
theorem zz34 : zeroIs Tryz.prog 34 = some (.agg #[(.string .empty), (.string .empty), (.string .empty), (.bool false)]) := by kernel_rfl
theorem pl115 : placesOf Tryz.prog 115 = some ([(0, 4), (4, 2)], (.agg #[(.string .empty), (.string .empty), (.string .empty), (.bool false), (.int .i64 0), (.string .empty)])) := by kernel_rfl
theorem und55 : Tryz.prog.underlying 55 = some (Go.TypeDesc.slice 115) := Tryz.underlying55
theorem zz115 : zeroIs Tryz.prog 115 = some (.agg #[(.string .empty), (.string .empty), (.string .empty), (.bool false), (.int .i64 0), (.string .empty)]) := by kernel_rfl
theorem by115 : bytesIs Tryz.prog 115 = some 80 := by kernel_rfl
theorem cb25 : Callable Tryz.prog 25 := ⟨_, Tryz.func25, by kernel_rfl, by kernel_rfl⟩
theorem cb107 : Callable Tryz.prog 107 := ⟨_, Tryz.func107, by kernel_rfl, by kernel_rfl⟩
theorem cb38 : Callable Tryz.prog 38 := ⟨_, Tryz.func38, by kernel_rfl, by kernel_rfl⟩
theorem cb37 : Callable Tryz.prog 37 := ⟨_, Tryz.func37, by kernel_rfl, by kernel_rfl⟩

namespace Csl
def numB (b : Bool) : Int := if b then 1 else 0
def cmpK (a b : K) : Int := orI (cmpS a.room b.room) (orI (cmpS a.user b.user) (orI (cmpS a.thread b.thread) (cmpI (numB a.priv) (numB b.priv))))
theorem cmpK_law : LawCmp cmpK := (cmpS_law.lex (cmpS_law.lex (cmpS_law.lex cmpI_law))).map (f := fun k : K => (k.room, k.user, k.thread, numB k.priv)) (fun a b h => by
  obtain ⟨a1, a2, a3, a4⟩ := a; obtain ⟨b1, b2, b3, b4⟩ := b
  simp only [Prod.mk.injEq] at h
  obtain ⟨rfl, rfl, rfl, h⟩ := h
  cases a4 <;> cases b4 <;> simp_all [numB])
def beforeK (a b : K) : Bool := if a.room ≠ b.room then Op.bytesLess (bl a.room) (bl b.room) else if a.user ≠ b.user then Op.bytesLess (bl a.user) (bl b.user) else if a.thread ≠ b.thread then Op.bytesLess (bl a.thread) (bl b.thread) else !a.priv && b.priv
theorem beforeK_cmp {a b : K} : beforeK a b = true ↔ cmpK a b < 0 := by
  unfold beforeK cmpK orI
  by_cases h1 : a.room = b.room
  · have z1 := (cmpS_law.eq0 a.room b.room).2 h1
    by_cases h2 : a.user = b.user
    · have z2 := (cmpS_law.eq0 a.user b.user).2 h2
      by_cases h3 : a.thread = b.thread
      · have z3 := (cmpS_law.eq0 a.thread b.thread).2 h3
        simp [h1, h2, h3, z1, z2, z3, (cmpS_law.eq0 b.room b.room).2 rfl, (cmpS_law.eq0 b.user b.user).2 rfl, (cmpS_law.eq0 b.thread b.thread).2 rfl]
        cases a.priv <;> cases b.priv <;> simp [numB, cmpI]
      · have z3 : cmpS a.thread b.thread ≠ 0 := fun e => h3 ((cmpS_law.eq0 _ _).1 e)
        simp [h1, h2, h3, z3, cmpS_lt, (cmpS_law.eq0 b.room b.room).2 rfl, (cmpS_law.eq0 b.user b.user).2 rfl]
    · have z2 : cmpS a.user b.user ≠ 0 := fun e => h2 ((cmpS_law.eq0 _ _).1 e)
      simp [h1, h2, z2, cmpS_lt, (cmpS_law.eq0 b.room b.room).2 rfl]
  · have z1 : cmpS a.room b.room ≠ 0 := fun e => h1 ((cmpS_law.eq0 _ _).1 e)
    simp [h1, z1, cmpS_lt]
abbrev eK (k : K) : Value := .agg (cK k).toArray
abbrev eP (p : Pos) : Value := .agg (cPos p).toArray
theorem mvalP (o : Option Pos) : mval eP (.agg #[.int .i64 0, .string .empty]) o = .agg (cPos (o.getD noPos)).toArray := by cases o <;> rfl
/-- A table of marks. -/
def Tb (p : Nat) (l : List (K × Pos)) : HProp := Ex (fun _ : Nat => True) (fun r => [row p 120 [.map (some r)], Mp r (menc eK eP l)])
def TbR (G : Gp) (p : Nat) (l : List (K × Pos)) : Prop := ∃ r, Ro G p 120 [.map (some r)] ∧ MpR G r (menc eK eP l)
theorem TbR.mono {G G' : Gp} {p : Nat} {l : List (K × Pos)} (h : Gp.le G G') (t : TbR G p l) : TbR G' p l := by
  obtain ⟨r, h1, h2⟩ := t; exact ⟨r, h1.mono h, h2.mono h⟩
theorem Lends.Tb {p : Nat} {l : List (K × Pos)} : Lends (Tb p l) (fun G => TbR G p l) := Lends.of fun G h q d => by
  obtain ⟨r, _, h1, h2, d', rfl, q1, h3, h4, d'', rfl, q2, q3⟩ := q
  have e3 : h4 = Hp.empty := q3
  subst e3
  rw [Hp.join_empty] at d d' ⊢
  exact ⟨r, Ro.in_join d (Ro.of_row q1 (Hp.disj_join.1 d).1), MpR.in_join d (MpR.of_mp q2 (Hp.disj_join.1 d).2) d'⟩
/-- What a table takes. -/
def adopts (l : List (K × Pos)) (k : K) (q : Pos) : Bool := match mget k l with
  | some o => decide (cmpPos o q < 0)
  | none => true
def tput (l : List (K × Pos)) (k : K) (q : Pos) : List (K × Pos) := if adopts l k q then mput k q l else l
def orZ (l : List Int) : Int := match l.find? (fun z => decide (z ≠ 0)) with
  | some z => z
  | none => 0
end Csl

set_option maxRecDepth 100000 in
theorem number_ctr {G : Gp} {b : Bool} :
    Ctr Tryz.prog G 101 [.bool b] [] (fun F v A => v = .int .i64 (numB b) ∧ A = F) := by
  refine Ctr.intro Tryz.func101 rfl (by kernel_rfl) rfl (fun F => ?_)
  simp only [List.nil_append]
  refine sr' (as' rfl (nl' (sq' (sr' (mv' rfl (nl' ?_))))))
  refine Run.cond rfl (fun h1 => ?_) (fun h1 => ?_)
  · try simp only [Z] at h1
    refine sr' (as' rfl (nl' ?_))
    exact rt' Tryz.func101 (res1 rfl rfl) (by exact ⟨by subst h1; rfl, rfl⟩)
  · try simp only [Z] at h1
    refine sk' (sr' (as' rfl (nl' ?_)))
    exact rt' Tryz.func101 (res1 rfl rfl) (by exact ⟨by subst h1; rfl, rfl⟩)

set_option maxRecDepth 100000 in
theorem Compare_ctr {G : Gp} {p q : K} :
    Ctr Tryz.prog G 61 [.agg (cK p).toArray, .agg (cK q).toArray] [] (fun F v A => v = .int .i64 (cmpK p q) ∧ A = F) := by
  refine Ctr.intro Tryz.func61 rfl (by kernel_rfl) rfl (fun F => ?_)
  simp only [List.nil_append]
  refine sr' ?_
  refine RunL.boxA (xs := (cK p)) rfl (Wt.none rfl) rfl ?_; intro b2
  refine RunL.boxA (xs := (cK q)) rfl (Wt.none rfl) rfl ?_; intro b3
  refine as' rfl (nl' (sq' ?_))
  refine Run.regionD' (by kernel_rfl) (by kernel_rfl) (fun hok6 => ?_)
  refine ld' (row b2 34 _) Lends.row ?_; intro g1 hleg1 hb1 backg1
  refine ld' (row b3 34 _) Lends.row ?_; intro g2 hleg2 hb2 backg2
  have hb1 := hb1.mono hleg2
  refine dp' 0 hok6 rfl (Pure.fieldAddr rfl fo34_0) (dl' 1 hok6 rfl rfl agg9 ?_)
  refine dp' 2 hok6 rfl (Pure.fieldAddr rfl fo34_0) (dl' 3 hok6 rfl rfl agg9 ?_)
  refine dp' 5 hok6 rfl (Pure.fieldAddr rfl fo34_1) (dl' 6 hok6 rfl rfl agg9 ?_)
  refine dp' 7 hok6 rfl (Pure.fieldAddr rfl fo34_1) (dl' 8 hok6 rfl rfl agg9 ?_)
  refine dp' 10 hok6 rfl (Pure.fieldAddr rfl fo34_2) (dl' 11 hok6 rfl rfl agg9 ?_)
  refine dp' 12 hok6 rfl (Pure.fieldAddr rfl fo34_2) (dl' 13 hok6 rfl rfl agg9 ?_)
  refine dp' 15 hok6 rfl (Pure.fieldAddr rfl fo34_3) (dl' 16 hok6 rfl rfl agg4 ?_)
  refine dp' 18 hok6 rfl (Pure.fieldAddr rfl fo34_3) (dl' 19 hok6 rfl rfl agg4 ?_)
  refine RunD.one (i := 4) (by kernel_rfl) rfl ?_
  refine ca' rfl rfl (s := cmpS_ctr) (q := ?_)
  rintro _ _ ⟨rfl, hA_⟩
  replace hA_ := hA_.symm; subst hA_
  refine RunL.nilD' ?_
  refine RunD.one (i := 9) (by kernel_rfl) rfl ?_
  refine ca' rfl rfl (s := cmpS_ctr) (q := ?_)
  rintro _ _ ⟨rfl, hA_⟩
  replace hA_ := hA_.symm; subst hA_
  refine RunL.nilD' ?_
  refine RunD.one (i := 14) (by kernel_rfl) rfl ?_
  refine ca' rfl rfl (s := cmpS_ctr) (q := ?_)
  rintro _ _ ⟨rfl, hA_⟩
  replace hA_ := hA_.symm; subst hA_
  refine RunL.nilD' ?_
  refine RunD.one (i := 17) (by kernel_rfl) rfl ?_
  refine ca' rfl rfl (s := number_ctr) (q := ?_)
  rintro _ _ ⟨rfl, hA_⟩
  replace hA_ := hA_.symm; subst hA_
  refine RunL.nilD' ?_
  refine RunD.one (i := 20) (by kernel_rfl) rfl ?_
  refine ca' rfl rfl (s := number_ctr) (q := ?_)
  rintro _ _ ⟨rfl, hA_⟩
  replace hA_ := hA_.symm; subst hA_
  refine RunL.nilD' ?_
  refine RunD.one (i := 21) (by kernel_rfl) rfl ?_
  refine ca' rfl rfl (s := cmpI_ctr) (q := ?_)
  rintro _ _ ⟨rfl, hA_⟩
  replace hA_ := hA_.symm; subst hA_
  refine RunL.nilD' ?_
  refine RunD.one (i := 22) (by kernel_rfl) rfl ?_
  refine RunL.lit (vals := [_, _, _, _]) (vs := [_, _, _, _]) und43 sz3 zz3 rfl rfl rfl rfl rfl rfl (by simp [Value.cells, bv, cDD, cEdu, cEvn, cGG, cK, cM, cNde, cPP, cPos, cSS, cVV]) rfl (Wt.none rfl) rfl ?_; intro b27
  refine RunL.nilD' ?_
  refine RunD.one (i := 23) (by kernel_rfl) rfl ?_
  refine ca' rfl rfl (s := Ctr.lend (R := fun G => SlR G 3 1 _ _ _ ∧ _ ≤ _) Lends.Sl cb98 (fun G' hle hr => Or_ctr (zs := [cmpS p.room q.room, cmpS p.user q.user, cmpS p.thread q.thread, cmpI (numB p.priv) (numB q.priv)]) hr.1 (by simp))) (q := ?_)
  rintro _ _ ⟨_, rfl, rfl, hA_⟩
  replace hA_ := hA_.symm; subst hA_
  refine RunL.nilD' ?_
  refine dp' 24 hok6 rfl (Pure.assign rfl) ?_
  refine RunD.nilB (by kernel_rfl) (fun w sw => backg1 _ _ (backg2 _ _ (sw))) ?_
  exact rt' Tryz.func61 (res1 rfl rfl) (by exact ⟨by simp only [orL, orI_zero]; rfl, rfl⟩)

set_option maxRecDepth 100000 in
theorem beforeK_ctr {G : Gp} {p q : K} :
    Ctr Tryz.prog G 105 [.agg (cK p).toArray, .agg (cK q).toArray] [] (fun F v A => v = .bool (beforeK p q) ∧ A = F) := by
  refine Ctr.intro Tryz.func105 rfl (by kernel_rfl) rfl (fun F => ?_)
  simp only [List.nil_append]
  refine sr' ?_
  refine RunL.boxA (xs := (cK p)) rfl (Wt.none rfl) rfl ?_; intro b2
  refine RunL.boxA (xs := (cK q)) rfl (Wt.none rfl) rfl ?_; intro b3
  refine as' rfl (nl' (sq' (sr' (pp' (Pure.fieldAddr rfl fo33_0) (l1' rfl agg9 ?_)))))
  refine pp' (Pure.fieldAddr rfl fo33_0) (l1' rfl agg9 ?_)
  refine pp' (Pure.sneq rfl rfl) (nl' ?_)
  refine Run.cond rfl (fun h1 => ?_) (fun h1 => ?_)
  · try simp only [Z] at h1
    refine sr' (pp' (Pure.fieldAddr rfl fo33_0) (l1' rfl agg9 ?_))
    refine pp' (Pure.fieldAddr rfl fo33_0) (l1' rfl agg9 ?_)
    refine pp' (Pure.slss rfl rfl) (as' rfl (nl' ?_))
    exact rt' Tryz.func105 (res1 rfl rfl) (by exact ⟨by rw [beforeK, if_pos (fun e => h1 (by rw [e]))], rfl⟩)
  · try simp only [Z] at h1
    replace h1 := bl_inj h1
    refine sk' (sq' (sr' (pp' (Pure.fieldAddr rfl fo33_1) (l1' rfl agg9 ?_))))
    refine pp' (Pure.fieldAddr rfl fo33_1) (l1' rfl agg9 ?_)
    refine pp' (Pure.sneq rfl rfl) (nl' ?_)
    refine Run.cond rfl (fun h2 => ?_) (fun h2 => ?_)
    · try simp only [Z] at h2
      refine sr' (pp' (Pure.fieldAddr rfl fo33_1) (l1' rfl agg9 ?_))
      refine pp' (Pure.fieldAddr rfl fo33_1) (l1' rfl agg9 ?_)
      refine pp' (Pure.slss rfl rfl) (as' rfl (nl' ?_))
      exact rt' Tryz.func105 (res1 rfl rfl) (by exact ⟨by rw [beforeK, if_neg (fun e => e h1), if_pos (fun e => h2 (by rw [e]))], rfl⟩)
    · try simp only [Z] at h2
      replace h2 := bl_inj h2
      refine sk' (sq' (sr' (pp' (Pure.fieldAddr rfl fo33_2) (l1' rfl agg9 ?_))))
      refine pp' (Pure.fieldAddr rfl fo33_2) (l1' rfl agg9 ?_)
      refine pp' (Pure.sneq rfl rfl) (nl' ?_)
      refine Run.cond rfl (fun h3 => ?_) (fun h3 => ?_)
      · try simp only [Z] at h3
        refine sr' (pp' (Pure.fieldAddr rfl fo33_2) (l1' rfl agg9 ?_))
        refine pp' (Pure.fieldAddr rfl fo33_2) (l1' rfl agg9 ?_)
        refine pp' (Pure.slss rfl rfl) (as' rfl (nl' ?_))
        exact rt' Tryz.func105 (res1 rfl rfl) (by exact ⟨by rw [beforeK, if_neg (fun e => e h1), if_neg (fun e => e h2), if_pos (fun e => h3 (by rw [e]))], rfl⟩)
      · try simp only [Z] at h3
        replace h3 := bl_inj h3
        refine sk' (sr' (pp' (Pure.fieldAddr rfl fo33_3) (l1' rfl agg4 ?_)))
        refine pp' (Pure.not rfl) (mv' rfl ?_)
        refine RunL.split (d := 38) rfl (fun h4 => ?_) (fun h4 => ?_)
        · try simp only [Z] at h4
          refine py' (Pure.fieldAddr rfl fo33_3) (l1' rfl agg4 ?_)
          refine pp' (Pure.pickT rfl rfl) (as' rfl (nl' ?_))
          exact rt' Tryz.func105 (res1 rfl rfl) (by exact ⟨by rw [beforeK, if_neg (fun e => e h1), if_neg (fun e => e h2), if_neg (fun e => e h3), h4]; rfl, rfl⟩)
        · try simp only [Z] at h4
          refine no' (no' (pp' (Pure.pickF rfl rfl) (as' rfl (nl' ?_))))
          exact rt' Tryz.func105 (res1 rfl rfl) (by exact ⟨by rw [beforeK, if_neg (fun e => e h1), if_neg (fun e => e h2), if_neg (fun e => e h3), h4]; rfl, rfl⟩)

end Go.Proofs.YtaaondbmkibkkaaGreat
