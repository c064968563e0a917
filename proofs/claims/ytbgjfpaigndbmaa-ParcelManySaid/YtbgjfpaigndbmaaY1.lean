/- What is written. -/
import Derived.Test.YtbgjfpaigndbmaaN3
set_option linter.unusedVariables false
set_option linter.unusedSimpArgs false
set_option linter.unusedSectionVars false
namespace Go.Proofs.Ytbgjfpaigndbmaa
open Go Csl
theorem by5 : bytesIs Try.prog 5 = some 1 := by kernel_rfl
theorem cb31 : Callable Try.prog 31 := ⟨_, Try.func31, by kernel_rfl, by kernel_rfl⟩
theorem cb30 : Callable Try.prog 30 := ⟨_, Try.func30, by kernel_rfl, by kernel_rfl⟩
theorem cb29 : Callable Try.prog 29 := ⟨_, Try.func29, by kernel_rfl, by kernel_rfl⟩
theorem fo85_1 : fieldOff Try.prog 85 1 = some 1 := by kernel_rfl
theorem agg30 : isAggOf Try.prog 30 = some false := by kernel_rfl
theorem fo85_0 : fieldOff Try.prog 85 0 = some 0 := by kernel_rfl
theorem sz29 : sizeIs Try.prog 29 = some 1 := by kernel_rfl
theorem sz30 : sizeIs Try.prog 30 = some 1 := by kernel_rfl
theorem agg29 : isAggOf Try.prog 29 = some false := by kernel_rfl
theorem agg5 : isAggOf Try.prog 5 = some false := by kernel_rfl
theorem pl85 : placesOf Try.prog 85 = some ([(0, 1), (1, 1)], (.agg #[(.slice none 0 0), (.int .i64 0)])) := by kernel_rfl
theorem fo79_2 : fieldOff Try.prog 79 2 = some 2 := by kernel_rfl
theorem fo79_1 : fieldOff Try.prog 79 1 = some 1 := by kernel_rfl
theorem fo79_0 : fieldOff Try.prog 79 0 = some 0 := by kernel_rfl
theorem sz3 : sizeIs Try.prog 3 = some 1 := by kernel_rfl

namespace Csl
/-! ### The numbers' bytes -/
def numN (n : Nat) : List UInt8 := if h : n < 128 then [UInt8.ofNat n] else UInt8.ofNat (n % 128 + 128) :: numN (n / 128)
termination_by n
decreasing_by omega
theorem numN_small {n : Nat} (h : n < 128) : numN n = [UInt8.ofNat n] := by rw [numN, dif_pos h]
theorem numN_big {n : Nat} (h : 128 ≤ n) : numN n = UInt8.ofNat (n % 128 + 128) :: numN (n / 128) := by rw [numN, dif_neg (by omega)]
theorem numN_pos (n : Nat) : 0 < (numN n).length := by rw [numN]; split <;> simp
theorem numN_len (k : Nat) : ∀ n, n < 128 ^ (k + 1) → (numN n).length ≤ k + 1 := by
  induction k with
  | zero => intro n h; rw [numN_small (by simpa using h)]; simp
  | succ k ih =>
    intro n h
    by_cases h1 : n < 128
    · rw [numN_small h1]; simp
    · rw [numN_big (by omega)]
      have : n / 128 < 128 ^ (k + 1) := by rw [Nat.div_lt_iff_lt_mul (by decide)]; rw [Nat.pow_succ] at h; exact h
      have := ih _ this
      simp; omega
theorem numN_le (n : Nat) (h : n ≤ 9223372036854775807) : (numN n).length ≤ 9 := numN_len 8 n (by have : (128 : Nat) ^ (8 + 1) = 9223372036854775808 := (by decide); rw [this]; omega)
theorem bv_small {z : Int} (h0 : 0 ≤ z) (h : z < 128) : [Value.int .u8 z] = (numN z.toNat).map bv := by
  rw [numN_small (by omega)]
  simp only [List.map_cons, List.map_nil, bv]
  have : ((UInt8.ofNat z.toNat).toNat : Int) = z := by rw [UInt8.toNat_ofNat_of_lt' (by simp [UInt8.size]; omega)]; omega
  rw [this]
theorem bv_low {z : Int} (h0 : 0 ≤ z) : [Value.int .u8 (z % 128 + 128)] = [UInt8.ofNat (z.toNat % 128 + 128)].map bv := by
  simp only [List.map_cons, List.map_nil, bv]
  have : ((UInt8.ofNat (z.toNat % 128 + 128)).toNat : Int) = z % 128 + 128 := by rw [UInt8.toNat_ofNat_of_lt' (by simp [UInt8.size]; omega)]; omega
  rw [this]
theorem bv_low' {z : Int} (h0 : 0 ≤ z) : [Value.int .u8 (128 + z % 128)] = [UInt8.ofNat (z.toNat % 128 + 128)].map bv := by rw [← bv_low h0, Int.add_comm]
theorem numN_step {z : Int} (h0 : 128 ≤ z) : numN z.toNat = UInt8.ofNat (z.toNat % 128 + 128) :: numN (z / 128).toNat := by
  rw [numN_big (by omega)]; congr 2; omega
theorem isOne_bv (bs : List UInt8) : ∀ u ∈ bs.map bv, u.isOne = true := by
  intro u hu; obtain ⟨b, _, rfl⟩ := List.mem_map.1 hu; rfl
theorem SlR.cut {G : Gp} {T : TypeId} {a : Option Addr} {bs : List UInt8} (m : Nat) (h : SlR G T 1 a bs.length (bs.map bv)) : SlR G T 1 a (bs.take m).length ((bs.take m).map bv) := by
  rcases h with ⟨h1, h2⟩ | ⟨b, T1, pre, post, rfl, h2, h3⟩
  · left
    have : bs = [] := by simpa using h2
    subst this; simp
  · right
    refine ⟨b, T1, pre, (bs.drop m).map bv ++ post, rfl, by simp, ?_⟩
    have e : pre ++ (bs.take m).map bv ++ ((bs.drop m).map bv ++ post) = pre ++ bs.map bv ++ post := by
      rw [List.append_assoc, List.append_assoc, ← List.append_assoc ((bs.take m).map bv), ← List.map_append, List.take_append_drop]
    rw [e]; exact h3
/-- A fresh row of bytes. -/
def Fresh (T : TypeId) (bs : List UInt8) : Post := fun F v A => ∃ a c, v = .slice a bs.length c ∧ A = Sl T 1 a bs.length c (bs.map bv) :: F
end Csl

set_option maxRecDepth 100000 in
theorem Number_ctr {G : Gp} {a : Option Addr} {bs : List UInt8} {cap : Nat} {z : Int} (h : SlR G 5 1 a bs.length (bs.map bv)) (hc : bs.length ≤ cap) (hb : bs.length ≤ 1000000) (hz : -9223372036854775808 ≤ z ∧ z ≤ 9223372036854775807) :
    Ctr Try.prog G 31 [.slice a bs.length cap, .int .i64 z] [] (Fresh 5 (bs ++ numN z.toNat)) := by
  refine Ctr.intro Try.func31 rfl (by kernel_rfl) rfl (fun F => ?_)
  simp only [List.nil_append]
  refine Run.sr ?_
  refine RunL.as rfl rfl ?_
  refine RunL.nil ?_
  refine Run.sr ?_
  refine RunL.mv rfl rfl ?_
  refine RunL.pure (Pure.max2 rfl rfl) (Wt.none rfl) rfl rfl ?_
  refine RunL.as rfl rfl ?_
  refine RunL.nil ?_
  refine Run.sr ?_
  refine RunL.mv rfl rfl ?_
  refine RunL.mv rfl rfl ?_
  refine RunL.pure (Pure.lenSl rfl rfl und29) (Wt.none rfl) rfl rfl ?_
  refine RunL.mv rfl rfl ?_
  refine RunL.pure (Pure.lenSl rfl rfl und29) (Wt.none rfl) rfl rfl ?_
  refine RunL.pure (Pure.sliceTo3 rfl rfl rfl und29 sz5 (by first | omega | (simp; done) | (simp; omega)) (by first | omega | (simp; done) | (simp; omega)) (by first | omega | (simp; done) | (simp; omega))) (Wt.none rfl) rfl rfl ?_
  refine RunL.as rfl rfl ?_
  refine RunL.nil ?_
  refine Run.seq ?_
  refine Run.block ?_
  refine Run.keep (.cons rfl (.cons rfl (.nil)) : Keep _ [0, 1] _) ?_
  refine Run.loopR (fun n e A => ∃ (y : Int) (acc : List UInt8) (v : Value), 0 ≤ y ∧ y ≤ 9223372036854775807 ∧ n = y.toNat ∧ acc ++ numN y.toNat = bs ++ numN z.toNat ∧ e = [(0, v), (1, .int .i64 y)] ∧ ((v = .slice a bs.length bs.length ∧ acc = bs ∧ F = A) ∨ ∃ a1 c1, v = .slice a1 acc.length c1 ∧ A = Sl 5 1 a1 acc.length c1 (acc.map bv) :: F)) ((max z 0).toNat) ⟨max z 0, bs, _, by omega, by omega, rfl, by congr 2; omega, rfl, .inl ⟨rfl, rfl, rfl⟩⟩ ?_
  rintro n _ _ ⟨y, acc, v, hy0, hy1, rfl, heq, rfl, hC⟩ ih
  have hlen := congrArg List.length heq; simp only [List.length_append] at hlen; have hp := numN_pos y.toNat; have hz9 := numN_le z.toNat (by omega)
  rcases hC with ⟨rfl, rfl, rfl⟩ | ⟨a2, c2, rfl, rfl⟩
  · skip
    refine Run.seq ?_
    refine Run.sr ?_
    refine RunL.mv rfl rfl ?_
    refine RunL.pure (Pure.geq rfl rfl) (Wt.none rfl) rfl rfl ?_
    refine RunL.nil ?_
    refine Run.cond rfl (fun hge => ?_) (fun hge => ?_)
    · try simp only [ZA, ZB, ZC, ZD, ZE, ZF, ZG, ZH, ZI, ZJ, ZK, ZL, ZM, ZN, ZO, ZP, ZQ, ZR] at hge
      refine Run.skip ?_
      refine Run.seq ?_
      refine Run.block ?_
      refine Run.region ?_
      refine RunL.mv rfl rfl ?_
      refine RunL.mv rfl rfl ?_
      first | refine RunL.pure (Pure.remI rfl rfl (by omega) (by omega)) (Wt.none rfl) rfl rfl ?_ | refine RunL.pure (Pure.rem rfl rfl (by omega)) (Wt.none rfl) rfl rfl ?_
      first | refine RunL.pure (Pure.addI rfl rfl (by omega)) (Wt.none rfl) rfl rfl ?_ | refine RunL.pure (Pure.add rfl rfl) (Wt.none rfl) rfl rfl ?_
      first | refine RunL.pure (Pure.convId und3 und5 rfl (by first | exact wrap_i64 (by omega) (by omega) | exact wrap_u8 (by omega) (by omega) | exact wrap_i32 (by omega) (by omega))) (Wt.none rfl) rfl rfl ?_ | refine RunL.pure (Pure.convInt und3 und5 rfl) (Wt.none rfl) rfl rfl ?_
      refine RunL.lit (vals := [_]) (vs := [_]) und29 sz5 zz5 rfl rfl rfl rfl rfl rfl (by simp [Value.cells, bv, cEdu, cPrc]) rfl (Wt.none rfl) rfl ?_; intro b22
      refine RunL.appendN (n' := (acc ++ [UInt8.ofNat (y.toNat % 128 + 128)]).length) (cs' := ((acc ++ [UInt8.ofNat (y.toNat % 128 + 128)]).map bv)) rfl rfl rfl rfl und29 und29 rfl sz5 zz5 rfl by5 (by omega) (by omega) (by omega) (fun w sw => h.src sw) (fun w sw => sw.src) (by simp) (by rw [List.map_append, ← bv_low hy0]) (Wt.none rfl) rfl ?_; intro a1 c1
      refine RunL.as rfl rfl ?_
      refine RunL.nil ?_
      refine Run.inBlock ?_
      refine Run.region ?_
      refine RunL.mv rfl rfl ?_
      first | refine RunL.pure (Pure.quoI rfl rfl (by omega) (by omega) (by omega)) (Wt.none rfl) rfl rfl ?_ | refine RunL.pure (Pure.quo rfl rfl (by omega)) (Wt.none rfl) rfl rfl ?_
      refine RunL.as rfl rfl ?_
      refine RunL.nil ?_
      refine Run.keep (.cons rfl (.cons rfl (.nil)) : Keep _ [0, 1] _) ?_
      refine Run.fit (F := F) (A2 := (Sl 5 1 a1 (acc ++ [UInt8.ofNat (y.toNat % 128 + 128)]).length c1 ((acc ++ [UInt8.ofNat (y.toNat % 128 + 128)]).map bv) :: F)) (by repeat (first | (with_reducible exact Fin.done (by repeat (first | (with_reducible exact Rest.here) | apply Rest.there))) | (apply Fin.cons (by first | ((repeat (first | (with_reducible exact F0 _) | apply F1)); done) | (repeat (first | exact F0 _ | apply F1)))))) ?_
      refine ih _ _ _ ?_ ⟨y / 128, _, _, by omega, by omega, rfl, by rw [List.append_assoc, List.singleton_append, ← numN_step hge]; exact heq, rfl, .inr ⟨_, _, rfl, rfl⟩⟩
      omega
    · try simp only [ZA, ZB, ZC, ZD, ZE, ZF, ZG, ZH, ZI, ZJ, ZK, ZL, ZM, ZN, ZO, ZP, ZQ, ZR] at hge
      have hlt := hge
      refine Run.exit rfl ?_
      refine Run.sr ?_
      refine RunL.mv rfl rfl ?_
      refine RunL.mv rfl rfl ?_
      first | refine RunL.pure (Pure.convId und3 und5 rfl (by first | exact wrap_i64 (by omega) (by omega) | exact wrap_u8 (by omega) (by omega) | exact wrap_i32 (by omega) (by omega))) (Wt.none rfl) rfl rfl ?_ | refine RunL.pure (Pure.convInt und3 und5 rfl) (Wt.none rfl) rfl rfl ?_
      refine RunL.lit (vals := [_]) (vs := [_]) und29 sz5 zz5 rfl rfl rfl rfl rfl rfl (by simp [Value.cells, bv, cEdu, cPrc]) rfl (Wt.none rfl) rfl ?_; intro b27
      refine RunL.appendN (n' := (acc ++ numN y.toNat).length) (cs' := ((acc ++ numN y.toNat).map bv)) rfl rfl rfl rfl und29 und29 rfl sz5 zz5 rfl by5 (by omega) (by omega) (by omega) (fun w sw => h.src sw) (fun w sw => sw.src) (by rw [numN_small (by omega)]; simp) (by rw [List.map_append, ← bv_small hy0 hlt]) (Wt.none rfl) rfl ?_; intro a1 c1
      refine RunL.as rfl rfl ?_
      refine RunL.nil ?_
      rw [heq]
      exact Run.ret Try.func31 (res1 rfl rfl) (by exact ⟨_, _, rfl, rfl⟩) (by repeat (first | (with_reducible exact Fin.done (by repeat (first | (with_reducible exact Rest.here) | apply Rest.there))) | (apply Fin.cons (by first | ((repeat (first | (with_reducible exact F0 _) | apply F1)); done) | (repeat (first | exact F0 _ | apply F1))))))
  · skip
    refine Run.seq ?_
    refine Run.sr ?_
    refine RunL.mv rfl rfl ?_
    refine RunL.pure (Pure.geq rfl rfl) (Wt.none rfl) rfl rfl ?_
    refine RunL.nil ?_
    refine Run.cond rfl (fun hge => ?_) (fun hge => ?_)
    · try simp only [ZA, ZB, ZC, ZD, ZE, ZF, ZG, ZH, ZI, ZJ, ZK, ZL, ZM, ZN, ZO, ZP, ZQ, ZR] at hge
      refine Run.skip ?_
      refine Run.seq ?_
      refine Run.block ?_
      refine Run.region ?_
      refine RunL.mv rfl rfl ?_
      refine RunL.mv rfl rfl ?_
      first | refine RunL.pure (Pure.remI rfl rfl (by omega) (by omega)) (Wt.none rfl) rfl rfl ?_ | refine RunL.pure (Pure.rem rfl rfl (by omega)) (Wt.none rfl) rfl rfl ?_
      first | refine RunL.pure (Pure.addI rfl rfl (by omega)) (Wt.none rfl) rfl rfl ?_ | refine RunL.pure (Pure.add rfl rfl) (Wt.none rfl) rfl rfl ?_
      first | refine RunL.pure (Pure.convId und3 und5 rfl (by first | exact wrap_i64 (by omega) (by omega) | exact wrap_u8 (by omega) (by omega) | exact wrap_i32 (by omega) (by omega))) (Wt.none rfl) rfl rfl ?_ | refine RunL.pure (Pure.convInt und3 und5 rfl) (Wt.none rfl) rfl rfl ?_
      refine RunL.lit (vals := [_]) (vs := [_]) und29 sz5 zz5 rfl rfl rfl rfl rfl rfl (by simp [Value.cells, bv, cEdu, cPrc]) rfl (Wt.none rfl) rfl ?_; intro b22
      refine RunL.append (n' := (acc ++ [UInt8.ofNat (y.toNat % 128 + 128)]).length) (cs' := ((acc ++ [UInt8.ofNat (y.toNat % 128 + 128)]).map bv)) rfl rfl (by first | ((repeat (first | (with_reducible exact F0 _) | apply F1)); done) | (repeat (first | exact F0 _ | apply F1))) rfl rfl und29 und29 rfl sz5 zz5 rfl by5 (by omega) (by omega) (fun w sw => sw.src) (by simp [Value.isOne]) (by simp) (by rw [List.map_append, ← bv_low hy0]) (Wt.none rfl) rfl ?_; intro a1 c1
      refine RunL.as rfl rfl ?_
      refine RunL.nil ?_
      refine Run.inBlock ?_
      refine Run.region ?_
      refine RunL.mv rfl rfl ?_
      first | refine RunL.pure (Pure.quoI rfl rfl (by omega) (by omega) (by omega)) (Wt.none rfl) rfl rfl ?_ | refine RunL.pure (Pure.quo rfl rfl (by omega)) (Wt.none rfl) rfl rfl ?_
      refine RunL.as rfl rfl ?_
      refine RunL.nil ?_
      refine Run.keep (.cons rfl (.cons rfl (.nil)) : Keep _ [0, 1] _) ?_
      refine Run.fit (F := F) (A2 := (Sl 5 1 a1 (acc ++ [UInt8.ofNat (y.toNat % 128 + 128)]).length c1 ((acc ++ [UInt8.ofNat (y.toNat % 128 + 128)]).map bv) :: F)) (by repeat (first | (with_reducible exact Fin.done (by repeat (first | (with_reducible exact Rest.here) | apply Rest.there))) | (apply Fin.cons (by first | ((repeat (first | (with_reducible exact F0 _) | apply F1)); done) | (repeat (first | exact F0 _ | apply F1)))))) ?_
      refine ih _ _ _ ?_ ⟨y / 128, _, _, by omega, by omega, rfl, by rw [List.append_assoc, List.singleton_append, ← numN_step hge]; exact heq, rfl, .inr ⟨_, _, rfl, rfl⟩⟩
      omega
    · try simp only [ZA, ZB, ZC, ZD, ZE, ZF, ZG, ZH, ZI, ZJ, ZK, ZL, ZM, ZN, ZO, ZP, ZQ, ZR] at hge
      have hlt := hge
      refine Run.exit rfl ?_
      refine Run.sr ?_
      refine RunL.mv rfl rfl ?_
      refine RunL.mv rfl rfl ?_
      first | refine RunL.pure (Pure.convId und3 und5 rfl (by first | exact wrap_i64 (by omega) (by omega) | exact wrap_u8 (by omega) (by omega) | exact wrap_i32 (by omega) (by omega))) (Wt.none rfl) rfl rfl ?_ | refine RunL.pure (Pure.convInt und3 und5 rfl) (Wt.none rfl) rfl rfl ?_
      refine RunL.lit (vals := [_]) (vs := [_]) und29 sz5 zz5 rfl rfl rfl rfl rfl rfl (by simp [Value.cells, bv, cEdu, cPrc]) rfl (Wt.none rfl) rfl ?_; intro b27
      refine RunL.append (n' := (acc ++ numN y.toNat).length) (cs' := ((acc ++ numN y.toNat).map bv)) rfl rfl (by first | ((repeat (first | (with_reducible exact F0 _) | apply F1)); done) | (repeat (first | exact F0 _ | apply F1))) rfl rfl und29 und29 rfl sz5 zz5 rfl by5 (by omega) (by omega) (fun w sw => sw.src) (by simp [Value.isOne]) (by rw [numN_small (by omega)]; simp) (by rw [List.map_append, ← bv_small hy0 hlt]) (Wt.none rfl) rfl ?_; intro a1 c1
      refine RunL.as rfl rfl ?_
      refine RunL.nil ?_
      rw [heq]
      exact Run.ret Try.func31 (res1 rfl rfl) (by exact ⟨_, _, rfl, rfl⟩) (by repeat (first | (with_reducible exact Fin.done (by repeat (first | (with_reducible exact Rest.here) | apply Rest.there))) | (apply Fin.cons (by first | ((repeat (first | (with_reducible exact F0 _) | apply F1)); done) | (repeat (first | exact F0 _ | apply F1))))))

set_option maxRecDepth 100000 in
theorem Text_ctr {G : Gp} {a : Option Addr} {bs : List UInt8} {cap : Nat} (h : SlR G 5 1 a bs.length (bs.map bv)) (hc : bs.length ≤ cap) (hb : bs.length ≤ 1000000) {s : ByteArray} (hs : s.size ≤ 1000000) :
    Ctr Try.prog G 30 [.slice a bs.length cap, .string s] [] (Fresh 5 (bs ++ numN s.size ++ bl s)) := by
  refine Ctr.intro Try.func30 rfl (by kernel_rfl) rfl (fun F => ?_)
  simp only [List.nil_append]
  refine Run.sr ?_
  refine RunL.as rfl rfl ?_
  refine RunL.nil ?_
  refine Run.sr ?_
  refine RunL.mv rfl rfl ?_
  refine RunL.mv rfl rfl ?_
  refine RunL.pure (Pure.lenStr rfl rfl und9) (Wt.none rfl) rfl rfl ?_
  refine RunL.call rfl rfl (by rfl) (by repeat (first | (with_reducible exact Take.nil _) | (apply Take.cons (by first | ((repeat (first | (with_reducible exact F0 _) | apply F1)); done) | (repeat (first | exact F0 _ | apply F1)))))) (Number_ctr (z := s.size) h hc hb (by omega)) (Wt.none rfl) rfl ?_
  rintro _ _ ⟨a2, c2, rfl, hA_⟩
  replace hA_ := hA_.symm; subst hA_
  have hn9 := numN_le s.size (by omega)
  have hl : (bs ++ numN (s.size : Int).toNat).length = bs.length + (numN s.size).length := by simp
  refine RunL.mv rfl rfl ?_
  refine RunL.append (n' := (bs ++ numN s.size ++ bl s).length) (cs' := ((bs ++ numN s.size ++ bl s).map bv)) rfl rfl (by first | ((repeat (first | (with_reducible exact F0 _) | apply F1)); done) | (repeat (first | exact F0 _ | apply F1))) rfl rfl und29 und9 rfl sz5 zz5 rfl by5 (by rw [hl]; omega) (by rw [hl]; omega) (fun w sw => Src.str s) (isOne_bv _) (by simp [bl_length]; omega) (by simp [bl]) (Wt.none rfl) rfl ?_; intro a1 c1
  refine RunL.as rfl rfl ?_
  refine RunL.nil ?_
  exact Run.ret Try.func30 (res1 rfl rfl) (by exact ⟨_, _, rfl, rfl⟩) (by repeat (first | (with_reducible exact Fin.done (by repeat (first | (with_reducible exact Rest.here) | apply Rest.there))) | (apply Fin.cons (by first | ((repeat (first | (with_reducible exact F0 _) | apply F1)); done) | (repeat (first | exact F0 _ | apply F1))))))

set_option maxRecDepth 100000 in
theorem Flag_ctr {G : Gp} {a : Option Addr} {bs : List UInt8} {cap : Nat} (h : SlR G 5 1 a bs.length (bs.map bv)) (hc : bs.length ≤ cap) (hb : bs.length ≤ 1000000) {is : Bool} :
    Ctr Try.prog G 29 [.slice a bs.length cap, .bool is] [] (Fresh 5 (bs ++ [if is then 1 else 0])) := by
  refine Ctr.intro Try.func29 rfl (by kernel_rfl) rfl (fun F => ?_)
  simp only [List.nil_append]
  refine Run.sr ?_
  refine RunL.as rfl rfl ?_
  refine RunL.nil ?_
  refine Run.seq ?_
  refine Run.sr ?_
  refine RunL.mv rfl rfl ?_
  refine RunL.nil ?_
  refine Run.cond rfl (fun hc1 => ?_) (fun hc1 => ?_)
  · try simp only [ZA, ZB, ZC, ZD, ZE, ZF, ZG, ZH, ZI, ZJ, ZK, ZL, ZM, ZN, ZO, ZP, ZQ, ZR] at hc1
    subst hc1
    refine Run.sr ?_
    refine RunL.mv rfl rfl ?_
    refine RunL.call rfl rfl (by rfl) (by repeat (first | (with_reducible exact Take.nil _) | (apply Take.cons (by first | ((repeat (first | (with_reducible exact F0 _) | apply F1)); done) | (repeat (first | exact F0 _ | apply F1)))))) (Number_ctr (z := 1) h hc hb (by omega)) (Wt.none rfl) rfl ?_
    rintro _ _ ⟨a2, c2, rfl, hA_⟩
    replace hA_ := hA_.symm; subst hA_
    refine RunL.as rfl rfl ?_
    refine RunL.nil ?_
    rw [show numN (1 : Int).toNat = [1] from by rw [numN_small (by decide)]; rfl]
    exact Run.ret Try.func29 (res1 rfl rfl) (by exact ⟨_, _, rfl, rfl⟩) (by repeat (first | (with_reducible exact Fin.done (by repeat (first | (with_reducible exact Rest.here) | apply Rest.there))) | (apply Fin.cons (by first | ((repeat (first | (with_reducible exact F0 _) | apply F1)); done) | (repeat (first | exact F0 _ | apply F1))))))
  · try simp only [ZA, ZB, ZC, ZD, ZE, ZF, ZG, ZH, ZI, ZJ, ZK, ZL, ZM, ZN, ZO, ZP, ZQ, ZR] at hc1
    subst hc1
    refine Run.skip ?_
    refine Run.sr ?_
    refine RunL.mv rfl rfl ?_
    refine RunL.call rfl rfl (by rfl) (by repeat (first | (with_reducible exact Take.nil _) | (apply Take.cons (by first | ((repeat (first | (with_reducible exact F0 _) | apply F1)); done) | (repeat (first | exact F0 _ | apply F1)))))) (Number_ctr (z := 0) h hc hb (by omega)) (Wt.none rfl) rfl ?_
    rintro _ _ ⟨a2, c2, rfl, hA_⟩
    replace hA_ := hA_.symm; subst hA_
    refine RunL.as rfl rfl ?_
    refine RunL.nil ?_
    rw [show numN (0 : Int).toNat = [0] from by rw [numN_small (by decide)]; rfl]
    exact Run.ret Try.func29 (res1 rfl rfl) (by exact ⟨_, _, rfl, rfl⟩) (by repeat (first | (with_reducible exact Fin.done (by repeat (first | (with_reducible exact Rest.here) | apply Rest.there))) | (apply Fin.cons (by first | ((repeat (first | (with_reducible exact F0 _) | apply F1)); done) | (repeat (first | exact F0 _ | apply F1))))))

set_option maxRecDepth 100000 in
theorem RNumber_aux {G : Gp} (N : Nat) : ∀ (z : Int) (hN : z.toNat < N) (hz0 : -9223372036854775808 ≤ z) (hz1 : z ≤ 9223372036854775807),
    Ctr Try.prog G 39 [.int .i64 z] [] (Fresh 5 (numN z.toNat)) := by
  induction N with
  | zero => intro z hN; omega
  | succ N ih =>
    intro z hN hz0 hz1
    refine Ctr.intro Try.func39 rfl (by kernel_rfl) rfl (fun F => ?_)
    simp only [List.nil_append]
    refine Run.sr ?_
    refine RunL.as rfl rfl ?_
    refine RunL.nil ?_
    refine Run.seq ?_
    refine Run.sr ?_
    refine RunL.mv rfl rfl ?_
    refine RunL.pure (Pure.lss rfl rfl) (Wt.none rfl) rfl rfl ?_
    refine RunL.nil ?_
    refine Run.cond rfl (fun hc1 => ?_) (fun hc1 => ?_)
    · try simp only [ZA, ZB, ZC, ZD, ZE, ZF, ZG, ZH, ZI, ZJ, ZK, ZL, ZM, ZN, ZO, ZP, ZQ, ZR] at hc1
      refine Run.region ?_
      refine RunL.as rfl rfl ?_
      refine RunL.nil ?_
      refine Run.seq ?_
      refine Run.sr ?_
      refine RunL.mv rfl rfl ?_
      refine RunL.pure (Pure.lss rfl rfl) (Wt.none rfl) rfl rfl ?_
      refine RunL.nil ?_
      refine Run.cond rfl (fun hc2 => ?_) (fun hc2 => ?_)
      · try simp only [ZA, ZB, ZC, ZD, ZE, ZF, ZG, ZH, ZI, ZJ, ZK, ZL, ZM, ZN, ZO, ZP, ZQ, ZR] at hc2
        refine Run.sr ?_
        refine RunL.mv rfl rfl ?_
        first | refine RunL.pure (Pure.convId und3 und5 rfl (by first | exact wrap_i64 (by omega) (by omega) | exact wrap_u8 (by omega) (by omega) | exact wrap_i32 (by omega) (by omega))) (Wt.none rfl) rfl rfl ?_ | refine RunL.pure (Pure.convInt und3 und5 rfl) (Wt.none rfl) rfl rfl ?_
        refine RunL.lit (vals := [_]) (vs := [_]) und29 sz5 zz5 rfl rfl rfl rfl rfl rfl (by simp [Value.cells, bv, cEdu, cPrc]) rfl (Wt.none rfl) rfl ?_; intro b10
        refine RunL.as rfl rfl ?_
        refine RunL.nil ?_
        rw [show z.toNat = 0 from by omega, show numN 0 = [0] from by rw [numN_small (by decide)]; rfl]
        exact Run.ret Try.func39 (res1 rfl rfl) (by exact ⟨_, _, rfl, rfl⟩) (by repeat (first | (with_reducible exact Fin.done (by repeat (first | (with_reducible exact Rest.here) | apply Rest.there))) | (apply Fin.cons (by first | ((repeat (first | (with_reducible exact F0 _) | apply F1)); done) | (repeat (first | exact F0 _ | apply F1))))))
      · try simp only [ZA, ZB, ZC, ZD, ZE, ZF, ZG, ZH, ZI, ZJ, ZK, ZL, ZM, ZN, ZO, ZP, ZQ, ZR] at hc2
        exfalso; simp at hc2
    · try simp only [ZA, ZB, ZC, ZD, ZE, ZF, ZG, ZH, ZI, ZJ, ZK, ZL, ZM, ZN, ZO, ZP, ZQ, ZR] at hc1
      refine Run.skip ?_
      refine Run.seq ?_
      refine Run.sr ?_
      refine RunL.mv rfl rfl ?_
      refine RunL.pure (Pure.lss rfl rfl) (Wt.none rfl) rfl rfl ?_
      refine RunL.nil ?_
      refine Run.cond rfl (fun hc3 => ?_) (fun hc3 => ?_)
      · try simp only [ZA, ZB, ZC, ZD, ZE, ZF, ZG, ZH, ZI, ZJ, ZK, ZL, ZM, ZN, ZO, ZP, ZQ, ZR] at hc3
        refine Run.sr ?_
        refine RunL.mv rfl rfl ?_
        first | refine RunL.pure (Pure.convId und3 und5 rfl (by first | exact wrap_i64 (by omega) (by omega) | exact wrap_u8 (by omega) (by omega) | exact wrap_i32 (by omega) (by omega))) (Wt.none rfl) rfl rfl ?_ | refine RunL.pure (Pure.convInt und3 und5 rfl) (Wt.none rfl) rfl rfl ?_
        refine RunL.lit (vals := [_]) (vs := [_]) und29 sz5 zz5 rfl rfl rfl rfl rfl rfl (by simp [Value.cells, bv, cEdu, cPrc]) rfl (Wt.none rfl) rfl ?_; intro b10
        refine RunL.as rfl rfl ?_
        refine RunL.nil ?_
        exact Run.ret Try.func39 (res1 rfl rfl) (by exact ⟨some ⟨b10, 0, none⟩, 1, by rw [numN_small (by omega)]; rfl, by rw [← bv_small hc1 hc3, numN_small (by omega)]⟩) (by repeat (first | (with_reducible exact Fin.done (by repeat (first | (with_reducible exact Rest.here) | apply Rest.there))) | (apply Fin.cons (by first | ((repeat (first | (with_reducible exact F0 _) | apply F1)); done) | (repeat (first | exact F0 _ | apply F1))))))
      · try simp only [ZA, ZB, ZC, ZD, ZE, ZF, ZG, ZH, ZI, ZJ, ZK, ZL, ZM, ZN, ZO, ZP, ZQ, ZR] at hc3
        refine Run.skip ?_
        refine Run.sr ?_
        refine RunL.mv rfl rfl ?_
        first | refine RunL.pure (Pure.remI rfl rfl (by omega) (by omega)) (Wt.none rfl) rfl rfl ?_ | refine RunL.pure (Pure.rem rfl rfl (by omega)) (Wt.none rfl) rfl rfl ?_
        first | refine RunL.pure (Pure.addI rfl rfl (by omega)) (Wt.none rfl) rfl rfl ?_ | refine RunL.pure (Pure.add rfl rfl) (Wt.none rfl) rfl rfl ?_
        first | refine RunL.pure (Pure.convId und3 und5 rfl (by first | exact wrap_i64 (by omega) (by omega) | exact wrap_u8 (by omega) (by omega) | exact wrap_i32 (by omega) (by omega))) (Wt.none rfl) rfl rfl ?_ | refine RunL.pure (Pure.convInt und3 und5 rfl) (Wt.none rfl) rfl rfl ?_
        refine RunL.lit (vals := [_]) (vs := [_]) und29 sz5 zz5 rfl rfl rfl rfl rfl rfl (by simp [Value.cells, bv, cEdu, cPrc]) rfl (Wt.none rfl) rfl ?_; intro b15
        refine RunL.as rfl rfl ?_
        refine RunL.nil ?_
        refine Run.sr ?_
        refine RunL.mv rfl rfl ?_
        refine RunL.mv rfl rfl ?_
        first | refine RunL.pure (Pure.quoI rfl rfl (by omega) (by omega) (by omega)) (Wt.none rfl) rfl rfl ?_ | refine RunL.pure (Pure.quo rfl rfl (by omega)) (Wt.none rfl) rfl rfl ?_
        have h9 := numN_le (z / 128).toNat (by omega)
        refine RunL.call rfl rfl (by rfl) (by repeat (first | (with_reducible exact Take.nil _) | (apply Take.cons (by first | ((repeat (first | (with_reducible exact F0 _) | apply F1)); done) | (repeat (first | exact F0 _ | apply F1)))))) (ih (z / 128) (by omega) (by omega) (by omega)) (Wt.none rfl) rfl ?_
        rintro _ _ ⟨a2, c2, rfl, hA_⟩
        replace hA_ := hA_.symm; subst hA_
        refine RunL.append (n' := (numN z.toNat).length) (cs' := ((numN z.toNat).map bv)) rfl rfl (by first | ((repeat (first | (with_reducible exact F0 _) | apply F1)); done) | (repeat (first | exact F0 _ | apply F1))) rfl rfl und29 und29 rfl sz5 zz5 rfl by5 (by omega) (by omega) (fun w sw => sw.src) (isOne_bv _) (by rw [numN_step hc3]; simp; omega) (by rw [numN_step hc3, bv_low' hc1]; rfl) (Wt.none rfl) rfl ?_; intro a1 c1
        refine RunL.as rfl rfl ?_
        refine RunL.nil ?_
        exact Run.ret Try.func39 (res1 rfl rfl) (by exact ⟨_, _, rfl, rfl⟩) (by repeat (first | (with_reducible exact Fin.done (by repeat (first | (with_reducible exact Rest.here) | apply Rest.there))) | (apply Fin.cons (by first | ((repeat (first | (with_reducible exact F0 _) | apply F1)); done) | (repeat (first | exact F0 _ | apply F1))))))

theorem RNumber_ctr {G : Gp} {z : Int} (hz : -9223372036854775808 ≤ z ∧ z ≤ 9223372036854775807) : Ctr Try.prog G 39 [.int .i64 z] [] (Fresh 5 (numN z.toNat)) := RNumber_aux (z.toNat + 1) z (by omega) hz.1 hz.2
set_option maxRecDepth 100000 in
theorem RText_ctr {G : Gp} {s : ByteArray} (hs : s.size ≤ 1000000) :
    Ctr Try.prog G 38 [.string s] [] (Fresh 5 (numN s.size ++ bl s)) := by
  refine Ctr.intro Try.func38 rfl (by kernel_rfl) rfl (fun F => ?_)
  simp only [List.nil_append]
  refine Run.sr ?_
  refine RunL.as rfl rfl ?_
  refine RunL.nil ?_
  refine Run.sr ?_
  refine RunL.mv rfl rfl ?_
  refine RunL.pure (Pure.lenStr rfl rfl und9) (Wt.none rfl) rfl rfl ?_
  refine RunL.call rfl rfl (by rfl) (by repeat (first | (with_reducible exact Take.nil _) | (apply Take.cons (by first | ((repeat (first | (with_reducible exact F0 _) | apply F1)); done) | (repeat (first | exact F0 _ | apply F1)))))) (RNumber_ctr (z := s.size) (by omega)) (Wt.none rfl) rfl ?_
  rintro _ _ ⟨a2, c2, rfl, hA_⟩
  replace hA_ := hA_.symm; subst hA_
  have hn9 := numN_le s.size (by omega)
  have hl : (numN (s.size : Int).toNat).length = (numN s.size).length := by simp
  refine RunL.mv rfl rfl ?_
  refine RunL.append (n' := (numN s.size ++ bl s).length) (cs' := ((numN s.size ++ bl s).map bv)) rfl rfl (by first | ((repeat (first | (with_reducible exact F0 _) | apply F1)); done) | (repeat (first | exact F0 _ | apply F1))) rfl rfl und29 und9 rfl sz5 zz5 rfl by5 (by rw [hl]; omega) (by rw [hl]; omega) (fun w sw => Src.str s) (isOne_bv _) (by simp [bl_length]) (by simp [bl]) (Wt.none rfl) rfl ?_; intro a1 c1
  refine RunL.as rfl rfl ?_
  refine RunL.nil ?_
  exact Run.ret Try.func38 (res1 rfl rfl) (by exact ⟨_, _, rfl, rfl⟩) (by repeat (first | (with_reducible exact Fin.done (by repeat (first | (with_reducible exact Rest.here) | apply Rest.there))) | (apply Fin.cons (by first | ((repeat (first | (with_reducible exact F0 _) | apply F1)); done) | (repeat (first | exact F0 _ | apply F1))))))

set_option maxRecDepth 100000 in
theorem RFlag_ctr {G : Gp} {is : Bool} :
    Ctr Try.prog G 37 [.bool is] [] (Fresh 5 [if is then 1 else 0]) := by
  refine Ctr.intro Try.func37 rfl (by kernel_rfl) rfl (fun F => ?_)
  simp only [List.nil_append]
  refine Run.sr ?_
  refine RunL.as rfl rfl ?_
  refine RunL.nil ?_
  refine Run.seq ?_
  refine Run.sr ?_
  refine RunL.mv rfl rfl ?_
  refine RunL.nil ?_
  refine Run.cond rfl (fun hc1 => ?_) (fun hc1 => ?_)
  · try simp only [ZA, ZB, ZC, ZD, ZE, ZF, ZG, ZH, ZI, ZJ, ZK, ZL, ZM, ZN, ZO, ZP, ZQ, ZR] at hc1
    subst hc1
    refine Run.sr ?_
    refine RunL.lit (vals := [_]) (vs := [_]) und29 sz5 zz5 rfl rfl rfl rfl rfl rfl (by simp [Value.cells, bv, cEdu, cPrc]) rfl (Wt.none rfl) rfl ?_; intro b4
    refine RunL.as rfl rfl ?_
    refine RunL.nil ?_
    exact Run.ret Try.func37 (res1 rfl rfl) (by exact ⟨some ⟨b4, 0, none⟩, 1, rfl, rfl⟩) (by repeat (first | (with_reducible exact Fin.done (by repeat (first | (with_reducible exact Rest.here) | apply Rest.there))) | (apply Fin.cons (by first | ((repeat (first | (with_reducible exact F0 _) | apply F1)); done) | (repeat (first | exact F0 _ | apply F1))))))
  · try simp only [ZA, ZB, ZC, ZD, ZE, ZF, ZG, ZH, ZI, ZJ, ZK, ZL, ZM, ZN, ZO, ZP, ZQ, ZR] at hc1
    subst hc1
    refine Run.skip ?_
    refine Run.sr ?_
    refine RunL.lit (vals := [_]) (vs := [_]) und29 sz5 zz5 rfl rfl rfl rfl rfl rfl (by simp [Value.cells, bv, cEdu, cPrc]) rfl (Wt.none rfl) rfl ?_; intro b5
    refine RunL.as rfl rfl ?_
    refine RunL.nil ?_
    exact Run.ret Try.func37 (res1 rfl rfl) (by exact ⟨some ⟨b5, 0, none⟩, 1, rfl, rfl⟩) (by repeat (first | (with_reducible exact Fin.done (by repeat (first | (with_reducible exact Rest.here) | apply Rest.there))) | (apply Fin.cons (by first | ((repeat (first | (with_reducible exact F0 _) | apply F1)); done) | (repeat (first | exact F0 _ | apply F1))))))

end Go.Proofs.Ytbgjfpaigndbmaa
