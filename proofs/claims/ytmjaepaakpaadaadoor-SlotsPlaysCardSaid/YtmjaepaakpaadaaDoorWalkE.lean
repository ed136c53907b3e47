/- The checksum function computes the checksum; the sectors of a disk; reading a disk. Part 5 of 13 of the proof of SlotsPlays; no condition. -/
import Derived.Test.YtmjaepaakpaadaaDoorWalkD
import Derived.Test.YtmjaepaakpaadaaDoorWalkC
namespace Go.Proofs
set_option linter.unnecessarySimpa false
open Go Go.Sl
attribute [local irreducible] Still T opO Sl.Inv row slc wpSeq Code.wp wpList Exit.then Exit.inBlock
set_option linter.unusedVariables false
set_option linter.unusedSimpArgs false
set_option maxRecDepth 4000
theorem number_ctr (A : SP) (a : Option Addr) (m c : Nat) (l : List UInt8) (hr : Rd A 1 a m (l.map encB)) (hm : m ≤ 8) :
    Ctr Tryd.prog 30 [.slice a m c] [A] (fun v L => v = .int .u64 (leNum l : Nat) ∧ L = [A]) := by
  refine Ctr.of Tryd.func30 rfl rfl (fun w F => ?_)
  simp only [Tryd.ntmps30, env0, List.cons_append, List.nil_append]
  refine T_rdLen hr Pick.here (fun hlen => ?_)
  simp only [List.length_map, Nat.mul_one] at hlen
  refine T_seq ?_; refine T_region ?_; refine T_list ?_; refine kas rfl rfl ?_; refine T_nil ?_; refine T_thenN ?_; refine T_seq ?_; refine T_region ?_; refine T_list ?_; refine kas rfl rfl ?_; refine T_nil ?_; refine T_thenN ?_; refine T_seq ?_; refine T_region ?_; refine T_list ?_; refine kas rfl rfl ?_; refine T_nil ?_; refine T_thenN ?_; refine T_seq ?_; refine T_seq ?_; refine T_region ?_; refine T_list ?_; refine kas rfl rfl ?_; refine T_nil ?_; refine T_thenN ?_; refine T_block ?_
  refine T_loop (fun i : Nat => i ≤ m) (fun i => [(5, .int .i64 (i : Nat)), (3, .int .u64 (leNum (l.take i) : Nat)), (4, .int .u64 ((256 ^ i % 2 ^ 64 : Nat) : Int)), (0, .slice a m c)]) (fun _ => A :: F) (fun i => m - i) ?_ ?_
  · exact T_inv 0 (Nat.zero_le _) ⟨rfl, rfl, rfl, rfl, trivial⟩ perm_rest
  · intro i hi
    refine T_seq ?_; refine T_seq ?_; refine T_region ?_; refine T_list ?_; refine kmv rfl rfl ?_; refine T_list ?_; refine kmv rfl rfl ?_; refine T_list ?_; refine klen rfl rfl ?_; refine T_list ?_; refine kcmp rfl rfl rfl rfl ?_; refine T_nil ?_; refine T_thenN ?_
    refine T_cond rfl (fun h => ?_) (fun h => ?_) <;> simp only [decide_eq_true_eq, decide_eq_false_iff_not, ne_eq, Decidable.not_not, Bool.not_eq_true', Bool.not_eq_false', Bool.cond_eq_true_distrib, Bool.cond_eq_false_distrib] at h
    · have h1 : i < l.length := by omega
      have h8 : 256 ^ i ≤ 256 ^ 7 := Nat.pow_le_pow_right (by decide) (by omega)
      have hlt := leNum_lt (l.take (i + 1))
      have hs := leNum_append (l.take i) [l[i]]
      rw [← take_snoc h1] at hs
      have hb := l[i].toNat_lt
      have hlen1 : (l.take (i + 1)).length = i + 1 := by simp; omega
      have hlen0 : (l.take i).length = i := by simp; omega
      rw [hlen1, Nat.pow_succ] at hlt
      rw [hlen0] at hs
      have hsc : 256 ^ i % 2 ^ 64 = 256 ^ i := Nat.mod_eq_of_lt (by omega)
      rw [hsc]
      generalize hS : 256 ^ i = S at *
      simp only [leNum, Nat.mul_zero, Nat.add_zero] at hs
      have hp : S * l[i].toNat ≤ S * 255 := Nat.mul_le_mul_left _ (by omega)
      refine T_skip ?_; refine T_thenN ?_; refine T_seq ?_; refine T_block ?_; refine T_seq ?_; refine T_region ?_; refine T_list ?_; refine kmv rfl rfl ?_; refine T_list ?_; refine kmv rfl rfl ?_; refine T_list ?_; refine kmv rfl rfl ?_; refine T_list ?_; refine kmv rfl rfl ?_; refine T_list ?_; refine kixR1 hr (by repeat (first | with_reducible apply Pick.here | with_reducible apply Pick.there)) rfl rfl rfl (by omega) ?_; refine T_list ?_; refine kldRM hr (by repeat (first | with_reducible apply Pick.here | with_reducible apply Pick.there)) rfl rfl (by omega) ?_; refine T_list ?_; refine kcv rfl rfl (by simp only [fits]; omega) ?_; refine T_list ?_; refine kmulN rfl rfl rfl (by simp only [fits]; omega) ?_; refine T_list ?_; refine kaddN rfl rfl rfl (by simp only [fits]; omega) ?_; refine T_list ?_; refine kas rfl rfl ?_; refine T_nil ?_; refine T_thenN ?_; refine T_region ?_; refine T_list ?_; refine kmv rfl rfl ?_
      refine T_list ?_; refine karw rfl rfl rfl rfl ?_
      refine T_list ?_; refine kas rfl rfl ?_; refine T_nil ?_; refine T_inN ?_; refine T_thenN ?_; refine T_region ?_; refine T_list ?_; refine kmv rfl rfl ?_; refine T_list ?_; refine kar rfl rfl rfl rfl (by simp only [fits]; omega) ?_; refine T_list ?_; refine kas rfl rfl ?_; refine T_nil ?_; refine T_thenN ?_
      refine T_inv (i + 1) ⟨(by first | omega | (dsimp only; omega)), (by first | omega | (dsimp only; omega))⟩ ⟨rfl, ?_, ?_, rfl, trivial⟩ perm_rest
      · rw [hs]; rfl
      · have e : 256 ^ (i + 1) % 2 ^ 64 = S * 256 % 2 ^ 64 := by rw [Nat.pow_succ, hS]
        rw [e]
        show some (Value.int .u64 (IntKind.u64.wrap _)) = some (Value.int .u64 _)
        congr 2
    · obtain rfl : i = m := by omega
      rw [List.take_of_length_le (by omega)]
      refine T_exit ?_; refine T_thenE ?_; refine T_thenE ?_; refine T_inE ?_; refine T_thenN ?_; refine T_seq ?_; refine T_region ?_; refine T_list ?_; refine kmv rfl rfl ?_; refine T_list ?_; refine kas rfl rfl ?_; refine T_nil ?_; refine T_thenN ?_; refine T_ret ?_
      exact T_fin [_] _ ⟨rfl, trivial⟩ ⟨rfl, rfl⟩ perm_rest
theorem newReader_ctr (A : SP) (a : Option Addr) (m c : Nat) (l : List UInt8) (hr : Rd A 1 a m (l.map encB)) (hm : m ≤ 1099511627776) :
    Ctr Tryd.prog 48 [.slice a m c] [A] (fun v L => ∃ b a' c', v = .pointer (some ⟨b, 0, none⟩) ∧ L = [row b 102 [.slice a' m c', .int .i64 0], slc 5 1 a' m c' (l.map encB), A]) := by
  refine Ctr.of Tryd.func48 rfl rfl (fun w F => ?_)
  simp only [Tryd.ntmps48, env0, List.cons_append, List.nil_append]
  refine T_seq ?_; refine T_region ?_; refine T_list ?_; refine kas rfl rfl ?_; refine T_nil ?_; refine T_thenN ?_; refine T_seq ?_; refine T_region ?_; refine T_list ?_; refine kmv rfl rfl ?_
  refine T_list ?_; refine T_call rfl (clone_ctr A a m c l hr hm) (by repeat (first | with_reducible apply Take.nil | apply Take.cons (by repeat (first | with_reducible apply Pick.here | with_reducible apply Pick.there)))) rfl ?_
  rintro v L' ⟨a', c', rfl, rfl⟩
  simp only [List.nil_append, List.cons_append]
  refine T_list ?_; refine kbld rfl (vs := [(0, _)]) rfl rfl ?_; refine T_list ?_; refine kbx rfl rfl rfl ?_; intro _b; refine T_list ?_; refine kas rfl rfl ?_; refine T_nil ?_; refine T_thenN ?_; refine T_ret ?_
  refine T_fin [_] _ ⟨rfl, trivial⟩ ⟨_, a', c', rfl, rfl⟩ ?_
  (repeat (first | exact perm_rest | apply perm_take (by repeat (first | with_reducible apply Pick.here | with_reducible apply Pick.there)) | apply perm_drop))
/-- The rest of bytes, as a slice expression gives it. -/
def restA (a : Option Addr) (c q : Nat) : Option Addr := if c = q then a else a.map (·.add q)
theorem Rd.rest {A : SP} {a : Option Addr} {m c q : Nat} {l : List UInt8} (hr : Rd A 1 a m (l.map encB)) (hl : l.length = m) (h : q ≤ m) (hc : m ≤ c) : Rd A 1 (restA a c q) (m - q) ((l.drop q).map encB) := by
  have := hr.part (c := c) (l := q) (q := m) h (Nat.le_refl _) hc
  rw [Nat.mul_one, Nat.mul_one, List.take_of_length_le (by simp; omega), ← List.map_drop] at this
  exact this
theorem Rd.pre {A : SP} {a : Option Addr} {m q : Nat} {l : List UInt8} (hr : Rd A 1 a m (l.map encB)) (h : q ≤ m) : Rd A 1 a q ((l.take q).map encB) := by
  have := hr.part (c := m + 1) (l := 0) (q := q) (Nat.zero_le _) h (by omega)
  rw [if_neg (by omega), Nat.sub_zero, Nat.mul_one, Nat.mul_one, List.drop_zero, ← List.map_take] at this
  cases a with
  | none => exact this
  | some p => simpa [Addr.add] using this
theorem part_ctr (A : SP) (b : Nat) (a : Option Addr) (m c q : Nat) (hq : q ≤ m) (hc : m ≤ c) :
    Ctr Tryd.prog 49 [.pointer (some ⟨b, 0, none⟩), .int .i64 (q : Nat)] [row b 102 [.slice a m c, .int .i64 0], A]
      (fun v L => v = .slice a q q ∧ L = [row b 102 [.slice (restA a c q) (m - q) (c - q), .int .i64 0], A]) := by
  refine Ctr.of Tryd.func49 rfl rfl (fun w F => ?_)
  simp only [Tryd.ntmps49, env0, List.cons_append, List.nil_append]
  refine T_seq ?_; refine T_region ?_; refine T_list ?_; refine kas rfl rfl ?_; refine T_nil ?_; refine T_thenN ?_; refine T_seq ?_; refine T_block ?_; refine T_seq ?_; refine T_region ?_; refine T_list ?_; refine kmv rfl rfl ?_; refine T_list ?_; refine knc rfl rfl ?_; refine T_list ?_; refine kfd rfl rfl ?_; refine T_list ?_; refine kld rfl rfl (by repeat (first | with_reducible apply Pick.here | with_reducible apply Pick.there)) rfl ?_; refine T_list ?_; refine kcmp rfl rfl rfl rfl ?_; refine T_list ?_; refine kas rfl rfl ?_; refine T_nil ?_; refine T_thenN ?_
  refine T_cond rfl (fun h => absurd h (by simp only [decide_eq_true_eq, decide_eq_false_iff_not, ne_eq, Decidable.not_not, Bool.not_eq_true', Bool.not_eq_false', Bool.not_true, Bool.not_false, Bool.false_eq_true, Bool.true_eq_false, not_true_eq_false, not_false_eq_true]; try omega)) (fun _ => ?_)
  refine T_seq ?_; refine T_region ?_; refine T_list ?_; refine kmv rfl rfl ?_; refine T_list ?_; refine kcmp rfl rfl rfl rfl ?_; refine T_list ?_; refine kas rfl rfl ?_; refine T_nil ?_; refine T_thenN ?_
  refine T_cond rfl (fun h => absurd h (by simp only [decide_eq_true_eq, decide_eq_false_iff_not, ne_eq, Decidable.not_not, Bool.not_eq_true', Bool.not_eq_false', Bool.not_true, Bool.not_false, Bool.false_eq_true, Bool.true_eq_false, not_true_eq_false, not_false_eq_true]; try omega)) (fun _ => ?_)
  refine T_seq ?_; refine T_region ?_; refine T_list ?_; refine kmv rfl rfl ?_; refine T_list ?_; refine kmv rfl rfl ?_; refine T_list ?_; refine knc rfl rfl ?_; refine T_list ?_; refine kfd rfl rfl ?_; refine T_list ?_; refine kld rfl rfl (by repeat (first | with_reducible apply Pick.here | with_reducible apply Pick.there)) rfl ?_; refine T_list ?_; refine klen rfl rfl ?_; refine T_list ?_; refine kcmp rfl rfl rfl rfl ?_; refine T_list ?_; refine kas rfl rfl ?_; refine T_nil ?_; refine T_thenN ?_
  refine T_cond rfl (fun h => absurd h (by simp only [decide_eq_true_eq, decide_eq_false_iff_not, ne_eq, Decidable.not_not, Bool.not_eq_true', Bool.not_eq_false', Bool.not_true, Bool.not_false, Bool.false_eq_true, Bool.true_eq_false, not_true_eq_false, not_false_eq_true]; try omega)) (fun _ => ?_)
  refine T_skip ?_; refine T_inN ?_; refine T_thenN ?_; refine T_seq ?_; refine T_region ?_; refine T_list ?_; refine kmv rfl rfl ?_; refine T_list ?_; refine knc rfl rfl ?_; refine T_list ?_; refine kfd rfl rfl ?_; refine T_list ?_; refine kld rfl rfl (by repeat (first | with_reducible apply Pick.here | with_reducible apply Pick.there)) rfl ?_; refine T_list ?_; refine kmv rfl rfl ?_; refine T_list ?_; refine kmv rfl rfl ?_
  refine T_list ?_; refine ksl3 rfl rfl rfl rfl (Nat.le_refl _) (by omega) ?_
  refine T_list ?_; refine kas rfl rfl ?_; refine T_nil ?_; refine T_thenN ?_; refine T_seq ?_; refine T_region ?_; refine T_list ?_; refine kmv rfl rfl ?_; refine T_list ?_; refine kmv rfl rfl ?_; refine T_list ?_; refine knc rfl rfl ?_; refine T_list ?_; refine kfd rfl rfl ?_; refine T_list ?_; refine kld rfl rfl (by repeat (first | with_reducible apply Pick.here | with_reducible apply Pick.there)) rfl ?_; refine T_list ?_; refine kmv rfl rfl ?_
  refine T_list ?_; refine ksl (q := m) rfl rfl (bnd_nat rfl) (bnd_none) (by omega) (by omega) ?_
  refine T_list ?_; refine knc rfl rfl ?_; refine T_list ?_; refine kfd rfl rfl ?_; refine T_list ?_; refine kst rfl rfl rfl (by repeat (first | with_reducible apply Pick.here | with_reducible apply Pick.there)) rfl ?_; refine T_nil ?_; refine T_thenN ?_; refine T_seq ?_; refine T_region ?_; refine T_list ?_; refine kmv rfl rfl ?_; refine T_list ?_; refine kas rfl rfl ?_; refine T_nil ?_; refine T_thenN ?_; refine T_ret ?_
  refine T_fin [_] _ ⟨rfl, trivial⟩ ⟨rfl, rfl⟩ ?_
  exact ⟨[], by simp [restA]⟩
theorem take_ctr (A : SP) (b : Nat) (a : Option Addr) (m c : Nat) (width : Int) (l : List UInt8) (hr : Rd A 1 a m (l.map encB)) (hq : (held width).toNat ≤ m) (hc : m ≤ c) :
    Ctr Tryd.prog 50 [.pointer (some ⟨b, 0, none⟩), .int .i64 width] [row b 102 [.slice a m c, .int .i64 0], A]
      (fun v L => v = .int .u64 (leNum (l.take (held width).toNat) : Nat) ∧ L = [row b 102 [.slice (restA a c (held width).toNat) (m - (held width).toNat) (c - (held width).toNat), .int .i64 0], A]) := by
  have hh : 1 ≤ held width ∧ held width ≤ 8 := by unfold held; omega
  obtain ⟨W, hW⟩ : ∃ W : Nat, held width = W := ⟨(held width).toNat, by omega⟩
  have hW8 : W ≤ 8 := by omega
  have hWt : (held width).toNat = W := by omega
  rw [hWt] at hq
  rw [hWt]
  refine Ctr.of Tryd.func50 rfl rfl (fun w F => ?_)
  simp only [Tryd.ntmps50, env0, List.cons_append, List.nil_append]
  refine T_rdLen hr Pick.here.there (fun hlen => ?_)
  simp only [List.length_map, Nat.mul_one] at hlen
  refine T_seq ?_; refine T_region ?_; refine T_list ?_; refine kas rfl rfl ?_; refine T_nil ?_; refine T_thenN ?_
  refine T_scope (ι := Nat) 0 (fun j => j ≤ W) (fun j => [(5, .slice a W W), (6, .int .u64 ((leNum ((l.take W).drop j) : Nat) : Int)), (7, .int .i64 (j : Nat))])
    (fun _ => row b 102 [.slice (restA a c W) (m - W) (c - W), .int .i64 0] :: A :: F) (fun j => j) rfl ?first ?pass
  case first =>
    intro pass
    refine T_seq ?_; refine T_region ?_; refine T_list ?_; refine kmv rfl rfl ?_; refine T_list ?_; refine kmv rfl rfl ?_
    refine T_list ?_; refine T_call rfl (held_ctr _) (by repeat (first | with_reducible apply Take.nil | apply Take.cons (by repeat (first | with_reducible apply Pick.here | with_reducible apply Pick.there)))) rfl ?_
    rintro v L' ⟨rfl, rfl⟩
    simp only [List.nil_append, hW]
    refine T_list ?_; refine T_call rfl (part_ctr A b a m c W hq hc) (by repeat (first | with_reducible apply Take.nil | apply Take.cons (by repeat (first | with_reducible apply Pick.here | with_reducible apply Pick.there)))) rfl ?_
    rintro v L' ⟨rfl, rfl⟩
    simp only [List.nil_append, List.cons_append]
    refine T_list ?_; refine kas rfl rfl ?_; refine T_nil ?_; refine T_thenN ?_; refine T_seq ?_; refine T_region ?_; refine T_list ?_; refine kas rfl rfl ?_; refine T_nil ?_; refine T_thenN ?_; refine T_seq ?_; refine T_region ?_; refine T_list ?_; refine kmv rfl rfl ?_; refine T_list ?_; refine klen rfl rfl ?_; refine T_list ?_; refine kas rfl rfl ?_; refine T_nil ?_; refine T_thenN ?_; refine T_seq ?_
    refine T_atLabel pass ?_
    refine T_inv W (Nat.le_refl _) ⟨rfl, ?_, rfl, trivial⟩ perm_rest
    rw [List.drop_of_length_le (by simp; omega)]; rfl
  case pass =>
    intro j hj
    refine T_seq ?_; refine T_seq ?_; refine T_region ?_; refine T_list ?_; refine kmv rfl rfl ?_; refine T_list ?_; refine kcmp rfl rfl rfl rfl ?_; refine T_nil ?_; refine T_thenN ?_
    refine T_cond rfl (fun h => ?_) (fun h => ?_) <;> simp only [decide_eq_true_eq, decide_eq_false_iff_not, ne_eq, Decidable.not_not, Bool.not_eq_true', Bool.not_eq_false', Bool.cond_eq_true_distrib, Bool.cond_eq_false_distrib] at h
    · obtain rfl : j = 0 := by omega
      refine T_seq ?_; refine T_region ?_; refine T_list ?_; refine kmv rfl rfl ?_; refine T_list ?_; refine kas rfl rfl ?_; refine T_nil ?_; refine T_thenN ?_; refine T_ret ?_; refine T_thenR ?_; refine T_jumpR ?_
      rw [List.drop_zero]
      exact T_fin [_] _ ⟨rfl, trivial⟩ ⟨rfl, rfl⟩ perm_rest
    · have h1 : j - 1 < (l.take W).length := by simp; omega
      have hp := Rd.pre hr hq
      have hd : (l.take W).drop (j - 1) = (l.take W)[j - 1] :: (l.take W).drop j := by
        rw [List.drop_eq_getElem_cons h1, show j - 1 + 1 = j by omega]
      have hn := leNum_lt ((l.take W).drop (j - 1))
      have hl2 : ((l.take W).drop (j - 1)).length ≤ 8 := by simp; omega
      have h8 : 256 ^ ((l.take W).drop (j - 1)).length ≤ 256 ^ 8 := Nat.pow_le_pow_right (by decide) hl2
      have hn2 : leNum ((l.take W).drop (j - 1)) = (l.take W)[j - 1].toNat + 256 * leNum ((l.take W).drop j) := by rw [hd]; rfl
      have hb := (l.take W)[j - 1].toNat_lt
      refine T_skip ?_; refine T_thenN ?_; refine T_seq ?_; refine T_region ?_; refine T_list ?_; refine kmv rfl rfl ?_; refine T_list ?_; refine ksubN rfl rfl (q := 1) rfl (by omega) (by simp only [fits]; omega) ?_; refine T_list ?_; refine kas rfl rfl ?_; refine T_nil ?_; refine T_thenN ?_; refine T_seq ?_; refine T_region ?_; refine T_list ?_; refine kmv rfl rfl ?_; refine T_list ?_; refine kshlN rfl rfl rfl (s := 256) rfl (by simp only [fits]; omega) ?_; refine T_list ?_; refine kmv rfl rfl ?_; refine T_list ?_; refine kmv rfl rfl ?_; refine T_list ?_; refine kixR1 hp (by repeat (first | with_reducible apply Pick.here | with_reducible apply Pick.there)) rfl rfl rfl (by omega) ?_; refine T_list ?_; refine kldRM hp (by repeat (first | with_reducible apply Pick.here | with_reducible apply Pick.there)) rfl rfl (by omega) ?_; refine T_list ?_; refine kcv rfl rfl (by simp only [fits]; omega) ?_; refine T_list ?_; refine kor rfl rfl  rfl rfl (by simp only [IntKind.bits]; omega) (by simp only [IntKind.bits]; omega) ?_; refine T_list ?_; refine kas rfl rfl ?_; refine T_nil ?_; refine T_thenN ?_; refine T_goto ?_; refine T_jumpG ?_
      refine T_inv (j - 1) ⟨(by first | omega | (dsimp only; omega)), (by first | omega | (dsimp only; omega))⟩ ⟨rfl, ?_, rfl, trivial⟩ perm_rest
      have e : leNum ((l.take W).drop j) * 256 ||| (l.take W)[j - 1].toNat = leNum ((l.take W).drop (j - 1)) := by
        rw [hn2, ← Nat.shiftLeft_eq _ 8, ← Nat.shiftLeft_add_eq_or_of_lt hb, Nat.shiftLeft_eq]; omega
      rw [← e]; rfl
end Go.Proofs
namespace Go.Proofs
set_option linter.unusedVariables false
set_option linter.unusedSimpArgs false
set_option linter.unnecessarySimpa false
def crcStep (c : Nat) : Nat := if c % 2 = 1 then (c / 2) ^^^ 3988292384 else c / 2
def crcIter : Nat → Nat → Nat
  | 0, c => c
  | k + 1, c => crcIter k (crcStep c)
def crcIn (c b : Nat) : Nat := crcIter 8 (c ^^^ b)
def crcAll (c : Nat) (l : List UInt8) : Nat := l.foldl (fun c b => crcIn c b.toNat) c
def crcOf (l : List UInt8) : Nat := 4294967295 - crcAll 4294967295 l
/-- What four bits make of a register. -/
def crcHalves : List Nat := [0x00000000, 0x1db71064, 0x3b6e20c8, 0x26d930ac, 0x76dc4190, 0x6b6b51f4, 0x4db26158, 0x5005713c,
  0xedb88320, 0xf00f9344, 0xd6d6a3e8, 0xcb61b38c, 0x9b64c2b0, 0x86d3d2d4, 0xa00ae278, 0xbdbdf21c]
theorem xor_mod2 (a b : Nat) : (a ^^^ b) % 2 = (a % 2 + b % 2) % 2 := by
  have h := Nat.testBit_xor (x := a) (y := b) (i := 0)
  simp only [Nat.testBit_zero] at h
  rcases Nat.mod_two_eq_zero_or_one a with ha | ha <;> rcases Nat.mod_two_eq_zero_or_one b with hb | hb <;> rcases Nat.mod_two_eq_zero_or_one (a ^^^ b) with hc | hc <;> simp [ha, hb, hc] at h ⊢
theorem crcStep_xor (a b : Nat) : crcStep (a ^^^ b) = crcStep a ^^^ crcStep b := by
  unfold crcStep
  rw [xor_mod2, Nat.xor_div_two]
  rcases Nat.mod_two_eq_zero_or_one a with ha | ha <;> rcases Nat.mod_two_eq_zero_or_one b with hb | hb <;> simp only [ha, hb] <;> simp
  · rw [Nat.xor_assoc]
  · rw [Nat.xor_assoc, Nat.xor_assoc, Nat.xor_comm 3988292384]
  · rw [Nat.xor_assoc, Nat.xor_comm 3988292384, Nat.xor_assoc (b / 2), Nat.xor_self, Nat.xor_zero]
theorem crcIter_xor : ∀ (k a b : Nat), crcIter k (a ^^^ b) = crcIter k a ^^^ crcIter k b
  | 0, _, _ => rfl
  | k + 1, a, b => by simp only [crcIter, crcStep_xor, crcIter_xor k]
theorem crcStep_two (x : Nat) : crcStep (x * 2) = x := by
  unfold crcStep; rw [if_neg (by omega)]; omega
theorem crcIter_four (q : Nat) : crcIter 4 (q * 16) = q := by
  simp only [crcIter]
  rw [show q * 16 = q * 8 * 2 by omega, crcStep_two, show q * 8 = q * 4 * 2 by omega, crcStep_two, show q * 4 = q * 2 * 2 by omega, crcStep_two, crcStep_two]
theorem split16 (c : Nat) : c = (c / 16 * 16) ^^^ (c % 16) := by
  apply Nat.eq_of_testBit_eq
  intro i
  rw [Nat.testBit_xor, show (16 : Nat) = 2 ^ 4 from rfl, Nat.testBit_mul_two_pow, Nat.testBit_mod_two_pow, Nat.testBit_div_two_pow]
  by_cases h : 4 ≤ i
  · have : ¬ i < 4 := by omega
    simp [h, this]
  · have : i < 4 := by omega
    simp [h, this]
theorem crcIter4 (c : Nat) : crcIter 4 c = (c / 16) ^^^ crcHalves.getD (c % 16) 0 := by
  conv => lhs; rw [split16 c, crcIter_xor, crcIter_four]
  congr 1
  have h : c % 16 < 16 := Nat.mod_lt _ (by decide)
  generalize c % 16 = r at h
  have : ∀ r : Fin 16, crcIter 4 r.val = crcHalves.getD r.val 0 := by decide
  exact this ⟨r, h⟩
theorem crcIter_add : ∀ j k c, crcIter (j + k) c = crcIter k (crcIter j c)
  | 0, k, c => by simp [crcIter]
  | j + 1, k, c => by rw [show j + 1 + k = (j + k) + 1 by omega, crcIter, crcIter_add j k, crcIter]
theorem crcIn_halves (c b : Nat) : crcIn c b = (((c ^^^ b) / 16 ^^^ crcHalves.getD ((c ^^^ b) % 16) 0) / 16) ^^^ crcHalves.getD (((c ^^^ b) / 16 ^^^ crcHalves.getD ((c ^^^ b) % 16) 0) % 16) 0 := by
  rw [crcIn, show 8 = 4 + 4 from rfl, crcIter_add, crcIter4, crcIter4]
theorem crcStep_lt {c : Nat} (h : c < 4294967296) : crcStep c < 4294967296 := by
  unfold crcStep; split
  · exact Nat.xor_lt_two_pow (n := 32) (by omega) (by decide)
  · omega
theorem crcIter_lt : ∀ (k : Nat) {c : Nat}, c < 4294967296 → crcIter k c < 4294967296
  | 0, _, h => h
  | k + 1, _, h => crcIter_lt k (crcStep_lt h)
theorem crcIn_lt {c b : Nat} (h : c < 4294967296) (hb : b < 256) : crcIn c b < 4294967296 := crcIter_lt 8 (Nat.xor_lt_two_pow (n := 32) h (by omega))
theorem crcAll_lt : ∀ (l : List UInt8) {c : Nat}, c < 4294967296 → crcAll c l < 4294967296
  | [], _, h => h
  | b :: l, c, h => crcAll_lt l (crcIn_lt h b.toNat_lt)
theorem crcOf_lt (l : List UInt8) : crcOf l < 4294967296 := by unfold crcOf; omega
theorem crcHalves_lt (i : Nat) : crcHalves.getD i 0 < 4294967296 := by
  rcases Nat.lt_or_ge i 16 with h | h
  · have : ∀ r : Fin 16, crcHalves.getD r.val 0 < 4294967296 := by decide
    exact this ⟨i, h⟩
  · have : crcHalves[i]? = none := List.getElem?_eq_none (by simpa [crcHalves] using h)
    simp [this]
theorem and15 (c : Nat) : c &&& 15 = c % 16 := Nat.and_two_pow_sub_one_eq_mod c 4
theorem crcAll_snoc {c : Nat} {l : List UInt8} {i : Nat} (h : i < l.length) : crcAll c (l.take (i + 1)) = crcIn (crcAll c (l.take i)) l[i].toNat := by
  have : l.take (i + 1) = l.take i ++ [l[i]] := by simp
  rw [this]; simp [crcAll, -List.take_append_getElem]
end Go.Proofs
namespace Go.Proofs
set_option linter.unnecessarySimpa false
open Go Go.Sl
attribute [local irreducible] Still T opO Sl.Inv row slc wpSeq Code.wp wpList Exit.then Exit.inBlock
set_option linter.unusedVariables false
set_option linter.unusedSimpArgs false
set_option maxRecDepth 4000
def encW (n : Nat) : Value := .int .u32 (n : Int)
/-- Memory that bears the table of the check. -/
class TableAt (S : SP) : Prop where
  rd : Rd S 1 (some ⟨0, 0, none⟩) 16 (crcHalves.map encW)
theorem kldT {P : Program} {n : Nat} {w0 : World} {env : Env} {L M : List SP} {A : SP} {ty : TypeId} {pos : String} {after : Array Edge} {g : Option (Nat × Bool)} {K : Act → World → Prop} {d t k : Nat} [ht : CellTy P t] {x : Operand} {b m o : Nat} {xs : List Value} {v : Value}
    (hr : Rd A k (some ⟨b, 0, none⟩) m xs) (hp : Pick A L M) (hd : Nat.blt d n = true) (hx : ev env x = some (.pointer (some ⟨b, 0 + o, none⟩))) (hv : xs[0 + o]? = some v) (h : T n w0 K ((d, v) :: env) L) :
    T n w0 (opO P ⟨some d, .load t x, ty, pos, after, g⟩ K) env L :=
  kldR hr hp hd (j := o) (by rw [hx, sAt, Option.getD_some, Addr.mk_add]) (by rw [← hv, Nat.zero_add]) h
section
variable {tableS : SP} [hT : TableAt tableS]
theorem table_at {q : Nat} (h : q < 16) : (crcHalves.map encW)[0 + q]? = some (.int .u32 (crcHalves.getD q 0 : Nat)) := by
  have h' : q < crcHalves.length := h
  rw [Nat.zero_add, List.getElem?_map, List.getElem?_eq_getElem h', List.getD_eq_getElem?_getD, List.getElem?_eq_getElem h']; rfl
theorem crcin_ctr (c b : Nat) (hc : c < 4294967296) (hb : b < 256) :
    Ctr Tryd.prog 74 [.int .u32 c, .int .u8 b] [tableS] (fun v L => v = .int .u32 (crcIn c b : Nat) ∧ L = [tableS]) := by
  refine Ctr.of Tryd.func74 rfl rfl (fun w F => ?_)
  simp only [Tryd.ntmps74, env0, List.cons_append, List.nil_append]
  have hx : c ^^^ b < 4294967296 := Nat.xor_lt_two_pow (n := 32) hc (by omega)
  rw [crcIn_halves]
  refine T_seq ?_; refine T_region ?_; refine T_list ?_; refine kas rfl rfl ?_; refine T_nil ?_; refine T_thenN ?_; refine T_seq ?_; refine T_region ?_; refine T_list ?_; refine kmv rfl rfl ?_; refine T_list ?_; refine kmv rfl rfl ?_; refine T_list ?_; refine kcv rfl rfl (by simp only [fits]; omega) ?_; refine T_list ?_; refine kxor rfl rfl  rfl rfl (by simp only [IntKind.bits]; omega) (by simp only [IntKind.bits]; omega) ?_; refine T_list ?_; refine kas rfl rfl ?_; refine T_nil ?_; refine T_thenN ?_; refine T_seq ?_; refine T_region ?_; refine T_list ?_; refine kmv rfl rfl ?_; refine T_list ?_; refine kshrN rfl rfl (q := 4) rfl (s := 16) rfl ?_; refine T_list ?_; refine kmv rfl rfl ?_; refine T_list ?_; refine kand rfl rfl (q := 15) rfl rfl (by simp only [IntKind.bits]; omega) (by simp only [IntKind.bits]; omega) ?_
  rw [and15]
  generalize hX : c ^^^ b = X at *
  have h1 := crcHalves_lt (X % 16)
  have m1 : X % 16 < 16 := Nat.mod_lt _ (by decide)
  refine T_list ?_; refine kia1 rfl rfl rfl m1 ?_
  refine T_list ?_; refine kldT hT.rd (by repeat (first | with_reducible apply Pick.here | with_reducible apply Pick.there)) rfl rfl (table_at m1) ?_
  generalize crcHalves.getD (X % 16) 0 = H at *
  have hy : X / 16 ^^^ H < 4294967296 := Nat.xor_lt_two_pow (n := 32) (by omega) h1
  refine T_list ?_; refine kxor rfl rfl  rfl rfl (by simp only [IntKind.bits]; omega) (by simp only [IntKind.bits]; omega) ?_; refine T_list ?_; refine kas rfl rfl ?_; refine T_nil ?_; refine T_thenN ?_; refine T_seq ?_; refine T_region ?_; refine T_list ?_; refine kmv rfl rfl ?_; refine T_list ?_; refine kshrN rfl rfl (q := 4) rfl (s := 16) rfl ?_; refine T_list ?_; refine kmv rfl rfl ?_; refine T_list ?_; refine kand rfl rfl (q := 15) rfl rfl (by simp only [IntKind.bits]; omega) (by simp only [IntKind.bits]; omega) ?_
  rw [and15]
  generalize X / 16 ^^^ H = Y at *
  have h2 := crcHalves_lt (Y % 16)
  have m2 : Y % 16 < 16 := Nat.mod_lt _ (by decide)
  refine T_list ?_; refine kia1 rfl rfl rfl m2 ?_
  refine T_list ?_; refine kldT hT.rd (by repeat (first | with_reducible apply Pick.here | with_reducible apply Pick.there)) rfl rfl (table_at m2) ?_
  generalize crcHalves.getD (Y % 16) 0 = H2 at *
  refine T_list ?_; refine kxor rfl rfl  rfl rfl (by simp only [IntKind.bits]; omega) (by simp only [IntKind.bits]; omega) ?_; refine T_list ?_; refine kas rfl rfl ?_; refine T_nil ?_; refine T_thenN ?_; refine T_ret ?_
  exact T_fin [_] _ ⟨rfl, trivial⟩ ⟨rfl, rfl⟩ perm_rest
theorem refin_ctr (c b : Nat) (hc : c < 4294967296) (hb : b < 256) :
    Ctr Tryd.prog 70 [.int .u32 c, .int .u8 b] [] (fun v L => v = .int .u32 (crcIn c b : Nat) ∧ L = []) := by
  refine Ctr.of Tryd.func70 rfl rfl (fun w F => ?_)
  simp only [Tryd.ntmps70, env0, List.cons_append, List.nil_append]
  have hx : c ^^^ b < 4294967296 := Nat.xor_lt_two_pow (n := 32) hc (by omega)
  refine T_seq ?_; refine T_region ?_; refine T_list ?_; refine kas rfl rfl ?_; refine T_nil ?_; refine T_thenN ?_; refine T_seq ?_; refine T_region ?_; refine T_list ?_; refine kmv rfl rfl ?_; refine T_list ?_; refine kmv rfl rfl ?_; refine T_list ?_; refine kcv rfl rfl (by simp only [fits]; omega) ?_; refine T_list ?_; refine kxor rfl rfl  rfl rfl (by simp only [IntKind.bits]; omega) (by simp only [IntKind.bits]; omega) ?_; refine T_list ?_; refine kas rfl rfl ?_; refine T_nil ?_; refine T_thenN ?_; refine T_seq ?_; refine T_seq ?_; refine T_region ?_; refine T_list ?_; refine kas rfl rfl ?_; refine T_nil ?_; refine T_thenN ?_; refine T_block ?_
  refine T_loop (fun x : Nat × Nat => x.1 ≤ 8 ∧ x.2 < 4294967296 ∧ crcIter (8 - x.1) x.2 = crcIn c b) (fun x => [(5, .int .i64 (x.1 : Nat)), (0, .int .u32 (x.2 : Nat))]) (fun _ => F) (fun x => 8 - x.1) ?_ ?_
  · exact T_inv (0, c ^^^ b) ⟨Nat.zero_le _, hx, rfl⟩ ⟨rfl, rfl, trivial⟩ perm_rest
  · rintro ⟨i, X⟩ ⟨hi, hX, he⟩
    dsimp only at hi hX he ⊢
    refine T_seq ?_; refine T_seq ?_; refine T_region ?_; refine T_list ?_; refine kmv rfl rfl ?_; refine T_list ?_; refine kcmp rfl rfl rfl rfl ?_; refine T_nil ?_; refine T_thenN ?_
    refine T_cond rfl (fun h => ?_) (fun h => ?_) <;> simp only [decide_eq_true_eq, decide_eq_false_iff_not, ne_eq, Decidable.not_not, Bool.not_eq_true', Bool.not_eq_false', Bool.cond_eq_true_distrib, Bool.cond_eq_false_distrib] at h
    · have hst := crcStep_lt hX
      rw [show 8 - i = (8 - (i + 1)) + 1 by omega, crcIter] at he
      refine T_skip ?_; refine T_thenN ?_; refine T_seq ?_; refine T_block ?_; refine T_seq ?_; refine T_region ?_; refine T_list ?_; refine kmv rfl rfl ?_; refine T_list ?_; refine kremN rfl rfl (q := 2) rfl rfl ?_; refine T_list ?_; refine kcmp rfl rfl rfl rfl ?_; refine T_list ?_; refine kas rfl rfl ?_; refine T_nil ?_; refine T_thenN ?_; refine T_seq ?_; refine T_region ?_; refine T_list ?_; refine kmv rfl rfl ?_; refine T_list ?_; refine kquoN rfl rfl (q := 2) rfl rfl (by simp only [fits]; omega) ?_; refine T_list ?_; refine kas rfl rfl ?_; refine T_nil ?_; refine T_thenN ?_; refine T_seq ?_; refine T_region ?_; refine T_list ?_; refine kmv rfl rfl ?_; refine T_nil ?_; refine T_thenN ?_
      refine T_cond rfl (fun ho => ?_) (fun ho => ?_) <;> simp only [decide_eq_true_eq, decide_eq_false_iff_not, ne_eq, Decidable.not_not, Bool.not_eq_true', Bool.not_eq_false', Bool.cond_eq_true_distrib, Bool.cond_eq_false_distrib] at ho
      · have e : crcStep X = (X / 2) ^^^ 3988292384 := if_pos (by omega)
        refine T_region ?_; refine T_list ?_; refine kmv rfl rfl ?_; refine T_list ?_; refine kxor rfl rfl  rfl rfl (by simp only [IntKind.bits]; omega) (by simp only [IntKind.bits]; omega) ?_; refine T_list ?_; refine kas rfl rfl ?_; refine T_nil ?_; refine T_inN ?_; refine T_thenN ?_; refine T_region ?_; refine T_list ?_; refine kmv rfl rfl ?_; refine T_list ?_; refine kar rfl rfl rfl rfl (by simp only [fits]; omega) ?_; refine T_list ?_; refine kas rfl rfl ?_; refine T_nil ?_; refine T_thenN ?_
        refine T_inv (i + 1, X / 2 ^^^ 3988292384) ⟨⟨(by first | omega | (dsimp only; omega)), e ▸ hst, e ▸ he⟩, (by first | omega | (dsimp only; omega))⟩ ⟨rfl, rfl, trivial⟩ perm_rest
      · have e : crcStep X = X / 2 := if_neg (by omega)
        refine T_skip ?_; refine T_inN ?_; refine T_thenN ?_; refine T_region ?_; refine T_list ?_; refine kmv rfl rfl ?_; refine T_list ?_; refine kar rfl rfl rfl rfl (by simp only [fits]; omega) ?_; refine T_list ?_; refine kas rfl rfl ?_; refine T_nil ?_; refine T_thenN ?_
        refine T_inv (i + 1, X / 2) ⟨⟨(by first | omega | (dsimp only; omega)), e ▸ hst, e ▸ he⟩, (by first | omega | (dsimp only; omega))⟩ ⟨rfl, rfl, trivial⟩ perm_rest
    · obtain rfl : i = 8 := by omega
      refine T_exit ?_; refine T_thenE ?_; refine T_thenE ?_; refine T_inE ?_; refine T_thenN ?_; refine T_seq ?_; refine T_region ?_; refine T_list ?_; refine kmv rfl rfl ?_; refine T_list ?_; refine kas rfl rfl ?_; refine T_nil ?_; refine T_thenN ?_; refine T_ret ?_
      exact T_fin [_] _ ⟨rfl, trivial⟩ ⟨by rw [← he]; rfl, rfl⟩ perm_rest
theorem crcmore_ctr (A : SP) (a : Option Addr) (m c : Nat) (l : List UInt8) (hr : Rd A 1 a m (l.map encB)) (ck : Nat) (hck : ck < 4294967296) (hm : m ≤ 1099511627776) :
    Ctr Tryd.prog 69 [.int .u32 ck, .slice a m c] [A, tableS] (fun v L => v = .int .u32 ((4294967295 - crcAll (4294967295 - ck) l : Nat) : Int) ∧ L = [A, tableS]) := by
  refine Ctr.of Tryd.func69 rfl rfl (fun w F => ?_)
  simp only [Tryd.ntmps69, env0, List.cons_append, List.nil_append]
  refine T_rdLen hr Pick.here (fun hlen => ?_)
  simp only [List.length_map, Nat.mul_one] at hlen
  refine T_seq ?_; refine T_region ?_; refine T_list ?_; refine kas rfl rfl ?_; refine T_nil ?_; refine T_thenN ?_
  refine T_scope (ι := Nat) 0 (fun i => i ≤ m) (fun i => [(5, .int .u32 (crcAll (4294967295 - ck) (l.take i) : Nat)), (6, .int .i64 (i : Nat)), (1, .slice a m c)])
    (fun _ => A :: tableS :: F) (fun i => m - i) rfl ?first ?pass
  case first =>
    intro pass
    refine T_seq ?_; refine T_region ?_; refine T_list ?_; refine kmv rfl rfl ?_; refine T_list ?_; refine kxa rfl rfl rfl (by simp only [IntKind.bits]; omega) ?_; refine T_list ?_; refine kas rfl rfl ?_; refine T_nil ?_; refine T_thenN ?_; refine T_seq ?_; refine T_region ?_; refine T_list ?_; refine kas rfl rfl ?_; refine T_nil ?_; refine T_thenN ?_; refine T_seq ?_
    refine T_atLabel pass ?_
    exact T_inv 0 (Nat.zero_le _) ⟨rfl, rfl, rfl, trivial⟩ perm_rest
  case pass =>
    intro i hi
    have hlt := crcAll_lt (l.take i) (c := 4294967295 - ck) (by omega)
    refine T_seq ?_; refine T_seq ?_; refine T_region ?_; refine T_list ?_; refine kmv rfl rfl ?_; refine T_list ?_; refine kmv rfl rfl ?_; refine T_list ?_; refine klen rfl rfl ?_; refine T_list ?_; refine kcmp rfl rfl rfl rfl ?_; refine T_nil ?_; refine T_thenN ?_
    refine T_cond rfl (fun h => ?_) (fun h => ?_) <;> simp only [decide_eq_true_eq, decide_eq_false_iff_not, ne_eq, Decidable.not_not, Bool.not_eq_true', Bool.not_eq_false', Bool.cond_eq_true_distrib, Bool.cond_eq_false_distrib] at h
    · obtain rfl : i = m := by omega
      rw [List.take_of_length_le (by omega)] at hlt ⊢
      refine T_seq ?_; refine T_region ?_; refine T_list ?_; refine kmv rfl rfl ?_; refine T_list ?_; refine kxa rfl rfl rfl (by simp only [IntKind.bits]; omega) ?_; refine T_list ?_; refine kas rfl rfl ?_; refine T_nil ?_; refine T_thenN ?_; refine T_ret ?_; refine T_thenR ?_; refine T_jumpR ?_
      exact T_fin [_] _ ⟨rfl, trivial⟩ ⟨rfl, rfl⟩ perm_rest
    · have h1 : i < l.length := by omega
      refine T_skip ?_; refine T_thenN ?_; refine T_seq ?_; refine T_region ?_; refine T_list ?_; refine kmv rfl rfl ?_; refine T_list ?_; refine kmv rfl rfl ?_; refine T_list ?_; refine kmv rfl rfl ?_; refine T_list ?_; refine kixR1 hr (by repeat (first | with_reducible apply Pick.here | with_reducible apply Pick.there)) rfl rfl rfl (by omega) ?_; refine T_list ?_; refine kldRM hr (by repeat (first | with_reducible apply Pick.here | with_reducible apply Pick.there)) rfl rfl (by omega) ?_
      refine T_list ?_; refine T_call rfl (crcin_ctr (tableS := tableS) _ _ hlt l[i].toNat_lt) (by repeat (first | with_reducible apply Take.nil | apply Take.cons (by repeat (first | with_reducible apply Pick.here | with_reducible apply Pick.there)))) rfl ?_
      rintro v L' ⟨rfl, rfl⟩
      simp only [List.nil_append, List.cons_append]
      rw [← crcAll_snoc h1]
      refine T_list ?_; refine kas rfl rfl ?_; refine T_nil ?_; refine T_thenN ?_; refine T_seq ?_; refine T_region ?_; refine T_list ?_; refine kmv rfl rfl ?_; refine T_list ?_; refine kaddN rfl rfl (q := 1) rfl (by simp only [fits]; omega) ?_; refine T_list ?_; refine kas rfl rfl ?_; refine T_nil ?_; refine T_thenN ?_; refine T_goto ?_; refine T_jumpG ?_
      refine T_inv (i + 1) ⟨(by first | omega | (dsimp only; omega)), (by first | omega | (dsimp only; omega))⟩ ⟨rfl, rfl, rfl, trivial⟩ ?_
      (repeat (first | exact perm_rest | apply perm_take (by repeat (first | with_reducible apply Pick.here | with_reducible apply Pick.there)) | apply perm_drop))
theorem crcof_ctr (A : SP) (a : Option Addr) (m c : Nat) (l : List UInt8) (hr : Rd A 1 a m (l.map encB)) (hm : m ≤ 1099511627776) :
    Ctr Tryd.prog 61 [.slice a m c] [A, tableS] (fun v L => v = .int .u32 (crcOf l : Nat) ∧ L = [A, tableS]) := by
  refine Ctr.of Tryd.func61 rfl rfl (fun w F => ?_)
  simp only [Tryd.ntmps61, env0, List.cons_append, List.nil_append]
  refine T_seq ?_; refine T_region ?_; refine T_list ?_; refine kas rfl rfl ?_; refine T_nil ?_; refine T_thenN ?_; refine T_seq ?_; refine T_region ?_; refine T_list ?_; refine kmv rfl rfl ?_
  refine T_list ?_; refine T_call rfl (crcmore_ctr (tableS := tableS) A a m c l hr 0 (by decide) hm) (by repeat (first | with_reducible apply Take.nil | apply Take.cons (by repeat (first | with_reducible apply Pick.here | with_reducible apply Pick.there)))) rfl ?_
  rintro v L' ⟨rfl, rfl⟩
  simp only [List.nil_append, List.cons_append]
  refine T_list ?_; refine kas rfl rfl ?_; refine T_nil ?_; refine T_thenN ?_; refine T_ret ?_
  refine T_fin [_] _ ⟨rfl, trivial⟩ ⟨rfl, rfl⟩ ?_
  (repeat (first | exact perm_rest | apply perm_take (by repeat (first | with_reducible apply Pick.here | with_reducible apply Pick.there)) | apply perm_drop))
end
theorem refall_ctr (A : SP) (a : Option Addr) (m c : Nat) (l : List UInt8) (hr : Rd A 1 a m (l.map encB)) (ck : Nat) (hck : ck < 4294967296) (hm : m ≤ 1099511627776) :
    Ctr Tryd.prog 65 [.int .u32 ck, .slice a m c] [A] (fun v L => v = .int .u32 (crcAll ck l : Nat) ∧ L = [A]) := by
  refine Ctr.of Tryd.func65 rfl rfl (fun w F => ?_)
  simp only [Tryd.ntmps65, env0, List.cons_append, List.nil_append]
  refine T_rdLen hr Pick.here (fun hlen => ?_)
  simp only [List.length_map, Nat.mul_one] at hlen
  refine T_seq ?_; refine T_region ?_; refine T_list ?_; refine kas rfl rfl ?_; refine T_nil ?_; refine T_thenN ?_; refine T_seq ?_; refine T_seq ?_; refine T_region ?_; refine T_list ?_; refine kas rfl rfl ?_; refine T_nil ?_; refine T_thenN ?_; refine T_block ?_
  refine T_loop (fun i : Nat => i ≤ m) (fun i => [(0, .int .u32 (crcAll ck (l.take i) : Nat)), (5, .int .i64 (i : Nat)), (1, .slice a m c)]) (fun _ => A :: F) (fun i => m - i) ?_ ?_
  · exact T_inv 0 (Nat.zero_le _) ⟨rfl, rfl, rfl, trivial⟩ perm_rest
  · intro i hi
    have hlt := crcAll_lt (l.take i) hck
    refine T_seq ?_; refine T_seq ?_; refine T_region ?_; refine T_list ?_; refine kmv rfl rfl ?_; refine T_list ?_; refine kmv rfl rfl ?_; refine T_list ?_; refine klen rfl rfl ?_; refine T_list ?_; refine kcmp rfl rfl rfl rfl ?_; refine T_nil ?_; refine T_thenN ?_
    refine T_cond rfl (fun h => ?_) (fun h => ?_) <;> simp only [decide_eq_true_eq, decide_eq_false_iff_not, ne_eq, Decidable.not_not, Bool.not_eq_true', Bool.not_eq_false', Bool.cond_eq_true_distrib, Bool.cond_eq_false_distrib] at h
    · have h1 : i < l.length := by omega
      refine T_skip ?_; refine T_thenN ?_; refine T_seq ?_; refine T_block ?_; refine T_region ?_; refine T_list ?_; refine kmv rfl rfl ?_; refine T_list ?_; refine kmv rfl rfl ?_; refine T_list ?_; refine kmv rfl rfl ?_; refine T_list ?_; refine kixR1 hr (by repeat (first | with_reducible apply Pick.here | with_reducible apply Pick.there)) rfl rfl rfl (by omega) ?_; refine T_list ?_; refine kldRM hr (by repeat (first | with_reducible apply Pick.here | with_reducible apply Pick.there)) rfl rfl (by omega) ?_
      refine T_list ?_; refine T_call rfl (refin_ctr _ _ hlt l[i].toNat_lt) (by repeat (first | with_reducible apply Take.nil | apply Take.cons (by repeat (first | with_reducible apply Pick.here | with_reducible apply Pick.there)))) rfl ?_
      rintro v L' ⟨rfl, rfl⟩
      simp only [List.nil_append, List.cons_append]
      rw [← crcAll_snoc h1]
      refine T_list ?_; refine kas rfl rfl ?_; refine T_nil ?_; refine T_inN ?_; refine T_thenN ?_; refine T_region ?_; refine T_list ?_; refine kmv rfl rfl ?_; refine T_list ?_; refine kaddN rfl rfl (q := 1) rfl (by simp only [fits]; omega) ?_; refine T_list ?_; refine kas rfl rfl ?_; refine T_nil ?_; refine T_thenN ?_
      refine T_inv (i + 1) ⟨(by first | omega | (dsimp only; omega)), (by first | omega | (dsimp only; omega))⟩ ⟨rfl, rfl, rfl, trivial⟩ perm_rest
    · obtain rfl : i = m := by omega
      rw [List.take_of_length_le (by omega)]
      refine T_exit ?_; refine T_thenE ?_; refine T_thenE ?_; refine T_inE ?_; refine T_thenN ?_; refine T_seq ?_; refine T_region ?_; refine T_list ?_; refine kmv rfl rfl ?_; refine T_list ?_; refine kas rfl rfl ?_; refine T_nil ?_; refine T_thenN ?_; refine T_ret ?_
      exact T_fin [_] _ ⟨rfl, trivial⟩ ⟨rfl, rfl⟩ perm_rest
theorem refover_ctr (c : Nat) (hc : c < 4294967296) : Ctr Tryd.prog 64 [.int .u32 c] [] (fun v L => v = .int .u32 ((4294967295 - c : Nat) : Int) ∧ L = []) := by
  refine Ctr.of Tryd.func64 rfl rfl (fun w F => ?_)
  simp only [Tryd.ntmps64, env0, List.cons_append, List.nil_append]
  refine T_seq ?_; refine T_region ?_; refine T_list ?_; refine kas rfl rfl ?_; refine T_nil ?_; refine T_thenN ?_; refine T_seq ?_; refine T_region ?_; refine T_list ?_; refine kmv rfl rfl ?_; refine T_list ?_; refine ksubN rfl (p := 4294967295) rfl rfl (by omega) (by simp only [fits]; omega) ?_; refine T_list ?_; refine kas rfl rfl ?_; refine T_nil ?_; refine T_thenN ?_; refine T_ret ?_
  exact T_fin [_] _ ⟨rfl, trivial⟩ ⟨rfl, rfl⟩ perm_rest
theorem refof_ctr (A : SP) (a : Option Addr) (m c : Nat) (l : List UInt8) (hr : Rd A 1 a m (l.map encB)) (hm : m ≤ 1099511627776) :
    Ctr Tryd.prog 55 [.slice a m c] [A] (fun v L => v = .int .u32 (crcOf l : Nat) ∧ L = [A]) := by
  refine Ctr.of Tryd.func55 rfl rfl (fun w F => ?_)
  simp only [Tryd.ntmps55, env0, List.cons_append, List.nil_append]
  refine T_seq ?_; refine T_region ?_; refine T_list ?_; refine kas rfl rfl ?_; refine T_nil ?_; refine T_thenN ?_; refine T_seq ?_; refine T_region ?_; refine T_list ?_; refine kmv rfl rfl ?_
  refine T_list ?_; refine T_call rfl (refall_ctr A a m c l hr 4294967295 (by decide) hm) (by repeat (first | with_reducible apply Take.nil | apply Take.cons (by repeat (first | with_reducible apply Pick.here | with_reducible apply Pick.there)))) rfl ?_
  rintro v L' ⟨rfl, rfl⟩
  simp only [List.nil_append, List.cons_append]
  refine T_list ?_; refine T_call rfl (refover_ctr _ (crcAll_lt l (by decide))) (by repeat (first | with_reducible apply Take.nil | apply Take.cons (by repeat (first | with_reducible apply Pick.here | with_reducible apply Pick.there)))) rfl ?_
  rintro v L' ⟨rfl, rfl⟩
  simp only [List.nil_append, List.cons_append]
  refine T_list ?_; refine kas rfl rfl ?_; refine T_nil ?_; refine T_thenN ?_; refine T_ret ?_
  exact T_fin [_] _ ⟨rfl, trivial⟩ ⟨rfl, rfl⟩ perm_rest
end Go.Proofs
set_option linter.unusedVariables false
set_option linter.unusedSimpArgs false
namespace Go.Sl
set_option linter.unnecessarySimpa false
open Go
def sAb {α : Type} (R : α → Prop) (Ls : α → List SP) : SP := sEx fun x h => R x ∧ sl (Ls x) h
section
variable {P : Program} {n : Nat} {w0 : World} {Q : Exit → Act → World → Prop} {env : Env} {L M M2 : List SP}
theorem Hd.openAb {α : Type} {R : α → Prop} {Ls : α → List SP} {w : World} (H : Hd w (sAb R Ls :: L)) : ∃ x, R x ∧ Hd w (Ls x ++ L) := by
  obtain ⟨x, H⟩ := H.ex
  obtain ⟨h, H⟩ := H.conj
  exact ⟨x, h, H.unsl⟩
theorem Hd.mkAb {α : Type} {R : α → Prop} {Ls : α → List SP} {w : World} (x : α) (hx : R x) (H : Hd w (Ls x ++ L)) : Hd w (sAb R Ls :: L) :=
  Hd.mkEx x (H.mksl.mkConj hx)
theorem T_open {X : Act → World → Prop} {α : Type} {R : α → Prop} {Ls : α → List SP} (hp : Pick (sAb R Ls) L M) (h : ∀ x, R x → T n w0 X env (Ls x ++ M)) : T n w0 X env L :=
  fun a w A => by
    obtain ⟨x, hx, H⟩ := (hp.back A.heap).openAb
    exact h x hx a w ⟨A.defers, A.size, A.slots, H, A.keep⟩
theorem T_guardY {ops : Array Oper} {rest : List Oper} {d : Option Nat} {op : Op} {ty : TypeId} {pos : String} {after : Array Edge} {j dj : Nat} {want : Bool}
    (hj : (ops[j]?).bind (·.dst) = some dj) (hb : look env dj = some (.bool want)) (hd : (match d with | some d => Nat.blt d n | none => true) = true)
    (h : T n w0 (wpList P ops Q (⟨d, op, ty, pos, after, none⟩ :: rest)) env L) : T n w0 (wpList P ops Q (⟨d, op, ty, pos, after, some (j, want)⟩ :: rest)) env L :=
  T_guard hj hb hd (fun _ => h) (fun h => by cases want <;> cases h)
theorem T_guardN {ops : Array Oper} {rest : List Oper} {d : Nat} {op : Op} {ty : TypeId} {pos : String} {after : Array Edge} {j dj : Nat} {want b : Bool}
    (hj : (ops[j]?).bind (·.dst) = some dj) (hb : look env dj = some (.bool b)) (hne : (b == want) = false) (hd : Nat.blt d n = true)
    (h : T n w0 (wpList P ops Q rest) ((d, undef) :: env) L) : T n w0 (wpList P ops Q (⟨some d, op, ty, pos, after, some (j, want)⟩ :: rest)) env L :=
  T_guard hj hb hd (fun h => by simp [h] at hne) (fun _ => h)
theorem T_guardNN {ops : Array Oper} {rest : List Oper} {op : Op} {ty : TypeId} {pos : String} {after : Array Edge} {j dj : Nat} {want b : Bool}
    (hj : (ops[j]?).bind (·.dst) = some dj) (hb : look env dj = some (.bool b)) (hne : (b == want) = false)
    (h : T n w0 (wpList P ops Q rest) env L) : T n w0 (wpList P ops Q (⟨none, op, ty, pos, after, some (j, want)⟩ :: rest)) env L :=
  T_guard hj hb rfl (fun h => by simp [h] at hne) (fun _ => h)
theorem T_close {X : Act → World → Prop} {α : Type} {R : α → Prop} {Ls : α → List SP} (x : α) (hx : R x) (hp : Take (Ls x) L M) (h : T n w0 X env (sAb R Ls :: M)) : T n w0 X env L :=
  T_hd (fun w H => Hd.mkAb x hx (H.perm hp)) h
end
section
variable {n : Nat} {w0 : World} {env : Env} {L M M2 : List SP} {Y : Act → World → Prop}
theorem T_slNil (h : T n w0 Y env (sl [] :: L)) : T n w0 Y env L := T_hd (fun w H => Hd.mksl (M := []) H) h
theorem T_slSnoc {X : List SP} {A : SP} (hp : Pick (sl X) L M) (hp2 : Pick A M M2) (h : T n w0 Y env (sl (X ++ [A]) :: M2)) : T n w0 Y env L :=
  T_hd (fun w H => by
    have H1 : Hd w (sl X :: A :: M2) := (hp.back H).perm (hp2.cons _)
    have H2 := H1.unsl
    refine Hd.mksl (H2.perm ?_)
    rw [List.append_assoc]
    exact List.Perm.refl _) h
theorem T_slCons {X : List SP} {A : SP} (hp : Pick (sl X) L M) (hp2 : Pick A M M2) (h : T n w0 Y env (sl (A :: X) :: M2)) : T n w0 Y env L :=
  T_hd (fun w H => by
    have H1 : Hd w (sl X :: A :: M2) := (hp.back H).perm (hp2.cons _)
    have H2 : Hd w (A :: (X ++ M2)) := H1.unsl.perm List.perm_middle
    exact Hd.mksl (M := A :: X) H2) h
theorem T_slOpen {X : List SP} (hp : Pick (sl X) L M) (h : T n w0 Y env (X ++ M)) : T n w0 Y env L := T_hd (fun w H => (hp.back H).unsl) h
end
theorem Pick.rowE {b t : Nat} {X Y : List Value} {L : List SP} (h : Y = X) : Pick (row b t X) (row b t Y :: L) L := by subst h; exact Pick.here
theorem Pick.slcE {t k : Nat} {a : Option Addr} {m m' c c' : Nat} {X Y : List Value} {L : List SP} (hm : m' = m) (hc : c' = c) (h : Y = X) : Pick (slc t k a m c X) (slc t k a m' c' Y :: L) L := by subst h; subst hm; subst hc; exact Pick.here
theorem Pick.imapE {r : Nat} {X Y : List (Int × Value)} {L : List SP} (h : Y = X) : Pick (imap r X) (imap r Y :: L) L := by subst h; exact Pick.here
section
variable {P : Program} {n : Nat} {w0 : World} {env : Env} {L M : List SP} {dd : Option Nat} {ty : TypeId} {pos : String} {after : Array Edge} {g : Option (Nat × Bool)}
theorem S_iaS1 {t e len l : Nat} {x i : Operand} {a : Option Addr} {t' k' m c : Nat} {xs : List Value} {kk : IntKind} {q : Nat} [h : ArrTy P t len e 1] (hx : ev env x = some (.pointer (some (sAt a l)))) (hj : ev env i = some (.int kk (q : Int))) (hi : q < len)
    (hp : Pick (slc t' k' a m c xs) L M) : Still P n w0 env L ⟨dd, .indexAddr t x i, ty, pos, after, g⟩ (.pointer (some (sAt a (l + q)))) := by
  have := S_indexArrS (P := P) (n := n) (w0 := w0) (d := dd) (ty := ty) (pos := pos) (after := after) (g := g) (t := t) (e := e) hx hj (by omega) hp
  rwa [Int.toNat_natCast, Nat.mul_one] at this
theorem S_xorNN {xt yt : TypeId} {x y : Operand} {k : IntKind} {p q : Nat} (hx : ev env x = some (.int k (p : Int))) (hy : ev env y = some (.int k (q : Int))) (hs : k.signed = false) (hp : p < 2 ^ k.bits) (hq : q < 2 ^ k.bits) :
    Still P n w0 env L ⟨dd, .binOp .xor xt x y yt, ty, pos, after, g⟩ (.int k ((p ^^^ q : Nat) : Int)) := S_bits hx hy (bits_nat hs hp hq (.inr (.inr ⟨rfl, rfl⟩)))
/-- To the left, by a number. -/
theorem S_shlNN {xt yt : TypeId} {x y : Operand} {k k' : IntKind} {p q : Nat} (hx : ev env x = some (.int k (p : Int))) (hy : ev env y = some (.int k' (q : Int))) (hq : q ≤ k.bits) (hf : fits k ((p * 2 ^ q : Nat) : Int)) :
    Still P n w0 env L ⟨dd, .binOp .shl xt x y yt, ty, pos, after, g⟩ (.int k ((p * 2 ^ q : Nat) : Int)) := by
  have := S_shl (P := P) (n := n) (w0 := w0) (L := L) (d := dd) (ty := ty) (pos := pos) (after := after) (g := g) (xt := xt) (yt := yt) hx hy (by omega)
  have e : ((p : Int) * 2 ^ (min ((q : Int).toNat) k.bits)) = ((p * 2 ^ q : Nat) : Int) := by
    rw [Int.toNat_natCast, Nat.min_eq_left hq]; norm_cast
  rwa [e, wrap_fits hf] at this
end
section
variable {P : Program} {n : Nat} {w0 : World} {Q : Exit → Act → World → Prop} {env : Env} {L M : List SP} {ops : Array Oper} {A : SP}
theorem S_cmpT {dd : Option Nat} {op : BinOp} {xt yt : TypeId} {x y : Operand} {k : IntKind} {a b : Int} {c : Bool} {ty : TypeId} {pos : String} {after : Array Edge} {g : Option (Nat × Bool)} (hx : ev env x = some (.int k a)) (hy : ev env y = some (.int k b)) (ho : cmp op a b = some c) (hc : c = true) :
    Still P n w0 env L ⟨dd, .binOp op xt x y yt, ty, pos, after, g⟩ (.bool true) := hc ▸ S_cmp hx hy ho
theorem S_cmpF {dd : Option Nat} {op : BinOp} {xt yt : TypeId} {x y : Operand} {k : IntKind} {a b : Int} {c : Bool} {ty : TypeId} {pos : String} {after : Array Edge} {g : Option (Nat × Bool)} (hx : ev env x = some (.int k a)) (hy : ev env y = some (.int k b)) (ho : cmp op a b = some c) (hc : c = false) :
    Still P n w0 env L ⟨dd, .binOp op xt x y yt, ty, pos, after, g⟩ (.bool false) := hc ▸ S_cmp hx hy ho
theorem kquoNP {K : Act → World → Prop} {d : Nat} {xt yt : TypeId} {x y : Operand} {k : IntKind} {p q : Nat} {ty : TypeId} {pos : String} {after : Array Edge} {g : Option (Nat × Bool)} (hd : Nat.blt d n = true) (hx : ev env x = some (.int k (p : Int))) (hy : ev env y = some (.int k (q : Int))) (hq : 0 < q) (hf : fits k p) (h : T n w0 K ((d, .int k ((p / q : Nat) : Int)) :: env) L) :
    T n w0 (opO P ⟨some d, .binOp .quo xt x y yt, ty, pos, after, g⟩ K) env L := T_still hd (S_quoNN hx hy (by simpa [Nat.blt_eq] using hq) hf) h
theorem S_cvS {dd : Option Nat} {src dst e : TypeId} {x : Operand} {a : Option Addr} {m c : Nat} {l : List UInt8} {ty : TypeId} {pos : String} {after : Array Edge} {g : Option (Nat × Bool)} [hu : UndTy P dst .string] [hs : SliceTy P src e 1 1] [he : UndTy P e (.int .u8)]
    (hr : Rd A 1 a m (l.map encB)) (hp : Pick A L M) (hx : ev env x = some (.slice a m c)) : Still P n w0 env L ⟨dd, .convert src dst x, ty, pos, after, g⟩ (.string ⟨l.toArray⟩) :=
  fun a' w A' => by
    have := run_bytesToString (P := P) (c := c) (hp.back A'.heap) hr
    simp [execOp, A'.ev hx, convert, run_und hs.und, run_und hu.und, run_und he.und, this]
/-- Guarded operations in a region that draws its order. -/
theorem d_stillGY {S : List Nat} {N : Act → World → Prop} {i d j dj : Nat} {want : Bool} {op : Op} {ty : TypeId} {pos : String} {after : Array Edge} {r : List (Nat × Bool)}
    (hi : ops[i]? = some ⟨some d, op, ty, pos, after, some (j, want)⟩) (hd : Nat.blt d n = true) (hj : (ops[j]?).bind (·.dst) = some dj) (hb : look env dj = some (.bool want))
    (h : ∃ v, Still P n w0 env L ⟨some d, op, ty, pos, after, some (j, want)⟩ v ∧ T n w0 (wpSeq P ops (fun w => Hd w L ∧ Keep w0 w) S N r) ((d, v) :: env) L) :
    T n w0 (wpSeq P ops (fun w => Hd w L ∧ Keep w0 w) S N ((i, true) :: r)) env L := by
  obtain ⟨v, hr, h⟩ := h
  intro a w A
  have hyl : yielded ops a.tmps j = some want := by
    simp only [yielded, hj, Option.bind_some]
    rw [A.slots _ _ hb]
  exact ⟨_, v, hi, .inl ⟨by simp [Region.wanted, hyl], fun w' hw' => hr a w' ⟨A.defers, A.size, A.slots, hw'.1, hw'.2⟩⟩, ⟨A.heap, A.keep⟩,
    h _ _ (A.put (by simpa [Nat.blt_eq] using hd) A.heap (.refl _))⟩
theorem d_stillGN {S : List Nat} {N : Act → World → Prop} {i d j dj : Nat} {want b : Bool} {op : Op} {ty : TypeId} {pos : String} {after : Array Edge} {r : List (Nat × Bool)}
    (hi : ops[i]? = some ⟨some d, op, ty, pos, after, some (j, want)⟩) (hd : Nat.blt d n = true) (hj : (ops[j]?).bind (·.dst) = some dj) (hb : look env dj = some (.bool b)) (hne : (b == want) = false)
    (h : T n w0 (wpSeq P ops (fun w => Hd w L ∧ Keep w0 w) S N r) ((d, undef) :: env) L) :
    T n w0 (wpSeq P ops (fun w => Hd w L ∧ Keep w0 w) S N ((i, true) :: r)) env L := by
  intro a w A
  have hyl : yielded ops a.tmps j = some b := by
    simp only [yielded, hj, Option.bind_some]
    rw [A.slots _ _ hb]
  have hne : ¬ b = want := fun e => by simp [e] at hne
  exact ⟨_, undef, hi, .inr ⟨by simp [Region.wanted, hyl, hne], rfl⟩, ⟨A.heap, A.keep⟩,
    h _ _ (A.put (by simpa [Nat.blt_eq] using hd) A.heap (.refl _))⟩
theorem T_drawA {i : Nat} {l : List Oper} (A : SP) (S : List Nat) (ord : List (Nat × Bool)) (hm : P.follows .mixedOrders = true)
    (hlen : Nat.beq ord.length l.length = true) (hok : (Region.noSelect l.toArray && okSeq l.toArray S ord (Array.replicate l.length false)) = true)
    (h : T n w0 (wpSeq P l.toArray (fun w => Hd w [A] ∧ Keep w0 w) S (Q .normal) ord) env L) : T n w0 ((Code.region i l.toArray true).wp P Q) env L :=
  T_regionD [A] S ord hm (by simpa using hlen) hok h
theorem d_stillA {S : List Nat} {N : Act → World → Prop} {i d : Nat} {op : Op} {ty : TypeId} {pos : String} {after : Array Edge} {r : List (Nat × Bool)} (hp : Pick A L M)
    (hi : ops[i]? = some ⟨some d, op, ty, pos, after, none⟩) (hd : Nat.blt d n = true) (h : ∃ v, Still P n w0 env [A] ⟨some d, op, ty, pos, after, none⟩ v ∧ T n w0 (wpSeq P ops (fun w => Hd w [A] ∧ Keep w0 w) S N r) ((d, v) :: env) L) :
    T n w0 (wpSeq P ops (fun w => Hd w [A] ∧ Keep w0 w) S N ((i, true) :: r)) env L := by
  obtain ⟨v, h1, h2⟩ := h
  exact T_seqStill (M := M) hi hd hp h1 h2
theorem d_backA {i : Nat} {S : List Nat} {X : Act → World → Prop} (hp : Pick A L M) (h : T n w0 X env L) : T n w0 (fun a' w' => (S.contains i = true ∨ (Hd w' [A] ∧ Keep w0 w')) ∧ X a' w') env L :=
  T_seqC (M := M) hp h
end
theorem find_upd {l : List (Int × Value)} {k j : Int} {v : Value} : find (upd l k v) j = if j = k then some v else find l j := by
  unfold upd
  split
  · rename_i h
    simp only [find]
    induction l with
    | nil => simp at h
    | cons p l ih =>
      simp only [List.map_cons, List.find?_cons]
      by_cases hp : p.1 = k
      · simp only [hp, if_true]
        by_cases hj : j = k
        · subst hj; simp
        · have e1 : (k == j) = false := by simp; exact fun h => hj h.symm
          simp only [e1, if_neg hj]
          by_cases hl : l.any (·.1 == k) = true
          · have := ih hl; rw [if_neg hj] at this; exact this
          · have : l.map (fun p => if p.1 = k then (k, v) else p) = l := by
              have e : l.map (fun p => if p.1 = k then (k, v) else p) = l.map id := List.map_congr_left (fun q hq => if_neg (fun e => hl (List.any_eq_true.2 ⟨q, hq, by simp [e]⟩)))
              rw [e, List.map_id]
            rw [this]
      · simp only [hp, if_false]
        have hl : l.any (·.1 == k) = true := by
          simp only [List.any_cons, Bool.or_eq_true] at h
          rcases h with h | h
          · simp at h; exact absurd h hp
          · exact h
        by_cases hj : p.1 = j
        · have : ¬ j = k := fun e => hp (hj.trans e)
          simp [hj, this]
        · have e1 : (p.1 == j) = false := by simp [hj]
          simp only [e1]
          exact ih hl
  · rename_i h
    have hno : ∀ q ∈ l, q.1 ≠ k := fun q hq e => h (List.any_eq_true.2 ⟨q, hq, by simp [e]⟩)
    simp only [find, List.find?_append]
    by_cases hj : j = k
    · subst hj
      have : l.find? (·.1 == j) = none := List.find?_eq_none.2 (fun q hq => by simpa using hno q hq)
      simp [this]
    · have e1 : (k == j) = false := by simp; exact fun h => hj h.symm
      simp only [List.find?_cons, e1, List.find?_nil, Option.or_none, if_neg hj]
theorem find_del {l : List (Int × Value)} {k j : Int} : find (del l k) j = if j = k then none else find l j := by
  simp only [find, del]
  induction l with
  | nil => simp
  | cons p l ih =>
    simp only [List.filter_cons, List.find?_cons]
    by_cases hp : p.1 = k
    · have e1 : (p.1 != k) = false := by simp [hp]
      simp only [e1, Bool.false_eq_true, if_false]
      by_cases hj : j = k
      · subst hj; simpa using ih
      · have e2 : (p.1 == j) = false := by simp [hp]; exact fun h => hj h.symm
        simpa [e2, hj] using ih
    · have e1 : (p.1 != k) = true := by simp [hp]
      simp only [e1, if_true, List.find?_cons]
      by_cases hj : p.1 = j
      · have : ¬ j = k := fun e => hp (hj.trans e)
        simp [hj, this]
      · have e2 : (p.1 == j) = false := by simp [hj]
        simpa [e2] using ih
theorem find_mem {l : List (Int × Value)} (hn : (l.map (·.1)).Nodup) {k : Int} {v : Value} (h : (k, v) ∈ l) : find l k = some v := by
  induction l with
  | nil => simp at h
  | cons p l ih =>
    simp only [List.map_cons, List.nodup_cons] at hn
    simp only [find, List.find?_cons]
    rcases List.mem_cons.1 h with rfl | h
    · simp
    · have : p.1 ≠ k := fun e => hn.1 (e ▸ List.mem_map.2 ⟨(k, v), h, rfl⟩)
      have e : (p.1 == k) = false := by simp [this]
      simp only [e]; exact ih hn.2 h
theorem mem_find {l : List (Int × Value)} {k : Int} {v : Value} (h : find l k = some v) : (k, v) ∈ l := by
  simp only [find, Option.map_eq_some_iff] at h
  obtain ⟨p, hp, rfl⟩ := h
  have h1 := List.find?_some hp
  have h2 := List.mem_of_find?_eq_some hp
  have : p.1 = k := by simpa using h1
  rw [← this]; exact h2
theorem find_nil (k : Int) : find [] k = none := rfl
theorem Hd.mapNodup {w : World} {r : Nat} {l : List (Int × Value)} {L : List SP} (H : Hd w (imap r l :: L)) : (l.map (·.1)).Nodup := by
  obtain ⟨es, c, he, H⟩ := H.openImap
  exact he.nodup
theorem Hd.mapItNodup {w : World} {r b : Nat} {l : List (Int × Value)} {S : List Int} {L : List SP} (H : Hd w (imapIt r b l S :: L)) : (l.map (·.1)).Nodup := H.endIt.mapNodup

theorem flat_get {α : Type} (f : α → List Value) (k : Nat) : ∀ (l : List α) (i : Nat) (hi : i < l.length), (∀ x ∈ l, (f x).length = k) → ((l.flatMap f).drop (i * k)).take k = f l[i]
  | x :: l, 0, hi, h => by
    have := h x (by simp)
    simp [List.flatMap_cons, ← this]
  | x :: l, i + 1, hi, h => by
    have h0 := h x (by simp)
    have := flat_get f k l i (by simpa using hi) (fun y hy => h y (by simp [hy]))
    rw [List.flatMap_cons, Nat.succ_mul, Nat.add_comm, ← List.drop_drop, List.drop_left' h0]
    simpa using this
theorem flatMap_len {α : Type} (f : α → List Value) (k : Nat) (l : List α) (h : ∀ x ∈ l, (f x).length = k) : (l.flatMap f).length = l.length * k := by
  induction l with
  | nil => simp
  | cons x l ih =>
    rw [List.flatMap_cons, List.length_append, h x (by simp), ih (fun y hy => h y (by simp [hy])), List.length_cons, Nat.succ_mul, Nat.add_comm]
theorem flat_set {α : Type} (f : α → List Value) (k : Nat) : ∀ (l : List α) (i : Nat) (x : α), i < l.length → (∀ y ∈ l, (f y).length = k) → (f x).length = k → splice (l.flatMap f) (i * k) (f x) = (l.set i x).flatMap f
  | y :: l, 0, x, hi, h, hx => by
    have h0 := h y (by simp)
    simp [splice, List.flatMap_cons, hx, ← h0]
  | y :: l, i + 1, x, hi, h, hx => by
    have h0 := h y (by simp)
    have := flat_set f k l i x (by simpa using hi) (fun z hz => h z (by simp [hz])) hx
    rw [List.set_cons_succ, List.flatMap_cons, List.flatMap_cons, ← this]
    simp only [splice, hx]
    have e1 : (i + 1) * k = (f y).length + i * k := by rw [Nat.succ_mul, h0]; omega
    rw [e1, List.take_append, List.drop_append, List.take_of_length_le (by omega), List.drop_of_length_le (by omega)]
    simp only [Nat.add_sub_cancel_left, List.append_assoc, List.nil_append]
    congr 3
    congr 1
    omega
end Go.Sl
namespace Go.Proofs
set_option linter.unusedSimpArgs false
set_option linter.unnecessarySimpa false
open Go Go.Sl
set_option linter.unusedVariables false
abbrev Bytes := List UInt8
structure Dsk where
  k : List Bytes
  w : List (Option Bytes)
  left : Int
structure Dsk.ok (d : Dsk) : Prop where
  len : d.w.length = d.k.length
  few : d.k.length ≤ 512
  k64 : ∀ s ∈ d.k, s.length = 64
  w64 : ∀ s, some s ∈ d.w → s.length = 64
  low : -1 ≤ d.left
  high : d.left ≤ 1048576
def Dsk.new (n : Nat) : Dsk := ⟨List.replicate n (List.replicate 64 0), List.replicate n none, -1⟩
def Dsk.has (d : Dsk) (i : Int) : Prop := 0 ≤ i ∧ i < d.k.length
instance (d : Dsk) (i : Int) : Decidable (d.has i) := by unfold Dsk.has; exact inferInstance
/-- What a sector holds, as it is read. -/
def Dsk.at (d : Dsk) (i : Nat) : Bytes := ((d.w.getD i none)).getD (d.k.getD i [])
def Dsk.tick (d : Dsk) : Dsk := { d with left := max (d.left - 1) (-1) }
def pad (b : Bytes) : Bytes := b ++ List.replicate (64 - b.length) 0
def Dsk.put (d : Dsk) (i : Nat) (b : Bytes) : Dsk := { d with w := d.w.set i (some (pad b)) }
def Dsk.write (d : Dsk) (i : Int) (b : Bytes) : Int × Dsk :=
  if d.left = 0 then (19, d) else if ¬ d.has i then (6, d.tick) else if 64 < b.length then (22, d.tick) else (0, d.tick.put i.toNat b)
def Dsk.flushed (d : Dsk) : Dsk := { d with k := List.zipWith (fun s o => o.getD s) d.k d.w, w := List.replicate d.k.length none }
def Dsk.flush (d : Dsk) : Int × Dsk := if d.left = 0 then (19, d) else (0, d.tick.flushed)
/-- A sector that waits is kept, or not. -/
def Dsk.keep (d : Dsk) (i : Nat) (is : Bool) : Dsk := { d with k := if is then d.k.set i ((d.w.getD i none).getD []) else d.k, w := d.w.set i none }
def Dsk.waits (d : Dsk) : List Nat := (List.range d.k.length).filter fun i => (d.w.getD i none).isSome
def Dsk.keeps (d : Dsk) (keep : List Bool) (k : Nat) : List Nat → Dsk
  | [] => d
  | i :: l => (d.keep i (keep.getD k false)).keeps keep (k + 1) l
def Dsk.crash (d : Dsk) (keep : List Bool) : Dsk := { (d.keeps keep 0 d.waits) with left := -1 }
def Dsk.arm (d : Dsk) (n : Int) : Dsk := { d with left := max 0 (min n 1048576) }
def flip (b : UInt8) (k : Nat) : UInt8 := b ^^^ UInt8.ofNat (2 ^ k)
def Dsk.rot (d : Dsk) (i bit : Int) : Dsk := if d.has i ∧ 0 ≤ bit ∧ bit < 512 then
  { d with k := d.k.set i.toNat ((d.k.getD i.toNat []).set (bit.toNat / 8) (flip ((d.k.getD i.toNat []).getD (bit.toNat / 8) 0) (bit.toNat % 8))) } else d

theorem Dsk.ok.new {n : Nat} (h : n ≤ 512) : (Dsk.new n).ok := by
  refine ⟨by simp [Dsk.new], by simpa [Dsk.new] using h, ?_, ?_, by simp [Dsk.new], by simp [Dsk.new]⟩
  · intro s hs; simp [Dsk.new] at hs; simp [hs.2]
  · intro s hs; simp [Dsk.new] at hs
theorem Dsk.ok.tick {d : Dsk} (h : d.ok) : d.tick.ok := ⟨h.len, h.few, h.k64, h.w64, by simp only [Dsk.tick]; omega, by have := h.high; simp only [Dsk.tick]; omega⟩
theorem pad_length {b : Bytes} (h : b.length ≤ 64) : (pad b).length = 64 := by simp [pad]; omega
theorem mem_set {α : Type} {l : List α} {i : Nat} {x y : α} (h : y ∈ l.set i x) : y ∈ l ∨ y = x := List.mem_or_eq_of_mem_set h
theorem Dsk.ok.put {d : Dsk} (h : d.ok) {i : Nat} {b : Bytes} (hb : b.length ≤ 64) : (d.put i b).ok := by
  refine ⟨by simpa [Dsk.put] using h.len, h.few, h.k64, ?_, h.low, h.high⟩
  intro s hs
  rcases mem_set hs with hs | hs
  · exact h.w64 s hs
  · cases hs; exact pad_length hb
theorem Dsk.ok.write {d : Dsk} (h : d.ok) (i : Int) (b : Bytes) : (d.write i b).2.ok := by
  unfold Dsk.write
  split
  · exact h
  · split
    · exact h.tick
    · split
      · exact h.tick
      · exact h.tick.put (by omega)
theorem Dsk.ok.flushed {d : Dsk} (h : d.ok) : d.flushed.ok := by
  have hl := h.len
  refine ⟨by simp [Dsk.flushed]; omega, by simpa [Dsk.flushed, hl] using h.few, ?_, ?_, h.low, h.high⟩
  · intro s hs
    obtain ⟨i, hi⟩ := List.getElem?_of_mem hs
    simp only [Dsk.flushed, List.getElem?_zipWith] at hi
    split at hi
    · rename_i a b ha hb
      cases b with
      | none => simp at hi; subst hi; exact h.k64 _ (List.mem_of_getElem? ha)
      | some t => simp at hi; subst hi; exact h.w64 _ (List.mem_of_getElem? hb)
    · cases hi
  · intro s hs; simp [Dsk.flushed] at hs
theorem Dsk.ok.flush {d : Dsk} (h : d.ok) : d.flush.2.ok := by
  unfold Dsk.flush; split
  · exact h
  · exact h.tick.flushed
theorem Dsk.ok.arm {d : Dsk} (h : d.ok) (n : Int) : (d.arm n).ok := ⟨h.len, h.few, h.k64, h.w64, by simp only [Dsk.arm]; omega, by simp only [Dsk.arm]; omega⟩
theorem Dsk.ok.rot {d : Dsk} (h : d.ok) (i bit : Int) : (d.rot i bit).ok := by
  unfold Dsk.rot; split
  · rename_i hc
    refine ⟨by simpa using h.len, by simpa using h.few, ?_, h.w64, h.low, h.high⟩
    intro s hs
    rcases mem_set hs with hs | hs
    · exact h.k64 s hs
    · subst hs
      have hi : i.toNat < d.k.length := by have := hc.1; unfold Dsk.has at this; omega
      simp only [List.length_set]
      rw [List.getD_eq_getElem?_getD, List.getElem?_eq_getElem hi]
      exact h.k64 _ (List.getElem_mem hi)
  · exact h
theorem getD_none_some {w : List (Option Bytes)} {i : Nat} {s : Bytes} (h : w.getD i none = some s) : some s ∈ w := by
  rw [List.getD_eq_getElem?_getD] at h
  cases hw : w[i]? with
  | none => rw [hw] at h; cases h
  | some o => rw [hw] at h; simp at h; subst h; exact List.mem_of_getElem? hw
theorem Dsk.ok.keep {d : Dsk} (h : d.ok) {i : Nat} {is : Bool} (hw : (d.w.getD i none).isSome = true) : (d.keep i is).ok := by
  obtain ⟨t, ht⟩ := Option.isSome_iff_exists.1 hw
  refine ⟨?_, ?_, ?_, ?_, h.low, h.high⟩
  · simp only [Dsk.keep]; split <;> simpa using h.len
  · simp only [Dsk.keep]; split <;> simpa using h.few
  · intro s hs
    simp only [Dsk.keep] at hs
    split at hs
    · rcases mem_set hs with hs | hs
      · exact h.k64 s hs
      · rw [ht] at hs; simp at hs; subst hs; exact h.w64 _ (getD_none_some ht)
    · exact h.k64 s hs
  · intro s hs
    rcases mem_set hs with hs | hs
    · exact h.w64 s hs
    · cases hs
theorem Dsk.at_length {d : Dsk} (h : d.ok) {i : Nat} (hi : i < d.k.length) : (d.at i).length = 64 := by
  unfold Dsk.at
  cases hw : d.w.getD i none with
  | none =>
    simp only [Option.getD_none]
    rw [List.getD_eq_getElem?_getD, List.getElem?_eq_getElem hi]
    exact h.k64 _ (List.getElem_mem hi)
  | some s => exact h.w64 s (getD_none_some hw)
theorem flip_nat (b : UInt8) {k : Nat} (hk : k < 8) : (b.toNat ^^^ (1 * 2 ^ k)) = (flip b k).toNat := by
  have : 2 ^ k ≤ 2 ^ 7 := Nat.pow_le_pow_right (by decide) (by omega)
  rw [flip, UInt8.toNat_xor, UInt8.toNat_ofNat', Nat.one_mul, Nat.mod_eq_of_lt (by omega)]
end Go.Proofs
namespace Go.Proofs
set_option linter.unnecessarySimpa false
open Go Go.Sl
attribute [local irreducible] Still T opO Sl.Inv row slc wpSeq Code.wp wpList Exit.then Exit.inBlock
set_option linter.unusedVariables false
set_option linter.unusedSimpArgs false
set_option maxRecDepth 4000
abbrev Arena := List (Option Addr × Nat × Bytes)
abbrev arena (ar : Arena) : SP := sl (ar.map fun x => slc 5 1 x.1 64 x.2.1 (x.2.2.map encB))
/-- A slice that holds a sector. -/
def Sec (ar : Arena) (v : Value) (s : Bytes) : Prop := ∃ a c, v = .slice a 64 c ∧ (a, c, s) ∈ ar
theorem Sec.mono {ar : Arena} {v : Value} {s : Bytes} (h : Sec ar v s) (x : Option Addr × Nat × Bytes) : Sec (x :: ar) v s := by
  obtain ⟨a, c, e, hm⟩ := h; exact ⟨a, c, e, List.mem_cons_of_mem _ hm⟩
theorem Sec.one {ar : Arena} {v : Value} {s : Bytes} (h : Sec ar v s) : v.oneCell' = true := by
  obtain ⟨a, c, rfl, hm⟩ := h; rfl
theorem arena_rd {ar : Arena} {a : Option Addr} {c : Nat} {s : Bytes} (h : (a, c, s) ∈ ar) : Rd (arena ar) 1 a 64 (s.map encB) :=
  Rd.mem (List.mem_map.2 ⟨_, h, rfl⟩) Rd.slc
structure RX where
  aK : Option Addr
  cK : Nat
  aW : Option Addr
  cW : Nat
  aI : Option Addr
  cI : Nat
  vK : List Value
  vW : List Value
  ar : Arena
structure rdR (d : Dsk) (x : RX) : Prop where
  ok : d.ok
  lenK : x.vK.length = d.k.length
  lenW : x.vW.length = d.k.length
  oneW : ∀ v ∈ x.vW, v.oneCell' = true
  secK : ∀ i, i < d.k.length → Sec x.ar (x.vK.getD i undef) (d.k.getD i [])
  secW : ∀ i s, d.w.getD i none = some s → Sec x.ar (x.vW.getD i undef) s
def inB (o : Option Bytes) : Value := .bool o.isSome
abbrev rdL (p : Nat) (d : Dsk) (x : RX) : List SP :=
  [row p 54 [.slice x.aK d.k.length x.cK, .slice x.aW d.k.length x.cW, .slice x.aI d.k.length x.cI, .int .i64 d.left], slc 36 1 x.aK d.k.length x.cK x.vK, slc 36 1 x.aW d.k.length x.cW x.vW,
    slc 4 1 x.aI d.k.length x.cI (d.w.map inB), arena x.ar]
abbrev RD (p : Nat) (d : Dsk) : SP := sAb (rdR d) (rdL p d)
theorem getD_lt {α : Type} {l : List α} {i : Nat} (h : i < l.length) (x : α) : l[i]? = some (l.getD i x) := by
  rw [List.getD_eq_getElem?_getD, List.getElem?_eq_getElem h]; rfl
theorem rdR.getK {d : Dsk} {x : RX} (h : rdR d x) {i : Nat} (hi : i < d.k.length) : x.vK[i]? = some (x.vK.getD i undef) := getD_lt (by rw [h.lenK]; exact hi) _
theorem rdR.getW {d : Dsk} {x : RX} (h : rdR d x) {i : Nat} (hi : i < d.k.length) : x.vW[i]? = some (x.vW.getD i undef) := getD_lt (by rw [h.lenW]; exact hi) _
theorem rdR.getI {d : Dsk} {x : RX} (h : rdR d x) {i : Nat} (hi : i < d.k.length) : (d.w.map inB)[i]? = some (.bool (d.w.getD i none).isSome) := by
  rw [List.getElem?_map, getD_lt (by rw [h.ok.len]; exact hi) none]; rfl
theorem rdR.one {d : Dsk} {x : RX} (h : rdR d x) {i : Nat} (hi : i < d.k.length) : (x.vW.getD i undef).oneCell' = true := h.oneW _ (List.mem_of_getElem? (h.getW hi))
theorem rarm_ctr (p : Nat) (d : Dsk) (i : Int) : Ctr Tryd.prog 15 [.pointer (some ⟨p, 0, none⟩), .int .i64 i] [RD p d] (fun v L => L = [RD p (d.arm i)]) := by
  refine Ctr.of Tryd.func15 rfl rfl (fun w F => ?_)
  simp only [Tryd.ntmps15, env0, List.cons_append, List.nil_append]
  refine T_open Pick.here ?_
  rintro x hx
  simp only [rdL, List.cons_append, List.nil_append]
  have e : min (1048576 : Int) i = min i 1048576 := by omega
  refine T_region ?_; refine T_list ?_; refine kmv rfl rfl ?_; refine T_list ?_; refine kmv rfl rfl ?_; refine T_list ?_; refine kmin rfl rfl rfl ?_; refine T_list ?_; refine kmax rfl rfl rfl ?_; refine T_list ?_; refine knc rfl rfl ?_; refine T_list ?_; refine kfd rfl rfl ?_; refine T_list ?_; refine kst rfl rfl rfl (by repeat (first | with_reducible apply Pick.here | with_reducible apply Pick.there)) rfl ?_; refine T_nil ?_
  rw [e]
  refine T_close (R := rdR (d.arm i)) (Ls := rdL p (d.arm i)) x ⟨hx.ok.arm i, hx.lenK, hx.lenW, hx.oneW, hx.secK, hx.secW⟩ (by repeat (first | with_reducible apply Take.nil | apply Take.cons (by repeat (first | with_reducible apply Pick.here | ((with_reducible refine Pick.rowE ?_); rfl) | ((with_reducible refine Pick.slcE ?_ ?_ ?_) <;> rfl) | ((with_reducible refine Pick.imapE ?_); rfl) | with_reducible apply Pick.there)))) ?_
  exact T_finN [] _ trivial rfl perm_rest
theorem rcall_ctr (p : Nat) (d : Dsk) : Ctr Tryd.prog 57 [.pointer (some ⟨p, 0, none⟩)] [RD p d] (fun v L => v = .bool (!decide (d.left = 0)) ∧ L = [RD p (if d.left = 0 then d else d.tick)]) := by
  refine Ctr.of Tryd.func57 rfl rfl (fun w F => ?_)
  simp only [Tryd.ntmps57, env0, List.cons_append, List.nil_append]
  refine T_open Pick.here ?_
  rintro x hx
  have hlo := hx.ok.low
  have hhi := hx.ok.high
  simp only [rdL, List.cons_append, List.nil_append]
  refine T_seq ?_; refine T_region ?_; refine T_list ?_; refine kas rfl rfl ?_; refine T_nil ?_; refine T_thenN ?_; refine T_seq ?_; refine T_seq ?_; refine T_region ?_; refine T_list ?_; refine kmv rfl rfl ?_; refine T_list ?_; refine knc rfl rfl ?_; refine T_list ?_; refine kfd rfl rfl ?_; refine T_list ?_; refine kld rfl rfl (by repeat (first | with_reducible apply Pick.here | with_reducible apply Pick.there)) rfl ?_; refine T_list ?_; refine kcmp rfl rfl rfl rfl ?_; refine T_nil ?_; refine T_thenN ?_
  refine T_cond rfl (fun h => ?_) (fun h => ?_) <;> simp only [decide_eq_true_eq, decide_eq_false_iff_not, ne_eq, Decidable.not_not, Bool.not_eq_true', Bool.not_eq_false', Bool.cond_eq_true_distrib, Bool.cond_eq_false_distrib] at h
  · refine T_seq ?_; refine T_region ?_; refine T_list ?_; refine kas rfl rfl ?_; refine T_nil ?_; refine T_thenN ?_; refine T_ret ?_; refine T_thenR ?_
    refine T_close (R := rdR d) (Ls := rdL p d) x hx (by repeat (first | with_reducible apply Take.nil | apply Take.cons (by repeat (first | with_reducible apply Pick.here | ((with_reducible refine Pick.rowE ?_); rfl) | ((with_reducible refine Pick.slcE ?_ ?_ ?_) <;> rfl) | ((with_reducible refine Pick.imapE ?_); rfl) | with_reducible apply Pick.there)))) ?_
    refine T_fin [_] _ ⟨rfl, trivial⟩ ⟨?_, rfl⟩ ?_
    · simp [resOf, h]
    · rw [if_pos h]; exact perm_rest
  · have ht : rdR d.tick x := ⟨hx.ok.tick, hx.lenK, hx.lenW, hx.oneW, hx.secK, hx.secW⟩
    refine T_skip ?_; refine T_thenN ?_; refine T_seq ?_; refine T_seq ?_; refine T_region ?_; refine T_list ?_; refine kmv rfl rfl ?_; refine T_list ?_; refine knc rfl rfl ?_; refine T_list ?_; refine kfd rfl rfl ?_; refine T_list ?_; refine kld rfl rfl (by repeat (first | with_reducible apply Pick.here | with_reducible apply Pick.there)) rfl ?_; refine T_list ?_; refine kcmp rfl rfl rfl rfl ?_; refine T_nil ?_; refine T_thenN ?_
    refine T_cond rfl (fun hc => ?_) (fun hc => ?_) <;> simp only [decide_eq_true_eq, decide_eq_false_iff_not, ne_eq, Decidable.not_not, Bool.not_eq_true', Bool.not_eq_false', Bool.cond_eq_true_distrib, Bool.cond_eq_false_distrib] at hc
    · have e : d.left - 1 = max (d.left - 1) (-1) := by omega
      refine T_region ?_; refine T_list ?_; refine kmv rfl rfl ?_; refine T_list ?_; refine knc rfl rfl ?_; refine T_list ?_; refine kfd rfl rfl ?_; refine T_list ?_; refine kld rfl rfl (by repeat (first | with_reducible apply Pick.here | with_reducible apply Pick.there)) rfl ?_; refine T_list ?_; refine kar rfl rfl rfl rfl (by simp only [fits]; omega) ?_; refine T_list ?_; refine knc rfl rfl ?_; refine T_list ?_; refine kfd rfl rfl ?_; refine T_list ?_; refine kst rfl rfl rfl (by repeat (first | with_reducible apply Pick.here | with_reducible apply Pick.there)) rfl ?_; refine T_nil ?_; refine T_thenN ?_; refine T_seq ?_; refine T_region ?_; refine T_list ?_; refine kas rfl rfl ?_; refine T_nil ?_; refine T_thenN ?_; refine T_ret ?_
      rw [e]
      refine T_close (R := rdR d.tick) (Ls := rdL p d.tick) x ht (by repeat (first | with_reducible apply Take.nil | apply Take.cons (by repeat (first | with_reducible apply Pick.here | ((with_reducible refine Pick.rowE ?_); rfl) | ((with_reducible refine Pick.slcE ?_ ?_ ?_) <;> rfl) | ((with_reducible refine Pick.imapE ?_); rfl) | with_reducible apply Pick.there)))) ?_
      refine T_fin [_] _ ⟨rfl, trivial⟩ ⟨?_, rfl⟩ ?_
      · simp [resOf, h]
      · rw [if_neg h]; exact perm_rest
    · have e : d.left = max (d.left - 1) (-1) := by omega
      have hd : d = d.tick := by unfold Dsk.tick; rw [← e]
      refine T_skip ?_; refine T_thenN ?_; refine T_seq ?_; refine T_region ?_; refine T_list ?_; refine kas rfl rfl ?_; refine T_nil ?_; refine T_thenN ?_; refine T_ret ?_
      refine T_close (R := rdR d) (Ls := rdL p d) x hx (by repeat (first | with_reducible apply Take.nil | apply Take.cons (by repeat (first | with_reducible apply Pick.here | ((with_reducible refine Pick.rowE ?_); rfl) | ((with_reducible refine Pick.slcE ?_ ?_ ?_) <;> rfl) | ((with_reducible refine Pick.imapE ?_); rfl) | with_reducible apply Pick.there)))) ?_
      refine T_fin [_] _ ⟨rfl, trivial⟩ ⟨?_, rfl⟩ ?_
      · simp [resOf, h]
      · rw [if_neg h, ← hd]; exact perm_rest
theorem rread_ctr (p : Nat) (d : Dsk) (i : Int) : Ctr Tryd.prog 29 [.pointer (some ⟨p, 0, none⟩), .int .i64 i] [RD p d]
    (fun v L => (¬ d.has i ∧ v = .tuple [.slice none 0 0, .int .i64 6].toArray ∧ L = [RD p d]) ∨
      (d.has i ∧ d.left = 0 ∧ v = .tuple [.slice none 0 0, .int .i64 19].toArray ∧ L = [RD p d]) ∨
      (d.has i ∧ d.left ≠ 0 ∧ ∃ x a c, rdR d x ∧ (a, c, d.at i.toNat) ∈ x.ar ∧ v = .tuple [.slice a 64 c, .int .i64 0].toArray ∧ L = rdL p d x)) := by
  refine Ctr.of Tryd.func29 rfl rfl (fun w F => ?_)
  simp only [Tryd.ntmps29, env0, List.cons_append, List.nil_append]
  refine T_open Pick.here ?_
  rintro x hx
  simp only [rdL, List.cons_append, List.nil_append]
  by_cases h : d.has i
  · have hi := h; unfold Dsk.has at hi
    obtain ⟨j, rfl⟩ : ∃ j : Nat, i = j := ⟨i.toNat, by omega⟩
    have hj : j < d.k.length := by omega
    refine T_seq ?_; refine T_region ?_; refine T_list ?_; refine kas rfl rfl ?_; refine T_list ?_; refine kas rfl rfl ?_; refine T_nil ?_; refine T_thenN ?_; refine T_seq ?_; refine T_seq ?_; refine T_region ?_; refine T_list ?_; refine kmv rfl rfl ?_; refine T_list ?_; refine kcmpF rfl rfl rfl rfl (decide_eq_false (show ¬ (j : Int) < 0 by omega)) ?_; refine T_list ?_; refine kmv rfl rfl ?_; refine T_guardY rfl rfl rfl ?_; refine T_list ?_; refine kmv rfl rfl ?_; refine T_guardY rfl rfl rfl ?_; refine T_list ?_; refine kmv rfl rfl ?_; refine T_guardY rfl rfl rfl ?_; refine T_list ?_; refine knc rfl rfl ?_; refine T_guardY rfl rfl rfl ?_; refine T_list ?_; refine kfd rfl rfl ?_; refine T_guardY rfl rfl rfl ?_; refine T_list ?_; refine kld rfl rfl (by repeat (first | with_reducible apply Pick.here | with_reducible apply Pick.there)) rfl ?_; refine T_guardY rfl rfl rfl ?_; refine T_list ?_; refine klen rfl rfl ?_; refine T_guardY rfl rfl rfl ?_; refine T_list ?_; refine kcmp rfl rfl rfl rfl ?_; refine T_list ?_; refine kpF rfl rfl rfl ?_; refine T_nil ?_; refine T_thenN ?_
    refine T_cond rfl (fun hc => absurd hc (by simp; omega)) (fun _ => ?_)
    refine T_skip ?_; refine T_thenN ?_; refine T_seq ?_; refine T_seq ?_; refine T_region ?_; refine T_list ?_; refine kmv rfl rfl ?_; refine T_list ?_; refine knc rfl rfl ?_; refine T_list ?_; refine kfd rfl rfl ?_; refine T_list ?_; refine kld rfl rfl (by repeat (first | with_reducible apply Pick.here | with_reducible apply Pick.there)) rfl ?_; refine T_list ?_; refine kcmp rfl rfl rfl rfl ?_; refine T_nil ?_; refine T_thenN ?_
    refine T_cond rfl (fun h0 => ?_) (fun h0 => ?_) <;> simp only [decide_eq_true_eq, decide_eq_false_iff_not, ne_eq, Decidable.not_not, Bool.not_eq_true', Bool.not_eq_false', Bool.cond_eq_true_distrib, Bool.cond_eq_false_distrib] at h0
    · refine T_seq ?_; refine T_region ?_; refine T_list ?_; refine kas rfl rfl ?_; refine T_list ?_; refine kas rfl rfl ?_; refine T_nil ?_; refine T_thenN ?_; refine T_ret ?_; refine T_thenR ?_
      refine T_close (R := rdR d) (Ls := rdL p d) x hx (by repeat (first | with_reducible apply Take.nil | apply Take.cons (by repeat (first | with_reducible apply Pick.here | ((with_reducible refine Pick.rowE ?_); rfl) | ((with_reducible refine Pick.slcE ?_ ?_ ?_) <;> rfl) | ((with_reducible refine Pick.imapE ?_); rfl) | with_reducible apply Pick.there)))) ?_
      exact T_fin [_, _] _ ⟨rfl, rfl, trivial⟩ (.inr (.inl ⟨h, h0, rfl, rfl⟩)) perm_rest
    · refine T_skip ?_; refine T_thenN ?_; refine T_seq ?_; refine T_seq ?_; refine T_region ?_; refine T_list ?_; refine kmv rfl rfl ?_; refine T_list ?_; refine knc rfl rfl ?_; refine T_list ?_; refine kfd rfl rfl ?_; refine T_list ?_; refine kld rfl rfl (by repeat (first | with_reducible apply Pick.here | with_reducible apply Pick.there)) rfl ?_; refine T_list ?_; refine kmv rfl rfl ?_; refine T_list ?_; refine kix1 rfl rfl rfl (by repeat (first | with_reducible apply Pick.here | with_reducible apply Pick.there)) hj ?_; refine T_list ?_; refine kldS rfl rfl (by repeat (first | with_reducible apply Pick.here | with_reducible apply Pick.there)) (hx.getI hj) ?_; refine T_nil ?_; refine T_thenN ?_
      refine T_cond rfl (fun hc => ?_) (fun hc => ?_)
      · obtain ⟨s, hs⟩ := Option.isSome_iff_exists.1 hc
        obtain ⟨a, c, e, hm⟩ := hx.secW j s hs
        have hat : d.at j = s := by unfold Dsk.at; rw [hs]; rfl
        refine T_seq ?_; refine T_region ?_; refine T_list ?_; refine kmv rfl rfl ?_; refine T_list ?_; refine knc rfl rfl ?_; refine T_list ?_; refine kfd rfl rfl ?_; refine T_list ?_; refine kld rfl rfl (by repeat (first | with_reducible apply Pick.here | with_reducible apply Pick.there)) rfl ?_; refine T_list ?_; refine kmv rfl rfl ?_; refine T_list ?_; refine kix1 rfl rfl rfl (by repeat (first | with_reducible apply Pick.here | with_reducible apply Pick.there)) hj ?_; refine T_list ?_; refine kldS rfl rfl (by repeat (first | with_reducible apply Pick.here | with_reducible apply Pick.there)) (hx.getW hj) ?_; refine T_list ?_; refine kas rfl rfl ?_; refine T_list ?_; refine kas rfl rfl ?_; refine T_nil ?_; refine T_thenN ?_; refine T_ret ?_; refine T_thenR ?_
        refine T_fin [_, _] _ ⟨rfl, rfl, trivial⟩ (.inr (.inr ⟨h, h0, x, a, c, hx, by rw [Int.toNat_natCast, hat]; exact hm, by rw [e]; rfl, rfl⟩)) ?_
        (repeat (first | exact perm_rest | apply perm_take (by repeat (first | with_reducible apply Pick.here | with_reducible apply Pick.there)) | apply perm_drop))
      · have hs : d.w.getD j none = none := by simpa using hc
        obtain ⟨a, c, e, hm⟩ := hx.secK j hj
        have hat : d.at j = d.k.getD j [] := by unfold Dsk.at; rw [hs]; rfl
        refine T_skip ?_; refine T_thenN ?_; refine T_seq ?_; refine T_region ?_; refine T_list ?_; refine kmv rfl rfl ?_; refine T_list ?_; refine knc rfl rfl ?_; refine T_list ?_; refine kfd rfl rfl ?_; refine T_list ?_; refine kld rfl rfl (by repeat (first | with_reducible apply Pick.here | with_reducible apply Pick.there)) rfl ?_; refine T_list ?_; refine kmv rfl rfl ?_; refine T_list ?_; refine kix1 rfl rfl rfl (by repeat (first | with_reducible apply Pick.here | with_reducible apply Pick.there)) hj ?_; refine T_list ?_; refine kldS rfl rfl (by repeat (first | with_reducible apply Pick.here | with_reducible apply Pick.there)) (hx.getK hj) ?_; refine T_list ?_; refine kas rfl rfl ?_; refine T_list ?_; refine kas rfl rfl ?_; refine T_nil ?_; refine T_thenN ?_; refine T_ret ?_
        refine T_fin [_, _] _ ⟨rfl, rfl, trivial⟩ (.inr (.inr ⟨h, h0, x, a, c, hx, by rw [Int.toNat_natCast, hat]; exact hm, by rw [e]; rfl, rfl⟩)) ?_
        (repeat (first | exact perm_rest | apply perm_take (by repeat (first | with_reducible apply Pick.here | with_reducible apply Pick.there)) | apply perm_drop))
  · by_cases h1 : i < 0
    · refine T_seq ?_; refine T_region ?_; refine T_list ?_; refine kas rfl rfl ?_; refine T_list ?_; refine kas rfl rfl ?_; refine T_nil ?_; refine T_thenN ?_; refine T_seq ?_; refine T_seq ?_; refine T_region ?_; refine T_list ?_; refine kmv rfl rfl ?_; refine T_list ?_; refine kcmpT rfl rfl rfl rfl (decide_eq_true h1) ?_; refine T_list ?_; refine kmv rfl rfl ?_; refine T_guardN rfl rfl rfl rfl ?_; refine T_guardN rfl rfl rfl rfl ?_; refine T_guardN rfl rfl rfl rfl ?_; refine T_guardN rfl rfl rfl rfl ?_; refine T_guardN rfl rfl rfl rfl ?_; refine T_guardN rfl rfl rfl rfl ?_; refine T_guardN rfl rfl rfl rfl ?_; refine T_list ?_; refine kpT rfl rfl rfl ?_; refine T_nil ?_; refine T_thenN ?_
      refine T_cond rfl (fun _ => ?_) (fun h => absurd h (by simp only [decide_eq_true_eq, decide_eq_false_iff_not, ne_eq, Decidable.not_not, Bool.not_eq_true', Bool.not_eq_false', Bool.not_true, Bool.not_false, Bool.false_eq_true, Bool.true_eq_false, not_true_eq_false, not_false_eq_true]; try omega))
      refine T_seq ?_; refine T_region ?_; refine T_list ?_; refine kas rfl rfl ?_; refine T_list ?_; refine kas rfl rfl ?_; refine T_nil ?_; refine T_thenN ?_; refine T_ret ?_; refine T_thenR ?_
      refine T_close (R := rdR d) (Ls := rdL p d) x hx (by repeat (first | with_reducible apply Take.nil | apply Take.cons (by repeat (first | with_reducible apply Pick.here | ((with_reducible refine Pick.rowE ?_); rfl) | ((with_reducible refine Pick.slcE ?_ ?_ ?_) <;> rfl) | ((with_reducible refine Pick.imapE ?_); rfl) | with_reducible apply Pick.there)))) ?_
      exact T_fin [_, _] _ ⟨rfl, rfl, trivial⟩ (.inl ⟨h, rfl, rfl⟩) perm_rest
    · have h2 : (d.k.length : Int) ≤ i := by unfold Dsk.has at h; omega
      refine T_seq ?_; refine T_region ?_; refine T_list ?_; refine kas rfl rfl ?_; refine T_list ?_; refine kas rfl rfl ?_; refine T_nil ?_; refine T_thenN ?_; refine T_seq ?_; refine T_seq ?_; refine T_region ?_; refine T_list ?_; refine kmv rfl rfl ?_; refine T_list ?_; refine kcmpF rfl rfl rfl rfl (decide_eq_false h1) ?_; refine T_list ?_; refine kmv rfl rfl ?_; refine T_guardY rfl rfl rfl ?_; refine T_list ?_; refine kmv rfl rfl ?_; refine T_guardY rfl rfl rfl ?_; refine T_list ?_; refine kmv rfl rfl ?_; refine T_guardY rfl rfl rfl ?_; refine T_list ?_; refine knc rfl rfl ?_; refine T_guardY rfl rfl rfl ?_; refine T_list ?_; refine kfd rfl rfl ?_; refine T_guardY rfl rfl rfl ?_; refine T_list ?_; refine kld rfl rfl (by repeat (first | with_reducible apply Pick.here | with_reducible apply Pick.there)) rfl ?_; refine T_guardY rfl rfl rfl ?_; refine T_list ?_; refine klen rfl rfl ?_; refine T_guardY rfl rfl rfl ?_; refine T_list ?_; refine kcmp rfl rfl rfl rfl ?_; refine T_list ?_; refine kpF rfl rfl rfl ?_; refine T_nil ?_; refine T_thenN ?_
      refine T_cond rfl (fun _ => ?_) (fun hc => absurd hc (by simp; omega))
      refine T_seq ?_; refine T_region ?_; refine T_list ?_; refine kas rfl rfl ?_; refine T_list ?_; refine kas rfl rfl ?_; refine T_nil ?_; refine T_thenN ?_; refine T_ret ?_; refine T_thenR ?_
      refine T_close (R := rdR d) (Ls := rdL p d) x hx (by repeat (first | with_reducible apply Take.nil | apply Take.cons (by repeat (first | with_reducible apply Pick.here | ((with_reducible refine Pick.rowE ?_); rfl) | ((with_reducible refine Pick.slcE ?_ ?_ ?_) <;> rfl) | ((with_reducible refine Pick.imapE ?_); rfl) | with_reducible apply Pick.there)))) ?_
      exact T_fin [_, _] _ ⟨rfl, rfl, trivial⟩ (.inl ⟨h, rfl, rfl⟩) perm_rest
end Go.Proofs
