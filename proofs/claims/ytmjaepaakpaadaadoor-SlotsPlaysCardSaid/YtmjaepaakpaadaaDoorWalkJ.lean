/- The commit, walked. Part 10 of 13 of the proof of SlotsPlays; no condition. -/
import Derived.Test.YtmjaepaakpaadaaDoorWalkI
import Derived.Test.YtmjaepaakpaadaaDoorWalkG
namespace Go.Proofs
set_option linter.unnecessarySimpa false
open Go Go.Sl
attribute [local irreducible] Still T opO Sl.Inv row slc wpSeq Code.wp wpList Exit.then Exit.inBlock
set_option linter.unusedVariables false
set_option linter.unusedSimpArgs false
set_option maxRecDepth 4000
def noHead : Value := .agg [.int .i64 0, .bool false, .slice none 0 0].toArray
theorem told_none {d : Dsk} {k : Nat} (h : ¬ d.hCan k) : d.told k = none := by unfold Dsk.told; rw [if_neg (fun h' => h h'.1)]
theorem pad_take (b : Bytes) (h : b.length ≤ 64) : (b ++ List.replicate 64 0).take 64 = pad b := by
  rw [List.take_append, List.take_of_length_le h, List.take_replicate, pad, Nat.min_eq_left (by omega)]
set_option maxHeartbeats 2000000 in
theorem told_ctr {tableS : SP} [hT : TableAt tableS] (p : Nat) (d : Dsk) (h4 : 4 ≤ d.k.length) (hleft : d.left ≠ 0) (k : Nat) (hk : k ≤ 1) :
    Ctr Tryd.prog 28 [.pointer (some ⟨p, 0, none⟩), .int .i64 (k : Nat)] [PD p d, tableS]
    (fun v L => (d.told k = none ∧ v = .tuple [noHead, .int .i64 0].toArray ∧ L = [PD p d, tableS]) ∨
      ∃ st x, d.told k = some st ∧ stR st x ∧ v = .tuple [.agg [.int .i64 (st.age : Nat), .bool st.has, .slice x.1 st.image.length x.2.1].toArray, .int .i64 0].toArray ∧ L = [x.2.2, PD p d, tableS]) := by
  refine Ctr.of Tryd.func28 rfl rfl (fun w F => ?_)
  simp only [Tryd.ntmps28, env0, List.cons_append, List.nil_append]
  refine T_know (p := d.ok) (fun w H => by obtain ⟨x, hx, _⟩ := (Pick.here.back H).openAb; exact hx.1) (fun hok => ?_)
  have hfew := hok.few
  have hhalf : d.half ≤ 255 := by unfold Dsk.half; omega
  refine T_seq ?_; refine T_region ?_; refine T_list ?_; refine kal rfl ?_; intro _b; refine T_list ?_; refine kas rfl rfl ?_; refine T_nil ?_; refine T_thenN ?_; refine T_seq ?_; refine T_region ?_; refine T_list ?_; refine kmv rfl rfl ?_; refine T_list ?_; refine kmv rfl rfl ?_
  revert _b; intro b4
  refine T_list ?_; refine T_call rfl (dread_ctr p d (k : Int)) (by repeat (first | with_reducible apply Take.nil | apply Take.cons (by repeat (first | with_reducible apply Pick.here | with_reducible apply Pick.there)))) rfl ?_
  rintro v L' (⟨hno, _, _⟩ | ⟨_, h0, _, _⟩ | ⟨_, _, b, rfl, rfl⟩)
  · exact absurd (show d.has _ by unfold Dsk.has; omega) hno
  · exact absurd h0 hleft
  · rw [Int.toNat_natCast]
    have hat : (d.at k).length = 64 := Dsk.at_length hok (by omega)
    have hrow : Rd (row b 83 ((d.at k).map encB)) 1 (some ⟨b, 0, none⟩) 64 ((d.at k).map encB) := Rd.rowAll (by rw [List.length_map, hat])
    simp only [List.cons_append, List.nil_append]
    refine T_list ?_; refine kmv rfl rfl ?_; refine T_list ?_; refine kex rfl rfl rfl ?_; refine T_list ?_; refine kex rfl rfl rfl ?_; refine T_list ?_; refine kas rfl rfl ?_; refine T_list ?_; refine kas rfl rfl ?_; refine T_nil ?_; refine T_thenN ?_; refine T_seq ?_; refine T_seq ?_; refine T_region ?_; refine T_list ?_; refine kmv rfl rfl ?_; refine T_list ?_; refine kcmp rfl rfl rfl rfl ?_; refine T_nil ?_; refine T_thenN ?_
    refine T_cond rfl (fun h => absurd h (by simp only [decide_eq_true_eq, decide_eq_false_iff_not, ne_eq, Decidable.not_not, Bool.not_eq_true', Bool.not_eq_false', Bool.not_true, Bool.not_false, Bool.false_eq_true, Bool.true_eq_false, not_true_eq_false, not_false_eq_true]; try omega)) (fun _ => ?_)
    refine T_skip ?_; refine T_thenN ?_; refine T_seq ?_; refine T_region ?_; refine T_list ?_; refine kmv rfl rfl ?_
    refine T_list ?_; refine ksl (q := 21) rfl rfl bnd_none0 rfl (by decide) (by decide) ?_
    rw [if_neg (by decide)]
    have h21 := Rd.pre hrow (q := 21) (by decide)
    refine T_list ?_; refine T_call rfl (newReader_ctr (row b 83 ((d.at k).map encB)) (some ⟨b, 0, none⟩) 21 64 ((d.at k).take 21) h21 (by decide)) (by repeat (first | with_reducible apply Take.nil | apply Take.cons (by repeat (first | with_reducible apply Pick.here | with_reducible apply Pick.there)))) rfl ?_
    rintro v L' ⟨rb, ra, rc, rfl, rfl⟩
    simp only [List.cons_append, List.nil_append]
    refine T_know (p := 21 ≤ rc) (fun w H => (Hd.openSlc (Hd.drop H)).2.1) (fun hrc => ?_)
    have e21 : ((d.at k).take 21).length = 21 := by rw [List.length_take]; omega
    have hA : Rd (slc 5 1 ra 21 rc (((d.at k).take 21).map encB)) 1 ra 21 (((d.at k).take 21).map encB) := Rd.slc
    generalize hAA : slc 5 1 ra 21 rc (((d.at k).take 21).map encB) = A at *
    refine T_list ?_; refine kas rfl rfl ?_; refine T_nil ?_; refine T_thenN ?_; refine T_seq ?_; refine T_region ?_; refine T_list ?_; refine kmv rfl rfl ?_
    refine T_list ?_; refine T_call rfl (part_ctr A rb ra 21 rc 4 (by decide) hrc) (by repeat (first | with_reducible apply Take.nil | apply Take.cons (by repeat (first | with_reducible apply Pick.here | with_reducible apply Pick.there)))) rfl ?_
    rintro v L' ⟨rfl, rfl⟩
    simp only [List.cons_append, List.nil_append]
    have r1 := Rd.rest hA e21 (show 4 ≤ 21 by decide) hrc
    refine T_nil ?_; refine T_thenN ?_; refine T_seq ?_; refine T_region ?_; refine T_list ?_; refine kal rfl ?_; intro _b; refine T_nil ?_; refine T_thenN ?_; refine T_seq ?_; refine T_region ?_; refine T_list ?_; refine kmv rfl rfl ?_
    refine T_list ?_; refine T_call rfl (take_ctr A rb (restA ra rc 4) (21 - 4) (rc - 4) 8 (((d.at k).take 21).drop 4) r1 (by decide) (by omega)) (by repeat (first | with_reducible apply Take.nil | apply Take.cons (by repeat (first | with_reducible apply Pick.here | with_reducible apply Pick.there)))) rfl ?_
    rintro v L' ⟨rfl, rfl⟩
    rw [show (held 8).toNat = 8 from rfl]
    simp only [List.cons_append, List.nil_append]
    have e17 : (((d.at k).take 21).drop 4).length = 21 - 4 := by rw [List.length_drop, e21]
    have r2 := Rd.rest r1 e17 (show 8 ≤ 21 - 4 by decide) (show 21 - 4 ≤ rc - 4 by omega)
    have eAge : leNum ((((d.at k).take 21).drop 4).take 8) = d.hAge k := by rw [Dsk.hAge, List.drop_take, List.take_take]; rfl
    rw [eAge]
    have hAlt : d.hAge k < 18446744073709551616 := by
      have h1 := leNum_lt (((d.at k).drop 4).take 8)
      have h2 : (((d.at k).drop 4).take 8).length ≤ 8 := by rw [List.length_take]; omega
      have h3 : 256 ^ (((d.at k).drop 4).take 8).length ≤ 256 ^ 8 := Nat.pow_le_pow_right (by decide) h2
      unfold Dsk.hAge; omega
    obtain ⟨W, hW, hWa, hWb⟩ : ∃ W : Int, IntKind.i64.wrap (d.hAge k : Int) = W ∧ (d.hAge k ≤ 9223372036854775807 → W = d.hAge k) ∧ (9223372036854775807 < d.hAge k → W < 0) := by
      refine ⟨_, rfl, fun h => wrap_fits (by simp only [fits]; omega), fun h => ?_⟩
      simp only [IntKind.wrap, IntKind.bits, IntKind.signed]
      simp
      omega
    have hWlo : -9223372036854775808 ≤ W := by
      rcases Nat.lt_or_ge 9223372036854775807 (d.hAge k) with h | h
      · rw [← hW]; simp only [IntKind.wrap, IntKind.bits, IntKind.signed]; simp; omega
      · have := hWa h; omega
    refine T_list ?_; refine kcvw rfl rfl ?_
    rw [hW]
    refine T_list ?_; refine kfd rfl rfl ?_; refine T_list ?_; refine kst rfl rfl rfl (by repeat (first | with_reducible apply Pick.here | with_reducible apply Pick.there)) rfl ?_; refine T_nil ?_; refine T_thenN ?_; refine T_seq ?_; refine T_region ?_; refine T_list ?_; refine kmv rfl rfl ?_
    refine T_list ?_; refine T_call rfl (take_ctr A rb (restA (restA ra rc 4) (rc - 4) 8) (21 - 4 - 8) (rc - 4 - 8) 1 ((((d.at k).take 21).drop 4).drop 8) r2 (by decide) (by omega)) (by repeat (first | with_reducible apply Take.nil | apply Take.cons (by repeat (first | with_reducible apply Pick.here | with_reducible apply Pick.there)))) rfl ?_
    rintro v L' ⟨rfl, rfl⟩
    rw [show (held 1).toNat = 1 from rfl]
    simp only [List.cons_append, List.nil_append]
    have e9 : ((((d.at k).take 21).drop 4).drop 8).length = 21 - 4 - 8 := by rw [List.length_drop, e17]
    have r3 := Rd.rest r2 e9 (show 1 ≤ 21 - 4 - 8 by decide) (show 21 - 4 - 8 ≤ rc - 4 - 8 by omega)
    have eFlag : leNum (((((d.at k).take 21).drop 4).drop 8).take 1) = d.hFlag k := by rw [Dsk.hFlag, List.drop_take, List.drop_take, List.take_take, List.drop_drop]; rfl
    rw [eFlag]
    refine T_list ?_; refine kcmp rfl rfl rfl rfl ?_; refine T_list ?_; refine kfd rfl rfl ?_; refine T_list ?_; refine kst rfl rfl rfl (by repeat (first | with_reducible apply Pick.here | with_reducible apply Pick.there)) rfl ?_; refine T_nil ?_; refine T_thenN ?_; refine T_seq ?_; refine T_region ?_; refine T_list ?_; refine kmv rfl rfl ?_
    refine T_list ?_; refine T_call rfl (take_ctr A rb (restA (restA (restA ra rc 4) (rc - 4) 8) (rc - 4 - 8) 1) (21 - 4 - 8 - 1) (rc - 4 - 8 - 1) 4 (((((d.at k).take 21).drop 4).drop 8).drop 1) r3 (by decide) (by omega)) (by repeat (first | with_reducible apply Take.nil | apply Take.cons (by repeat (first | with_reducible apply Pick.here | with_reducible apply Pick.there)))) rfl ?_
    rintro v L' ⟨rfl, rfl⟩
    rw [show (held 4).toNat = 4 from rfl]
    simp only [List.cons_append, List.nil_append]
    have eMany : leNum ((((((d.at k).take 21).drop 4).drop 8).drop 1).take 4) = d.hMany k := by rw [Dsk.hMany, List.drop_take, List.drop_take, List.drop_take, List.take_take, List.drop_drop, List.drop_drop]; rfl
    rw [eMany]
    have hMlt : d.hMany k < 4294967296 := by
      have h1 := leNum_lt (((d.at k).drop 13).take 4)
      have h2 : (((d.at k).drop 13).take 4).length ≤ 4 := by rw [List.length_take]; omega
      have h3 : 256 ^ (((d.at k).drop 13).take 4).length ≤ 256 ^ 4 := Nat.pow_le_pow_right (by decide) h2
      unfold Dsk.hMany; omega
    clear e21 e17 e9 eAge eFlag eMany r1 r2 r3 h21
    refine T_list ?_; refine kcv rfl rfl (by simp only [fits]; omega) ?_; refine T_list ?_; refine kas rfl rfl ?_; refine T_nil ?_
    refine T_thenN ?_
    refine T_seq ?_
    have hcells : (decide ((d.hFlag k : Int) = 1)) = (d.hFlag k == 1) := by
      by_cases h : d.hFlag k = 1
      · simp [h]
      · have : ¬ (d.hFlag k : Int) = 1 := by omega
        simp [h, this]
    rw [hcells]
    generalize hH : (d.hFlag k == 1) = H at *
    have hHt : H = true ↔ d.hFlag k = 1 := by rw [← hH]; simp
    refine T_cut (ι := Unit) (fun _ => d.hCan k) (fun _ => [(0, .pointer (some ⟨p, 0, none⟩)), (1, .int .i64 (k : Nat)), (10, .int .i64 (d.hMany k : Nat)), (9, .pointer (some ⟨_b, 0, none⟩)), (4, .pointer (some ⟨b4, 0, none⟩)), (6, .slice (some ⟨b, 0, none⟩) 64 64)])
      (fun _ => [row _b 63 [.int .i64 (d.hAge k : Nat), .bool H, .slice none 0 0], row b 83 ((d.at k).map encB), PD p d, row b4 63 [.int .i64 0, .bool false, .slice none 0 0], tableS] ++ F) ?_ ?_
    · by_cases g1 : W < 1
      · have F1 : decide (W < 1) = true := decide_eq_true g1
        have hno : d.told k = none := told_none (by unfold Dsk.hCan; rintro ⟨q1, q2, _⟩; have := hWa (by omega); omega)
        refine T_seq ?_; refine T_region ?_; refine T_list ?_; refine kfd rfl rfl ?_; refine T_list ?_; refine kld rfl rfl (by repeat (first | with_reducible apply Pick.here | with_reducible apply Pick.there)) rfl ?_; refine T_list ?_; refine kcmpT rfl rfl rfl rfl F1 ?_; refine T_list ?_; refine kmv rfl rfl ?_; refine T_guardN rfl rfl rfl rfl ?_; refine T_guardN rfl rfl rfl rfl ?_; refine T_guardN rfl rfl rfl rfl ?_; refine T_list ?_; refine kpT rfl rfl rfl ?_; refine T_list ?_; refine kmv rfl rfl ?_; refine T_guardN rfl rfl rfl rfl ?_; refine T_guardN rfl rfl rfl rfl ?_; refine T_guardN rfl rfl rfl rfl ?_; refine T_guardN rfl rfl rfl rfl ?_; refine T_guardN rfl rfl rfl rfl ?_; refine T_list ?_; refine kpT rfl rfl rfl ?_; refine T_list ?_; refine kmv rfl rfl ?_; refine T_guardN rfl rfl rfl rfl ?_; refine T_guardN rfl rfl rfl rfl ?_; refine T_guardN rfl rfl rfl rfl ?_; refine T_guardN rfl rfl rfl rfl ?_; refine T_guardN rfl rfl rfl rfl ?_; refine T_list ?_; refine kpT rfl rfl rfl ?_; refine T_list ?_; refine kmv rfl rfl ?_; refine T_guardN rfl rfl rfl rfl ?_; refine T_guardN rfl rfl rfl rfl ?_; refine T_guardN rfl rfl rfl rfl ?_; refine T_guardU rfl rfl rfl ?_; refine T_guardU rfl rfl rfl ?_; refine T_guardU rfl rfl rfl ?_; refine T_guardN rfl rfl rfl rfl ?_; refine T_list ?_; refine kpT rfl rfl rfl ?_; refine T_nil ?_; refine T_thenN ?_
        refine T_condT rfl ?_
        refine T_seq ?_; refine T_region ?_; refine T_list ?_; refine kbld rfl (vs := []) rfl rfl ?_; refine T_list ?_; refine kstA rfl rfl (by simp [Value.oneCell']) rfl (by repeat (first | with_reducible apply Pick.here | with_reducible apply Pick.there)) (by rfl) ?_; refine T_list ?_; refine kas rfl rfl ?_; refine T_nil ?_; refine T_thenN ?_; refine T_ret ?_; refine T_thenR ?_
        refine T_fin [noHead, _] [PD p d, tableS] ⟨⟨_, rfl, res_agg (by repeat (first | with_reducible apply Pick.here | with_reducible apply Pick.there)) (by rfl)⟩, rfl, trivial⟩ (.inl ⟨hno, rfl, rfl⟩) ?_
        (repeat (first | exact perm_rest | apply perm_take (by repeat (first | with_reducible apply Pick.here | with_reducible apply Pick.there)) | apply perm_drop))
      have F1 : decide (W < 1) = false := decide_eq_false g1
      by_cases g2 : 1099511627776 < W
      · have F2 : decide (1099511627776 < W) = true := decide_eq_true g2
        have hno : d.told k = none := told_none (by unfold Dsk.hCan; rintro ⟨q1, q2, _⟩; have := hWa (by omega); omega)
        refine T_seq ?_; refine T_region ?_; refine T_list ?_; refine kfd rfl rfl ?_; refine T_list ?_; refine kld rfl rfl (by repeat (first | with_reducible apply Pick.here | with_reducible apply Pick.there)) rfl ?_; refine T_list ?_; refine kcmpF rfl rfl rfl rfl F1 ?_; refine T_list ?_; refine kmv rfl rfl ?_; refine T_guardY rfl rfl rfl ?_; refine T_list ?_; refine kfd rfl rfl ?_; refine T_guardY rfl rfl rfl ?_; refine T_list ?_; refine kld rfl rfl (by repeat (first | with_reducible apply Pick.here | with_reducible apply Pick.there)) rfl ?_; refine T_guardY rfl rfl rfl ?_; refine T_list ?_; refine kcmpT rfl rfl rfl rfl F2 ?_; refine T_list ?_; refine kpF rfl rfl rfl ?_; refine T_list ?_; refine kmv rfl rfl ?_; refine T_guardN rfl rfl rfl rfl ?_; refine T_guardN rfl rfl rfl rfl ?_; refine T_guardN rfl rfl rfl rfl ?_; refine T_guardN rfl rfl rfl rfl ?_; refine T_guardN rfl rfl rfl rfl ?_; refine T_list ?_; refine kpT rfl rfl rfl ?_; refine T_list ?_; refine kmv rfl rfl ?_; refine T_guardN rfl rfl rfl rfl ?_; refine T_guardN rfl rfl rfl rfl ?_; refine T_guardN rfl rfl rfl rfl ?_; refine T_guardN rfl rfl rfl rfl ?_; refine T_guardN rfl rfl rfl rfl ?_; refine T_list ?_; refine kpT rfl rfl rfl ?_; refine T_list ?_; refine kmv rfl rfl ?_; refine T_guardN rfl rfl rfl rfl ?_; refine T_guardN rfl rfl rfl rfl ?_; refine T_guardN rfl rfl rfl rfl ?_; refine T_guardU rfl rfl rfl ?_; refine T_guardU rfl rfl rfl ?_; refine T_guardU rfl rfl rfl ?_; refine T_guardN rfl rfl rfl rfl ?_; refine T_list ?_; refine kpT rfl rfl rfl ?_; refine T_nil ?_; refine T_thenN ?_
        refine T_condT rfl ?_
        refine T_seq ?_; refine T_region ?_; refine T_list ?_; refine kbld rfl (vs := []) rfl rfl ?_; refine T_list ?_; refine kstA rfl rfl (by simp [Value.oneCell']) rfl (by repeat (first | with_reducible apply Pick.here | with_reducible apply Pick.there)) (by rfl) ?_; refine T_list ?_; refine kas rfl rfl ?_; refine T_nil ?_; refine T_thenN ?_; refine T_ret ?_; refine T_thenR ?_
        refine T_fin [noHead, _] [PD p d, tableS] ⟨⟨_, rfl, res_agg (by repeat (first | with_reducible apply Pick.here | with_reducible apply Pick.there)) (by rfl)⟩, rfl, trivial⟩ (.inl ⟨hno, rfl, rfl⟩) ?_
        (repeat (first | exact perm_rest | apply perm_take (by repeat (first | with_reducible apply Pick.here | with_reducible apply Pick.there)) | apply perm_drop))
      have hWe : W = d.hAge k := by
        rcases Nat.lt_or_ge 9223372036854775807 (d.hAge k) with h | h
        · have := hWb h; omega
        · exact hWa h
      have F2 : decide (1099511627776 < W) = false := decide_eq_false g2
      rw [hWe] at g1 g2 F1 F2 ⊢
      clear hW hWa hWb hWlo hWe hAlt
      by_cases g3 : d.hAge k % 2 = k
      rotate_left
      · have F3 : decide (((d.hAge k % 2 : Nat) : Int) ≠ (k : Nat)) = true := decide_eq_true (by omega)
        have hno : d.told k = none := told_none (by unfold Dsk.hCan; rintro ⟨q1, q2, q3, _⟩; exact g3 q3)
        refine T_seq ?_; refine T_region ?_; refine T_list ?_; refine kfd rfl rfl ?_; refine T_list ?_; refine kld rfl rfl (by repeat (first | with_reducible apply Pick.here | with_reducible apply Pick.there)) rfl ?_; refine T_list ?_; refine kcmpF rfl rfl rfl rfl F1 ?_; refine T_list ?_; refine kmv rfl rfl ?_; refine T_guardY rfl rfl rfl ?_; refine T_list ?_; refine kfd rfl rfl ?_; refine T_guardY rfl rfl rfl ?_; refine T_list ?_; refine kld rfl rfl (by repeat (first | with_reducible apply Pick.here | with_reducible apply Pick.there)) rfl ?_; refine T_guardY rfl rfl rfl ?_; refine T_list ?_; refine kcmpF rfl rfl rfl rfl F2 ?_; refine T_list ?_; refine kpF rfl rfl rfl ?_; refine T_list ?_; refine kmv rfl rfl ?_; refine T_guardY rfl rfl rfl ?_; refine T_list ?_; refine kfd rfl rfl ?_; refine T_guardY rfl rfl rfl ?_; refine T_list ?_; refine kld rfl rfl (by repeat (first | with_reducible apply Pick.here | with_reducible apply Pick.there)) rfl ?_; refine T_guardY rfl rfl rfl ?_; refine T_list ?_; refine kremN rfl rfl (q := 2) rfl rfl ?_; refine T_guardY rfl rfl rfl ?_; refine T_list ?_; refine kmv rfl rfl ?_; refine T_guardY rfl rfl rfl ?_; refine T_list ?_; refine kcmpT rfl rfl rfl rfl F3 ?_; refine T_list ?_; refine kpF rfl rfl rfl ?_; refine T_list ?_; refine kmv rfl rfl ?_; refine T_guardN rfl rfl rfl rfl ?_; refine T_guardN rfl rfl rfl rfl ?_; refine T_guardN rfl rfl rfl rfl ?_; refine T_guardN rfl rfl rfl rfl ?_; refine T_guardN rfl rfl rfl rfl ?_; refine T_list ?_; refine kpT rfl rfl rfl ?_; refine T_list ?_; refine kmv rfl rfl ?_; refine T_guardN rfl rfl rfl rfl ?_; refine T_guardN rfl rfl rfl rfl ?_; refine T_guardN rfl rfl rfl rfl ?_; refine T_guardU rfl rfl rfl ?_; refine T_guardU rfl rfl rfl ?_; refine T_guardU rfl rfl rfl ?_; refine T_guardN rfl rfl rfl rfl ?_; refine T_list ?_; refine kpT rfl rfl rfl ?_; refine T_nil ?_; refine T_thenN ?_
        refine T_condT rfl ?_
        refine T_seq ?_; refine T_region ?_; refine T_list ?_; refine kbld rfl (vs := []) rfl rfl ?_; refine T_list ?_; refine kstA rfl rfl (by simp [Value.oneCell']) rfl (by repeat (first | with_reducible apply Pick.here | with_reducible apply Pick.there)) (by rfl) ?_; refine T_list ?_; refine kas rfl rfl ?_; refine T_nil ?_; refine T_thenN ?_; refine T_ret ?_; refine T_thenR ?_
        refine T_fin [noHead, _] [PD p d, tableS] ⟨⟨_, rfl, res_agg (by repeat (first | with_reducible apply Pick.here | with_reducible apply Pick.there)) (by rfl)⟩, rfl, trivial⟩ (.inl ⟨hno, rfl, rfl⟩) ?_
        (repeat (first | exact perm_rest | apply perm_take (by repeat (first | with_reducible apply Pick.here | with_reducible apply Pick.there)) | apply perm_drop))
      have F3 : decide (((d.hAge k % 2 : Nat) : Int) ≠ (k : Nat)) = false := decide_eq_false (by omega)
      by_cases g4 : d.hMany k ≤ 64 * d.half
      rotate_left
      · have F4 : decide (64 * (d.half : Int) < (d.hMany k : Nat)) = true := decide_eq_true (by omega)
        have hno : d.told k = none := told_none (by unfold Dsk.hCan; rintro ⟨q1, q2, q3, q4, _⟩; exact g4 q4)
        refine T_seq ?_; refine T_region ?_; refine T_list ?_; refine kfd rfl rfl ?_; refine T_list ?_; refine kld rfl rfl (by repeat (first | with_reducible apply Pick.here | with_reducible apply Pick.there)) rfl ?_; refine T_list ?_; refine kcmpF rfl rfl rfl rfl F1 ?_; refine T_list ?_; refine kmv rfl rfl ?_; refine T_guardY rfl rfl rfl ?_; refine T_list ?_; refine kfd rfl rfl ?_; refine T_guardY rfl rfl rfl ?_; refine T_list ?_; refine kld rfl rfl (by repeat (first | with_reducible apply Pick.here | with_reducible apply Pick.there)) rfl ?_; refine T_guardY rfl rfl rfl ?_; refine T_list ?_; refine kcmpF rfl rfl rfl rfl F2 ?_; refine T_list ?_; refine kpF rfl rfl rfl ?_; refine T_list ?_; refine kmv rfl rfl ?_; refine T_guardY rfl rfl rfl ?_; refine T_list ?_; refine kfd rfl rfl ?_; refine T_guardY rfl rfl rfl ?_; refine T_list ?_; refine kld rfl rfl (by repeat (first | with_reducible apply Pick.here | with_reducible apply Pick.there)) rfl ?_; refine T_guardY rfl rfl rfl ?_; refine T_list ?_; refine kremN rfl rfl (q := 2) rfl rfl ?_; refine T_guardY rfl rfl rfl ?_; refine T_list ?_; refine kmv rfl rfl ?_; refine T_guardY rfl rfl rfl ?_; refine T_list ?_; refine kcmpF rfl rfl rfl rfl F3 ?_; refine T_list ?_; refine kpF rfl rfl rfl ?_; refine T_list ?_; refine kmv rfl rfl ?_; refine T_guardY rfl rfl rfl ?_; refine T_list ?_; refine kmv rfl rfl ?_; refine T_guardY rfl rfl rfl ?_; refine T_list ?_; refine kmv rfl rfl ?_; refine T_guardY rfl rfl rfl ?_
        refine T_list ?_; refine T_call rfl (half_ctr p d (by omega)) (by repeat (first | with_reducible apply Take.nil | apply Take.cons (by repeat (first | with_reducible apply Pick.here | with_reducible apply Pick.there)))) rfl ?_
        rintro v L' ⟨rfl, rfl⟩
        rw [show (d.k.length - 2) / 2 = d.half from rfl]
        simp only [List.cons_append, List.nil_append]
        refine T_guardY rfl rfl rfl ?_; refine T_list ?_; refine kar rfl rfl rfl rfl (by simp only [fits]; omega) ?_; refine T_guardY rfl rfl rfl ?_; refine T_list ?_; refine kcmpT rfl rfl rfl rfl F4 ?_; refine T_list ?_; refine kpF rfl rfl rfl ?_; refine T_list ?_; refine kmv rfl rfl ?_; refine T_guardN rfl rfl rfl rfl ?_; refine T_guardN rfl rfl rfl rfl ?_; refine T_guardN rfl rfl rfl rfl ?_; refine T_guardU rfl rfl rfl ?_; refine T_guardU rfl rfl rfl ?_; refine T_guardU rfl rfl rfl ?_; refine T_guardN rfl rfl rfl rfl ?_; refine T_list ?_; refine kpT rfl rfl rfl ?_; refine T_nil ?_; refine T_thenN ?_
        refine T_condT rfl ?_
        refine T_seq ?_; refine T_region ?_; refine T_list ?_; refine kbld rfl (vs := []) rfl rfl ?_; refine T_list ?_; refine kstA rfl rfl (by simp [Value.oneCell']) rfl (by repeat (first | with_reducible apply Pick.here | with_reducible apply Pick.there)) (by rfl) ?_; refine T_list ?_; refine kas rfl rfl ?_; refine T_nil ?_; refine T_thenN ?_; refine T_ret ?_; refine T_thenR ?_
        refine T_fin [noHead, _] [PD p d, tableS] ⟨⟨_, rfl, res_agg (by repeat (first | with_reducible apply Pick.here | with_reducible apply Pick.there)) (by rfl)⟩, rfl, trivial⟩ (.inl ⟨hno, rfl, rfl⟩) ?_
        (repeat (first | exact perm_rest | apply perm_take (by repeat (first | with_reducible apply Pick.here | with_reducible apply Pick.there)) | apply perm_drop))
      have F4 : decide (64 * (d.half : Int) < (d.hMany k : Nat)) = false := decide_eq_false (by omega)
      by_cases g5 : 0 < d.hMany k
      · have F5 : decide ((0 : Int) < (d.hMany k : Nat)) = true := decide_eq_true (by omega)
        cases H with
        | false =>
          have hno : d.told k = none := told_none (by unfold Dsk.hCan; rintro ⟨q1, q2, q3, q4, q5⟩; exact absurd (hHt.2 (q5 g5)) (by decide))
          refine T_seq ?_; refine T_region ?_; refine T_list ?_; refine kfd rfl rfl ?_; refine T_list ?_; refine kld rfl rfl (by repeat (first | with_reducible apply Pick.here | with_reducible apply Pick.there)) rfl ?_; refine T_list ?_; refine kcmpF rfl rfl rfl rfl F1 ?_; refine T_list ?_; refine kmv rfl rfl ?_; refine T_guardY rfl rfl rfl ?_; refine T_list ?_; refine kfd rfl rfl ?_; refine T_guardY rfl rfl rfl ?_; refine T_list ?_; refine kld rfl rfl (by repeat (first | with_reducible apply Pick.here | with_reducible apply Pick.there)) rfl ?_; refine T_guardY rfl rfl rfl ?_; refine T_list ?_; refine kcmpF rfl rfl rfl rfl F2 ?_; refine T_list ?_; refine kpF rfl rfl rfl ?_; refine T_list ?_; refine kmv rfl rfl ?_; refine T_guardY rfl rfl rfl ?_; refine T_list ?_; refine kfd rfl rfl ?_; refine T_guardY rfl rfl rfl ?_; refine T_list ?_; refine kld rfl rfl (by repeat (first | with_reducible apply Pick.here | with_reducible apply Pick.there)) rfl ?_; refine T_guardY rfl rfl rfl ?_; refine T_list ?_; refine kremN rfl rfl (q := 2) rfl rfl ?_; refine T_guardY rfl rfl rfl ?_; refine T_list ?_; refine kmv rfl rfl ?_; refine T_guardY rfl rfl rfl ?_; refine T_list ?_; refine kcmpF rfl rfl rfl rfl F3 ?_; refine T_list ?_; refine kpF rfl rfl rfl ?_; refine T_list ?_; refine kmv rfl rfl ?_; refine T_guardY rfl rfl rfl ?_; refine T_list ?_; refine kmv rfl rfl ?_; refine T_guardY rfl rfl rfl ?_; refine T_list ?_; refine kmv rfl rfl ?_; refine T_guardY rfl rfl rfl ?_
          refine T_list ?_; refine T_call rfl (half_ctr p d (by omega)) (by repeat (first | with_reducible apply Take.nil | apply Take.cons (by repeat (first | with_reducible apply Pick.here | with_reducible apply Pick.there)))) rfl ?_
          rintro v L' ⟨rfl, rfl⟩
          rw [show (d.k.length - 2) / 2 = d.half from rfl]
          simp only [List.cons_append, List.nil_append]
          refine T_guardY rfl rfl rfl ?_; refine T_list ?_; refine kar rfl rfl rfl rfl (by simp only [fits]; omega) ?_; refine T_guardY rfl rfl rfl ?_; refine T_list ?_; refine kcmpF rfl rfl rfl rfl F4 ?_; refine T_list ?_; refine kpF rfl rfl rfl ?_; refine T_list ?_; refine kmv rfl rfl ?_; refine T_guardY rfl rfl rfl ?_; refine T_list ?_; refine kmv rfl rfl ?_; refine T_guardY rfl rfl rfl ?_; refine T_list ?_; refine kcmpT rfl rfl rfl rfl F5 ?_; refine T_guardY rfl rfl rfl ?_; refine T_list ?_; refine kmv rfl rfl ?_; refine T_guardY rfl rfl rfl ?_; refine T_list ?_; refine kfd rfl rfl ?_; refine T_guardY rfl rfl rfl ?_; refine T_list ?_; refine kld rfl rfl (by repeat (first | with_reducible apply Pick.here | with_reducible apply Pick.there)) rfl ?_; refine T_guardY rfl rfl rfl ?_; refine T_list ?_; refine knot rfl rfl ?_; refine T_guardY rfl rfl rfl ?_; refine T_list ?_; refine kpT rfl rfl rfl ?_; refine T_list ?_; refine kpF rfl rfl rfl ?_; refine T_nil ?_; refine T_thenN ?_
          refine T_condT rfl ?_
          refine T_seq ?_; refine T_region ?_; refine T_list ?_; refine kbld rfl (vs := []) rfl rfl ?_; refine T_list ?_; refine kstA rfl rfl (by simp [Value.oneCell']) rfl (by repeat (first | with_reducible apply Pick.here | with_reducible apply Pick.there)) (by rfl) ?_; refine T_list ?_; refine kas rfl rfl ?_; refine T_nil ?_; refine T_thenN ?_; refine T_ret ?_; refine T_thenR ?_
          refine T_fin [noHead, _] [PD p d, tableS] ⟨⟨_, rfl, res_agg (by repeat (first | with_reducible apply Pick.here | with_reducible apply Pick.there)) (by rfl)⟩, rfl, trivial⟩ (.inl ⟨hno, rfl, rfl⟩) ?_
          (repeat (first | exact perm_rest | apply perm_take (by repeat (first | with_reducible apply Pick.here | with_reducible apply Pick.there)) | apply perm_drop))
        | true =>
          have hcan : d.hCan k := ⟨by omega, by omega, g3, g4, fun _ => hHt.1 rfl⟩
          refine T_seq ?_; refine T_region ?_; refine T_list ?_; refine kfd rfl rfl ?_; refine T_list ?_; refine kld rfl rfl (by repeat (first | with_reducible apply Pick.here | with_reducible apply Pick.there)) rfl ?_; refine T_list ?_; refine kcmpF rfl rfl rfl rfl F1 ?_; refine T_list ?_; refine kmv rfl rfl ?_; refine T_guardY rfl rfl rfl ?_; refine T_list ?_; refine kfd rfl rfl ?_; refine T_guardY rfl rfl rfl ?_; refine T_list ?_; refine kld rfl rfl (by repeat (first | with_reducible apply Pick.here | with_reducible apply Pick.there)) rfl ?_; refine T_guardY rfl rfl rfl ?_; refine T_list ?_; refine kcmpF rfl rfl rfl rfl F2 ?_; refine T_list ?_; refine kpF rfl rfl rfl ?_; refine T_list ?_; refine kmv rfl rfl ?_; refine T_guardY rfl rfl rfl ?_; refine T_list ?_; refine kfd rfl rfl ?_; refine T_guardY rfl rfl rfl ?_; refine T_list ?_; refine kld rfl rfl (by repeat (first | with_reducible apply Pick.here | with_reducible apply Pick.there)) rfl ?_; refine T_guardY rfl rfl rfl ?_; refine T_list ?_; refine kremN rfl rfl (q := 2) rfl rfl ?_; refine T_guardY rfl rfl rfl ?_; refine T_list ?_; refine kmv rfl rfl ?_; refine T_guardY rfl rfl rfl ?_; refine T_list ?_; refine kcmpF rfl rfl rfl rfl F3 ?_; refine T_list ?_; refine kpF rfl rfl rfl ?_; refine T_list ?_; refine kmv rfl rfl ?_; refine T_guardY rfl rfl rfl ?_; refine T_list ?_; refine kmv rfl rfl ?_; refine T_guardY rfl rfl rfl ?_; refine T_list ?_; refine kmv rfl rfl ?_; refine T_guardY rfl rfl rfl ?_
          refine T_list ?_; refine T_call rfl (half_ctr p d (by omega)) (by repeat (first | with_reducible apply Take.nil | apply Take.cons (by repeat (first | with_reducible apply Pick.here | with_reducible apply Pick.there)))) rfl ?_
          rintro v L' ⟨rfl, rfl⟩
          rw [show (d.k.length - 2) / 2 = d.half from rfl]
          simp only [List.cons_append, List.nil_append]
          refine T_guardY rfl rfl rfl ?_; refine T_list ?_; refine kar rfl rfl rfl rfl (by simp only [fits]; omega) ?_; refine T_guardY rfl rfl rfl ?_; refine T_list ?_; refine kcmpF rfl rfl rfl rfl F4 ?_; refine T_list ?_; refine kpF rfl rfl rfl ?_; refine T_list ?_; refine kmv rfl rfl ?_; refine T_guardY rfl rfl rfl ?_; refine T_list ?_; refine kmv rfl rfl ?_; refine T_guardY rfl rfl rfl ?_; refine T_list ?_; refine kcmpT rfl rfl rfl rfl F5 ?_; refine T_guardY rfl rfl rfl ?_; refine T_list ?_; refine kmv rfl rfl ?_; refine T_guardY rfl rfl rfl ?_; refine T_list ?_; refine kfd rfl rfl ?_; refine T_guardY rfl rfl rfl ?_; refine T_list ?_; refine kld rfl rfl (by repeat (first | with_reducible apply Pick.here | with_reducible apply Pick.there)) rfl ?_; refine T_guardY rfl rfl rfl ?_; refine T_list ?_; refine knot rfl rfl ?_; refine T_guardY rfl rfl rfl ?_; refine T_list ?_; refine kpT rfl rfl rfl ?_; refine T_list ?_; refine kpF rfl rfl rfl ?_; refine T_nil ?_; refine T_thenN ?_
          refine T_condF rfl ?_
          refine T_skip ?_; refine T_thenN ?_
          refine T_inv () hcan ⟨rfl, rfl, rfl, rfl, rfl, rfl, trivial⟩ ?_
          (repeat (first | exact perm_rest | apply perm_take (by repeat (first | with_reducible apply Pick.here | ((with_reducible refine Pick.rowE ?_); rfl) | ((with_reducible refine Pick.slcE ?_ ?_ ?_) <;> rfl) | ((with_reducible refine Pick.imapE ?_); rfl) | with_reducible apply Pick.there)) | apply perm_drop))
      · have F5 : decide ((0 : Int) < (d.hMany k : Nat)) = false := decide_eq_false (by omega)
        have hcan : d.hCan k := ⟨by omega, by omega, g3, g4, fun h => absurd h g5⟩
        refine T_seq ?_; refine T_region ?_; refine T_list ?_; refine kfd rfl rfl ?_; refine T_list ?_; refine kld rfl rfl (by repeat (first | with_reducible apply Pick.here | with_reducible apply Pick.there)) rfl ?_; refine T_list ?_; refine kcmpF rfl rfl rfl rfl F1 ?_; refine T_list ?_; refine kmv rfl rfl ?_; refine T_guardY rfl rfl rfl ?_; refine T_list ?_; refine kfd rfl rfl ?_; refine T_guardY rfl rfl rfl ?_; refine T_list ?_; refine kld rfl rfl (by repeat (first | with_reducible apply Pick.here | with_reducible apply Pick.there)) rfl ?_; refine T_guardY rfl rfl rfl ?_; refine T_list ?_; refine kcmpF rfl rfl rfl rfl F2 ?_; refine T_list ?_; refine kpF rfl rfl rfl ?_; refine T_list ?_; refine kmv rfl rfl ?_; refine T_guardY rfl rfl rfl ?_; refine T_list ?_; refine kfd rfl rfl ?_; refine T_guardY rfl rfl rfl ?_; refine T_list ?_; refine kld rfl rfl (by repeat (first | with_reducible apply Pick.here | with_reducible apply Pick.there)) rfl ?_; refine T_guardY rfl rfl rfl ?_; refine T_list ?_; refine kremN rfl rfl (q := 2) rfl rfl ?_; refine T_guardY rfl rfl rfl ?_; refine T_list ?_; refine kmv rfl rfl ?_; refine T_guardY rfl rfl rfl ?_; refine T_list ?_; refine kcmpF rfl rfl rfl rfl F3 ?_; refine T_list ?_; refine kpF rfl rfl rfl ?_; refine T_list ?_; refine kmv rfl rfl ?_; refine T_guardY rfl rfl rfl ?_; refine T_list ?_; refine kmv rfl rfl ?_; refine T_guardY rfl rfl rfl ?_; refine T_list ?_; refine kmv rfl rfl ?_; refine T_guardY rfl rfl rfl ?_
        refine T_list ?_; refine T_call rfl (half_ctr p d (by omega)) (by repeat (first | with_reducible apply Take.nil | apply Take.cons (by repeat (first | with_reducible apply Pick.here | with_reducible apply Pick.there)))) rfl ?_
        rintro v L' ⟨rfl, rfl⟩
        rw [show (d.k.length - 2) / 2 = d.half from rfl]
        simp only [List.cons_append, List.nil_append]
        refine T_guardY rfl rfl rfl ?_; refine T_list ?_; refine kar rfl rfl rfl rfl (by simp only [fits]; omega) ?_; refine T_guardY rfl rfl rfl ?_; refine T_list ?_; refine kcmpF rfl rfl rfl rfl F4 ?_; refine T_list ?_; refine kpF rfl rfl rfl ?_; refine T_list ?_; refine kmv rfl rfl ?_; refine T_guardY rfl rfl rfl ?_; refine T_list ?_; refine kmv rfl rfl ?_; refine T_guardY rfl rfl rfl ?_; refine T_list ?_; refine kcmpF rfl rfl rfl rfl F5 ?_; refine T_guardY rfl rfl rfl ?_; refine T_list ?_; refine kmv rfl rfl ?_; refine T_guardN rfl rfl rfl rfl ?_; refine T_guardN rfl rfl rfl rfl ?_; refine T_guardN rfl rfl rfl rfl ?_; refine T_guardY rfl rfl rfl ?_; refine T_list ?_; refine kpF rfl rfl rfl ?_; refine T_list ?_; refine kpF rfl rfl rfl ?_; refine T_nil ?_; refine T_thenN ?_
        refine T_condF rfl ?_
        refine T_skip ?_; refine T_thenN ?_
        refine T_inv () hcan ⟨rfl, rfl, rfl, rfl, rfl, rfl, trivial⟩ ?_
        (repeat (first | exact perm_rest | apply perm_take (by repeat (first | with_reducible apply Pick.here | ((with_reducible refine Pick.rowE ?_); rfl) | ((with_reducible refine Pick.slcE ?_ ?_ ?_) <;> rfl) | ((with_reducible refine Pick.imapE ?_); rfl) | with_reducible apply Pick.there)) | apply perm_drop))
    · rintro _ hcan
      have hcan' := hcan
      unfold Dsk.hCan at hcan'
      obtain ⟨q1, q2, q3, q4, q5⟩ := hcan'
      have hle : d.hMany k ≤ d.half * 64 := by omega
      simp only [List.cons_append, List.nil_append]
      refine T_seq ?_; refine T_seq ?_; refine T_region ?_; refine T_list ?_; refine kmv rfl rfl ?_; refine T_list ?_; refine kmv rfl rfl ?_; refine T_list ?_; refine kmv rfl rfl ?_
      refine T_list ?_; refine T_call rfl (read_ctr p d h4 hleft k (d.hMany k) hk hle) (by repeat (first | with_reducible apply Take.nil | apply Take.cons (by repeat (first | with_reducible apply Pick.here | with_reducible apply Pick.there)))) rfl ?_
      rintro v L' ⟨ia, ic, B, rfl, hic, hB, rfl⟩
      simp only [List.cons_append, List.nil_append]
      refine T_list ?_; refine kmv rfl rfl ?_; refine T_list ?_; refine kex rfl rfl rfl ?_; refine T_list ?_; refine kex rfl rfl rfl ?_; refine T_list ?_; refine kfd rfl rfl ?_; refine T_list ?_; refine kst rfl rfl rfl (by repeat (first | with_reducible apply Pick.here | with_reducible apply Pick.there)) rfl ?_; refine T_list ?_; refine kas rfl rfl ?_; refine T_nil ?_; refine T_thenN ?_; refine T_seq ?_; refine T_region ?_; refine T_list ?_; refine kmv rfl rfl ?_; refine T_list ?_; refine kcmp rfl rfl rfl rfl ?_; refine T_nil ?_; refine T_thenN ?_
      refine T_cond rfl (fun h => absurd h (by simp only [decide_eq_true_eq, decide_eq_false_iff_not, ne_eq, Decidable.not_not, Bool.not_eq_true', Bool.not_eq_false', Bool.not_true, Bool.not_false, Bool.false_eq_true, Bool.true_eq_false, not_true_eq_false, not_false_eq_true]; try omega)) (fun _ => ?_)
      refine T_skip ?_; refine T_thenN ?_; refine T_seq ?_; refine T_region ?_; refine T_list ?_; refine kldA rfl rfl (by repeat (first | with_reducible apply Pick.here | with_reducible apply Pick.there)) (by rfl) ?_
      refine T_list ?_; refine T_call rfl (hput_ctr (tableS := tableS) B ia (d.hMany k) ic (d.hAge k) H (d.slotB k (d.hMany k)) hB (by omega) (by omega)) (by repeat (first | with_reducible apply Take.nil | apply Take.cons (by repeat (first | with_reducible apply Pick.here | with_reducible apply Pick.there)))) rfl ?_
      rintro v L' ⟨pa, pc, rfl, rfl⟩
      simp only [List.cons_append, List.nil_append]
      skip
      refine T_list ?_; refine kapZ rfl rfl (q := 64) rfl (by repeat (first | with_reducible apply Pick.here | with_reducible apply Pick.there)) rfl (by decide) (by decide) (by decide) (fun wa wc => ?_)
      rw [show (headB (d.hAge k) H (d.slotB k (d.hMany k))).map encB ++ List.replicate 64 (Value.int .u8 0) = (headB (d.hAge k) H (d.slotB k (d.hMany k)) ++ List.replicate 64 0).map encB by rw [List.map_append, List.map_replicate]; rfl]
      refine T_know (p := 25 + 64 ≤ wc) (fun w H => (Hd.openSlc H).2.1) (fun hwc => ?_)
      refine T_list ?_; refine kas rfl rfl ?_; refine T_nil ?_; refine T_thenN ?_; refine T_seq ?_; refine T_seq ?_; refine T_region ?_; refine T_list ?_; refine kmv rfl rfl ?_; refine T_list ?_; refine kmv rfl rfl ?_
      refine T_list ?_; refine ksl (q := 64) rfl rfl bnd_none0 rfl (by decide) (by omega) ?_
      rw [if_add0]
      have hW2 : Rd (slc 5 1 wa (25 + 64) wc ((headB (d.hAge k) H (d.slotB k (d.hMany k)) ++ List.replicate 64 0).map encB)) 1 wa 64 ((pad (headB (d.hAge k) H (d.slotB k (d.hMany k)))).map encB) := by
        have := Rd.pre (l := headB (d.hAge k) H (d.slotB k (d.hMany k)) ++ List.replicate 64 0) (q := 64) (Rd.slc (t := 5) (k := 1) (a := wa) (m := 25 + 64) (c := wc)) (by decide)
        rwa [pad_take _ (by rw [headB_length]; decide)] at this
      have hsl := slotB_length hok h4 hk hle
      have htold : d.at k = pad (headB (d.hAge k) H (d.slotB k (d.hMany k))) → d.told k = some ⟨d.hAge k, H, d.slotB k (d.hMany k)⟩ := by
        intro h; unfold Dsk.told; rw [hH, if_pos ⟨hcan, h⟩]
      have hnone : ¬ d.at k = pad (headB (d.hAge k) H (d.slotB k (d.hMany k))) → d.told k = none := by
        intro h; unfold Dsk.told; rw [hH, if_neg (fun h' => h h'.2)]
      generalize hSB : d.slotB k (d.hMany k) = SB at *
      generalize hHB : pad (headB (d.hAge k) H SB) = HB at *
      skip
      refine T_list ?_; refine T_call rfl (equal_ctr _ _ (some ⟨b, 0, none⟩) wa 64 64 (64 - 0) (wc - 0) (d.at k) HB hrow hW2) (by repeat (first | with_reducible apply Take.nil | apply Take.cons (by repeat (first | with_reducible apply Pick.here | with_reducible apply Pick.there)))) rfl ?_
      rintro v L' ⟨rfl, rfl⟩
      simp only [List.cons_append, List.nil_append]
      refine T_list ?_; refine knot rfl rfl ?_; refine T_nil ?_; refine T_thenN ?_
      by_cases heq : d.at k = HB
      · have ht := htold heq
        have e : decide (d.at k = HB) = true := decide_eq_true heq
        rw [e]
        skip
        refine T_condF rfl ?_
        refine T_skip ?_; refine T_thenN ?_; refine T_seq ?_; refine T_region ?_; refine T_list ?_; refine kldA rfl rfl (by repeat (first | with_reducible apply Pick.here | with_reducible apply Pick.there)) (by rfl) ?_; refine T_list ?_; refine kstA rfl rfl (by simp [Value.oneCell']) rfl (by repeat (first | with_reducible apply Pick.here | with_reducible apply Pick.there)) (by rfl) ?_; refine T_list ?_; refine kas rfl rfl ?_; refine T_nil ?_; refine T_thenN ?_; refine T_ret ?_
        refine T_fin [_, _] [B, PD p d, tableS] ⟨⟨_, rfl, res_agg (by repeat (first | with_reducible apply Pick.here | with_reducible apply Pick.there)) (by rfl)⟩, rfl, trivial⟩ (.inr ⟨⟨d.hAge k, H, SB⟩, (ia, ic, B), ht, ⟨by dsimp only; rw [hsl]; exact hB, q2, by dsimp only; omega⟩, by dsimp only; rw [hsl]; rfl, rfl⟩) ?_
        (repeat (first | exact perm_rest | apply perm_take (by repeat (first | with_reducible apply Pick.here | with_reducible apply Pick.there)) | apply perm_drop))
      · have hno := hnone heq
        have e : decide (d.at k = HB) = false := decide_eq_false heq
        rw [e]
        refine T_condT rfl ?_
        refine T_seq ?_; refine T_region ?_; refine T_list ?_; refine kbld rfl (vs := []) rfl rfl ?_; refine T_list ?_; refine kstA rfl rfl (by simp [Value.oneCell']) rfl (by repeat (first | with_reducible apply Pick.here | with_reducible apply Pick.there)) (by rfl) ?_; refine T_list ?_; refine kas rfl rfl ?_; refine T_nil ?_; refine T_thenN ?_; refine T_ret ?_; refine T_thenR ?_
        refine T_fin [noHead, _] [PD p d, tableS] ⟨⟨_, rfl, res_agg (by repeat (first | with_reducible apply Pick.here | with_reducible apply Pick.there)) (by rfl)⟩, rfl, trivial⟩ (.inl ⟨hno, rfl, rfl⟩) ?_
        (repeat (first | exact perm_rest | apply perm_take (by repeat (first | with_reducible apply Pick.here | with_reducible apply Pick.there)) | apply perm_drop))
end Go.Proofs
namespace Go.Proofs
set_option linter.unnecessarySimpa false
open Go Go.Sl
attribute [local irreducible] Still T opO Sl.Inv row slc wpSeq Code.wp wpList Exit.then Exit.inBlock
set_option linter.unusedVariables false
set_option linter.unusedSimpArgs false
set_option maxRecDepth 4000
theorem pad_pad {b : Bytes} (h : b.length ≤ 64) : pad (pad b) = pad b := by
  have := pad_length h
  conv => lhs; rw [pad, this]
  simp
theorem write_pad (d : Dsk) (i : Int) {b : Bytes} (h : b.length ≤ 64) : d.write i (pad b) = d.write i b := by
  unfold Dsk.write Dsk.put
  rw [pad_pad h, pad_length h]
  simp only [show ¬ 64 < 64 by decide, show ¬ 64 < b.length by omega]
theorem image_ctr (s p : Nat) (st : Sto) : Ctr Tryd.prog 25 [.pointer (some ⟨s, 0, none⟩)] [PS s p st]
    (fun v L => ∃ a c, v = .tuple [.slice a st.image.length c, .bool st.has].toArray ∧ L = [slc 5 1 a st.image.length c (st.image.map encB), PS s p st]) := by
  refine Ctr.of Tryd.func25 rfl rfl (fun w F => ?_)
  simp only [Tryd.ntmps25, env0, List.cons_append, List.nil_append]
  refine T_open Pick.here ?_
  rintro x ⟨hx, hx2, hx3⟩
  simp only [psL, List.cons_append, List.nil_append]
  refine T_seq ?_; refine T_region ?_; refine T_list ?_; refine kas rfl rfl ?_; refine T_list ?_; refine kas rfl rfl ?_; refine T_nil ?_; refine T_thenN ?_; refine T_seq ?_
  refine T_drawR ([row s 65 [.int .i64 (st.age : Nat), .bool st.has, .slice x.1 st.image.length x.2.1, .pointer (some ⟨p, 0, none⟩)]]) [] [(0, true), (1, true), (2, true), (3, true), (4, true), (6, true), (7, true), (8, true), (9, true), (10, true), (5, false), (11, true), (12, true)] mixedT rfl (by kernel_rfl) ?_
  refine r_still (by repeat (first | with_reducible apply Take.nil | apply Take.cons (by repeat (first | with_reducible apply Pick.here | with_reducible apply Pick.there)))) rfl rfl ?_; refine ⟨_, (S_move rfl), ?_⟩; refine r_still (by repeat (first | with_reducible apply Take.nil | apply Take.cons (by repeat (first | with_reducible apply Pick.here | with_reducible apply Pick.there)))) rfl rfl ?_; refine ⟨_, (S_nilCheck rfl), ?_⟩; refine r_still (by repeat (first | with_reducible apply Take.nil | apply Take.cons (by repeat (first | with_reducible apply Pick.here | with_reducible apply Pick.there)))) rfl rfl ?_; refine ⟨_, (S_fieldR rfl), ?_⟩; refine r_still (by repeat (first | with_reducible apply Take.nil | apply Take.cons (by repeat (first | with_reducible apply Pick.here | with_reducible apply Pick.there)))) rfl rfl ?_; refine ⟨_, (S_fieldR rfl), ?_⟩; refine r_still (by repeat (first | with_reducible apply Take.nil | apply Take.cons (by repeat (first | with_reducible apply Pick.here | with_reducible apply Pick.there)))) rfl rfl ?_; refine ⟨_, (S_load rfl (by repeat (first | with_reducible apply Pick.here | with_reducible apply Pick.there)) rfl), ?_⟩; refine r_still (by repeat (first | with_reducible apply Take.nil | apply Take.cons (by repeat (first | with_reducible apply Pick.here | with_reducible apply Pick.there)))) rfl rfl ?_; refine ⟨_, (S_move rfl), ?_⟩; refine r_still (by repeat (first | with_reducible apply Take.nil | apply Take.cons (by repeat (first | with_reducible apply Pick.here | with_reducible apply Pick.there)))) rfl rfl ?_; refine ⟨_, (S_nilCheck rfl), ?_⟩; refine r_still (by repeat (first | with_reducible apply Take.nil | apply Take.cons (by repeat (first | with_reducible apply Pick.here | with_reducible apply Pick.there)))) rfl rfl ?_; refine ⟨_, (S_fieldR rfl), ?_⟩; refine r_still (by repeat (first | with_reducible apply Take.nil | apply Take.cons (by repeat (first | with_reducible apply Pick.here | with_reducible apply Pick.there)))) rfl rfl ?_; refine ⟨_, (S_fieldR rfl), ?_⟩; refine r_still (by repeat (first | with_reducible apply Take.nil | apply Take.cons (by repeat (first | with_reducible apply Pick.here | with_reducible apply Pick.there)))) rfl rfl ?_; refine ⟨_, (S_load rfl (by repeat (first | with_reducible apply Pick.here | with_reducible apply Pick.there)) rfl), ?_⟩
  refine T_seqOp rfl ?_; refine T_call rfl (clone_ctr x.2.2 x.1 st.image.length x.2.1 st.image hx (by omega)) (by repeat (first | with_reducible apply Take.nil | apply Take.cons (by repeat (first | with_reducible apply Pick.here | with_reducible apply Pick.there)))) rfl ?_
  rintro v L' ⟨a, c, rfl, rfl⟩
  simp only [List.cons_append, List.nil_append]
  refine r_back (by repeat (first | with_reducible apply Take.nil | apply Take.cons (by repeat (first | with_reducible apply Pick.here | with_reducible apply Pick.there)))) ?_; refine r_still (by repeat (first | with_reducible apply Take.nil | apply Take.cons (by repeat (first | with_reducible apply Pick.here | with_reducible apply Pick.there)))) rfl rfl ?_; refine ⟨_, (S_assign rfl), ?_⟩; refine r_still (by repeat (first | with_reducible apply Take.nil | apply Take.cons (by repeat (first | with_reducible apply Pick.here | with_reducible apply Pick.there)))) rfl rfl ?_; refine ⟨_, (S_assign rfl), ?_⟩; refine T_seqNil ?_; refine T_thenN ?_; refine T_ret ?_
  refine T_close (R := stR st) (Ls := psL s p st) x ⟨hx, hx2, hx3⟩ (by repeat (first | with_reducible apply Take.nil | apply Take.cons (by repeat (first | with_reducible apply Pick.here | ((with_reducible refine Pick.rowE ?_); rfl) | ((with_reducible refine Pick.slcE ?_ ?_ ?_) <;> rfl) | ((with_reducible refine Pick.imapE ?_); rfl) | with_reducible apply Pick.there)))) ?_
  refine T_fin [_, _] _ ⟨rfl, rfl, trivial⟩ ⟨a, c, rfl, rfl⟩ ?_
  (repeat (first | exact perm_rest | apply perm_take (by repeat (first | with_reducible apply Pick.here | with_reducible apply Pick.there)) | apply perm_drop))
theorem age_ctr (s p : Nat) (st : Sto) : Ctr Tryd.prog 26 [.pointer (some ⟨s, 0, none⟩)] [PS s p st] (fun v L => v = .int .i64 (st.age : Nat) ∧ L = [PS s p st]) := by
  refine Ctr.of Tryd.func26 rfl rfl (fun w F => ?_)
  simp only [Tryd.ntmps26, env0, List.cons_append, List.nil_append]
  refine T_open Pick.here ?_
  rintro x hx
  simp only [psL, List.cons_append, List.nil_append]
  refine T_seq ?_; refine T_region ?_; refine T_list ?_; refine kas rfl rfl ?_; refine T_nil ?_; refine T_thenN ?_; refine T_seq ?_; refine T_region ?_; refine T_list ?_; refine kmv rfl rfl ?_; refine T_list ?_; refine knc rfl rfl ?_; refine T_list ?_; refine kfd rfl rfl ?_; refine T_list ?_; refine kfd rfl rfl ?_; refine T_list ?_; refine kld rfl rfl (by repeat (first | with_reducible apply Pick.here | with_reducible apply Pick.there)) rfl ?_; refine T_list ?_; refine kas rfl rfl ?_; refine T_nil ?_; refine T_thenN ?_; refine T_ret ?_
  refine T_close (R := stR st) (Ls := psL s p st) x hx (by repeat (first | with_reducible apply Take.nil | apply Take.cons (by repeat (first | with_reducible apply Pick.here | ((with_reducible refine Pick.rowE ?_); rfl) | ((with_reducible refine Pick.slcE ?_ ?_ ?_) <;> rfl) | ((with_reducible refine Pick.imapE ?_); rfl) | with_reducible apply Pick.there)))) ?_
  refine T_fin [_] _ ⟨rfl, trivial⟩ ⟨rfl, rfl⟩ ?_
  (repeat (first | exact perm_rest | apply perm_take (by repeat (first | with_reducible apply Pick.here | with_reducible apply Pick.there)) | apply perm_drop))
theorem room_ctr (s p : Nat) (st : Sto) (d : Dsk) (h : 2 ≤ d.k.length) : Ctr Tryd.prog 21 [.pointer (some ⟨s, 0, none⟩)] [PS s p st, PD p d] (fun v L => v = .int .i64 ((64 * d.half : Nat) : Int) ∧ L = [PS s p st, PD p d]) := by
  refine Ctr.of Tryd.func21 rfl rfl (fun w F => ?_)
  simp only [Tryd.ntmps21, env0, List.cons_append, List.nil_append]
  refine T_know (p := d.ok) (fun w H => by obtain ⟨x, hx, _⟩ := (Pick.here.back H.drop).openAb; exact hx.1) (fun hok => ?_)
  have hfew := hok.few
  have hhalf : d.half ≤ 255 := by unfold Dsk.half; omega
  refine T_open Pick.here ?_
  rintro x hx
  simp only [psL, List.cons_append, List.nil_append]
  refine T_seq ?_; refine T_region ?_; refine T_list ?_; refine kas rfl rfl ?_; refine T_nil ?_; refine T_thenN ?_; refine T_seq ?_; refine T_region ?_; refine T_list ?_; refine kmv rfl rfl ?_; refine T_list ?_; refine knc rfl rfl ?_; refine T_list ?_; refine kfd rfl rfl ?_; refine T_list ?_; refine kld rfl rfl (by repeat (first | with_reducible apply Pick.here | with_reducible apply Pick.there)) rfl ?_
  refine T_list ?_; refine T_call rfl (half_ctr p d h) (by repeat (first | with_reducible apply Take.nil | apply Take.cons (by repeat (first | with_reducible apply Pick.here | with_reducible apply Pick.there)))) rfl ?_
  rintro v L' ⟨rfl, rfl⟩
  simp only [List.cons_append, List.nil_append]
  rw [show (d.k.length - 2) / 2 = d.half from rfl]
  refine T_list ?_; refine kar rfl rfl rfl rfl (by simp only [fits]; omega) ?_; refine T_list ?_; refine kas rfl rfl ?_; refine T_nil ?_; refine T_thenN ?_; refine T_ret ?_
  refine T_close (R := stR st) (Ls := psL s p st) x hx (by repeat (first | with_reducible apply Take.nil | apply Take.cons (by repeat (first | with_reducible apply Pick.here | ((with_reducible refine Pick.rowE ?_); rfl) | ((with_reducible refine Pick.slcE ?_ ?_ ?_) <;> rfl) | ((with_reducible refine Pick.imapE ?_); rfl) | with_reducible apply Pick.there)))) ?_
  refine T_fin [_] _ ⟨rfl, trivial⟩ ⟨rfl, rfl⟩ ?_
  (repeat (first | exact perm_rest | apply perm_take (by repeat (first | with_reducible apply Pick.here | with_reducible apply Pick.there)) | apply perm_drop))
set_option maxHeartbeats 1000000 in
theorem seal_ctr {tableS : SP} [hT : TableAt tableS] (s p : Nat) (st hd : Sto) (d : Dsk) (A : SP) (ia : Option Addr) (ic : Nat) (hr : Rd A 1 ia hd.image.length (hd.image.map encB)) (ha : hd.age ≤ 1099511627776) (hm : hd.image.length ≤ 100000) :
    Ctr Tryd.prog 38 [.pointer (some ⟨s, 0, none⟩), .agg [.int .i64 (hd.age : Nat), .bool hd.has, .slice ia hd.image.length ic].toArray] [PS s p st, PD p d, A, tableS]
      (fun v L => v = .int .i64 (d.headed st hd).e ∧ L = [PS s p (d.headed st hd).st, PD p (d.headed st hd).d, tableS]) := by
  refine Ctr.of Tryd.func38 rfl rfl (fun w F => ?_)
  simp only [Tryd.ntmps38, env0, List.cons_append, List.nil_append]
  refine T_open Pick.here ?_
  rintro x hx
  simp only [psL, List.cons_append, List.nil_append]
  have hw := write_pad d ((hd.age % 2 : Nat) : Int) (b := headB hd.age hd.has hd.image) (by rw [headB_length]; decide)
  unfold Dsk.headed
  rw [hw]
  refine T_seq ?_; refine T_region ?_; refine T_list ?_; refine kbx rfl rfl rfl ?_; intro _b; refine T_list ?_; refine kas rfl rfl ?_; refine T_nil ?_; refine T_thenN ?_; refine T_seq ?_; refine T_seq ?_
  refine T_drawR ([row s 65 [.int .i64 (st.age : Nat), .bool st.has, .slice x.1 st.image.length x.2.1, .pointer (some ⟨p, 0, none⟩)], row _b 63 [.int .i64 (hd.age : Nat), .bool hd.has, .slice ia hd.image.length ic]]) [] [(0, true), (1, true), (2, true), (3, true), (4, true), (5, true), (6, true), (7, true), (8, false), (9, false), (10, true)] mixedT rfl (by kernel_rfl) ?_
  refine r_still (by repeat (first | with_reducible apply Take.nil | apply Take.cons (by repeat (first | with_reducible apply Pick.here | with_reducible apply Pick.there)))) rfl rfl ?_; refine ⟨_, (S_move rfl), ?_⟩; refine r_still (by repeat (first | with_reducible apply Take.nil | apply Take.cons (by repeat (first | with_reducible apply Pick.here | with_reducible apply Pick.there)))) rfl rfl ?_; refine ⟨_, (S_nilCheck rfl), ?_⟩; refine r_still (by repeat (first | with_reducible apply Take.nil | apply Take.cons (by repeat (first | with_reducible apply Pick.here | with_reducible apply Pick.there)))) rfl rfl ?_; refine ⟨_, (S_fieldR rfl), ?_⟩; refine r_still (by repeat (first | with_reducible apply Take.nil | apply Take.cons (by repeat (first | with_reducible apply Pick.here | with_reducible apply Pick.there)))) rfl rfl ?_; refine ⟨_, (S_load rfl (by repeat (first | with_reducible apply Pick.here | with_reducible apply Pick.there)) rfl), ?_⟩; refine r_still (by repeat (first | with_reducible apply Take.nil | apply Take.cons (by repeat (first | with_reducible apply Pick.here | with_reducible apply Pick.there)))) rfl rfl ?_; refine ⟨_, (S_fieldR rfl), ?_⟩; refine r_still (by repeat (first | with_reducible apply Take.nil | apply Take.cons (by repeat (first | with_reducible apply Pick.here | with_reducible apply Pick.there)))) rfl rfl ?_; refine ⟨_, (S_load rfl (by repeat (first | with_reducible apply Pick.here | with_reducible apply Pick.there)) rfl), ?_⟩; refine r_still (by repeat (first | with_reducible apply Take.nil | apply Take.cons (by repeat (first | with_reducible apply Pick.here | with_reducible apply Pick.there)))) rfl rfl ?_; refine ⟨_, (S_remNN rfl (q := 2) rfl rfl), ?_⟩; refine r_still (by repeat (first | with_reducible apply Take.nil | apply Take.cons (by repeat (first | with_reducible apply Pick.here | with_reducible apply Pick.there)))) rfl rfl ?_; refine ⟨_, (S_loadAll rfl (by repeat (first | with_reducible apply Pick.here | with_reducible apply Pick.there)) (by rfl)), ?_⟩
  refine T_seqOp rfl ?_; refine T_call rfl (hput_ctr (tableS := tableS) A ia hd.image.length ic hd.age hd.has hd.image hr (by omega) hm) (by repeat (first | with_reducible apply Take.nil | apply Take.cons (by repeat (first | with_reducible apply Pick.here | with_reducible apply Pick.there)))) rfl ?_
  rintro v L' ⟨pa, pc, rfl, rfl⟩
  simp only [List.cons_append, List.nil_append]
  refine r_back (by repeat (first | with_reducible apply Take.nil | apply Take.cons (by repeat (first | with_reducible apply Pick.here | with_reducible apply Pick.there)))) ?_
  refine T_seqOp rfl ?_; refine T_call rfl (dwrite_ctr p d ((hd.age % 2 : Nat) : Int) _ pa 25 pc (headB hd.age hd.has hd.image) Rd.slc) (by repeat (first | with_reducible apply Take.nil | apply Take.cons (by repeat (first | with_reducible apply Pick.here | with_reducible apply Pick.there)))) rfl ?_
  rintro v L' ⟨rfl, rfl⟩
  simp only [List.cons_append, List.nil_append]
  generalize hW : d.write ((hd.age % 2 : Nat) : Int) (headB hd.age hd.has hd.image) = W at *
  refine r_back (by repeat (first | with_reducible apply Take.nil | apply Take.cons (by repeat (first | with_reducible apply Pick.here | with_reducible apply Pick.there)))) ?_; refine r_still (by repeat (first | with_reducible apply Take.nil | apply Take.cons (by repeat (first | with_reducible apply Pick.here | with_reducible apply Pick.there)))) rfl rfl ?_; refine ⟨_, (S_assign rfl), ?_⟩; refine T_seqNil ?_; refine T_thenN ?_; refine T_seq ?_; refine T_region ?_; refine T_list ?_; refine kmv rfl rfl ?_; refine T_list ?_; refine kcmp rfl rfl rfl rfl ?_; refine T_nil ?_; refine T_thenN ?_
  refine T_cond rfl (fun h => ?_) (fun h => ?_) <;> simp only [decide_eq_true_eq, decide_eq_false_iff_not, ne_eq, Decidable.not_not, Bool.not_eq_true', Bool.not_eq_false', Bool.cond_eq_true_distrib, Bool.cond_eq_false_distrib] at h
  · rw [if_neg h]
    refine T_seq ?_; refine T_region ?_; refine T_list ?_; refine kmv rfl rfl ?_; refine T_list ?_; refine kas rfl rfl ?_; refine T_nil ?_; refine T_thenN ?_; refine T_ret ?_; refine T_thenR ?_
    refine T_close (R := stR st) (Ls := psL s p st) x hx (by repeat (first | with_reducible apply Take.nil | apply Take.cons (by repeat (first | with_reducible apply Pick.here | ((with_reducible refine Pick.rowE ?_); rfl) | ((with_reducible refine Pick.slcE ?_ ?_ ?_) <;> rfl) | ((with_reducible refine Pick.imapE ?_); rfl) | with_reducible apply Pick.there)))) ?_
    refine T_fin [_] _ ⟨rfl, trivial⟩ ⟨rfl, rfl⟩ ?_
    (repeat (first | exact perm_rest | apply perm_take (by repeat (first | with_reducible apply Pick.here | with_reducible apply Pick.there)) | apply perm_drop))
  · rw [if_pos h]
    refine T_skip ?_; refine T_thenN ?_; refine T_seq ?_; refine T_seq ?_; refine T_region ?_; refine T_list ?_; refine kmv rfl rfl ?_; refine T_list ?_; refine knc rfl rfl ?_; refine T_list ?_; refine kfd rfl rfl ?_; refine T_list ?_; refine kld rfl rfl (by repeat (first | with_reducible apply Pick.here | with_reducible apply Pick.there)) rfl ?_
    refine T_list ?_; refine T_call rfl (dflush_ctr p W.2) (by repeat (first | with_reducible apply Take.nil | apply Take.cons (by repeat (first | with_reducible apply Pick.here | with_reducible apply Pick.there)))) rfl ?_
    rintro v L' ⟨rfl, rfl⟩
    simp only [List.cons_append, List.nil_append]
    refine T_list ?_; refine kas rfl rfl ?_; refine T_nil ?_; refine T_thenN ?_; refine T_seq ?_; refine T_region ?_; refine T_list ?_; refine kmv rfl rfl ?_; refine T_list ?_; refine kcmp rfl rfl rfl rfl ?_; refine T_nil ?_; refine T_thenN ?_
    refine T_cond rfl (fun h => ?_) (fun h => ?_) <;> simp only [decide_eq_true_eq, decide_eq_false_iff_not, ne_eq, Decidable.not_not, Bool.not_eq_true', Bool.not_eq_false', Bool.cond_eq_true_distrib, Bool.cond_eq_false_distrib] at h
    · rw [if_neg h]
      refine T_seq ?_; refine T_region ?_; refine T_list ?_; refine kmv rfl rfl ?_; refine T_list ?_; refine kas rfl rfl ?_; refine T_nil ?_; refine T_thenN ?_; refine T_ret ?_; refine T_thenR ?_
      refine T_close (R := stR st) (Ls := psL s p st) x hx (by repeat (first | with_reducible apply Take.nil | apply Take.cons (by repeat (first | with_reducible apply Pick.here | ((with_reducible refine Pick.rowE ?_); rfl) | ((with_reducible refine Pick.slcE ?_ ?_ ?_) <;> rfl) | ((with_reducible refine Pick.imapE ?_); rfl) | with_reducible apply Pick.there)))) ?_
      refine T_fin [_] _ ⟨rfl, trivial⟩ ⟨rfl, rfl⟩ ?_
      (repeat (first | exact perm_rest | apply perm_take (by repeat (first | with_reducible apply Pick.here | with_reducible apply Pick.there)) | apply perm_drop))
    · rw [if_pos h]
      refine T_skip ?_; refine T_thenN ?_; refine T_seq ?_; refine T_region ?_; refine T_list ?_; refine kmv rfl rfl ?_; refine T_list ?_; refine kldA rfl rfl (by repeat (first | with_reducible apply Pick.here | with_reducible apply Pick.there)) (by rfl) ?_; refine T_list ?_; refine knc rfl rfl ?_; refine T_list ?_; refine kfd rfl rfl ?_; refine T_list ?_; refine kstC rfl rfl rfl (by simp [Value.oneCell']) (by rfl) (by repeat (first | with_reducible apply Pick.here | with_reducible apply Pick.there)) (by simp) ?_; refine T_nil ?_; refine T_thenN ?_; refine T_seq ?_; refine T_region ?_; refine T_list ?_; refine kas rfl rfl ?_; refine T_nil ?_; refine T_thenN ?_; refine T_ret ?_
      refine T_close (R := stR hd) (Ls := psL s p hd) (ia, ic, A) ⟨hr, ha, hm⟩ (by repeat (first | with_reducible apply Take.nil | apply Take.cons (by repeat (first | with_reducible apply Pick.here | ((with_reducible refine Pick.rowE ?_); rfl) | ((with_reducible refine Pick.slcE ?_ ?_ ?_) <;> rfl) | ((with_reducible refine Pick.imapE ?_); rfl) | with_reducible apply Pick.there)))) ?_
      refine T_fin [_] _ ⟨rfl, trivial⟩ ⟨rfl, rfl⟩ ?_
      (repeat (first | exact perm_rest | apply perm_take (by repeat (first | with_reducible apply Pick.here | with_reducible apply Pick.there)) | apply perm_drop))
end Go.Proofs
namespace Go.Proofs
set_option linter.unnecessarySimpa false
open Go Go.Sl
attribute [local irreducible] Still T opO Sl.Inv row slc wpSeq Code.wp wpList Exit.then Exit.inBlock
set_option linter.unusedVariables false
set_option linter.unusedSimpArgs false
set_option maxRecDepth 4000
def Dsk.foundTo (d : Dsk) : Nat → Sto
  | 0 => ⟨0, false, []⟩
  | n + 1 => better (d.foundTo n) (d.told n)
theorem found_to (d : Dsk) : d.foundTo 2 = d.found := by rw [found_better]; rfl
theorem told0_ctr (p : Nat) (d : Dsk) (h4 : 4 ≤ d.k.length) (hleft : d.left = 0) (k : Nat) (hk : k ≤ 1) :
    Ctr Tryd.prog 28 [.pointer (some ⟨p, 0, none⟩), .int .i64 (k : Nat)] [PD p d] (fun v L => v = .tuple [noHead, .int .i64 19].toArray ∧ L = [PD p d]) := by
  refine Ctr.of Tryd.func28 rfl rfl (fun w F => ?_)
  simp only [Tryd.ntmps28, env0, List.cons_append, List.nil_append]
  refine T_seq ?_; refine T_region ?_; refine T_list ?_; refine kal rfl ?_; intro _b; refine T_list ?_; refine kas rfl rfl ?_; refine T_nil ?_; refine T_thenN ?_; refine T_seq ?_; refine T_region ?_; refine T_list ?_; refine kmv rfl rfl ?_; refine T_list ?_; refine kmv rfl rfl ?_
  refine T_list ?_; refine T_call rfl (dread_ctr p d (k : Int)) (by repeat (first | with_reducible apply Take.nil | apply Take.cons (by repeat (first | with_reducible apply Pick.here | with_reducible apply Pick.there)))) rfl ?_
  rintro v L' (⟨hno, _, _⟩ | ⟨_, h0, rfl, rfl⟩ | ⟨_, h0, b, _, _⟩)
  · exact absurd (show d.has _ by unfold Dsk.has; omega) hno
  · simp only [List.cons_append, List.nil_append]
    refine T_list ?_; refine kmv rfl rfl ?_; refine T_list ?_; refine kex rfl rfl rfl ?_; refine T_list ?_; refine kex rfl rfl rfl ?_; refine T_list ?_; refine kas rfl rfl ?_; refine T_list ?_; refine kas rfl rfl ?_; refine T_nil ?_; refine T_thenN ?_; refine T_seq ?_; refine T_seq ?_; refine T_region ?_; refine T_list ?_; refine kmv rfl rfl ?_; refine T_list ?_; refine kcmp rfl rfl rfl rfl ?_; refine T_nil ?_; refine T_thenN ?_
    refine T_cond rfl (fun _ => ?_) (fun h => absurd h (by simp only [decide_eq_true_eq, decide_eq_false_iff_not, ne_eq, Decidable.not_not, Bool.not_eq_true', Bool.not_eq_false', Bool.not_true, Bool.not_false, Bool.false_eq_true, Bool.true_eq_false, not_true_eq_false, not_false_eq_true]; try omega))
    refine T_seq ?_; refine T_region ?_; refine T_list ?_; refine kbld rfl (vs := []) rfl rfl ?_; refine T_list ?_; refine kmv rfl rfl ?_; refine T_list ?_; refine kstA rfl rfl (by simp [Value.oneCell']) rfl (by repeat (first | with_reducible apply Pick.here | with_reducible apply Pick.there)) (by rfl) ?_; refine T_list ?_; refine kas rfl rfl ?_; refine T_nil ?_; refine T_thenN ?_; refine T_ret ?_; refine T_thenR ?_
    refine T_fin [noHead, _] [PD p d] ⟨⟨_, rfl, res_agg (by repeat (first | with_reducible apply Pick.here | with_reducible apply Pick.there)) (by rfl)⟩, rfl, trivial⟩ ⟨rfl, rfl⟩ ?_
    (repeat (first | exact perm_rest | apply perm_take (by repeat (first | with_reducible apply Pick.here | with_reducible apply Pick.there)) | apply perm_drop))
  · exact absurd hleft h0
set_option maxHeartbeats 1000000 in
theorem open_ctr {tableS : SP} [hT : TableAt tableS] (p : Nat) (d : Dsk) : Ctr Tryd.prog 8 [.pointer (some ⟨p, 0, none⟩)] [PD p d, tableS]
    (fun v L => (d.k.length < 4 ∧ v = .tuple [.pointer none, .int .i64 1].toArray ∧ L = [PD p d, tableS]) ∨
      (4 ≤ d.k.length ∧ d.left = 0 ∧ v = .tuple [.pointer none, .int .i64 19].toArray ∧ L = [PD p d, tableS]) ∨
      (4 ≤ d.k.length ∧ d.left ≠ 0 ∧ ∃ s, v = .tuple [.pointer (some ⟨s, 0, none⟩), .int .i64 0].toArray ∧ L = [PS s p d.found, PD p d, tableS])) := by
  refine Ctr.of Tryd.func8 rfl rfl (fun w F => ?_)
  simp only [Tryd.ntmps8, env0, List.cons_append, List.nil_append]
  refine T_seq ?_; refine T_region ?_; refine T_list ?_; refine kas rfl rfl ?_; refine T_list ?_; refine kas rfl rfl ?_; refine T_nil ?_; refine T_thenN ?_; refine T_seq ?_; refine T_seq ?_; refine T_region ?_; refine T_list ?_; refine kmv rfl rfl ?_
  refine T_list ?_; refine T_call rfl (dlen_ctr p d) (by repeat (first | with_reducible apply Take.nil | apply Take.cons (by repeat (first | with_reducible apply Pick.here | with_reducible apply Pick.there)))) rfl ?_
  rintro v L' ⟨rfl, rfl⟩
  simp only [List.cons_append, List.nil_append]
  refine T_list ?_; refine kcmp rfl rfl rfl rfl ?_; refine T_nil ?_; refine T_thenN ?_
  refine T_cond rfl (fun h => ?_) (fun h => ?_) <;> simp only [decide_eq_true_eq, decide_eq_false_iff_not, ne_eq, Decidable.not_not, Bool.not_eq_true', Bool.not_eq_false', Bool.cond_eq_true_distrib, Bool.cond_eq_false_distrib] at h
  · refine T_seq ?_; refine T_region ?_; refine T_list ?_; refine kas rfl rfl ?_; refine T_list ?_; refine kas rfl rfl ?_; refine T_nil ?_; refine T_thenN ?_; refine T_ret ?_; refine T_thenR ?_
    refine T_fin [_, _] [PD p d, tableS] ⟨rfl, rfl, trivial⟩ (.inl ⟨by omega, rfl, rfl⟩) ?_
    (repeat (first | exact perm_rest | apply perm_take (by repeat (first | with_reducible apply Pick.here | with_reducible apply Pick.there)) | apply perm_drop))
  · have h4 : 4 ≤ d.k.length := by omega
    refine T_skip ?_; refine T_thenN ?_; refine T_seq ?_; refine T_region ?_; refine T_list ?_; refine kmv rfl rfl ?_; refine T_list ?_; refine kbld rfl (vs := [(1, _)]) rfl rfl ?_; refine T_list ?_; refine kbx rfl rfl rfl ?_; intro _b; refine T_list ?_; refine kas rfl rfl ?_; refine T_nil ?_; refine T_thenN ?_; refine T_seq ?_; refine T_seq ?_; refine T_region ?_; refine T_list ?_; refine kmv rfl rfl ?_; refine T_nil ?_; refine T_thenN ?_; refine T_block ?_
    refine T_nilS 5 1 ?_
    refine T_loop (ι := Nat × Sto × (Option Addr × Nat × SP)) (fun y => y.1 ≤ 2 ∧ stR y.2.1 y.2.2 ∧ y.2.1 = d.foundTo y.1 ∧ (y.1 = 0 ∨ d.left ≠ 0))
      (fun y => [(14, .int .i64 (y.1 : Nat)), (4, .pointer (some ⟨_b, 0, none⟩)), (0, .pointer (some ⟨p, 0, none⟩))])
      (fun y => row _b 65 [.int .i64 (y.2.1.age : Nat), .bool y.2.1.has, .slice y.2.2.1 y.2.1.image.length y.2.2.2.1, .pointer (some ⟨p, 0, none⟩)] :: y.2.2.2.2 :: PD p d :: tableS :: F)
      (fun y => 2 - y.1) ?_ ?_
    · refine T_inv (0, ⟨0, false, []⟩, (none, 0, slc 5 1 none 0 0 [])) ⟨by simp, ⟨Rd.slc, by simp, by simp⟩, rfl, .inl rfl⟩ ⟨rfl, rfl, rfl, trivial⟩ ?_
      (repeat (first | exact perm_rest | apply perm_take (by repeat (first | with_reducible apply Pick.here | ((with_reducible refine Pick.rowE ?_); rfl) | ((with_reducible refine Pick.slcE ?_ ?_ ?_) <;> rfl) | ((with_reducible refine Pick.imapE ?_); rfl) | with_reducible apply Pick.there)) | apply perm_drop))
    · rintro ⟨i, st, x⟩ ⟨hi, hx, hst, hl⟩
      dsimp only at hi hx hst hl ⊢
      refine T_seq ?_; refine T_region ?_; refine T_list ?_; refine kcmp rfl rfl rfl rfl ?_; refine T_nil ?_; refine T_thenN ?_; refine T_seq ?_
      refine T_cond rfl (fun h => ?_) (fun h => ?_) <;> simp only [decide_eq_true_eq, decide_eq_false_iff_not, ne_eq, Decidable.not_not, Bool.not_eq_true', Bool.not_eq_false', Bool.cond_eq_true_distrib, Bool.cond_eq_false_distrib] at h
      · have hi1 : i ≤ 1 := by omega
        refine T_skip ?_; refine T_thenN ?_; refine T_seq ?_; refine T_block ?_; refine T_seq ?_; refine T_region ?_; refine T_list ?_; refine kmv rfl rfl ?_; refine T_list ?_; refine kas rfl rfl ?_; refine T_nil ?_; refine T_thenN ?_; refine T_seq ?_; refine T_region ?_; refine T_list ?_; refine kmv rfl rfl ?_; refine T_list ?_; refine kmv rfl rfl ?_
        by_cases hleft : d.left = 0
        · refine T_list ?_; refine T_call rfl (told0_ctr p d h4 hleft i hi1) (by repeat (first | with_reducible apply Take.nil | apply Take.cons (by repeat (first | with_reducible apply Pick.here | with_reducible apply Pick.there)))) rfl ?_
          rintro v L' ⟨rfl, rfl⟩
          simp only [List.cons_append, List.nil_append]
          refine T_list ?_; refine kmv rfl rfl ?_; refine T_list ?_; refine kex rfl rfl rfl ?_; refine T_list ?_; refine kex rfl rfl rfl ?_; refine T_list ?_; refine kal rfl ?_; intro _b; refine T_list ?_; refine kstA rfl rfl (by simp [Value.oneCell']) rfl (by repeat (first | with_reducible apply Pick.here | with_reducible apply Pick.there)) (by rfl) ?_; refine T_list ?_; refine kas rfl rfl ?_; refine T_nil ?_; refine T_thenN ?_; refine T_seq ?_; refine T_seq ?_; refine T_region ?_; refine T_list ?_; refine kmv rfl rfl ?_; refine T_list ?_; refine kcmp rfl rfl rfl rfl ?_; refine T_nil ?_; refine T_thenN ?_
          refine T_cond rfl (fun _ => ?_) (fun h => absurd h (by simp only [decide_eq_true_eq, decide_eq_false_iff_not, ne_eq, Decidable.not_not, Bool.not_eq_true', Bool.not_eq_false', Bool.not_true, Bool.not_false, Bool.false_eq_true, Bool.true_eq_false, not_true_eq_false, not_false_eq_true]; try omega))
          refine T_seq ?_; refine T_region ?_; refine T_list ?_; refine kmv rfl rfl ?_; refine T_list ?_; refine kas rfl rfl ?_; refine T_list ?_; refine kas rfl rfl ?_; refine T_nil ?_; refine T_thenN ?_; refine T_ret ?_; refine T_thenR ?_; refine T_inR ?_; refine T_thenR ?_; refine T_thenR ?_; refine T_inR ?_; refine T_thenR ?_
          refine T_fin [_, _] [PD p d, tableS] ⟨rfl, rfl, trivial⟩ (.inr (.inl ⟨h4, hleft, rfl, rfl⟩)) ?_
          (repeat (first | exact perm_rest | apply perm_take (by repeat (first | with_reducible apply Pick.here | with_reducible apply Pick.there)) | apply perm_drop))
        · refine T_list ?_; refine T_call rfl (told_ctr (tableS := tableS) p d h4 hleft i hi1) (by repeat (first | with_reducible apply Take.nil | apply Take.cons (by repeat (first | with_reducible apply Pick.here | with_reducible apply Pick.there)))) rfl ?_
          rintro v L' (⟨hn, rfl, rfl⟩ | ⟨st2, x2, hs, hx2, rfl, rfl⟩)
          · simp only [List.cons_append, List.nil_append]
            refine T_list ?_; refine kmv rfl rfl ?_; refine T_list ?_; refine kex rfl rfl rfl ?_; refine T_list ?_; refine kex rfl rfl rfl ?_; refine T_list ?_; refine kal rfl ?_; intro _b; refine T_list ?_; refine kstA rfl rfl (by simp [Value.oneCell']) rfl (by repeat (first | with_reducible apply Pick.here | with_reducible apply Pick.there)) (by rfl) ?_; refine T_list ?_; refine kas rfl rfl ?_; refine T_nil ?_; refine T_thenN ?_; refine T_seq ?_; refine T_seq ?_; refine T_region ?_; refine T_list ?_; refine kmv rfl rfl ?_; refine T_list ?_; refine kcmp rfl rfl rfl rfl ?_; refine T_nil ?_; refine T_thenN ?_
            refine T_cond rfl (fun h => absurd h (by simp only [decide_eq_true_eq, decide_eq_false_iff_not, ne_eq, Decidable.not_not, Bool.not_eq_true', Bool.not_eq_false', Bool.not_true, Bool.not_false, Bool.false_eq_true, Bool.true_eq_false, not_true_eq_false, not_false_eq_true]; try omega)) (fun _ => ?_)
            have F1 : decide ((st.age : Int) < 0) = false := decide_eq_false (by omega)
            refine T_skip ?_; refine T_thenN ?_; refine T_seq ?_
            refine T_draw [] [(0, true), (1, true), (2, true), (3, true), (4, true), (5, true), (6, true), (7, true)] mixedT rfl (by kernel_rfl) ?_
            refine d_stillX rfl rfl ?_; refine ⟨_, (S_fieldR rfl), ?_⟩; refine d_stillX rfl rfl ?_; refine ⟨_, (S_load rfl (by repeat (first | with_reducible apply Pick.here | with_reducible apply Pick.there)) rfl), ?_⟩; refine d_stillX rfl rfl ?_; refine ⟨_, (S_move rfl), ?_⟩; refine d_stillX rfl rfl ?_; refine ⟨_, (S_nilCheck rfl), ?_⟩; refine d_stillX rfl rfl ?_; refine ⟨_, (S_fieldR rfl), ?_⟩; refine d_stillX rfl rfl ?_; refine ⟨_, (S_fieldR rfl), ?_⟩; refine d_stillX rfl rfl ?_; refine ⟨_, (S_load rfl (by repeat (first | with_reducible apply Pick.here | with_reducible apply Pick.there)) rfl), ?_⟩; refine d_stillX rfl rfl ?_; refine ⟨_, (S_cmp rfl rfl rfl), ?_⟩; refine T_seqNil ?_; refine T_thenN ?_
            refine T_condF rfl ?_
            refine T_skip ?_; refine T_inN ?_; refine T_thenN ?_; refine T_region ?_; refine T_list ?_; refine kaddN rfl rfl (q := 1) rfl (by simp only [fits]; omega) ?_; refine T_list ?_; refine kmv rfl rfl ?_; refine T_nil ?_; refine T_thenN ?_
            refine T_inv (i + 1, st, x) ⟨⟨by dsimp only; omega, hx, by dsimp only; rw [Dsk.foundTo, hn, ← hst]; rfl, .inr hleft⟩, (by first | omega | (dsimp only; omega))⟩ ⟨rfl, rfl, rfl, trivial⟩ ?_
            (repeat (first | exact perm_rest | apply perm_take (by repeat (first | with_reducible apply Pick.here | ((with_reducible refine Pick.rowE ?_); rfl) | ((with_reducible refine Pick.slcE ?_ ?_ ?_) <;> rfl) | ((with_reducible refine Pick.imapE ?_); rfl) | with_reducible apply Pick.there)) | apply perm_drop))
          · simp only [List.cons_append, List.nil_append]
            refine T_list ?_; refine kmv rfl rfl ?_; refine T_list ?_; refine kex rfl rfl rfl ?_; refine T_list ?_; refine kex rfl rfl rfl ?_; refine T_list ?_; refine kal rfl ?_; intro _b; refine T_list ?_; refine kstA rfl rfl (by simp [Value.oneCell']) rfl (by repeat (first | with_reducible apply Pick.here | with_reducible apply Pick.there)) (by rfl) ?_; refine T_list ?_; refine kas rfl rfl ?_; refine T_nil ?_; refine T_thenN ?_; refine T_seq ?_; refine T_seq ?_; refine T_region ?_; refine T_list ?_; refine kmv rfl rfl ?_; refine T_list ?_; refine kcmp rfl rfl rfl rfl ?_; refine T_nil ?_; refine T_thenN ?_
            refine T_cond rfl (fun h => absurd h (by simp only [decide_eq_true_eq, decide_eq_false_iff_not, ne_eq, Decidable.not_not, Bool.not_eq_true', Bool.not_eq_false', Bool.not_true, Bool.not_false, Bool.false_eq_true, Bool.true_eq_false, not_true_eq_false, not_false_eq_true]; try omega)) (fun _ => ?_)
            refine T_skip ?_; refine T_thenN ?_; refine T_seq ?_
            refine T_draw [] [(0, true), (1, true), (2, true), (3, true), (4, true), (5, true), (6, true), (7, true)] mixedT rfl (by kernel_rfl) ?_
            refine d_stillX rfl rfl ?_; refine ⟨_, (S_fieldR rfl), ?_⟩; refine d_stillX rfl rfl ?_; refine ⟨_, (S_load rfl (by repeat (first | with_reducible apply Pick.here | with_reducible apply Pick.there)) rfl), ?_⟩; refine d_stillX rfl rfl ?_; refine ⟨_, (S_move rfl), ?_⟩; refine d_stillX rfl rfl ?_; refine ⟨_, (S_nilCheck rfl), ?_⟩; refine d_stillX rfl rfl ?_; refine ⟨_, (S_fieldR rfl), ?_⟩; refine d_stillX rfl rfl ?_; refine ⟨_, (S_fieldR rfl), ?_⟩; refine d_stillX rfl rfl ?_; refine ⟨_, (S_load rfl (by repeat (first | with_reducible apply Pick.here | with_reducible apply Pick.there)) rfl), ?_⟩; refine d_stillX rfl rfl ?_; refine ⟨_, (S_cmp rfl rfl rfl), ?_⟩; refine T_seqNil ?_; refine T_thenN ?_
            refine T_cond rfl (fun h => ?_) (fun h => ?_) <;> simp only [decide_eq_true_eq, decide_eq_false_iff_not, ne_eq, Decidable.not_not, Bool.not_eq_true', Bool.not_eq_false', Bool.cond_eq_true_distrib, Bool.cond_eq_false_distrib] at h
            · refine T_region ?_; refine T_list ?_; refine kmv rfl rfl ?_; refine T_list ?_; refine kldA rfl rfl (by repeat (first | with_reducible apply Pick.here | with_reducible apply Pick.there)) (by rfl) ?_; refine T_list ?_; refine knc rfl rfl ?_; refine T_list ?_; refine kfd rfl rfl ?_; refine T_list ?_; refine kstC rfl rfl rfl (by simp [Value.oneCell']) (by rfl) (by repeat (first | with_reducible apply Pick.here | with_reducible apply Pick.there)) (by simp) ?_; refine T_nil ?_; refine T_inN ?_; refine T_thenN ?_; refine T_region ?_; refine T_list ?_; refine kaddN rfl rfl (q := 1) rfl (by simp only [fits]; omega) ?_; refine T_list ?_; refine kmv rfl rfl ?_; refine T_nil ?_; refine T_thenN ?_
              refine T_inv (i + 1, st2, x2) ⟨⟨by dsimp only; omega, hx2, by dsimp only; rw [Dsk.foundTo, hs, ← hst, better, if_pos (by omega)], .inr hleft⟩, (by first | omega | (dsimp only; omega))⟩ ⟨rfl, rfl, rfl, trivial⟩ ?_
              (repeat (first | exact perm_rest | apply perm_take (by repeat (first | with_reducible apply Pick.here | ((with_reducible refine Pick.rowE ?_); rfl) | ((with_reducible refine Pick.slcE ?_ ?_ ?_) <;> rfl) | ((with_reducible refine Pick.imapE ?_); rfl) | with_reducible apply Pick.there)) | apply perm_drop))
            · refine T_skip ?_; refine T_inN ?_; refine T_thenN ?_; refine T_region ?_; refine T_list ?_; refine kaddN rfl rfl (q := 1) rfl (by simp only [fits]; omega) ?_; refine T_list ?_; refine kmv rfl rfl ?_; refine T_nil ?_; refine T_thenN ?_
              refine T_inv (i + 1, st, x) ⟨⟨by dsimp only; omega, hx, by dsimp only; rw [Dsk.foundTo, hs, ← hst, better, if_neg (by omega)], .inr hleft⟩, (by first | omega | (dsimp only; omega))⟩ ⟨rfl, rfl, rfl, trivial⟩ ?_
              (repeat (first | exact perm_rest | apply perm_take (by repeat (first | with_reducible apply Pick.here | ((with_reducible refine Pick.rowE ?_); rfl) | ((with_reducible refine Pick.slcE ?_ ?_ ?_) <;> rfl) | ((with_reducible refine Pick.imapE ?_); rfl) | with_reducible apply Pick.there)) | apply perm_drop))
      · obtain rfl : i = 2 := by omega
        refine T_exit ?_; refine T_thenE ?_; refine T_thenE ?_; refine T_inE ?_; refine T_thenN ?_; refine T_seq ?_; refine T_region ?_; refine T_list ?_; refine kmv rfl rfl ?_; refine T_list ?_; refine kas rfl rfl ?_; refine T_list ?_; refine kas rfl rfl ?_; refine T_nil ?_; refine T_thenN ?_; refine T_ret ?_
        have hleft : d.left ≠ 0 := by rcases hl with h | h; · cases h
                                      · exact h
        rw [found_to] at hst
        rw [← hst]
        refine T_close (R := stR st) (Ls := psL _b p st) x hx (by repeat (first | with_reducible apply Take.nil | apply Take.cons (by repeat (first | with_reducible apply Pick.here | ((with_reducible refine Pick.rowE ?_); rfl) | ((with_reducible refine Pick.slcE ?_ ?_ ?_) <;> rfl) | ((with_reducible refine Pick.imapE ?_); rfl) | with_reducible apply Pick.there)))) ?_
        refine T_fin [_, _] [PS _b p st, PD p d, tableS] ⟨rfl, rfl, trivial⟩ (.inr (.inr ⟨h4, hleft, _b, rfl, rfl⟩)) ?_
        (repeat (first | exact perm_rest | apply perm_take (by repeat (first | with_reducible apply Pick.here | with_reducible apply Pick.there)) | apply perm_drop))
end Go.Proofs
namespace Go.Proofs
set_option linter.unnecessarySimpa false
open Go Go.Sl
attribute [local irreducible] T opO Sl.Inv row slc wpSeq Code.wp wpList Exit.then Exit.inBlock
set_option linter.unusedVariables false
set_option linter.unusedSimpArgs false
set_option maxRecDepth 4000
theorem arena_cap {w : World} {ar : Arena} {L : List SP} (H : Hd w (arena ar :: L)) {a : Option Addr} {c : Nat} {s : Bytes} (hm : (a, c, s) ∈ ar) : 64 ≤ c := by
  have H1 := H.unsl
  obtain ⟨l1, l2, he⟩ := List.append_of_mem (List.mem_map.2 ⟨(a, c, s), hm, rfl⟩ : slc 5 1 a 64 c (s.map encB) ∈ ar.map fun x => slc 5 1 x.1 64 x.2.1 (x.2.2.map encB))
  rw [he] at H1
  have H2 : Hd w (slc 5 1 a 64 c (s.map encB) :: (l1 ++ l2 ++ L)) := H1.perm (by
    rw [List.append_assoc, List.append_assoc, List.cons_append]
    exact List.perm_middle)
  exact H2.openSlc.2.1
theorem head_flag (age : Nat) (has : Bool) (image : Bytes) : leNum (((pad (headB age has image)).drop 12).take 1) = if has then 1 else 0 := by
  have e : pad (headB age has image) = (magicB ++ leBytes 8 age) ++ (leBytes 1 (if has then 1 else 0) ++ (leBytes 4 image.length ++ (leBytes 4 (if has then crcOf image else 0) ++ (leBytes 4 (crcOf (headA age has image)) ++ List.replicate (64 - (headB age has image).length) 0)))) := by
    simp only [pad, headB, headA, List.append_assoc]
  rw [e, List.drop_left' (by simp [leBytes_length, magicB_length]), List.take_left' (by rw [leBytes_length]), leNum_leBytes]
  cases has <;> rfl
theorem told_flag {d : Dsk} {k : Nat} (h : 1 < d.hFlag k) : d.told k = none := by
  unfold Dsk.told
  rw [if_neg]
  rintro ⟨_, he⟩
  have h1 := head_flag (d.hAge k) (d.hFlag k == 1) (d.slotB k (d.hMany k))
  rw [← he] at h1
  have h2 : d.hFlag k = if (d.hFlag k == 1) = true then 1 else 0 := h1
  split at h2 <;> omega
theorem part_enc (l : Bytes) (p q : Nat) : ((l.map encB).drop (p * 1)).take ((q - p) * 1) = ((l.drop p).take (q - p)).map encB := by
  rw [Nat.mul_one, Nat.mul_one, List.map_take, List.map_drop]
theorem flag_cell {d : Dsk} {k : Nat} (h : (d.at k).length = 64) : ((d.at k).map encB)[12]? = some (.int .u8 ((d.hFlag k : Nat) : Int)) := by
  have h12 : 12 < (d.at k).length := by omega
  have e : ((d.at k).drop 12).take 1 = [(d.at k)[12]] := by
    rw [List.drop_eq_getElem_cons h12]; rfl
  rw [List.getElem?_map, List.getElem?_eq_getElem h12, Dsk.hFlag, e]
  simp [leNum, encB]
theorem hFlag_lt (d : Dsk) (k : Nat) : d.hFlag k < 256 := by
  have h1 := leNum_lt (((d.at k).drop 12).take 1)
  have h2 : (((d.at k).drop 12).take 1).length ≤ 1 := by rw [List.length_take]; omega
  have h3 : 256 ^ (((d.at k).drop 12).take 1).length ≤ 256 ^ 1 := Nat.pow_le_pow_right (by decide) h2
  unfold Dsk.hFlag; omega
theorem hAge_lt (d : Dsk) (k : Nat) : d.hAge k < 18446744073709551616 := by
  have h1 := leNum_lt (((d.at k).drop 4).take 8)
  have h2 : (((d.at k).drop 4).take 8).length ≤ 8 := by rw [List.length_take]; omega
  have h3 : 256 ^ (((d.at k).drop 4).take 8).length ≤ 256 ^ 8 := Nat.pow_le_pow_right (by decide) h2
  unfold Dsk.hAge; omega
theorem hMany_lt (d : Dsk) (k : Nat) : d.hMany k < 4294967296 := by
  have h1 := leNum_lt (((d.at k).drop 13).take 4)
  have h2 : (((d.at k).drop 13).take 4).length ≤ 4 := by rw [List.length_take]; omega
  have h3 : 256 ^ (((d.at k).drop 13).take 4).length ≤ 256 ^ 4 := Nat.pow_le_pow_right (by decide) h2
  unfold Dsk.hMany; omega
end Go.Proofs
