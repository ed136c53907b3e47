/- The play of all operations; the table's memory beside the rest; the row of SlotsPlays and its card: the theorem slotsPlays_card. Part 13 of 13 of the proof of SlotsPlays; no condition. -/
import Derived.Test.YtmjaepaakpaadaaDoorWalkH
import Derived.Test.YtmjaepaakpaadaaDoorWalkK
import Derived.Test.YtmjaepaakpaadaaDoorWalkL
import Derived.OpenShut
import Derived.ChangeArms
import Derived.DataReads
import Derived.FnData
import Derived.Below
import Derived.KernelRfl
import Derived.Test.YtmjaepaakpaadaaDoorRows
import Derived.Test.YtmjaepaakpaadaaDoorTie
import Derived.Test.YtmjaepaakpaadaaDoorCards
import Derived.ProofKit
import Derived.LaidMore
import Derived.ShutString
import Derived.ChangeOld
import Derived.Carry
import Derived.SizedLaws
import Derived.MakeChecks
import Derived.LaidHandle
import Derived.Stop.Joined
import Derived.SevenTiedAt
namespace Go.Proofs
set_option linter.unnecessarySimpa false
open Go Go.Sl
attribute [local irreducible] Still T opO Sl.Inv row slc wpSeq Code.wp wpList Exit.then Exit.inBlock
set_option linter.unusedVariables false
set_option linter.unusedSimpArgs false
set_option maxRecDepth 4000
theorem few_all {l : List OpV} (h : fewB l = true) : l.length ≤ 20 ∧ ∀ o ∈ l, o.b.length ≤ 400 ∧ o.k.length ≤ 50 := by
  unfold fewB at h
  rw [Bool.and_eq_true] at h
  exact ⟨of_decide_eq_true h.2, fun o ho => of_decide_eq_true (List.all_eq_true.1 h.1 o ho)⟩
theorem getD_mem {α : Type} {l : List α} {j : Nat} {x : α} (h : j < l.length) : l.getD j x ∈ l := by
  rw [List.getD_eq_getElem?_getD, List.getElem?_eq_getElem h]; exact List.getElem_mem h
theorem hold_sec {ar : Arena} {v : Value} {s : Bytes} (h : Sec ar v s) (hl : s.length = 64) : Holds (arena ar) v s := by
  obtain ⟨a, c, rfl, hm⟩ := h
  exact ⟨a, c, by rw [hl], by rw [hl]; exact arena_rd hm⟩
theorem hold_copies {d : Dsk} (hok : d.ok) {bs : List Nat} (hbs : bs.length = d.k.length) : ∀ i, i < d.k.length → Holds (sl (copies d.k bs)) ((bs.map copyV).getD i undef) (d.k.getD i []) := by
  intro i hi
  have hl : (d.k.getD i []).length = 64 := hok.k64 _ (getD_mem hi)
  have hb : i < bs.length := by omega
  have h1 : (copies d.k bs)[i]? = some (row (bs.getD i 0) 83 ((d.k.getD i []).map encB)) := by
    rw [copies, List.getElem?_zipWith, List.getElem?_eq_getElem hi, List.getElem?_eq_getElem hb]
    simp only [List.getD_eq_getElem?_getD, List.getElem?_eq_getElem hi, List.getElem?_eq_getElem hb, Option.getD_some]
  refine ⟨some ⟨bs.getD i 0, 0, none⟩, 64, ?_, ?_⟩
  · rw [hl, List.getD_eq_getElem?_getD, List.getElem?_map, List.getElem?_eq_getElem hb, List.getD_eq_getElem?_getD, List.getElem?_eq_getElem hb]; rfl
  · rw [hl]
    exact Rd.mem (List.mem_of_getElem? h1) (Rd.rowAll (by rw [List.length_map, hl]))
set_option maxHeartbeats 8000000 in
theorem plays_ctr {tableS : SP} [hT : TableAt tableS] (A : SP) (n0 : Nat) (hn0 : n0 < 256) (al : Option Addr) (cl : Nat) (l : List OpV) (hr : Rd A 5 al l.length (l.flatMap OpV.cells)) (hok : ∀ o ∈ l, o.ok A) (hm : l.length ≤ 9223372036854775807) :
    Ctr Tryd.prog 3 [.int .u8 (n0 : Nat), .slice al l.length cl] [A, tableS] (fun v L => v = .bool true ∧ L = [A, tableS]) := by
  refine Ctr.of Tryd.func3 rfl rfl (fun w F => ?_)
  simp only [Tryd.ntmps3, env0, List.cons_append, List.nil_append]
  refine T_seq ?_; refine T_region ?_; refine T_list ?_; refine kas rfl rfl ?_; refine T_nil ?_; refine T_thenN ?_; refine T_seq ?_; refine T_region ?_
  refine T_list ?_; refine T_call rfl (awake_ctr (tableS := tableS)) (by repeat (first | with_reducible apply Take.nil | apply Take.cons (by repeat (first | with_reducible apply Pick.here | with_reducible apply Pick.there)))) rfl ?_
  rintro v L' ⟨rfl, rfl⟩
  simp only [List.cons_append, List.nil_append]
  refine T_list ?_; refine kas rfl rfl ?_; refine T_nil ?_; refine T_thenN ?_; refine T_seq ?_; refine T_region ?_; refine T_list ?_; refine kmv rfl rfl ?_
  refine T_list ?_; refine T_call rfl (few_ctr A al cl l hr hok hm) (by repeat (first | with_reducible apply Take.nil | apply Take.cons (by repeat (first | with_reducible apply Pick.here | with_reducible apply Pick.there)))) rfl ?_
  rintro v L' ⟨rfl, rfl⟩
  simp only [List.cons_append, List.nil_append]
  cases hf : fewB l with
  | false =>
    refine T_list ?_; refine kas rfl rfl ?_; refine T_nil ?_; refine T_thenN ?_; refine T_seq ?_; refine T_seq ?_; refine T_region ?_; refine T_list ?_; refine kmv rfl rfl ?_; refine T_list ?_; refine knot rfl rfl ?_; refine T_nil ?_; refine T_thenN ?_
    refine T_condT rfl ?_
    refine T_seq ?_; refine T_region ?_; refine T_list ?_; refine kmv rfl rfl ?_; refine T_list ?_; refine kas rfl rfl ?_; refine T_nil ?_; refine T_thenN ?_; refine T_ret ?_; refine T_thenR ?_
    refine T_fin [_] [A, tableS] ⟨rfl, trivial⟩ ⟨rfl, rfl⟩ ?_
    (repeat (first | exact perm_rest | apply perm_take (by repeat (first | with_reducible apply Pick.here | with_reducible apply Pick.there)) | apply perm_drop))
  | true =>
    obtain ⟨hl20, hsm⟩ := few_all hf
    refine T_list ?_; refine kas rfl rfl ?_; refine T_nil ?_; refine T_thenN ?_; refine T_seq ?_; refine T_seq ?_; refine T_region ?_; refine T_list ?_; refine kmv rfl rfl ?_; refine T_list ?_; refine knot rfl rfl ?_; refine T_nil ?_; refine T_thenN ?_
    refine T_condF rfl ?_
    have hn40 : n0 % 41 ≤ 40 := by omega
    refine T_skip ?_; refine T_thenN ?_; refine T_seq ?_; refine T_region ?_; refine T_list ?_; refine kmv rfl rfl ?_; refine T_list ?_; refine kremN rfl rfl (q := 41) rfl rfl ?_; refine T_list ?_; refine kcv rfl rfl (by simp only [fits]; omega) ?_; refine T_list ?_; refine kas rfl rfl ?_; refine T_nil ?_; refine T_thenN ?_; refine T_seq ?_; refine T_region ?_; refine T_list ?_; refine kmv rfl rfl ?_
    generalize hN : n0 % 41 = N at *
    refine T_list ?_; refine T_call rfl (dnew_ctr N (by omega)) (by repeat (first | with_reducible apply Take.nil | apply Take.cons (by repeat (first | with_reducible apply Pick.here | with_reducible apply Pick.there)))) rfl ?_
    rintro v L' ⟨p, rfl, rfl⟩
    simp only [List.cons_append, List.nil_append]
    refine T_list ?_; refine kas rfl rfl ?_; refine T_nil ?_; refine T_thenN ?_; refine T_seq ?_; refine T_region ?_; refine T_list ?_; refine kmv rfl rfl ?_
    refine T_list ?_; refine T_call rfl (rnew_ctr N (by omega)) (by repeat (first | with_reducible apply Take.nil | apply Take.cons (by repeat (first | with_reducible apply Pick.here | with_reducible apply Pick.there)))) rfl ?_
    rintro v L' ⟨q, rfl, rfl⟩
    simp only [List.cons_append, List.nil_append]
    have hdl : (Dsk.new N).k.length = N := by simp [Dsk.new]
    have hdo : (Dsk.new N).ok := Dsk.ok.new (by omega)
    have hdf : (Dsk.new N).left = -1 := rfl
    generalize hD : Dsk.new N = d at *
    refine T_list ?_; refine kas rfl rfl ?_; refine T_nil ?_; refine T_thenN ?_; refine T_seq ?_; refine T_seq ?_; refine T_region ?_; refine T_list ?_; refine kmv rfl rfl ?_; refine T_list ?_; refine keqP rfl rfl rfl ?_; refine T_nil ?_; refine T_thenN ?_
    refine T_condF rfl ?_
    refine T_skip ?_; refine T_thenN ?_; refine T_seq ?_; refine T_region ?_; refine T_list ?_; refine kmv rfl rfl ?_
    refine T_list ?_; refine T_call rfl (open_ctr (tableS := tableS) p d) (by repeat (first | with_reducible apply Take.nil | apply Take.cons (by repeat (first | with_reducible apply Pick.here | with_reducible apply Pick.there)))) rfl ?_
    rintro v L' (⟨h4, rfl, rfl⟩ | ⟨_, h, _, _⟩ | ⟨h4, hleft, s, rfl, rfl⟩)
    · simp only [List.cons_append, List.nil_append]
      refine T_list ?_; refine kmv rfl rfl ?_; refine T_list ?_; refine kex rfl rfl rfl ?_; refine T_list ?_; refine kex rfl rfl rfl ?_; refine T_list ?_; refine kas rfl rfl ?_; refine T_list ?_; refine kas rfl rfl ?_; refine T_nil ?_; refine T_thenN ?_; refine T_seq ?_; refine T_region ?_; refine T_list ?_; refine kmv rfl rfl ?_
      refine T_list ?_; refine T_call rfl (ropen_ctr q d) (by repeat (first | with_reducible apply Take.nil | apply Take.cons (by repeat (first | with_reducible apply Pick.here | with_reducible apply Pick.there)))) rfl ?_
      rintro v L' (⟨_, rfl, rfl⟩ | ⟨h, _, _⟩ | ⟨h, _, _⟩)
      · simp only [List.cons_append, List.nil_append]
        refine T_list ?_; refine kmv rfl rfl ?_; refine T_list ?_; refine kex rfl rfl rfl ?_; refine T_list ?_; refine kex rfl rfl rfl ?_; refine T_list ?_; refine kas rfl rfl ?_; refine T_list ?_; refine kas rfl rfl ?_; refine T_nil ?_; refine T_thenN ?_; refine T_seq ?_; refine T_seq ?_; refine T_region ?_; refine T_list ?_; refine kmv rfl rfl ?_; refine T_list ?_; refine kmv rfl rfl ?_; refine T_list ?_; refine kcmpF rfl rfl rfl rfl (by first | (simp only [decide_eq_false_iff_not, ne_eq, not_true_eq_false, not_false_eq_true]; done) | (simp only [decide_eq_false_iff_not, ne_eq]; omega)) ?_; refine T_list ?_; refine kmv rfl rfl ?_; refine Tl_guardY rfl rfl rfl ?_; refine T_list ?_; refine kmv rfl rfl ?_; refine Tl_guardY rfl rfl rfl ?_; refine T_list ?_; refine keqP rfl rfl rfl ?_; refine Tl_guardY rfl rfl rfl ?_; refine T_list ?_; refine kmv rfl rfl ?_; refine Tl_guardY rfl rfl rfl ?_; refine T_list ?_; refine keqP rfl rfl rfl ?_; refine Tl_guardY rfl rfl rfl ?_; refine T_list ?_; refine kneB rfl rfl rfl ?_; refine T_list ?_; refine kpF rfl rfl rfl ?_; refine T_nil ?_; refine T_thenN ?_
        refine T_condF rfl ?_
        refine T_skip ?_; refine T_thenN ?_; refine T_seq ?_; refine T_seq ?_; refine T_region ?_; refine T_list ?_; refine kmv rfl rfl ?_; refine T_list ?_; refine keqP rfl rfl rfl ?_; refine T_nil ?_; refine T_thenN ?_
        refine T_condT rfl ?_
        refine T_seq ?_; refine T_region ?_; refine T_list ?_; refine kmv rfl rfl ?_; refine T_list ?_; refine kas rfl rfl ?_; refine T_nil ?_; refine T_thenN ?_; refine T_ret ?_; refine T_thenR ?_
        refine T_fin [_] [A, tableS] ⟨rfl, trivial⟩ ⟨rfl, rfl⟩ ?_
        (repeat (first | exact perm_rest | apply perm_take (by repeat (first | with_reducible apply Pick.here | with_reducible apply Pick.there)) | apply perm_drop))
      · omega
      · omega
    · omega
    · simp only [List.cons_append, List.nil_append]
      refine T_list ?_; refine kmv rfl rfl ?_; refine T_list ?_; refine kex rfl rfl rfl ?_; refine T_list ?_; refine kex rfl rfl rfl ?_; refine T_list ?_; refine kas rfl rfl ?_; refine T_list ?_; refine kas rfl rfl ?_; refine T_nil ?_; refine T_thenN ?_; refine T_seq ?_; refine T_region ?_; refine T_list ?_; refine kmv rfl rfl ?_
      refine T_list ?_; refine T_call rfl (ropen_ctr q d) (by repeat (first | with_reducible apply Take.nil | apply Take.cons (by repeat (first | with_reducible apply Pick.here | with_reducible apply Pick.there)))) rfl ?_
      rintro v L' (⟨h, _, _⟩ | ⟨_, h, _⟩ | ⟨_, _, x, rfl, rfl⟩)
      · omega
      · omega
      · simp only [List.cons_append, List.nil_append]
        refine T_list ?_; refine kmv rfl rfl ?_; refine T_list ?_; refine kex rfl rfl rfl ?_; refine T_list ?_; refine kex rfl rfl rfl ?_; refine T_list ?_; refine kas rfl rfl ?_; refine T_list ?_; refine kas rfl rfl ?_; refine T_nil ?_; refine T_thenN ?_; refine T_seq ?_; refine T_seq ?_; refine T_region ?_; refine T_list ?_; refine kmv rfl rfl ?_; refine T_list ?_; refine kmv rfl rfl ?_; refine T_list ?_; refine kcmpF rfl rfl rfl rfl (by first | (simp only [decide_eq_false_iff_not, ne_eq, not_true_eq_false, not_false_eq_true]; done) | (simp only [decide_eq_false_iff_not, ne_eq]; omega)) ?_; refine T_list ?_; refine kmv rfl rfl ?_; refine Tl_guardY rfl rfl rfl ?_; refine T_list ?_; refine kmv rfl rfl ?_; refine Tl_guardY rfl rfl rfl ?_; refine T_list ?_; refine keqP rfl rfl rfl ?_; refine Tl_guardY rfl rfl rfl ?_; refine T_list ?_; refine kmv rfl rfl ?_; refine Tl_guardY rfl rfl rfl ?_; refine T_list ?_; refine keqP rfl rfl rfl ?_; refine Tl_guardY rfl rfl rfl ?_; refine T_list ?_; refine kneB rfl rfl rfl ?_; refine T_list ?_; refine kpF rfl rfl rfl ?_; refine T_nil ?_; refine T_thenN ?_
        refine T_condF rfl ?_
        refine T_skip ?_; refine T_thenN ?_; refine T_seq ?_; refine T_seq ?_; refine T_region ?_; refine T_list ?_; refine kmv rfl rfl ?_; refine T_list ?_; refine keqP rfl rfl rfl ?_; refine T_nil ?_; refine T_thenN ?_
        refine T_condF rfl ?_
        refine T_skip ?_; refine T_thenN ?_; refine T_seq ?_; refine T_seq ?_; refine T_region ?_; refine T_list ?_; refine kas rfl rfl ?_; refine T_nil ?_; refine T_thenN ?_; refine T_block ?_
        refine T_loop (ι := Nat × Nat × Nat × Dsk × Sto) (fun y => y.1 ≤ l.length ∧ y.2.2.2.1.ok ∧ 4 ≤ y.2.2.2.1.k.length ∧ y.2.2.2.1.k.length ≤ 40 ∧ y.2.2.2.2.ok y.2.2.2.1.half)
          (fun y => [(14, .int .i64 (y.1 : Nat)), (8, .pointer (some ⟨p, 0, none⟩)), (9, .pointer (some ⟨q, 0, none⟩)), (10, .pointer (some ⟨y.2.1, 0, none⟩)), (12, .pointer (some ⟨y.2.2.1, 0, none⟩)), (1, .slice al l.length cl), (5, .bool true)])
          (fun y => PS y.2.1 p y.2.2.2.2 :: PD p y.2.2.2.1 :: RS y.2.2.1 q y.2.2.2.2 :: RD q y.2.2.2.1 :: A :: tableS :: F) (fun y => l.length - y.1) ?_ ?_
        · refine T_inv (0, s, x, d, d.found) ⟨Nat.zero_le _, hdo, h4, by dsimp only; omega, found_ok hdo h4⟩ ⟨rfl, rfl, rfl, rfl, rfl, rfl, rfl, trivial⟩ ?_
          (repeat (first | exact perm_rest | apply perm_take (by repeat (first | with_reducible apply Pick.here | with_reducible apply Pick.there)) | apply perm_drop))
        · clear hD hdl hdo hdf h4 hleft
          rintro ⟨i, s, x, e, st⟩ ⟨hi, heok, he4, he40, hst⟩
          dsimp only at hi heok he4 he40 hst ⊢
          refine T_seq ?_; refine T_seq ?_; refine T_region ?_; refine T_list ?_; refine kmv rfl rfl ?_; refine T_list ?_; refine kmv rfl rfl ?_; refine T_list ?_; refine klen rfl rfl ?_; refine T_list ?_; refine kcmp rfl rfl rfl rfl ?_; refine T_nil ?_; refine T_thenN ?_
          refine T_cond rfl (fun h => ?_) (fun h => ?_) <;> simp only [decide_eq_true_eq, decide_eq_false_iff_not, ne_eq, Decidable.not_not, Bool.not_eq_true', Bool.not_eq_false', Bool.cond_eq_true_distrib, Bool.cond_eq_false_distrib] at h
          · have h1 : i < l.length := by omega
            have hpos : 0 < (l.flatMap OpV.cells).length := by rw [flatMap_len _ 5 _ (fun o _ => cells5 o)]; omega
            have hget := flat_get OpV.cells 5 l i h1 (fun o _ => cells5 o)
            have hO := hok _ (List.getElem_mem h1)
            obtain ⟨hb4, hk5⟩ := hsm _ (List.getElem_mem h1)
            generalize hoo : l[i] = o at *
            refine T_skip ?_; refine T_thenN ?_; refine T_seq ?_; refine T_block ?_; refine T_seq ?_; refine T_region ?_; refine T_list ?_; refine kmv rfl rfl ?_; refine T_list ?_; refine kmv rfl rfl ?_; refine T_list ?_; refine kixR hr (by repeat (first | with_reducible apply Pick.here | with_reducible apply Pick.there)) rfl rfl rfl h1 ?_; refine T_list ?_; refine kldRA hr (by repeat (first | with_reducible apply Pick.here | with_reducible apply Pick.there)) rfl rfl (by rw [cells5]; decide) (cells5 o) hget ?_; refine T_list ?_; refine kal rfl ?_; intro _b; refine T_list ?_; refine kstA rfl rfl (by simp [OpV.cells, Value.oneCell']) (cells5 o) (by repeat (first | with_reducible apply Pick.here | with_reducible apply Pick.there)) (by rfl) ?_; refine T_nil ?_; refine T_thenN ?_; refine T_seq ?_; refine T_region ?_; refine T_list ?_; refine kas rfl rfl ?_; refine T_nil ?_; refine T_thenN ?_; refine T_seq ?_; refine T_region ?_; refine T_list ?_; refine kas rfl rfl ?_; refine T_nil ?_; refine T_thenN ?_; refine T_seq ?_; refine T_seq ?_; refine T_region ?_; refine T_list ?_; refine kfd rfl rfl ?_; refine T_list ?_; refine kld rfl rfl (by repeat (first | with_reducible apply Pick.here | with_reducible apply Pick.there)) rfl ?_; refine T_nil ?_; refine T_thenN ?_; refine T_block ?_; refine T_seq ?_; refine T_region ?_; refine T_list ?_; refine kcmp rfl rfl rfl rfl ?_; refine T_list ?_; refine kas rfl rfl ?_; refine T_nil ?_; refine T_thenN ?_
            refine T_cutB (ι := Nat × Nat × Dsk × Sto × Int) (fun y => y.2.2.1.ok ∧ 4 ≤ y.2.2.1.k.length ∧ y.2.2.1.k.length ≤ 40 ∧ y.2.2.2.1.ok y.2.2.1.half)
              (fun y => [(16, .int .i64 y.2.2.2.2), (17, .int .i64 y.2.2.2.2), (14, .int .i64 (i : Nat)), (8, .pointer (some ⟨p, 0, none⟩)), (9, .pointer (some ⟨q, 0, none⟩)), (10, .pointer (some ⟨y.1, 0, none⟩)), (12, .pointer (some ⟨y.2.1, 0, none⟩)), (1, .slice al l.length cl), (5, .bool true)])
              (fun y => PS y.1 p y.2.2.2.1 :: PD p y.2.2.1 :: RS y.2.1 q y.2.2.2.1 :: RD q y.2.2.1 :: A :: tableS :: F) ?_ ?_
            · refine T_cond rfl (fun h => ?_) (fun h => ?_) <;> simp only [decide_eq_true_eq, decide_eq_false_iff_not, ne_eq, Decidable.not_not, Bool.not_eq_true', Bool.not_eq_false', Bool.cond_eq_true_distrib, Bool.cond_eq_false_distrib] at h
              · obtain ⟨k1, k2⟩ := commit_ok heok st o.b
                have k3 := commit_st hst o.b
                rw [← k2.half] at k3
                have k4 := k2.len
                refine T_seq ?_; refine T_region ?_; refine T_list ?_; refine kmv rfl rfl ?_; refine T_list ?_; refine kfd rfl rfl ?_; refine T_list ?_; refine kld rfl rfl (by repeat (first | with_reducible apply Pick.here | with_reducible apply Pick.there)) rfl ?_
                refine T_list ?_; refine T_call rfl (commit_ctr (tableS := tableS) s p st e he4 A o.ab o.cb o.b hO.rb (by omega)) (by repeat (first | with_reducible apply Take.nil | apply Take.cons (by repeat (first | with_reducible apply Pick.here | with_reducible apply Pick.there)))) rfl ?_
                rintro v L' ⟨rfl, rfl⟩
                simp only [List.cons_append, List.nil_append]
                refine T_list ?_; refine kas rfl rfl ?_; refine T_nil ?_; refine T_thenN ?_; refine T_region ?_; refine T_list ?_; refine kmv rfl rfl ?_; refine T_list ?_; refine kfd rfl rfl ?_; refine T_list ?_; refine kld rfl rfl (by repeat (first | with_reducible apply Pick.here | with_reducible apply Pick.there)) rfl ?_
                refine T_list ?_; refine T_call rfl (rcommit_ctr x q st e he4 A o.ab o.cb o.b hO.rb (by omega) hO.cb) (by repeat (first | with_reducible apply Take.nil | apply Take.cons (by repeat (first | with_reducible apply Pick.here | with_reducible apply Pick.there)))) rfl ?_
                rintro v L' ⟨rfl, rfl⟩
                simp only [List.cons_append, List.nil_append]
                refine T_list ?_; refine kas rfl rfl ?_; refine T_nil ?_; refine T_inN ?_; refine T_thenN ?_
                refine T_inv (s, x, (e.commit st o.b).d, (e.commit st o.b).st, (e.commit st o.b).e) ⟨k1, by dsimp only; omega, by dsimp only; omega, k3⟩ ⟨rfl, rfl, rfl, rfl, rfl, rfl, rfl, rfl, rfl, trivial⟩ ?_
                (repeat (first | exact perm_rest | apply perm_take (by repeat (first | with_reducible apply Pick.here | with_reducible apply Pick.there)) | apply perm_drop))
              · refine T_seq ?_; refine T_region ?_; refine T_list ?_; refine kcmp rfl rfl rfl rfl ?_; refine T_list ?_; refine kas rfl rfl ?_; refine T_nil ?_; refine T_thenN ?_
                refine T_cond rfl (fun h => ?_) (fun h => ?_) <;> simp only [decide_eq_true_eq, decide_eq_false_iff_not, ne_eq, Decidable.not_not, Bool.not_eq_true', Bool.not_eq_false', Bool.cond_eq_true_distrib, Bool.cond_eq_false_distrib] at h
                · obtain ⟨k1, k2⟩ := delete_ok heok st
                  have k3 := delete_st (d := e) hst
                  rw [← k2.half] at k3
                  have k4 := k2.len
                  refine T_seq ?_; refine T_region ?_; refine T_list ?_; refine kmv rfl rfl ?_
                  refine T_list ?_; refine T_call rfl (delete_ctr (tableS := tableS) s p st e) (by repeat (first | with_reducible apply Take.nil | apply Take.cons (by repeat (first | with_reducible apply Pick.here | with_reducible apply Pick.there)))) rfl ?_
                  rintro v L' ⟨rfl, rfl⟩
                  simp only [List.cons_append, List.nil_append]
                  refine T_list ?_; refine kas rfl rfl ?_; refine T_nil ?_; refine T_thenN ?_; refine T_region ?_; refine T_list ?_; refine kmv rfl rfl ?_
                  refine T_list ?_; refine T_call rfl (rdelete_ctr x q st e) (by repeat (first | with_reducible apply Take.nil | apply Take.cons (by repeat (first | with_reducible apply Pick.here | with_reducible apply Pick.there)))) rfl ?_
                  rintro v L' ⟨rfl, rfl⟩
                  simp only [List.cons_append, List.nil_append]
                  refine T_list ?_; refine kas rfl rfl ?_; refine T_nil ?_; refine T_inN ?_; refine T_thenN ?_
                  refine T_inv (s, x, (e.delete st).d, (e.delete st).st, (e.delete st).e) ⟨k1, by dsimp only; omega, by dsimp only; omega, k3⟩ ⟨rfl, rfl, rfl, rfl, rfl, rfl, rfl, rfl, rfl, trivial⟩ ?_
                  (repeat (first | exact perm_rest | apply perm_take (by repeat (first | with_reducible apply Pick.here | with_reducible apply Pick.there)) | apply perm_drop))
                · refine T_seq ?_; refine T_region ?_; refine T_list ?_; refine kcmp rfl rfl rfl rfl ?_; refine T_list ?_; refine kas rfl rfl ?_; refine T_nil ?_; refine T_thenN ?_
                  refine T_cond rfl (fun h => ?_) (fun h => ?_) <;> simp only [decide_eq_true_eq, decide_eq_false_iff_not, ne_eq, Decidable.not_not, Bool.not_eq_true', Bool.not_eq_false', Bool.cond_eq_true_distrib, Bool.cond_eq_false_distrib] at h
                  · refine T_seq ?_; refine T_region ?_; refine T_list ?_; refine kmv rfl rfl ?_; refine T_list ?_; refine kfd rfl rfl ?_; refine T_list ?_; refine kld rfl rfl (by repeat (first | with_reducible apply Pick.here | with_reducible apply Pick.there)) rfl ?_
                    refine T_list ?_; refine T_call rfl (darm_ctr p e o.n) (by repeat (first | with_reducible apply Take.nil | apply Take.cons (by repeat (first | with_reducible apply Pick.here | with_reducible apply Pick.there)))) rfl ?_
                    rintro v L' rfl
                    simp only [List.cons_append, List.nil_append]
                    refine T_nil ?_; refine T_thenN ?_; refine T_region ?_; refine T_list ?_; refine kmv rfl rfl ?_; refine T_list ?_; refine kfd rfl rfl ?_; refine T_list ?_; refine kld rfl rfl (by repeat (first | with_reducible apply Pick.here | with_reducible apply Pick.there)) rfl ?_
                    refine T_list ?_; refine T_call rfl (rarm_ctr q e o.n) (by repeat (first | with_reducible apply Take.nil | apply Take.cons (by repeat (first | with_reducible apply Pick.here | with_reducible apply Pick.there)))) rfl ?_
                    rintro v L' rfl
                    simp only [List.cons_append, List.nil_append]
                    refine T_nil ?_; refine T_inN ?_; refine T_thenN ?_
                    refine T_inv (s, x, e.arm o.n, st, 0) ⟨heok.arm _, he4, he40, hst⟩ ⟨rfl, rfl, rfl, rfl, rfl, rfl, rfl, rfl, rfl, trivial⟩ ?_
                    (repeat (first | exact perm_rest | apply perm_take (by repeat (first | with_reducible apply Pick.here | with_reducible apply Pick.there)) | apply perm_drop))
                  · by_cases w4 : o.what = 4
                    · refine T_seq ?_; refine T_seq ?_; refine T_region ?_; refine T_list ?_; refine kcmpT rfl rfl rfl rfl (by first | (simp only [decide_eq_true_eq, ne_eq]; done) | (simp only [decide_eq_true_eq, ne_eq]; omega)) ?_; refine T_list ?_; refine kas rfl rfl ?_; refine T_nil ?_; refine T_thenN ?_
                      refine T_condT rfl ?_
                      refine T_skip ?_; refine T_thenN ?_
                      refine T_condT rfl ?_
                      refine T_seq ?_; refine T_seq ?_; refine T_region ?_; refine T_list ?_; refine kfd rfl rfl ?_; refine T_list ?_; refine kld rfl rfl (by repeat (first | with_reducible apply Pick.here | with_reducible apply Pick.there)) rfl ?_; refine T_list ?_; refine kcmpT rfl rfl rfl rfl (by first | (simp only [decide_eq_true_eq, ne_eq]; done) | (simp only [decide_eq_true_eq, ne_eq]; omega)) ?_; refine T_nil ?_; refine T_thenN ?_
                      refine T_condT rfl ?_
                      refine T_seq ?_; refine T_region ?_; refine T_list ?_; refine kmv rfl rfl ?_; refine T_list ?_; refine kfd rfl rfl ?_; refine T_list ?_; refine kld rfl rfl (by repeat (first | with_reducible apply Pick.here | with_reducible apply Pick.there)) rfl ?_
                      refine T_list ?_; refine T_call rfl (dcrash_ctr p e A o.ak o.ck o.k hO.rk (by omega)) (by repeat (first | with_reducible apply Take.nil | apply Take.cons (by repeat (first | with_reducible apply Pick.here | with_reducible apply Pick.there)))) rfl ?_
                      rintro v L' rfl
                      simp only [List.cons_append, List.nil_append]
                      refine T_nil ?_; refine T_thenN ?_; refine T_region ?_; refine T_list ?_; refine kmv rfl rfl ?_; refine T_list ?_; refine kfd rfl rfl ?_; refine T_list ?_; refine kld rfl rfl (by repeat (first | with_reducible apply Pick.here | with_reducible apply Pick.there)) rfl ?_
                      refine T_list ?_; refine T_call rfl (rcrash_ctr q e A o.ak o.ck o.k hO.rk (by omega)) (by repeat (first | with_reducible apply Take.nil | apply Take.cons (by repeat (first | with_reducible apply Pick.here | with_reducible apply Pick.there)))) rfl ?_
                      rintro v L' rfl
                      simp only [List.cons_append, List.nil_append]
                      refine T_know (p := (e.crash o.k).ok) (fun w H => by obtain ⟨x, hx, _⟩ := (Pick.here.back H).openAb; exact hx.ok) (fun hcok => ?_)
                      have h2ok : (e.crash o.k).ok := hcok
                      have h2len : (e.crash o.k).k.length = e.k.length := (keeps_len _ _ _ _).1
                      have h2half : (e.crash o.k).half = e.half := by unfold Dsk.half; rw [h2len]
                      generalize hE2 : e.crash o.k = e2 at *
                      refine T_nil ?_; refine T_thenN ?_; refine T_seq ?_; refine T_region ?_; refine T_list ?_; refine kmv rfl rfl ?_
                      refine T_list ?_; refine T_call rfl (open_ctr (tableS := tableS) p e2) (by repeat (first | with_reducible apply Take.nil | apply Take.cons (by repeat (first | with_reducible apply Pick.here | with_reducible apply Pick.there)))) rfl ?_
                      rintro v L' (⟨h, _, _⟩ | ⟨_, h0, rfl, rfl⟩ | ⟨h4', h0, s2, rfl, rfl⟩)
                      · omega
                      · simp only [List.cons_append, List.nil_append]
                        refine T_list ?_; refine kmv rfl rfl ?_; refine T_list ?_; refine kex rfl rfl rfl ?_; refine T_list ?_; refine kex rfl rfl rfl ?_; refine T_list ?_; refine kas rfl rfl ?_; refine T_list ?_; refine kas rfl rfl ?_; refine T_nil ?_; refine T_thenN ?_; refine T_seq ?_; refine T_region ?_; refine T_list ?_; refine kmv rfl rfl ?_
                        refine T_list ?_; refine T_call rfl (ropen_ctr q e2) (by repeat (first | with_reducible apply Take.nil | apply Take.cons (by repeat (first | with_reducible apply Pick.here | with_reducible apply Pick.there)))) rfl ?_
                        rintro v L' (⟨h, _, _⟩ | ⟨_, _, rfl, rfl⟩ | ⟨_, h, _⟩)
                        · omega
                        · simp only [List.cons_append, List.nil_append]
                          refine T_list ?_; refine kmv rfl rfl ?_; refine T_list ?_; refine kex rfl rfl rfl ?_; refine T_list ?_; refine kex rfl rfl rfl ?_; refine T_list ?_; refine kas rfl rfl ?_; refine T_list ?_; refine kas rfl rfl ?_; refine T_nil ?_; refine T_thenN ?_; refine T_seq ?_; refine T_seq ?_; refine T_region ?_; refine T_list ?_; refine kmv rfl rfl ?_; refine T_list ?_; refine kmv rfl rfl ?_; refine T_list ?_; refine kcmpF rfl rfl rfl rfl (by first | (simp only [decide_eq_false_iff_not, ne_eq, not_true_eq_false, not_false_eq_true]; done) | (simp only [decide_eq_false_iff_not, ne_eq]; omega)) ?_; refine T_list ?_; refine kmv rfl rfl ?_; refine Tl_guardY rfl rfl rfl ?_; refine T_list ?_; refine kmv rfl rfl ?_; refine Tl_guardY rfl rfl rfl ?_; refine T_list ?_; refine keqP rfl rfl rfl ?_; refine Tl_guardY rfl rfl rfl ?_; refine T_list ?_; refine kmv rfl rfl ?_; refine Tl_guardY rfl rfl rfl ?_; refine T_list ?_; refine keqP rfl rfl rfl ?_; refine Tl_guardY rfl rfl rfl ?_; refine T_list ?_; refine kneB rfl rfl rfl ?_; refine T_list ?_; refine kpF rfl rfl rfl ?_; refine T_nil ?_; refine T_thenN ?_
                          refine T_condF rfl ?_
                          refine T_skip ?_; refine T_thenN ?_; refine T_seq ?_; refine T_region ?_; refine T_list ?_; refine kmv rfl rfl ?_; refine T_list ?_; refine kneP rfl rfl rfl ?_; refine T_nil ?_; refine T_thenN ?_
                          refine T_condF rfl ?_
                          refine T_skip ?_; refine T_inN ?_; refine T_thenN ?_
                          refine T_inv (s, x, e2, st, 0) ⟨h2ok, by dsimp only; omega, by dsimp only; omega, by dsimp only; rw [h2half]; exact hst⟩ ⟨rfl, rfl, rfl, rfl, rfl, rfl, rfl, rfl, rfl, trivial⟩ ?_
                          (repeat (first | exact perm_rest | apply perm_take (by repeat (first | with_reducible apply Pick.here | with_reducible apply Pick.there)) | apply perm_drop))
                        · exact absurd h0 h
                      · simp only [List.cons_append, List.nil_append]
                        refine T_list ?_; refine kmv rfl rfl ?_; refine T_list ?_; refine kex rfl rfl rfl ?_; refine T_list ?_; refine kex rfl rfl rfl ?_; refine T_list ?_; refine kas rfl rfl ?_; refine T_list ?_; refine kas rfl rfl ?_; refine T_nil ?_; refine T_thenN ?_; refine T_seq ?_; refine T_region ?_; refine T_list ?_; refine kmv rfl rfl ?_
                        refine T_list ?_; refine T_call rfl (ropen_ctr q e2) (by repeat (first | with_reducible apply Take.nil | apply Take.cons (by repeat (first | with_reducible apply Pick.here | with_reducible apply Pick.there)))) rfl ?_
                        rintro v L' (⟨h, _, _⟩ | ⟨_, h, _, _⟩ | ⟨_, _, x2, rfl, rfl⟩)
                        · omega
                        · exact absurd h h0
                        · simp only [List.cons_append, List.nil_append]
                          refine T_list ?_; refine kmv rfl rfl ?_; refine T_list ?_; refine kex rfl rfl rfl ?_; refine T_list ?_; refine kex rfl rfl rfl ?_; refine T_list ?_; refine kas rfl rfl ?_; refine T_list ?_; refine kas rfl rfl ?_; refine T_nil ?_; refine T_thenN ?_; refine T_seq ?_; refine T_seq ?_; refine T_region ?_; refine T_list ?_; refine kmv rfl rfl ?_; refine T_list ?_; refine kmv rfl rfl ?_; refine T_list ?_; refine kcmpF rfl rfl rfl rfl (by first | (simp only [decide_eq_false_iff_not, ne_eq, not_true_eq_false, not_false_eq_true]; done) | (simp only [decide_eq_false_iff_not, ne_eq]; omega)) ?_; refine T_list ?_; refine kmv rfl rfl ?_; refine Tl_guardY rfl rfl rfl ?_; refine T_list ?_; refine kmv rfl rfl ?_; refine Tl_guardY rfl rfl rfl ?_; refine T_list ?_; refine keqP rfl rfl rfl ?_; refine Tl_guardY rfl rfl rfl ?_; refine T_list ?_; refine kmv rfl rfl ?_; refine Tl_guardY rfl rfl rfl ?_; refine T_list ?_; refine keqP rfl rfl rfl ?_; refine Tl_guardY rfl rfl rfl ?_; refine T_list ?_; refine kneB rfl rfl rfl ?_; refine T_list ?_; refine kpF rfl rfl rfl ?_; refine T_nil ?_; refine T_thenN ?_
                          refine T_condF rfl ?_
                          refine T_skip ?_; refine T_thenN ?_; refine T_seq ?_; refine T_region ?_; refine T_list ?_; refine kmv rfl rfl ?_; refine T_list ?_; refine kneP rfl rfl rfl ?_; refine T_nil ?_; refine T_thenN ?_
                          refine T_condT rfl ?_
                          refine T_seq ?_; refine T_region ?_; refine T_list ?_; refine kmv rfl rfl ?_; refine T_list ?_; refine kas rfl rfl ?_; refine T_nil ?_; refine T_thenN ?_; refine T_region ?_; refine T_list ?_; refine kmv rfl rfl ?_; refine T_list ?_; refine kas rfl rfl ?_; refine T_nil ?_; refine T_inN ?_; refine T_thenN ?_
                          refine T_inv (s2, x2, e2, e2.found, 0) ⟨h2ok, by dsimp only; omega, by dsimp only; omega, found_ok h2ok h4'⟩ ⟨rfl, rfl, rfl, rfl, rfl, rfl, rfl, rfl, rfl, trivial⟩ ?_
                          (repeat (first | exact perm_rest | apply perm_take (by repeat (first | with_reducible apply Pick.here | with_reducible apply Pick.there)) | apply perm_drop))
                    · by_cases w5 : o.what = 5
                      · refine T_seq ?_; refine T_seq ?_; refine T_region ?_; refine T_list ?_; refine kcmpF rfl rfl rfl rfl (by first | (simp only [decide_eq_false_iff_not, ne_eq, not_true_eq_false, not_false_eq_true]; done) | (simp only [decide_eq_false_iff_not, ne_eq]; omega)) ?_; refine T_list ?_; refine kas rfl rfl ?_; refine T_nil ?_; refine T_thenN ?_
                        refine T_condF rfl ?_
                        refine T_region ?_; refine T_list ?_; refine kcmpT rfl rfl rfl rfl (by first | (simp only [decide_eq_true_eq, ne_eq]; done) | (simp only [decide_eq_true_eq, ne_eq]; omega)) ?_; refine T_list ?_; refine kas rfl rfl ?_; refine T_nil ?_; refine T_thenN ?_
                        refine T_condT rfl ?_
                        refine T_seq ?_; refine T_seq ?_; refine T_region ?_; refine T_list ?_; refine kfd rfl rfl ?_; refine T_list ?_; refine kld rfl rfl (by repeat (first | with_reducible apply Pick.here | with_reducible apply Pick.there)) rfl ?_; refine T_list ?_; refine kcmpF rfl rfl rfl rfl (by first | (simp only [decide_eq_false_iff_not, ne_eq, not_true_eq_false, not_false_eq_true]; done) | (simp only [decide_eq_false_iff_not, ne_eq]; omega)) ?_; refine T_nil ?_; refine T_thenN ?_
                        refine T_condF rfl ?_
                        refine T_seq ?_; refine T_region ?_; refine T_list ?_; refine kmv rfl rfl ?_; refine T_list ?_; refine kfd rfl rfl ?_; refine T_list ?_; refine kld rfl rfl (by repeat (first | with_reducible apply Pick.here | with_reducible apply Pick.there)) rfl ?_; refine T_list ?_; refine kfd rfl rfl ?_; refine T_list ?_; refine kld rfl rfl (by repeat (first | with_reducible apply Pick.here | with_reducible apply Pick.there)) rfl ?_
                        refine T_list ?_; refine T_call rfl (drot_ctr p e o.i o.n) (by repeat (first | with_reducible apply Take.nil | apply Take.cons (by repeat (first | with_reducible apply Pick.here | with_reducible apply Pick.there)))) rfl ?_
                        rintro v L' rfl
                        simp only [List.cons_append, List.nil_append]
                        refine T_nil ?_; refine T_thenN ?_; refine T_region ?_; refine T_list ?_; refine kmv rfl rfl ?_; refine T_list ?_; refine kfd rfl rfl ?_; refine T_list ?_; refine kld rfl rfl (by repeat (first | with_reducible apply Pick.here | with_reducible apply Pick.there)) rfl ?_; refine T_list ?_; refine kfd rfl rfl ?_; refine T_list ?_; refine kld rfl rfl (by repeat (first | with_reducible apply Pick.here | with_reducible apply Pick.there)) rfl ?_
                        refine T_list ?_; refine T_call rfl (rrot_ctr q e o.i o.n) (by repeat (first | with_reducible apply Take.nil | apply Take.cons (by repeat (first | with_reducible apply Pick.here | with_reducible apply Pick.there)))) rfl ?_
                        rintro v L' rfl
                        simp only [List.cons_append, List.nil_append]
                        have h2ok : (e.rot o.i o.n).ok := heok.rot _ _
                        have h2len : (e.rot o.i o.n).k.length = e.k.length := by unfold Dsk.rot; split <;> simp
                        have h2half : (e.rot o.i o.n).half = e.half := by unfold Dsk.half; rw [h2len]
                        generalize hE2 : e.rot o.i o.n = e2 at *
                        refine T_nil ?_; refine T_thenN ?_; refine T_seq ?_; refine T_region ?_; refine T_list ?_; refine kmv rfl rfl ?_
                        refine T_list ?_; refine T_call rfl (open_ctr (tableS := tableS) p e2) (by repeat (first | with_reducible apply Take.nil | apply Take.cons (by repeat (first | with_reducible apply Pick.here | with_reducible apply Pick.there)))) rfl ?_
                        rintro v L' (⟨h, _, _⟩ | ⟨_, h0, rfl, rfl⟩ | ⟨h4', h0, s2, rfl, rfl⟩)
                        · omega
                        · simp only [List.cons_append, List.nil_append]
                          refine T_list ?_; refine kmv rfl rfl ?_; refine T_list ?_; refine kex rfl rfl rfl ?_; refine T_list ?_; refine kex rfl rfl rfl ?_; refine T_list ?_; refine kas rfl rfl ?_; refine T_list ?_; refine kas rfl rfl ?_; refine T_nil ?_; refine T_thenN ?_; refine T_seq ?_; refine T_region ?_; refine T_list ?_; refine kmv rfl rfl ?_
                          refine T_list ?_; refine T_call rfl (ropen_ctr q e2) (by repeat (first | with_reducible apply Take.nil | apply Take.cons (by repeat (first | with_reducible apply Pick.here | with_reducible apply Pick.there)))) rfl ?_
                          rintro v L' (⟨h, _, _⟩ | ⟨_, _, rfl, rfl⟩ | ⟨_, h, _⟩)
                          · omega
                          · simp only [List.cons_append, List.nil_append]
                            refine T_list ?_; refine kmv rfl rfl ?_; refine T_list ?_; refine kex rfl rfl rfl ?_; refine T_list ?_; refine kex rfl rfl rfl ?_; refine T_list ?_; refine kas rfl rfl ?_; refine T_list ?_; refine kas rfl rfl ?_; refine T_nil ?_; refine T_thenN ?_; refine T_seq ?_; refine T_seq ?_; refine T_region ?_; refine T_list ?_; refine kmv rfl rfl ?_; refine T_list ?_; refine kmv rfl rfl ?_; refine T_list ?_; refine kcmpF rfl rfl rfl rfl (by first | (simp only [decide_eq_false_iff_not, ne_eq, not_true_eq_false, not_false_eq_true]; done) | (simp only [decide_eq_false_iff_not, ne_eq]; omega)) ?_; refine T_list ?_; refine kmv rfl rfl ?_; refine Tl_guardY rfl rfl rfl ?_; refine T_list ?_; refine kmv rfl rfl ?_; refine Tl_guardY rfl rfl rfl ?_; refine T_list ?_; refine keqP rfl rfl rfl ?_; refine Tl_guardY rfl rfl rfl ?_; refine T_list ?_; refine kmv rfl rfl ?_; refine Tl_guardY rfl rfl rfl ?_; refine T_list ?_; refine keqP rfl rfl rfl ?_; refine Tl_guardY rfl rfl rfl ?_; refine T_list ?_; refine kneB rfl rfl rfl ?_; refine T_list ?_; refine kpF rfl rfl rfl ?_; refine T_nil ?_; refine T_thenN ?_
                            refine T_condF rfl ?_
                            refine T_skip ?_; refine T_thenN ?_; refine T_seq ?_; refine T_region ?_; refine T_list ?_; refine kmv rfl rfl ?_; refine T_list ?_; refine kneP rfl rfl rfl ?_; refine T_nil ?_; refine T_thenN ?_
                            refine T_condF rfl ?_
                            refine T_skip ?_; refine T_inN ?_; refine T_thenN ?_
                            refine T_inv (s, x, e2, st, 0) ⟨h2ok, by dsimp only; omega, by dsimp only; omega, by dsimp only; rw [h2half]; exact hst⟩ ⟨rfl, rfl, rfl, rfl, rfl, rfl, rfl, rfl, rfl, trivial⟩ ?_
                            (repeat (first | exact perm_rest | apply perm_take (by repeat (first | with_reducible apply Pick.here | with_reducible apply Pick.there)) | apply perm_drop))
                          · exact absurd h0 h
                        · simp only [List.cons_append, List.nil_append]
                          refine T_list ?_; refine kmv rfl rfl ?_; refine T_list ?_; refine kex rfl rfl rfl ?_; refine T_list ?_; refine kex rfl rfl rfl ?_; refine T_list ?_; refine kas rfl rfl ?_; refine T_list ?_; refine kas rfl rfl ?_; refine T_nil ?_; refine T_thenN ?_; refine T_seq ?_; refine T_region ?_; refine T_list ?_; refine kmv rfl rfl ?_
                          refine T_list ?_; refine T_call rfl (ropen_ctr q e2) (by repeat (first | with_reducible apply Take.nil | apply Take.cons (by repeat (first | with_reducible apply Pick.here | with_reducible apply Pick.there)))) rfl ?_
                          rintro v L' (⟨h, _, _⟩ | ⟨_, h, _, _⟩ | ⟨_, _, x2, rfl, rfl⟩)
                          · omega
                          · exact absurd h h0
                          · simp only [List.cons_append, List.nil_append]
                            refine T_list ?_; refine kmv rfl rfl ?_; refine T_list ?_; refine kex rfl rfl rfl ?_; refine T_list ?_; refine kex rfl rfl rfl ?_; refine T_list ?_; refine kas rfl rfl ?_; refine T_list ?_; refine kas rfl rfl ?_; refine T_nil ?_; refine T_thenN ?_; refine T_seq ?_; refine T_seq ?_; refine T_region ?_; refine T_list ?_; refine kmv rfl rfl ?_; refine T_list ?_; refine kmv rfl rfl ?_; refine T_list ?_; refine kcmpF rfl rfl rfl rfl (by first | (simp only [decide_eq_false_iff_not, ne_eq, not_true_eq_false, not_false_eq_true]; done) | (simp only [decide_eq_false_iff_not, ne_eq]; omega)) ?_; refine T_list ?_; refine kmv rfl rfl ?_; refine Tl_guardY rfl rfl rfl ?_; refine T_list ?_; refine kmv rfl rfl ?_; refine Tl_guardY rfl rfl rfl ?_; refine T_list ?_; refine keqP rfl rfl rfl ?_; refine Tl_guardY rfl rfl rfl ?_; refine T_list ?_; refine kmv rfl rfl ?_; refine Tl_guardY rfl rfl rfl ?_; refine T_list ?_; refine keqP rfl rfl rfl ?_; refine Tl_guardY rfl rfl rfl ?_; refine T_list ?_; refine kneB rfl rfl rfl ?_; refine T_list ?_; refine kpF rfl rfl rfl ?_; refine T_nil ?_; refine T_thenN ?_
                            refine T_condF rfl ?_
                            refine T_skip ?_; refine T_thenN ?_; refine T_seq ?_; refine T_region ?_; refine T_list ?_; refine kmv rfl rfl ?_; refine T_list ?_; refine kneP rfl rfl rfl ?_; refine T_nil ?_; refine T_thenN ?_
                            refine T_condT rfl ?_
                            refine T_seq ?_; refine T_region ?_; refine T_list ?_; refine kmv rfl rfl ?_; refine T_list ?_; refine kas rfl rfl ?_; refine T_nil ?_; refine T_thenN ?_; refine T_region ?_; refine T_list ?_; refine kmv rfl rfl ?_; refine T_list ?_; refine kas rfl rfl ?_; refine T_nil ?_; refine T_inN ?_; refine T_thenN ?_
                            refine T_inv (s2, x2, e2, e2.found, 0) ⟨h2ok, by dsimp only; omega, by dsimp only; omega, found_ok h2ok h4'⟩ ⟨rfl, rfl, rfl, rfl, rfl, rfl, rfl, rfl, rfl, trivial⟩ ?_
                            (repeat (first | exact perm_rest | apply perm_take (by repeat (first | with_reducible apply Pick.here | with_reducible apply Pick.there)) | apply perm_drop))
                      · refine T_seq ?_; refine T_seq ?_; refine T_region ?_; refine T_list ?_; refine kcmpF rfl rfl rfl rfl (by first | (simp only [decide_eq_false_iff_not, ne_eq, not_true_eq_false, not_false_eq_true]; done) | (simp only [decide_eq_false_iff_not, ne_eq]; omega)) ?_; refine T_list ?_; refine kas rfl rfl ?_; refine T_nil ?_; refine T_thenN ?_
                        refine T_condF rfl ?_
                        refine T_region ?_; refine T_list ?_; refine kcmpF rfl rfl rfl rfl (by first | (simp only [decide_eq_false_iff_not, ne_eq, not_true_eq_false, not_false_eq_true]; done) | (simp only [decide_eq_false_iff_not, ne_eq]; omega)) ?_; refine T_list ?_; refine kas rfl rfl ?_; refine T_nil ?_; refine T_thenN ?_
                        refine T_condF rfl ?_
                        refine T_skip ?_; refine T_inN ?_; refine T_thenN ?_
                        refine T_inv (s, x, e, st, 0) ⟨heok, he4, he40, hst⟩ ⟨rfl, rfl, rfl, rfl, rfl, rfl, rfl, rfl, rfl, trivial⟩ ?_
                        (repeat (first | exact perm_rest | apply perm_take (by repeat (first | with_reducible apply Pick.here | with_reducible apply Pick.there)) | apply perm_drop))
            · clear hst heok he4 he40 hget hO hoo hb4 hk5
              rintro ⟨s, x, e, st, err⟩ ⟨heok, he4, he40, hst⟩
              dsimp only at heok he4 he40 hst ⊢
              have himg := hst.image
              have hhalf : e.half ≤ 19 := by unfold Dsk.half; omega
              refine T_open (R := stR st) (Ls := rsL x q st) (by repeat (first | with_reducible apply Pick.here | with_reducible apply Pick.there)) ?_
              rintro y hy
              simp only [rsL, List.cons_append, List.nil_append]
              refine T_open (R := rdR e) (Ls := rdL q e) (by repeat (first | with_reducible apply Pick.here | with_reducible apply Pick.there)) ?_
              rintro z hz
              simp only [rsL, rdL, List.cons_append, List.nil_append]
              have F0 : decide (err ≠ err) = false := decide_eq_false (by simp)
              refine T_seq ?_
              refine T_drawR ([row x 47 [.pointer (some ⟨q, 0, none⟩), .int .i64 (st.age : Nat), .bool st.has, .slice y.1 st.image.length y.2.1], row q 54 [.slice z.aK e.k.length z.cK, .slice z.aW e.k.length z.cW, .slice z.aI e.k.length z.cI, .int .i64 e.left]]) [] [(0, true), (1, true), (2, true), (3, true), (4, true), (5, true), (6, true), (7, true), (8, true), (9, true), (10, true), (11, true), (12, true), (13, true), (14, true), (15, true), (16, true), (17, false), (18, true), (19, true), (20, true), (21, true), (23, true), (22, false), (24, false), (25, true), (26, true), (27, true), (28, true), (29, true), (31, true), (32, true), (33, true), (34, true), (30, false), (35, false), (36, true), (37, true)] mixedT rfl (by kernel_rfl) ?_
              refine rl_still (by repeat (first | with_reducible apply Take.nil | apply Take.cons (by repeat (first | with_reducible apply Pick.here | with_reducible apply Pick.there)))) rfl rfl ?_; refine ⟨_, (S_move rfl), ?_⟩; refine rl_still (by repeat (first | with_reducible apply Take.nil | apply Take.cons (by repeat (first | with_reducible apply Pick.here | with_reducible apply Pick.there)))) rfl rfl ?_; refine ⟨_, (S_move rfl), ?_⟩; refine rl_still (by repeat (first | with_reducible apply Take.nil | apply Take.cons (by repeat (first | with_reducible apply Pick.here | with_reducible apply Pick.there)))) rfl rfl ?_; refine ⟨_, (S_cmp rfl rfl rfl), ?_⟩; refine rl_still (by repeat (first | with_reducible apply Take.nil | apply Take.cons (by repeat (first | with_reducible apply Pick.here | with_reducible apply Pick.there)))) rfl rfl ?_; refine ⟨_, (S_move rfl), ?_⟩
              rw [F0]
              refine rl_stillGY (by repeat (first | with_reducible apply Take.nil | apply Take.cons (by repeat (first | with_reducible apply Pick.here | with_reducible apply Pick.there)))) rfl rfl rfl rfl ?_; refine ⟨_, (S_move rfl), ?_⟩; refine rl_stillGY (by repeat (first | with_reducible apply Take.nil | apply Take.cons (by repeat (first | with_reducible apply Pick.here | with_reducible apply Pick.there)))) rfl rfl rfl rfl ?_; refine ⟨_, (S_move rfl), ?_⟩; refine rl_stillGY (by repeat (first | with_reducible apply Take.nil | apply Take.cons (by repeat (first | with_reducible apply Pick.here | with_reducible apply Pick.there)))) rfl rfl rfl rfl ?_; refine ⟨_, (S_nilCheck rfl), ?_⟩; refine rl_stillGY (by repeat (first | with_reducible apply Take.nil | apply Take.cons (by repeat (first | with_reducible apply Pick.here | with_reducible apply Pick.there)))) rfl rfl rfl rfl ?_; refine ⟨_, (S_fieldR rfl), ?_⟩; refine rl_stillGY (by repeat (first | with_reducible apply Take.nil | apply Take.cons (by repeat (first | with_reducible apply Pick.here | with_reducible apply Pick.there)))) rfl rfl rfl rfl ?_; refine ⟨_, (S_load rfl (by repeat (first | with_reducible apply Pick.here | with_reducible apply Pick.there)) rfl), ?_⟩; refine rl_stillGY (by repeat (first | with_reducible apply Take.nil | apply Take.cons (by repeat (first | with_reducible apply Pick.here | with_reducible apply Pick.there)))) rfl rfl rfl rfl ?_; refine ⟨_, (S_move rfl), ?_⟩; refine rl_stillGY (by repeat (first | with_reducible apply Take.nil | apply Take.cons (by repeat (first | with_reducible apply Pick.here | with_reducible apply Pick.there)))) rfl rfl rfl rfl ?_; refine ⟨_, (S_nilCheck rfl), ?_⟩; refine rl_stillGY (by repeat (first | with_reducible apply Take.nil | apply Take.cons (by repeat (first | with_reducible apply Pick.here | with_reducible apply Pick.there)))) rfl rfl rfl rfl ?_; refine ⟨_, (S_fieldR rfl), ?_⟩; refine rl_stillGY (by repeat (first | with_reducible apply Take.nil | apply Take.cons (by repeat (first | with_reducible apply Pick.here | with_reducible apply Pick.there)))) rfl rfl rfl rfl ?_; refine ⟨_, (S_load rfl (by repeat (first | with_reducible apply Pick.here | with_reducible apply Pick.there)) rfl), ?_⟩; refine rl_stillGY (by repeat (first | with_reducible apply Take.nil | apply Take.cons (by repeat (first | with_reducible apply Pick.here | with_reducible apply Pick.there)))) rfl rfl rfl rfl ?_; refine ⟨_, (S_move rfl), ?_⟩; refine rl_stillGY (by repeat (first | with_reducible apply Take.nil | apply Take.cons (by repeat (first | with_reducible apply Pick.here | with_reducible apply Pick.there)))) rfl rfl rfl rfl ?_; refine ⟨_, (S_nilCheck rfl), ?_⟩; refine rl_stillGY (by repeat (first | with_reducible apply Take.nil | apply Take.cons (by repeat (first | with_reducible apply Pick.here | with_reducible apply Pick.there)))) rfl rfl rfl rfl ?_; refine ⟨_, (S_fieldR rfl), ?_⟩; refine rl_stillGY (by repeat (first | with_reducible apply Take.nil | apply Take.cons (by repeat (first | with_reducible apply Pick.here | with_reducible apply Pick.there)))) rfl rfl rfl rfl ?_; refine ⟨_, (S_load rfl (by repeat (first | with_reducible apply Pick.here | with_reducible apply Pick.there)) rfl), ?_⟩
              refine Tl_seqOpY rfl rfl rfl ?_; refine T_call rfl (ssame_ctr s p st y.2.2 y.1 y.2.1 hy.1 (by omega)) (by repeat (first | with_reducible apply Take.nil | apply Take.cons (by repeat (first | with_reducible apply Pick.here | with_reducible apply Pick.there)))) rfl ?_
              rintro v L' ⟨rfl, rfl⟩
              simp only [List.cons_append, List.nil_append]
              refine r_back (by repeat (first | with_reducible apply Take.nil | apply Take.cons (by repeat (first | with_reducible apply Pick.here | with_reducible apply Pick.there)))) ?_; refine rl_stillGY (by repeat (first | with_reducible apply Take.nil | apply Take.cons (by repeat (first | with_reducible apply Pick.here | with_reducible apply Pick.there)))) rfl rfl rfl rfl ?_; refine ⟨_, (S_not rfl), ?_⟩; refine rl_still (by repeat (first | with_reducible apply Take.nil | apply Take.cons (by repeat (first | with_reducible apply Pick.here | with_reducible apply Pick.there)))) rfl rfl ?_; refine ⟨_, (S_pickF rfl rfl), ?_⟩; refine rl_still (by repeat (first | with_reducible apply Take.nil | apply Take.cons (by repeat (first | with_reducible apply Pick.here | with_reducible apply Pick.there)))) rfl rfl ?_; refine ⟨_, (S_move rfl), ?_⟩; refine rl_stillGY (by repeat (first | with_reducible apply Take.nil | apply Take.cons (by repeat (first | with_reducible apply Pick.here | with_reducible apply Pick.there)))) rfl rfl rfl rfl ?_; refine ⟨_, (S_move rfl), ?_⟩; refine rl_stillGY (by repeat (first | with_reducible apply Take.nil | apply Take.cons (by repeat (first | with_reducible apply Pick.here | with_reducible apply Pick.there)))) rfl rfl rfl rfl ?_; refine ⟨_, (S_move rfl), ?_⟩
              refine Tl_seqOpY rfl rfl rfl ?_; refine T_call rfl (room_ctr s p st e (by omega)) (by repeat (first | with_reducible apply Take.nil | apply Take.cons (by repeat (first | with_reducible apply Pick.here | with_reducible apply Pick.there)))) rfl ?_
              rintro v L' ⟨rfl, rfl⟩
              simp only [List.cons_append, List.nil_append]
              refine r_back (by repeat (first | with_reducible apply Take.nil | apply Take.cons (by repeat (first | with_reducible apply Pick.here | with_reducible apply Pick.there)))) ?_
              refine Tl_seqOpY rfl rfl rfl ?_; refine T_call rfl (rhalf_x q e z hz (by omega)) (by repeat (first | with_reducible apply Take.nil | apply Take.cons (by repeat (first | with_reducible apply Pick.here | with_reducible apply Pick.there)))) rfl ?_
              rintro v L' ⟨rfl, rfl⟩
              simp only [rdL, List.cons_append, List.nil_append]
              have F1 : decide (((64 * e.half : Nat) : Int) ≠ ((64 * e.half : Nat) : Int)) = false := decide_eq_false (by simp)
              refine r_back (by repeat (first | with_reducible apply Take.nil | apply Take.cons (by repeat (first | with_reducible apply Pick.here | with_reducible apply Pick.there)))) ?_; refine rl_stillGY (by repeat (first | with_reducible apply Take.nil | apply Take.cons (by repeat (first | with_reducible apply Pick.here | with_reducible apply Pick.there)))) rfl rfl rfl rfl ?_; refine ⟨_, (S_mulNN rfl (p := 64) rfl (by simp only [fits]; omega)), ?_⟩; refine rl_stillGY (by repeat (first | with_reducible apply Take.nil | apply Take.cons (by repeat (first | with_reducible apply Pick.here | with_reducible apply Pick.there)))) rfl rfl rfl rfl ?_; refine ⟨_, (S_cmp rfl rfl rfl), ?_⟩; refine rl_still (by repeat (first | with_reducible apply Take.nil | apply Take.cons (by repeat (first | with_reducible apply Pick.here | with_reducible apply Pick.there)))) rfl rfl ?_; refine ⟨_, (S_pickF rfl rfl), ?_⟩; refine rl_still (by repeat (first | with_reducible apply Take.nil | apply Take.cons (by repeat (first | with_reducible apply Pick.here | with_reducible apply Pick.there)))) rfl rfl ?_; refine ⟨_, (S_move rfl), ?_⟩
              rw [F1]
              refine rl_stillGY (by repeat (first | with_reducible apply Take.nil | apply Take.cons (by repeat (first | with_reducible apply Pick.here | with_reducible apply Pick.there)))) rfl rfl rfl rfl ?_; refine ⟨_, (S_move rfl), ?_⟩; refine rl_stillGY (by repeat (first | with_reducible apply Take.nil | apply Take.cons (by repeat (first | with_reducible apply Pick.here | with_reducible apply Pick.there)))) rfl rfl rfl rfl ?_; refine ⟨_, (S_move rfl), ?_⟩; refine rl_stillGY (by repeat (first | with_reducible apply Take.nil | apply Take.cons (by repeat (first | with_reducible apply Pick.here | with_reducible apply Pick.there)))) rfl rfl rfl rfl ?_; refine ⟨_, (S_nilCheck rfl), ?_⟩; refine rl_stillGY (by repeat (first | with_reducible apply Take.nil | apply Take.cons (by repeat (first | with_reducible apply Pick.here | with_reducible apply Pick.there)))) rfl rfl rfl rfl ?_; refine ⟨_, (S_fieldR rfl), ?_⟩; refine rl_stillGY (by repeat (first | with_reducible apply Take.nil | apply Take.cons (by repeat (first | with_reducible apply Pick.here | with_reducible apply Pick.there)))) rfl rfl rfl rfl ?_; refine ⟨_, (S_load rfl (by repeat (first | with_reducible apply Pick.here | with_reducible apply Pick.there)) rfl), ?_⟩
              refine Tl_seqOpY rfl rfl rfl ?_; refine T_call rfl (dkept_ctr p e) (by repeat (first | with_reducible apply Take.nil | apply Take.cons (by repeat (first | with_reducible apply Pick.here | with_reducible apply Pick.there)))) rfl ?_
              rintro v L' ⟨ka, kc, bs, hbs, rfl, rfl⟩
              simp only [List.cons_append, List.nil_append]
              refine r_back (by repeat (first | with_reducible apply Take.nil | apply Take.cons (by repeat (first | with_reducible apply Pick.here | with_reducible apply Pick.there)))) ?_
              refine Tl_seqOpY rfl rfl rfl ?_; refine T_call rfl (rsame_ctr (sl (copies e.k bs)) (arena z.ar) ka z.aK kc z.cK e.k e.k (bs.map copyV) z.vK (by rw [List.length_map]; exact hbs) hz.lenK (by omega) (hold_copies heok hbs) (fun j hj => hold_sec (hz.secK j hj) (heok.k64 _ (getD_mem hj)))) (by repeat (first | with_reducible apply Take.nil | apply Take.cons (by repeat (first | with_reducible apply Pick.here | with_reducible apply Pick.there)))) rfl ?_
              rintro v L' ⟨rfl, rfl⟩
              simp only [List.cons_append, List.nil_append]
              refine r_back (by repeat (first | with_reducible apply Take.nil | apply Take.cons (by repeat (first | with_reducible apply Pick.here | with_reducible apply Pick.there)))) ?_; refine rl_stillGY (by repeat (first | with_reducible apply Take.nil | apply Take.cons (by repeat (first | with_reducible apply Pick.here | with_reducible apply Pick.there)))) rfl rfl rfl rfl ?_; refine ⟨_, (S_not rfl), ?_⟩; refine rl_still (by repeat (first | with_reducible apply Take.nil | apply Take.cons (by repeat (first | with_reducible apply Pick.here | with_reducible apply Pick.there)))) rfl rfl ?_; refine ⟨_, (S_pickF rfl rfl), ?_⟩; refine T_seqNil ?_; refine T_thenN ?_
              refine T_condF rfl ?_
              refine T_close (R := rdR e) (Ls := rdL q e) z hz (by repeat (first | with_reducible apply Take.nil | apply Take.cons (by repeat (first | with_reducible apply Pick.here | ((with_reducible refine Pick.rowE ?_); rfl) | ((with_reducible refine Pick.slcE ?_ ?_ ?_) <;> rfl) | ((with_reducible refine Pick.imapE ?_); rfl) | with_reducible apply Pick.there)))) ?_
              refine T_close (R := stR st) (Ls := rsL x q st) y hy (by repeat (first | with_reducible apply Take.nil | apply Take.cons (by repeat (first | with_reducible apply Pick.here | ((with_reducible refine Pick.rowE ?_); rfl) | ((with_reducible refine Pick.slcE ?_ ?_ ?_) <;> rfl) | ((with_reducible refine Pick.imapE ?_); rfl) | with_reducible apply Pick.there)))) ?_
              refine T_skip ?_; refine T_inN ?_; refine T_thenN ?_; refine T_region ?_; refine T_list ?_; refine kmv rfl rfl ?_; refine T_list ?_; refine kaddN rfl rfl (q := 1) rfl (by simp only [fits]; omega) ?_; refine T_list ?_; refine kas rfl rfl ?_; refine T_nil ?_; refine T_thenN ?_
              refine T_inv (i + 1, s, x, e, st) ⟨⟨(by first | omega | (dsimp only; omega)), heok, he4, he40, hst⟩, (by first | omega | (dsimp only; omega))⟩ ⟨rfl, rfl, rfl, rfl, rfl, rfl, rfl, trivial⟩ ?_
              (repeat (first | exact perm_rest | apply perm_take (by repeat (first | with_reducible apply Pick.here | with_reducible apply Pick.there)) | apply perm_drop))
          · refine T_exit ?_; refine T_thenE ?_; refine T_thenE ?_; refine T_inE ?_; refine T_thenN ?_; refine T_seq ?_; refine T_region ?_; refine T_list ?_; refine kmv rfl rfl ?_; refine T_list ?_; refine kas rfl rfl ?_; refine T_nil ?_; refine T_thenN ?_; refine T_ret ?_
            refine T_fin [_] [A, tableS] ⟨rfl, trivial⟩ ⟨rfl, rfl⟩ ?_
            (repeat (first | exact perm_rest | apply perm_take (by repeat (first | with_reducible apply Pick.here | with_reducible apply Pick.there)) | apply perm_drop))
end Go.Proofs
namespace Go.Proofs
set_option linter.unusedVariables false
set_option linter.unusedSimpArgs false
set_option linter.unnecessarySimpa false
open Go Go.Sl
theorem maxLen_eq : maxLen = 9223372036854775807 := by kernel_rfl
/-- All of memory but the table's block. -/
def restS (W : World) : SP := fun h => h = fun r => if r = 0 then none else W.heap[r]?
def u32only (W : World) : Prop := ∀ o v, W.cell? ⟨0, o, none⟩ = some v → ∃ n, v = .int .u32 n
theorem cell_add {W : World} {a : Addr} {j : Nat} {v : Value} (hs : a.spot = none) (h : W.cell? (a.add j) = some v) : W.cell? ⟨a.block, a.off + j, none⟩ = some v := by
  obtain ⟨b, o, s⟩ := a
  dsimp only at hs; subst hs
  rwa [Addr.mk_add] at h
theorem rd_of_cells {W : World} {k m : Nat} {a : Addr} {xs : List Value} (hu : u32only W) (hl : xs.length = m * k) (hc : ∀ j v, xs[j]? = some v → W.cell? (a.add j) = some v)
    (hn : ∀ v, xs[0]? = some v → ∀ n, v ≠ .int .u32 n) : Rd (restS W) k (some a) m xs := by
  rintro h rfl
  refine ⟨hl, fun hp => ?_⟩
  have h0 := hc 0 xs[0] (List.getElem?_eq_getElem hp)
  have h0' : W.cell? a = some xs[0] := by
    have : a.add 0 = a := by simp [Addr.add]
    rwa [this] at h0
  have hsp : a.spot = none ∧ ∃ c t fz, W.heap[a.block]? = some (.cells c t fz) := by
    unfold World.cell? at h0'
    split at h0'
    · rename_i c t fz hh
      split at h0'
      · cases h0'
      · rename_i hs
        exact ⟨by simpa using hs, c, t, fz, hh⟩
    · cases h0'
  obtain ⟨hs, c, t, fz, hh⟩ := hsp
  have hb : a.block ≠ 0 := by
    intro e
    have : W.cell? ⟨0, a.off, none⟩ = some xs[0] := by
      have := cell_add (j := 0) hs h0
      rw [Nat.add_zero, e] at this; exact this
    obtain ⟨n, hv⟩ := hu _ _ this
    exact hn _ (List.getElem?_eq_getElem hp) n hv
  refine ⟨a.block, a.off, c, t, fz, ?_, by simp only [hb, if_false]; exact hh, ?_⟩
  · obtain ⟨b, o, s⟩ := a; dsimp only at hs; subst hs; rfl
  · apply List.ext_getElem?
    intro j
    rw [List.getElem?_take]
    split
    · rename_i hj
      have := cell_add hs (hc j xs[j] (List.getElem?_eq_getElem hj))
      simp only [World.cell?, hh] at this
      rw [List.getElem?_drop, List.getElem?_eq_getElem hj]
      simpa using this
    · rename_i hj
      exact (List.getElem?_eq_none (by omega)).symm
theorem add_two (a : Addr) (i t : Nat) (hi : i ≠ 0) : (a.add i).add t = a.add (i + t) := by
  have h1 : a.add i = { a with off := a.off + i, spot := none } := by unfold Addr.add; rw [if_neg hi]
  have h2 : a.add (i + t) = { a with off := a.off + (i + t), spot := none } := by unfold Addr.add; rw [if_neg (by omega)]
  rw [h1, h2]
  unfold Addr.add
  split
  · rename_i h; subst h; rfl
  · simp [Nat.add_assoc]
theorem rd_none_nil {A : SP} {k : Nat} {a : Option Addr} : Rd A k a 0 [] := Rd.nil
theorem exists_list {α : Type} {P : Nat → α → Prop} : ∀ n : Nat, (∀ i, i < n → ∃ x, P i x) → ∃ l : List α, l.length = n ∧ ∀ i x, l[i]? = some x → P i x
  | 0, _ => ⟨[], rfl, by simp⟩
  | n + 1, h => by
    obtain ⟨l, hl, hp⟩ := exists_list n (fun i hi => h i (by omega))
    obtain ⟨x, hx⟩ := h n (by omega)
    refine ⟨l ++ [x], by simp [hl], fun i y hy => ?_⟩
    rw [List.getElem?_append] at hy
    split at hy
    · exact hp i y hy
    · rename_i hi
      have : i = n := by
        rcases Nat.lt_or_ge (i - l.length) 1 with h1 | h1
        · omega
        · rw [List.getElem?_eq_none (by simpa using h1)] at hy; cases hy
      subst this
      rw [hl, Nat.sub_self] at hy
      simp at hy; subst hy; exact hx
section
variable {H : Type} {enc : TypeId × Value → H} {W : World} {base : Nat} {sp : Nat → Bool} {held : Bool}
/-- A slice of elements of one cell each. -/
theorem open_ones {t e : TypeId} {α : Type} {f : α → Value} {fuel : Nat} {cs : List Value} {x : DataW H × List MemPlace} (hu : u32only W) (ht : Tryd.prog.underlying t = some (.slice e)) (hce : Tryd.prog.cellsOf e = 1)
    (hel : ∀ fuel c y, DataW.trod enc Tryd.prog W base sp held fuel e c = some y → ∃ z, c = [f z]) (hf : ∀ z n, f z ≠ .int .u32 n)
    (h : DataW.trod enc Tryd.prog W base sp held fuel t cs = some x) : ∃ (a : Option Addr) (c : Nat) (l : List α), cs = [.slice a l.length c] ∧ l.length ≤ c ∧ c ≤ maxLen ∧ Rd (restS W) 1 a l.length (l.map f) := by
  rcases DataW.trod_slice ht h with ⟨rfl, _⟩ | ⟨a, len, cap, elems, rest, n, _, rfl, _, _, h1, h2, h3, h4, _, _⟩
  · exact ⟨none, 0, [], rfl, Nat.le_refl _, Nat.zero_le _, rd_none_nil⟩
  · have hex : ∀ i, i < len → ∃ z : α, W.cell? (a.add i) = some (f z) := by
      intro i hi
      have := h4 i hi
      rw [hce, Nat.mul_one, List.getElem?_eq_getElem (by omega)] at this
      rw [Option.bind_eq_some_iff] at this
      obtain ⟨c, hc, hy⟩ := this
      obtain ⟨z, rfl⟩ := hel _ _ _ hy
      have := (World.cells?_some hc).2.2 0 (by decide)
      refine ⟨z, ?_⟩
      have e0 : (a.add i).add 0 = a.add i := by simp [Addr.add]
      rw [e0] at this; exact this
    obtain ⟨l, hl, hp⟩ := exists_list len hex
    subst hl
    refine ⟨some a, cap, l, rfl, h1, h2, rd_of_cells hu (by simp) (fun j v hv => ?_) (fun v hv n => ?_)⟩
    · rw [List.getElem?_map, Option.map_eq_some_iff] at hv
      obtain ⟨z, hz, rfl⟩ := hv
      exact hp j z hz
    · rw [List.getElem?_map, Option.map_eq_some_iff] at hv
      obtain ⟨z, hz, rfl⟩ := hv
      exact hf z n
theorem f39 : ∃ fs, Tryd.prog.underlying 39 = some (.struct fs) ∧ (fs.map fun f => (f.offset, f.type)) = #[(0, 3), (1, 3), (2, 3), (3, 36), (4, 37)] := ⟨_, Tryd.underlying39, by simp⟩
set_option maxRecDepth 100000 in
theorem open_op {fuel : Nat} {cs : List Value} {x : DataW H × List MemPlace} (hu : u32only W) (h : DataW.trod enc Tryd.prog W base sp held fuel 39 cs = some x) : ∃ o : OpV, cs = o.cells ∧ o.ok (restS W) := by
  obtain ⟨fs, hfs, hmap⟩ := f39
  obtain ⟨xs, n, _, _, hl, hxl, hel⟩ := DataW.trod_struct hfs h
  have c39 : Tryd.prog.cellsOf 39 = 5 := by kernel_rfl
  have c3 : Tryd.prog.cellsOf 3 = 1 := by kernel_rfl
  have c36 : Tryd.prog.cellsOf 36 = 1 := by kernel_rfl
  have c37 : Tryd.prog.cellsOf 37 = 1 := by kernel_rfl
  have c5 : Tryd.prog.cellsOf 5 = 1 := by kernel_rfl
  have c4 : Tryd.prog.cellsOf 4 = 1 := by kernel_rfl
  rw [c39] at hl
  have hsz : fs.size = 5 := by have := congrArg Array.size hmap; simpa using this
  have fld : ∀ (i : Nat) (p : Nat × TypeId), (#[(0, 3), (1, 3), (2, 3), (3, 36), (4, 37)] : Array (Nat × TypeId))[i]? = some p → Tryd.prog.cellsOf p.2 = 1 → ∃ y, DataW.trod enc Tryd.prog W base sp held n p.2 ((cs.drop p.1).take 1) = some y := by
    intro i p hp hc
    rw [← hmap, Array.getElem?_map, Option.map_eq_some_iff] at hp
    obtain ⟨f, hf, rfl⟩ := hp
    have := hel i f hf
    dsimp only at hc
    rw [hc] at this
    have hi : i < xs.length := by
      rw [hxl]; exact (Array.getElem?_eq_some_iff.1 hf).1
    rw [List.getElem?_eq_getElem hi] at this
    exact ⟨_, this⟩
  obtain ⟨y0, h0⟩ := fld 0 (0, 3) rfl c3
  obtain ⟨y1, h1⟩ := fld 1 (1, 3) rfl c3
  obtain ⟨y2, h2⟩ := fld 2 (2, 3) rfl c3
  obtain ⟨y3, h3⟩ := fld 3 (3, 36) rfl c36
  obtain ⟨y4, h4⟩ := fld 4 (4, 37) rfl c37
  match cs, hl with
  | [v0, v1, v2, v3, v4], _ =>
    simp only [List.drop_succ_cons, List.drop_zero, List.take_succ_cons, List.take_zero] at h0 h1 h2 h3 h4
    obtain ⟨a0, e0, _, _⟩ := DataW.trod_int Tryd.underlying3 h0
    obtain ⟨a1, e1, _, _⟩ := DataW.trod_int Tryd.underlying3 h1
    obtain ⟨a2, e2, _, _⟩ := DataW.trod_int Tryd.underlying3 h2
    simp only [List.cons.injEq, and_true] at e0 e1 e2
    subst e0; subst e1; subst e2
    obtain ⟨ab, cb, lb, e3, hb1, hb2, hrb⟩ := open_ones (f := encB) hu Tryd.underlying36 c5 (fun fuel c y hy => by
      obtain ⟨n, rfl, _, hw⟩ := DataW.trod_int Tryd.underlying5 hy
      simp only [Lit.wf, Bool.and_eq_true, decide_eq_true_eq] at hw
      have hlo : IntKind.u8.min = 0 := by decide
      have hhi : IntKind.u8.max = 255 := by decide
      refine ⟨UInt8.ofNat n.toNat, ?_⟩
      rw [encB, UInt8.toNat_ofNat', Nat.mod_eq_of_lt (by omega)]
      congr 2; omega) (fun z n => by simp [encB]) h3
    obtain ⟨ak, ck, lk, e4, hk1, hk2, hrk⟩ := open_ones (f := Value.bool) hu Tryd.underlying37 c4 (fun fuel c y hy => by
      obtain ⟨b, rfl, _⟩ := DataW.trod_bool Tryd.underlying4 hy
      exact ⟨b, rfl⟩) (fun z n => by simp) h4
    simp only [List.cons.injEq, and_true] at e3 e4
    subst e3; subst e4
    have hmx := maxLen_eq
    exact ⟨⟨a0, a1, a2, lb, ab, cb, lk, ak, ck⟩, rfl, ⟨hrb, hrk, hb1, by dsimp only; omega, by dsimp only; omega⟩⟩
set_option maxRecDepth 100000 in
theorem open_ops {fuel : Nat} {cs : List Value} {x : DataW H × List MemPlace} (hu : u32only W) (h : DataW.trod enc Tryd.prog W base sp held fuel 22 cs = some x) :
    ∃ (a : Option Addr) (c : Nat) (l : List OpV), cs = [.slice a l.length c] ∧ l.length ≤ 9223372036854775807 ∧ Rd (restS W) 5 a l.length (l.flatMap OpV.cells) ∧ ∀ o ∈ l, o.ok (restS W) := by
  rcases DataW.trod_slice Tryd.underlying22 h with ⟨rfl, _⟩ | ⟨a, len, cap, elems, rest, n, _, rfl, _, _, h1, h2, h3, h4, _, _⟩
  · exact ⟨none, 0, [], rfl, Nat.zero_le _, rd_none_nil, by simp⟩
  · have c39 : Tryd.prog.cellsOf 39 = 5 := by kernel_rfl
    have hex : ∀ i, i < len → ∃ o : OpV, o.ok (restS W) ∧ ∀ t v, o.cells[t]? = some v → W.cell? (a.add (i * 5 + t)) = some v := by
      intro i hi
      have := h4 i hi
      rw [c39, List.getElem?_eq_getElem (by omega), Option.bind_eq_some_iff] at this
      obtain ⟨c, hc, hy⟩ := this
      obtain ⟨o, rfl, hok⟩ := open_op hu hy
      refine ⟨o, hok, fun t v hv => ?_⟩
      obtain ⟨_, _, hcell⟩ := World.cells?_some hc
      have ht : t < 5 := (List.getElem?_eq_some_iff.1 hv).1
      have := hcell t ht
      rw [hv] at this
      rw [← this]
      by_cases hi0 : i = 0
      · subst hi0; simp [Addr.add]
      · rw [add_two a (i * 5) t (by omega)]
    obtain ⟨l, hl, hp⟩ := exists_list len hex
    subst hl
    have hmx := maxLen_eq
    have hfl : (l.flatMap OpV.cells).length = l.length * 5 := flatMap_len _ 5 _ (fun o _ => cells5 o)
    refine ⟨some a, cap, l, rfl, by omega, rd_of_cells hu hfl (fun j v hv => ?_) (fun v hv n => ?_), fun o ho => ?_⟩
    · have hj : j < l.length * 5 := by rw [← hfl]; exact (List.getElem?_eq_some_iff.1 hv).1
      have hi : j / 5 < l.length := by omega
      have hjj : j = j / 5 * 5 + j % 5 := by omega
      rw [hjj, flat_cell_at (fun o _ => cells5 o) hi (by omega)] at hv
      have := (hp (j / 5) l[j / 5] (List.getElem?_eq_getElem hi)).2 (j % 5) v hv
      rw [← hjj] at this; exact this
    · have hj : 0 < l.length * 5 := by rw [← hfl]; exact (List.getElem?_eq_some_iff.1 hv).1
      have hv' : (l.flatMap OpV.cells)[0 * 5 + 0]? = some v := by simpa using hv
      rw [flat_cell_at (fun o _ => cells5 o) (show 0 < l.length by omega) (by omega)] at hv'
      simp [OpV.cells] at hv'
      subst hv'; simp
    · obtain ⟨i, hi⟩ := List.getElem?_of_mem ho
      exact (hp i o hi).1
end
end Go.Proofs
namespace Go.Proofs.YtmjaepaakpaadaaDoor
set_option linter.unusedVariables false
set_option linter.unusedSimpArgs false
set_option linter.unnecessarySimpa false
open Go Go.Sl Go.ChangeShapes Go.WideShapes Go.ChangeAt Go.RowKit
theorem own : ownKnob Tryd.prog.godebug = none := by kernel_rfl
theorem laidOut : laidOutB Tryd.prog = true := by kernel_rfl
theorem gTab : Tryd.prog.globalNamed "diapause/crc.halves" = some 0 := by kernel_rfl
theorem tTab : (Tryd.prog.globals[0]?).map (·.type) = some 124 := by kernel_rfl
def laidT : List (String × DataW Unit) := [("diapause/crc.halves", Rows.laid_diapause_crc_halves)]
theorem door_met (os : Os) (args : Array Value) : laidMetH Tryd.prog laidT ((World.doorLaid Tryd.prog 400 os).forCall (fun _ _ => 0) ⟨#[], args, []⟩).memory :=
  laidMetH_of_parts3 (fuel := 8) (laidMet_of_run' 8 (by kernel_rfl) (by kernel_rfl)) (by kernel_rfl) (by kernel_rfl)
theorem of_laid {W : World} (h : laidMetH Tryd.prog laidT W) : ∃ t fz, W.heap[0]? = some (.cells (crcHalves.map encW).toArray t fz) := by
  rw [MakeChecks.laidMetH_plain _ _ _ (by kernel_rfl)] at h
  obtain ⟨ps, ⟨g0, t0, cs0, f0, p0, q0, hg0, ht0, hv0, hd0, _, _⟩, _, _⟩ := h
  obtain rfl := Option.some.inj (gTab.symm.trans hg0)
  obtain rfl := Option.some.inj (tTab.symm.trans ht0)
  have c94 : Tryd.prog.cellsOf 94 = 1 := by kernel_rfl
  have c124 : Tryd.prog.cellsOf 124 = 16 := by kernel_rfl
  obtain ⟨xs, m, _, hx, hlen, hn, hel⟩ := DataW.trod_array Tryd.underlying124 hd0
  rw [c124] at hlen
  have hD : xs.map (·.1) = crcHalves.map fun n : Nat => DataW.lit (.int .u32 (n : Int)) := by
    have h1 : (Rows.laid_diapause_crc_halves : DataW Unit) = .agg (crcHalves.map fun n : Nat => DataW.lit (.int .u32 (n : Int))) := by rfl
    have h2 : (Rows.laid_diapause_crc_halves : DataW Unit) = .agg (xs.map (·.1)) := (Prod.mk.inj hx).1
    rw [h1] at h2
    exact (DataW.agg.inj h2).symm
  have hcs : cs0.toList = crcHalves.map encW := by
    apply List.ext_getElem?
    intro i
    by_cases hi : i < 16
    · have hci : i < crcHalves.length := by rw [show crcHalves.length = 16 from rfl]; exact hi
      have h1 := hel i hi
      rw [c94, Nat.mul_one, List.getElem?_eq_getElem (show i < xs.length by omega)] at h1
      obtain ⟨k, e1, e2, _⟩ := DataW.trod_int Tryd.underlying94 h1
      have hl : i < cs0.toList.length := by omega
      rw [List.drop_eq_getElem_cons hl] at e1
      simp only [List.take_succ_cons, List.take_zero, List.cons.injEq, and_true] at e1
      have h3 := congrArg (fun l => l[i]?) hD
      simp only [List.getElem?_map, List.getElem?_eq_getElem (show i < xs.length by omega), List.getElem?_eq_getElem hci, Option.map_some, Option.some.injEq] at h3
      rw [e2] at h3
      simp only [DataW.lit.injEq, Lit.int.injEq, true_and] at h3
      rw [List.getElem?_eq_getElem hl, e1, List.getElem?_map, List.getElem?_eq_getElem hci, Option.map_some, h3]
      rfl
    · rw [List.getElem?_eq_none (by omega), List.getElem?_eq_none (by rw [List.length_map]; show 16 ≤ i; omega)]
  simp only [World.var?, gTab, Option.bind_some] at hv0
  split at hv0
  · rename_i c t fz hh
    have hc : c = cs0 := by simpa using hv0
    subst hc
    exact ⟨t, fz, by rw [hh, ← hcs]⟩
  · cases hv0
theorem tab_u32 {W : World} {t : TypeId} {fz : Nat × Nat} (h : W.heap[0]? = some (.cells (crcHalves.map encW).toArray t fz)) : u32only W := by
  intro o v hv
  simp only [World.cell?, h] at hv
  simp only [Option.isSome_none, Bool.false_eq_true, if_false, List.getElem?_toArray, List.getElem?_map, Option.map_eq_some_iff] at hv
  obtain ⟨n, _, rfl⟩ := hv
  exact ⟨_, rfl⟩
def tabS (t : TypeId) (fz : Nat × Nat) : SP := pts 0 (.cells (crcHalves.map encW).toArray t fz)
instance (t : TypeId) (fz : Nat × Nat) : TableAt (tabS t fz) := ⟨by
  rintro h rfl
  exact ⟨by simp [crcHalves], fun _ => ⟨0, 0, (crcHalves.map encW).toArray, t, fz, rfl, by simp [PH.one], by show ((crcHalves.map encW).drop 0).take (crcHalves.map encW).length = _; rw [List.drop_zero, List.take_length]⟩⟩⟩
theorem hd_all {W : World} {t : TypeId} {fz : Nat × Nat} (h : W.heap[0]? = some (.cells (crcHalves.map encW).toArray t fz)) : Hd W [restS W, tabS t fz] := by
  refine ⟨fun r => W.heap[r]?, fun r o hr => hr, (fun r => if r = 0 then none else W.heap[r]?), PH.one 0 (.cells (crcHalves.map encW).toArray t fz), ?_, ?_, rfl, PH.one 0 _, PH.emp, PH.disj_emp _, (PH.union_emp _).symm, rfl, rfl⟩
  · intro r
    by_cases e : r = 0
    · subst e; left; simp
    · right; simp [PH.one, e]
  · funext r
    by_cases e : r = 0
    · subst e; simp [PH.union, PH.one, h]
    · simp only [PH.union, e, if_false, PH.one]
      cases W.heap[r]? <;> rfl
theorem below_all {W W' : World} {t : TypeId} {fz : Nat × Nat} (h0 : W.heap[0]? = some (.cells (crcHalves.map encW).toArray t fz)) (h : Hd W' [restS W, tabS t fz]) (hk : Keep W W') : Below W.heap.size W W' := by
  obtain ⟨hh, hw, a, b, hd, rfl, rfl, c, e, _, rfl, rfl, rfl⟩ := h
  have hall : ∀ (r : Nat) (o : Obj), W.heap[r]? = some o → W'.heap[r]? = some o := by
    intro r o hr
    apply hw
    by_cases e : r = 0
    · subst e; rw [h0] at hr; cases hr; simp [PH.union, PH.one]
    · simp [PH.union, e, hr]
  have hblk : ∀ k, k < W.heap.size → W'.heap[k]? = W.heap[k]? := by
    intro k hk
    rw [Array.getElem?_eq_getElem hk]
    exact hall k _ (Array.getElem?_eq_getElem hk)
  refine ⟨hk.os, hk.tape, hk.output, ?_, hblk⟩
  rcases Nat.eq_zero_or_pos W.heap.size with hz | hp
  · omega
  · have h2 := hblk (W.heap.size - 1) (by omega)
    have h3 : W.heap[W.heap.size - 1]? = some _ := Array.getElem?_eq_getElem (show W.heap.size - 1 < W.heap.size by omega)
    rw [h3] at h2
    have := (Array.getElem?_eq_some_iff.1 h2).1
    omega
set_option maxHeartbeats 4000000 in
set_option maxRecDepth 100000 in
theorem lifted (os : Os) (started : os.Started) (H : Type) (enc : TypeId × Value → H) :
    ReturnsInHanded {} Tryd.checked os 3 .any (fun w args => (Rows.slotsPlaysSpec.pre enc Tryd.prog Tryd.f3 [] false w args ∧ laidMetH Tryd.prog laidT w) ∧ sizedMet enc Tryd.prog Tryd.f3 (OpenSpec.ofChange Rows.slotsPlaysSpec) false w args)
      (Rows.slotsPlaysSpec.post enc Tryd.prog Tryd.f3 false true false false) := by
  refine returnsInHanded_of_change_and (C := Tryd.checked) (X := fun w _ => laidMetH Tryd.prog laidT w) (fun _ _ _ hh h => h.of_heap hh) own started (by kernel_rfl) Tryd.func3
    (ChangeSpec.witness_shaped (enc := enc) (C := Tryd.checked) (os := os) (X := fun w _ => laidMetH Tryd.prog laidT w) false (World.doorLaid Tryd.prog 400 os) #[.int .u8 0, .slice none 0 0] 8 rfl (World.shaped_of_RefB (by kernel_rfl) (by kernel_rfl)) (by kernel_rfl) (by kernel_rfl) (by kernel_rfl) (door_met os _)) ?_
  intro W base args ds gs before hval0 hW _ _ hL _
  have hval : ∀ (j : Nat) t v, Tryd.f3.params[j]? = some t → args[j]? = some v → Value.okWide Tryd.prog W .any base t v := hval0
  have hW' := hW
  obtain ⟨p, q, hA0, hV, rfl, hfz, hnd⟩ := hW
  have hA : DataW.TrodAll enc Tryd.prog W 0 (fun _ => true) true Tryd.f3.params.toList args.toList ds p := hA0
  rw [Tryd.params3] at hA hval
  obtain ⟨v0, vs0, d0, ds0, p0, q0, hargs, rfl, rfl, h0, r0⟩ := trodAll_cons hA
  obtain ⟨v1, vs1, d1, ds1, p1, q1, rfl, rfl, rfl, h1, r1⟩ := trodAll_cons r0
  obtain ⟨rfl, rfl, rfl⟩ := trodAll_nil r1
  obtain rfl : args = #[v0, v1] := by cases args; simp_all
  obtain ⟨rfl, rfl⟩ := trodVars_none hV
  obtain ⟨t, fz, htab⟩ := of_laid hL
  obtain ⟨a0, rfl, rfl, rfl, w0⟩ := open_int Tryd.underlying5 (hval 0 5 v0 rfl rfl) h0
  obtain ⟨sa, sl, sc, rfl⟩ := okWide_slice Tryd.underlying22 (hval 1 22 v1 rfl rfl)
  have k1 := h1
  have lt1 : ∀ x ∈ p1, x.block < W.heap.size := by obtain ⟨m, hm⟩ := k1; exact DataW.trod_lt m _ _ _ hm
  obtain ⟨fuel, hf⟩ := h1
  obtain ⟨a, c, l, hcs, hll, hrd, hok⟩ := open_ops (tab_u32 htab) hf
  simp only [Value.cells, List.cons.injEq, and_true, Value.slice.injEq] at hcs
  obtain ⟨rfl, rfl, rfl⟩ := hcs
  have hn : ∃ n : Nat, a0 = n ∧ n < 256 := by
    simp only [Lit.wf, Bool.and_eq_true, decide_eq_true_eq] at w0
    have hlo : IntKind.u8.min = 0 := by decide
    have hhi : IntKind.u8.max = 255 := by decide
    exact ⟨a0.toNat, by omega, by omega⟩
  obtain ⟨n, rfl, hn⟩ := hn
  have ctr := plays_ctr (tableS := tabS t fz) (restS W) n hn sa sc l hrd hok hll W [] (by simpa using hd_all htab)
  refine ctr.mono fun e W' ⟨v, L, he, ⟨hv, hL'⟩, hH, hK⟩ => ?_
  subst he; subst hv; subst hL'
  have bel : Below W.heap.size W W' := below_all htab (by simpa using hH) hK
  clear hA0 hval0
  exact ⟨_, rfl, _, _, _, [], _, [], hW', trodAll_mk1 (shut_bool Tryd.underlying4 _), (trodAll_cons_mk (shut_int Tryd.underlying5 w0) (trodAll_cons_mk (Below.trod laidOut (by kernel_rfl) (of_decide_eq_true (by kernel_rfl)) k1 bel lt1) trodAll_mk0)), rfl, bel.frame _, fun h => by cases h⟩
theorem slotsPlays_holds : Rows.SlotsPlaysSaid :=
  OpenClaim.holds_of_wide 3 Tryd.f3 rfl rfl rfl rfl rfl rfl rfl ⟨rfl, rfl, rfl, rfl, rfl⟩ rfl rfl rfl rfl rfl (by kernel_rfl) Tryd.func3 (by kernel_rfl)
    (of_decide_eq_true (by kernel_rfl)) (by unfold Func.isWrapper; first | (rw [if_pos (by decide +kernel)]; kernel_rfl) | (rw [if_neg (by decide +kernel)]; exact ⟨rfl, rfl⟩))
    (fun os started H enc _ => lifted os started H enc)
theorem slotsPlays_card : Rows.SlotsPlaysCardSaid :=
  Claim7.holds_tied_plain_at .later [] [.data] true (true, "7c9f99aa70753daab0d9692618d7ec35510746ac44101bdd3e5089f705c6e8ac") false
    slotsPlays_holds (fun _ h => by cases h) (by kernel_rfl) (fun _ h => by cases h) slotsPlays_row_tie rfl ⟨rfl, rfl⟩ (by kernel_rfl) rfl
    (fun f fn hf hfn => by
      obtain rfl : f = 3 := Option.some.inj ((show Tryd.prog.funcNamed "diapause/diapauselaw11.SlotsPlays" = some 3 by kernel_rfl).symm.trans hf) |>.symm
      obtain rfl : fn = Tryd.f3 := (Option.some.inj (Tryd.func3.symm.trans hfn)).symm
      exact ⟨by kernel_rfl, fun j t ht => by
        rw [Tryd.params3] at ht
        have hm : t ∈ [5, 22] := by simpa using Array.mem_of_getElem? ht
        have hall : ([5, 22].all fun u => !Tryd.prog.wantsStandIn u) = true := by kernel_rfl
        exact (show Tryd.prog.wantsStandIn t = false by simpa using List.all_eq_true.1 hall t hm)⟩)
    (by kernel_rfl)
#print axioms slotsPlays_card
end Go.Proofs.YtmjaepaakpaadaaDoor
