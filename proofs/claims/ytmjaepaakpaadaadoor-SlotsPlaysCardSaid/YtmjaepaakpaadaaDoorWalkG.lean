/- Laws that the later texts use. Part 7 of 13 of the proof of SlotsPlays; no condition. -/
import Derived.Test.YtmjaepaakpaadaaDoorWalkF
import Derived.Shelf.SlIterI.Nil
import Derived.Shelf.SortM.Plain
import Derived.Shelf.SortM.SortNone
import Derived.Test.YtmjaepaakpaadaaDoorWalkA
import Derived.Test.YtmjaepaakpaadaaDoorWalkE
namespace Go.Proofs
set_option linter.unnecessarySimpa false
open Go Go.Sl
attribute [local irreducible] T opO Sl.Inv row slc wpSeq
set_option linter.unusedVariables false
set_option linter.unusedSimpArgs false
set_option maxRecDepth 4000
theorem WOk.mem {w : List (Option Bytes)} {l : List (Int × Value)} (h : WOk w l) (hn : (l.map (·.1)).Nodup) {k : Int} {v : Value} (hm : (k, v) ∈ l) :
    ∃ (j : Nat) (s : Bytes), k = j ∧ j < w.length ∧ w.getD j none = some s ∧ v = aggB s := by
  have hf := find_mem hn hm
  rw [h k] at hf
  split at hf
  · rename_i hc
    refine ⟨k.toNat, ?_⟩
    cases hw : w.getD k.toNat none with
    | none => rw [hw] at hf; cases hf
    | some s => rw [hw] at hf; simp at hf; exact ⟨s, by omega, by omega, rfl, hf.symm⟩
  · cases hf
theorem WOk.has {w : List (Option Bytes)} {l : List (Int × Value)} (h : WOk w l) {j : Nat} {s : Bytes} (hj : j < w.length) (hw : w.getD j none = some s) : ((j : Int), aggB s) ∈ l := by
  apply mem_find
  rw [h j, if_pos (by omega), Int.toNat_natCast, hw]; rfl
def leftOf (l : List (Int × Value)) (S : List Int) : Nat := (l.filter fun p => !(S.contains p.1)).length
theorem leftOf_lt {l : List (Int × Value)} {S : List Int} {k : Int} {v : Value} (hm : (k, v) ∈ l) (hk : k ∉ S) : leftOf l (k :: S) < leftOf l S := by
  unfold leftOf
  induction l with
  | nil => simp at hm
  | cons p l ih =>
    have mono : ∀ l : List (Int × Value), (l.filter fun p => !((k :: S).contains p.1)).length ≤ (l.filter fun p => !(S.contains p.1)).length := by
      intro l
      induction l with
      | nil => simp
      | cons q l ih2 =>
        simp only [List.filter_cons]
        by_cases h1 : S.contains q.1 = true
        · have : (k :: S).contains q.1 = true := by simp at h1 ⊢; exact .inr h1
          simp only [h1, this]; simpa using ih2
        · by_cases h2 : (k :: S).contains q.1 = true
          · simp only [h1, h2]; simp; simp at ih2; omega
          · simp only [h1, h2]; simp; simpa using ih2
    rcases List.mem_cons.1 hm with rfl | hm
    · have h1 : S.contains k = false := by simpa using hk
      have h2 : (k :: S).contains k = true := by simp
      have := mono l
      simp only [List.filter_cons, h1, h2]
      simp at this ⊢; omega
    · have := ih hm
      simp only [List.filter_cons]
      by_cases h1 : S.contains p.1 = true
      · have h2 : (k :: S).contains p.1 = true := by simp at h1 ⊢; exact .inr h1
        simp only [h1, h2]; simpa using this
      · by_cases h2 : (k :: S).contains p.1 = true
        · simp only [h1, h2]; simp; simp at this; omega
        · simp only [h1, h2]; simp; simpa using this
/-- How far a flush is. -/
def Flu (d : Dsk) (x : List Bytes × List Int) : Prop := x.1.length = d.k.length ∧ ∀ i, i < d.k.length → x.1.getD i [] = if (i : Int) ∈ x.2 then d.at i else d.k.getD i []
theorem Flu.k64 {d : Dsk} (h : d.ok) {x : List Bytes × List Int} (hx : Flu d x) : ∀ s ∈ x.1, (s.map encB).length = 64 := by
  intro s hs
  rw [List.length_map]
  obtain ⟨i, hi⟩ := List.getElem?_of_mem hs
  have hlt : i < d.k.length := by rw [← hx.1]; exact (List.getElem?_eq_some_iff.1 hi).1
  have := hx.2 i hlt
  rw [List.getD_eq_getElem?_getD, hi, Option.getD_some] at this
  subst this
  split
  · exact Dsk.at_length h hlt
  · rw [List.getD_eq_getElem?_getD, List.getElem?_eq_getElem hlt]; exact h.k64 _ (List.getElem_mem hlt)
theorem Flu.done {d : Dsk} (h : d.ok) {l : List (Int × Value)} (hw : WOk d.w l) {x : List Bytes × List Int} (hx : Flu d x) (hall : ∀ p ∈ l, p.1 ∈ x.2) : x.1 = d.flushed.k := by
  apply List.ext_getElem?
  intro i
  by_cases hi : i < d.k.length
  · have h1 := hx.2 i hi
    have hi1 : i < x.1.length := by rw [hx.1]; exact hi
    have hiw : i < d.w.length := by rw [h.len]; exact hi
    rw [List.getD_eq_getElem?_getD, List.getElem?_eq_getElem hi1, Option.getD_some] at h1
    rw [List.getElem?_eq_getElem hi1, h1]
    simp only [Dsk.flushed, List.getElem?_zipWith, List.getElem?_eq_getElem hi, List.getElem?_eq_getElem hiw]
    have hwg : d.w.getD i none = d.w[i] := by rw [List.getD_eq_getElem?_getD, List.getElem?_eq_getElem hiw]; rfl
    have hkg : d.k.getD i [] = d.k[i] := by rw [List.getD_eq_getElem?_getD, List.getElem?_eq_getElem hi]; rfl
    unfold Dsk.at
    rw [hwg, hkg]
    cases hs : d.w[i] with
    | none => simp
    | some s =>
      have := hall _ (hw.has hiw (hwg.trans hs))
      simp only at this
      simp [this]
  · rw [List.getElem?_eq_none (by rw [hx.1]; omega), List.getElem?_eq_none]
    have := h.flushed.len
    simp [Dsk.flushed]; omega
set_option maxHeartbeats 1000000 in
theorem dflush_ctr (p : Nat) (d : Dsk) : Ctr Tryd.prog 37 [.pointer (some ⟨p, 0, none⟩)] [PD p d] (fun v L => v = .int .i64 d.flush.1 ∧ L = [PD p d.flush.2]) := by
  refine Ctr.of Tryd.func37 rfl rfl (fun w F => ?_)
  simp only [Tryd.ntmps37, env0, List.cons_append, List.nil_append]
  (repeat (first | refine T_seq ?_ | refine T_region ?_ | refine T_nil ?_ | refine T_thenN ?_ | refine T_skip ?_ | refine T_thenR ?_ | refine T_thenE ?_ | refine T_inR ?_ | refine T_inN ?_ | refine T_inE ?_ | refine T_block ?_ | refine T_exit ?_ | refine T_ret ?_ | refine T_jumpR ?_ | refine T_jumpN ?_ | refine T_goto ?_ | refine T_jumpG ?_ | refine T_thenG ?_ | refine T_seqNil ?_ | refine T_seqS rfl ?_ | refine d_back perm_rest ?_ | (refine d_stillX rfl rfl ?_; first | refine ⟨_, (S_assign rfl), ?_⟩ | refine ⟨_, (S_move rfl), ?_⟩ | refine ⟨_, (S_nilCheck rfl), ?_⟩ | refine ⟨_, (S_nilCheckF rfl), ?_⟩ | refine ⟨_, (S_fieldR rfl), ?_⟩ | refine ⟨_, (S_fieldS rfl (by repeat (first | with_reducible exact Pick.here | with_reducible apply Pick.there))), ?_⟩ | refine ⟨_, (S_load rfl (by repeat (first | with_reducible exact Pick.here | with_reducible apply Pick.there)) rfl), ?_⟩ | refine ⟨_, (S_ldM rfl (by repeat (first | with_reducible exact Pick.here | with_reducible apply Pick.there)) (by omega)), ?_⟩ | refine ⟨_, (S_loadAll rfl (by repeat (first | with_reducible exact Pick.here | with_reducible apply Pick.there)) rfl), ?_⟩ | refine ⟨_, (S_extract rfl rfl), ?_⟩ | refine ⟨_, (S_ix1 rfl rfl (by repeat (first | with_reducible exact Pick.here | with_reducible apply Pick.there)) (by omega)), ?_⟩) | ((first | refine T_list ?_ | refine T_seqOp rfl ?_); first | refine kas rfl rfl ?_ | refine kmv rfl rfl ?_ | refine knc rfl rfl ?_ | refine kncF rfl rfl ?_ | refine kfd rfl rfl ?_ | refine kfdS rfl rfl (by repeat (first | with_reducible exact Pick.here | with_reducible apply Pick.there)) ?_ | refine kld rfl rfl (by repeat (first | with_reducible exact Pick.here | with_reducible apply Pick.there)) rfl ?_ | refine kldM rfl rfl (by repeat (first | with_reducible exact Pick.here | with_reducible apply Pick.there)) (by omega) ?_ | refine kldA rfl rfl (by repeat (first | with_reducible exact Pick.here | with_reducible apply Pick.there)) rfl ?_ | refine kex rfl rfl rfl ?_ | (refine kal rfl ?_; intro _b) | refine kst rfl rfl rfl (by repeat (first | with_reducible exact Pick.here | with_reducible apply Pick.there)) rfl ?_ | refine kix1 rfl rfl rfl (by repeat (first | with_reducible exact Pick.here | with_reducible apply Pick.there)) (by omega) ?_)))
  refine T_list ?_; refine T_call rfl (doff_ctr p d) (by repeat (first | with_reducible exact Take.nil | apply Take.cons (by repeat (first | with_reducible exact Pick.here | with_reducible apply Pick.there)))) rfl ?_
  rintro v L' ⟨rfl, rfl⟩
  simp only [List.cons_append, List.nil_append]
  unfold Dsk.flush
  by_cases h0 : d.left = 0
  · rw [if_pos h0, if_pos h0]
    (repeat (first | refine T_seq ?_ | refine T_region ?_ | refine T_nil ?_ | refine T_thenN ?_ | refine T_skip ?_ | refine T_thenR ?_ | refine T_thenE ?_ | refine T_inR ?_ | refine T_inN ?_ | refine T_inE ?_ | refine T_block ?_ | refine T_exit ?_ | refine T_ret ?_ | refine T_jumpR ?_ | refine T_jumpN ?_ | refine T_goto ?_ | refine T_jumpG ?_ | refine T_thenG ?_ | refine T_seqNil ?_ | refine T_seqS rfl ?_ | refine d_back perm_rest ?_ | (refine d_stillX rfl rfl ?_; first | refine ⟨_, (S_assign rfl), ?_⟩ | refine ⟨_, (S_move rfl), ?_⟩ | refine ⟨_, (S_nilCheck rfl), ?_⟩ | refine ⟨_, (S_nilCheckF rfl), ?_⟩ | refine ⟨_, (S_fieldR rfl), ?_⟩ | refine ⟨_, (S_fieldS rfl (by repeat (first | with_reducible exact Pick.here | with_reducible apply Pick.there))), ?_⟩ | refine ⟨_, (S_load rfl (by repeat (first | with_reducible exact Pick.here | with_reducible apply Pick.there)) rfl), ?_⟩ | refine ⟨_, (S_ldM rfl (by repeat (first | with_reducible exact Pick.here | with_reducible apply Pick.there)) (by omega)), ?_⟩ | refine ⟨_, (S_loadAll rfl (by repeat (first | with_reducible exact Pick.here | with_reducible apply Pick.there)) rfl), ?_⟩ | refine ⟨_, (S_extract rfl rfl), ?_⟩ | refine ⟨_, (S_ix1 rfl rfl (by repeat (first | with_reducible exact Pick.here | with_reducible apply Pick.there)) (by omega)), ?_⟩) | ((first | refine T_list ?_ | refine T_seqOp rfl ?_); first | refine kas rfl rfl ?_ | refine kmv rfl rfl ?_ | refine knc rfl rfl ?_ | refine kncF rfl rfl ?_ | refine kfd rfl rfl ?_ | refine kfdS rfl rfl (by repeat (first | with_reducible exact Pick.here | with_reducible apply Pick.there)) ?_ | refine kld rfl rfl (by repeat (first | with_reducible exact Pick.here | with_reducible apply Pick.there)) rfl ?_ | refine kldM rfl rfl (by repeat (first | with_reducible exact Pick.here | with_reducible apply Pick.there)) (by omega) ?_ | refine kldA rfl rfl (by repeat (first | with_reducible exact Pick.here | with_reducible apply Pick.there)) rfl ?_ | refine kex rfl rfl rfl ?_ | (refine kal rfl ?_; intro _b) | refine kst rfl rfl rfl (by repeat (first | with_reducible exact Pick.here | with_reducible apply Pick.there)) rfl ?_ | refine kix1 rfl rfl rfl (by repeat (first | with_reducible exact Pick.here | with_reducible apply Pick.there)) (by omega) ?_)))
    refine T_cond rfl (fun _ => ?_) (fun h => absurd h (by simp only [decide_eq_true_eq, decide_eq_false_iff_not, ne_eq, Decidable.not_not, Bool.not_eq_true', Bool.not_eq_false', Bool.not_true, Bool.not_false, Bool.false_eq_true, Bool.true_eq_false, not_true_eq_false, not_false_eq_true]; try omega))
    (repeat (first | refine T_seq ?_ | refine T_region ?_ | refine T_nil ?_ | refine T_thenN ?_ | refine T_skip ?_ | refine T_thenR ?_ | refine T_thenE ?_ | refine T_inR ?_ | refine T_inN ?_ | refine T_inE ?_ | refine T_block ?_ | refine T_exit ?_ | refine T_ret ?_ | refine T_jumpR ?_ | refine T_jumpN ?_ | refine T_goto ?_ | refine T_jumpG ?_ | refine T_thenG ?_ | refine T_seqNil ?_ | refine T_seqS rfl ?_ | refine d_back perm_rest ?_ | (refine d_stillX rfl rfl ?_; first | refine ⟨_, (S_assign rfl), ?_⟩ | refine ⟨_, (S_move rfl), ?_⟩ | refine ⟨_, (S_nilCheck rfl), ?_⟩ | refine ⟨_, (S_nilCheckF rfl), ?_⟩ | refine ⟨_, (S_fieldR rfl), ?_⟩ | refine ⟨_, (S_fieldS rfl (by repeat (first | with_reducible exact Pick.here | with_reducible apply Pick.there))), ?_⟩ | refine ⟨_, (S_load rfl (by repeat (first | with_reducible exact Pick.here | with_reducible apply Pick.there)) rfl), ?_⟩ | refine ⟨_, (S_ldM rfl (by repeat (first | with_reducible exact Pick.here | with_reducible apply Pick.there)) (by omega)), ?_⟩ | refine ⟨_, (S_loadAll rfl (by repeat (first | with_reducible exact Pick.here | with_reducible apply Pick.there)) rfl), ?_⟩ | refine ⟨_, (S_extract rfl rfl), ?_⟩ | refine ⟨_, (S_ix1 rfl rfl (by repeat (first | with_reducible exact Pick.here | with_reducible apply Pick.there)) (by omega)), ?_⟩) | ((first | refine T_list ?_ | refine T_seqOp rfl ?_); first | refine kas rfl rfl ?_ | refine kmv rfl rfl ?_ | refine knc rfl rfl ?_ | refine kncF rfl rfl ?_ | refine kfd rfl rfl ?_ | refine kfdS rfl rfl (by repeat (first | with_reducible exact Pick.here | with_reducible apply Pick.there)) ?_ | refine kld rfl rfl (by repeat (first | with_reducible exact Pick.here | with_reducible apply Pick.there)) rfl ?_ | refine kldM rfl rfl (by repeat (first | with_reducible exact Pick.here | with_reducible apply Pick.there)) (by omega) ?_ | refine kldA rfl rfl (by repeat (first | with_reducible exact Pick.here | with_reducible apply Pick.there)) rfl ?_ | refine kex rfl rfl rfl ?_ | (refine kal rfl ?_; intro _b) | refine kst rfl rfl rfl (by repeat (first | with_reducible exact Pick.here | with_reducible apply Pick.there)) rfl ?_ | refine kix1 rfl rfl rfl (by repeat (first | with_reducible exact Pick.here | with_reducible apply Pick.there)) (by omega) ?_)))
    exact T_fin [_] _ ⟨rfl, trivial⟩ ⟨rfl, rfl⟩ perm_rest
  · rw [if_neg h0, if_neg h0]
    refine T_cond rfl (fun h => absurd h (by simp only [decide_eq_true_eq, decide_eq_false_iff_not, ne_eq, Decidable.not_not, Bool.not_eq_true', Bool.not_eq_false', Bool.not_true, Bool.not_false, Bool.false_eq_true, Bool.true_eq_false, not_true_eq_false, not_false_eq_true]; try omega)) (fun _ => ?_)
    (repeat (first | refine T_seq ?_ | refine T_region ?_ | refine T_nil ?_ | refine T_thenN ?_ | refine T_skip ?_ | refine T_thenR ?_ | refine T_thenE ?_ | refine T_inR ?_ | refine T_inN ?_ | refine T_inE ?_ | refine T_block ?_ | refine T_exit ?_ | refine T_ret ?_ | refine T_jumpR ?_ | refine T_jumpN ?_ | refine T_goto ?_ | refine T_jumpG ?_ | refine T_thenG ?_ | refine T_seqNil ?_ | refine T_seqS rfl ?_ | refine d_back perm_rest ?_ | (refine d_stillX rfl rfl ?_; first | refine ⟨_, (S_assign rfl), ?_⟩ | refine ⟨_, (S_move rfl), ?_⟩ | refine ⟨_, (S_nilCheck rfl), ?_⟩ | refine ⟨_, (S_nilCheckF rfl), ?_⟩ | refine ⟨_, (S_fieldR rfl), ?_⟩ | refine ⟨_, (S_fieldS rfl (by repeat (first | with_reducible exact Pick.here | with_reducible apply Pick.there))), ?_⟩ | refine ⟨_, (S_load rfl (by repeat (first | with_reducible exact Pick.here | with_reducible apply Pick.there)) rfl), ?_⟩ | refine ⟨_, (S_ldM rfl (by repeat (first | with_reducible exact Pick.here | with_reducible apply Pick.there)) (by omega)), ?_⟩ | refine ⟨_, (S_loadAll rfl (by repeat (first | with_reducible exact Pick.here | with_reducible apply Pick.there)) rfl), ?_⟩ | refine ⟨_, (S_extract rfl rfl), ?_⟩ | refine ⟨_, (S_ix1 rfl rfl (by repeat (first | with_reducible exact Pick.here | with_reducible apply Pick.there)) (by omega)), ?_⟩) | ((first | refine T_list ?_ | refine T_seqOp rfl ?_); first | refine kas rfl rfl ?_ | refine kmv rfl rfl ?_ | refine knc rfl rfl ?_ | refine kncF rfl rfl ?_ | refine kfd rfl rfl ?_ | refine kfdS rfl rfl (by repeat (first | with_reducible exact Pick.here | with_reducible apply Pick.there)) ?_ | refine kld rfl rfl (by repeat (first | with_reducible exact Pick.here | with_reducible apply Pick.there)) rfl ?_ | refine kldM rfl rfl (by repeat (first | with_reducible exact Pick.here | with_reducible apply Pick.there)) (by omega) ?_ | refine kldA rfl rfl (by repeat (first | with_reducible exact Pick.here | with_reducible apply Pick.there)) rfl ?_ | refine kex rfl rfl rfl ?_ | (refine kal rfl ?_; intro _b) | refine kst rfl rfl rfl (by repeat (first | with_reducible exact Pick.here | with_reducible apply Pick.there)) rfl ?_ | refine kix1 rfl rfl rfl (by repeat (first | with_reducible exact Pick.here | with_reducible apply Pick.there)) (by omega) ?_)))
    generalize d.tick = e
    refine T_open Pick.here ?_
    rintro ⟨a, c, r, l⟩ ⟨hok, hw⟩
    dsimp only at hw
    simp only [pdL, List.cons_append, List.nil_append]
    (repeat (first | refine T_seq ?_ | refine T_region ?_ | refine T_nil ?_ | refine T_thenN ?_ | refine T_skip ?_ | refine T_thenR ?_ | refine T_thenE ?_ | refine T_inR ?_ | refine T_inN ?_ | refine T_inE ?_ | refine T_block ?_ | refine T_exit ?_ | refine T_ret ?_ | refine T_jumpR ?_ | refine T_jumpN ?_ | refine T_goto ?_ | refine T_jumpG ?_ | refine T_thenG ?_ | refine T_seqNil ?_ | refine T_seqS rfl ?_ | refine d_back perm_rest ?_ | (refine d_stillX rfl rfl ?_; first | refine ⟨_, (S_assign rfl), ?_⟩ | refine ⟨_, (S_move rfl), ?_⟩ | refine ⟨_, (S_nilCheck rfl), ?_⟩ | refine ⟨_, (S_nilCheckF rfl), ?_⟩ | refine ⟨_, (S_fieldR rfl), ?_⟩ | refine ⟨_, (S_fieldS rfl (by repeat (first | with_reducible exact Pick.here | with_reducible apply Pick.there))), ?_⟩ | refine ⟨_, (S_load rfl (by repeat (first | with_reducible exact Pick.here | with_reducible apply Pick.there)) rfl), ?_⟩ | refine ⟨_, (S_ldM rfl (by repeat (first | with_reducible exact Pick.here | with_reducible apply Pick.there)) (by omega)), ?_⟩ | refine ⟨_, (S_loadAll rfl (by repeat (first | with_reducible exact Pick.here | with_reducible apply Pick.there)) rfl), ?_⟩ | refine ⟨_, (S_extract rfl rfl), ?_⟩ | refine ⟨_, (S_ix1 rfl rfl (by repeat (first | with_reducible exact Pick.here | with_reducible apply Pick.there)) (by omega)), ?_⟩) | ((first | refine T_list ?_ | refine T_seqOp rfl ?_); first | refine kas rfl rfl ?_ | refine kmv rfl rfl ?_ | refine knc rfl rfl ?_ | refine kncF rfl rfl ?_ | refine kfd rfl rfl ?_ | refine kfdS rfl rfl (by repeat (first | with_reducible exact Pick.here | with_reducible apply Pick.there)) ?_ | refine kld rfl rfl (by repeat (first | with_reducible exact Pick.here | with_reducible apply Pick.there)) rfl ?_ | refine kldM rfl rfl (by repeat (first | with_reducible exact Pick.here | with_reducible apply Pick.there)) (by omega) ?_ | refine kldA rfl rfl (by repeat (first | with_reducible exact Pick.here | with_reducible apply Pick.there)) rfl ?_ | refine kex rfl rfl rfl ?_ | (refine kal rfl ?_; intro _b) | refine kst rfl rfl rfl (by repeat (first | with_reducible exact Pick.here | with_reducible apply Pick.there)) rfl ?_ | refine kix1 rfl rfl rfl (by repeat (first | with_reducible exact Pick.here | with_reducible apply Pick.there)) (by omega) ?_)))
    refine T_list ?_; refine krg rfl rfl (by repeat (first | with_reducible exact Pick.here | with_reducible apply Pick.there)) (fun b => ?_)
    refine T_know (fun w H => (Pick.here.back H).mapItNodup) (fun hn => ?_)
    (repeat (first | refine T_seq ?_ | refine T_region ?_ | refine T_nil ?_ | refine T_thenN ?_ | refine T_skip ?_ | refine T_thenR ?_ | refine T_thenE ?_ | refine T_inR ?_ | refine T_inN ?_ | refine T_inE ?_ | refine T_block ?_ | refine T_exit ?_ | refine T_ret ?_ | refine T_jumpR ?_ | refine T_jumpN ?_ | refine T_goto ?_ | refine T_jumpG ?_ | refine T_thenG ?_ | refine T_seqNil ?_ | refine T_seqS rfl ?_ | refine d_back perm_rest ?_ | (refine d_stillX rfl rfl ?_; first | refine ⟨_, (S_assign rfl), ?_⟩ | refine ⟨_, (S_move rfl), ?_⟩ | refine ⟨_, (S_nilCheck rfl), ?_⟩ | refine ⟨_, (S_nilCheckF rfl), ?_⟩ | refine ⟨_, (S_fieldR rfl), ?_⟩ | refine ⟨_, (S_fieldS rfl (by repeat (first | with_reducible exact Pick.here | with_reducible apply Pick.there))), ?_⟩ | refine ⟨_, (S_load rfl (by repeat (first | with_reducible exact Pick.here | with_reducible apply Pick.there)) rfl), ?_⟩ | refine ⟨_, (S_ldM rfl (by repeat (first | with_reducible exact Pick.here | with_reducible apply Pick.there)) (by omega)), ?_⟩ | refine ⟨_, (S_loadAll rfl (by repeat (first | with_reducible exact Pick.here | with_reducible apply Pick.there)) rfl), ?_⟩ | refine ⟨_, (S_extract rfl rfl), ?_⟩ | refine ⟨_, (S_ix1 rfl rfl (by repeat (first | with_reducible exact Pick.here | with_reducible apply Pick.there)) (by omega)), ?_⟩) | ((first | refine T_list ?_ | refine T_seqOp rfl ?_); first | refine kas rfl rfl ?_ | refine kmv rfl rfl ?_ | refine knc rfl rfl ?_ | refine kncF rfl rfl ?_ | refine kfd rfl rfl ?_ | refine kfdS rfl rfl (by repeat (first | with_reducible exact Pick.here | with_reducible apply Pick.there)) ?_ | refine kld rfl rfl (by repeat (first | with_reducible exact Pick.here | with_reducible apply Pick.there)) rfl ?_ | refine kldM rfl rfl (by repeat (first | with_reducible exact Pick.here | with_reducible apply Pick.there)) (by omega) ?_ | refine kldA rfl rfl (by repeat (first | with_reducible exact Pick.here | with_reducible apply Pick.there)) rfl ?_ | refine kex rfl rfl rfl ?_ | (refine kal rfl ?_; intro _b) | refine kst rfl rfl rfl (by repeat (first | with_reducible exact Pick.here | with_reducible apply Pick.there)) rfl ?_ | refine kix1 rfl rfl rfl (by repeat (first | with_reducible exact Pick.here | with_reducible apply Pick.there)) (by omega) ?_)))
    refine T_loop (Flu e) (fun x => [(0, .pointer (some ⟨p, 0, none⟩)), (11, .pointer (some ⟨b, 0, none⟩))])
      (fun x => row p 61 [.slice a e.k.length c, .map (some r), .int .i64 e.left] :: slc 83 64 a e.k.length c (x.1.flatMap fun s => s.map encB) :: imapIt r b l x.2 :: F) (fun x => leftOf l x.2) ?_ ?_
    · refine T_inv (e.k, []) ⟨rfl, fun i hi => by simp⟩ ⟨rfl, rfl, trivial⟩ ?_
      (repeat (first | exact perm_rest | apply perm_take (by repeat (first | with_reducible exact Pick.here | with_reducible apply Pick.there)) | apply perm_drop))
    · rintro ⟨K', S⟩ hx
      dsimp only
      (repeat (first | refine T_seq ?_ | refine T_region ?_ | refine T_nil ?_ | refine T_thenN ?_ | refine T_skip ?_ | refine T_thenR ?_ | refine T_thenE ?_ | refine T_inR ?_ | refine T_inN ?_ | refine T_inE ?_ | refine T_block ?_ | refine T_exit ?_ | refine T_ret ?_ | refine T_jumpR ?_ | refine T_jumpN ?_ | refine T_goto ?_ | refine T_jumpG ?_ | refine T_thenG ?_ | refine T_seqNil ?_ | refine T_seqS rfl ?_ | refine d_back perm_rest ?_ | (refine d_stillX rfl rfl ?_; first | refine ⟨_, (S_assign rfl), ?_⟩ | refine ⟨_, (S_move rfl), ?_⟩ | refine ⟨_, (S_nilCheck rfl), ?_⟩ | refine ⟨_, (S_nilCheckF rfl), ?_⟩ | refine ⟨_, (S_fieldR rfl), ?_⟩ | refine ⟨_, (S_fieldS rfl (by repeat (first | with_reducible exact Pick.here | with_reducible apply Pick.there))), ?_⟩ | refine ⟨_, (S_load rfl (by repeat (first | with_reducible exact Pick.here | with_reducible apply Pick.there)) rfl), ?_⟩ | refine ⟨_, (S_ldM rfl (by repeat (first | with_reducible exact Pick.here | with_reducible apply Pick.there)) (by omega)), ?_⟩ | refine ⟨_, (S_loadAll rfl (by repeat (first | with_reducible exact Pick.here | with_reducible apply Pick.there)) rfl), ?_⟩ | refine ⟨_, (S_extract rfl rfl), ?_⟩ | refine ⟨_, (S_ix1 rfl rfl (by repeat (first | with_reducible exact Pick.here | with_reducible apply Pick.there)) (by omega)), ?_⟩) | ((first | refine T_list ?_ | refine T_seqOp rfl ?_); first | refine kas rfl rfl ?_ | refine kmv rfl rfl ?_ | refine knc rfl rfl ?_ | refine kncF rfl rfl ?_ | refine kfd rfl rfl ?_ | refine kfdS rfl rfl (by repeat (first | with_reducible exact Pick.here | with_reducible apply Pick.there)) ?_ | refine kld rfl rfl (by repeat (first | with_reducible exact Pick.here | with_reducible apply Pick.there)) rfl ?_ | refine kldM rfl rfl (by repeat (first | with_reducible exact Pick.here | with_reducible apply Pick.there)) (by omega) ?_ | refine kldA rfl rfl (by repeat (first | with_reducible exact Pick.here | with_reducible apply Pick.there)) rfl ?_ | refine kex rfl rfl rfl ?_ | (refine kal rfl ?_; intro _b) | refine kst rfl rfl rfl (by repeat (first | with_reducible exact Pick.here | with_reducible apply Pick.there)) rfl ?_ | refine kix1 rfl rfl rfl (by repeat (first | with_reducible exact Pick.here | with_reducible apply Pick.there)) (by omega) ?_)))
      refine T_list ?_
      refine knx rfl rfl (by repeat (first | with_reducible exact Pick.here | with_reducible apply Pick.there)) (fun hall => ?_) (fun k v hm hk => ?_)
      · (repeat (first | refine T_seq ?_ | refine T_region ?_ | refine T_nil ?_ | refine T_thenN ?_ | refine T_skip ?_ | refine T_thenR ?_ | refine T_thenE ?_ | refine T_inR ?_ | refine T_inN ?_ | refine T_inE ?_ | refine T_block ?_ | refine T_exit ?_ | refine T_ret ?_ | refine T_jumpR ?_ | refine T_jumpN ?_ | refine T_goto ?_ | refine T_jumpG ?_ | refine T_thenG ?_ | refine T_seqNil ?_ | refine T_seqS rfl ?_ | refine d_back perm_rest ?_ | (refine d_stillX rfl rfl ?_; first | refine ⟨_, (S_extract rfl (vs := [.bool false]) rfl), ?_⟩ | refine ⟨_, (S_assign rfl), ?_⟩ | refine ⟨_, (S_move rfl), ?_⟩ | refine ⟨_, (S_nilCheck rfl), ?_⟩ | refine ⟨_, (S_nilCheckF rfl), ?_⟩ | refine ⟨_, (S_fieldR rfl), ?_⟩ | refine ⟨_, (S_fieldS rfl (by repeat (first | with_reducible exact Pick.here | with_reducible apply Pick.there))), ?_⟩ | refine ⟨_, (S_load rfl (by repeat (first | with_reducible exact Pick.here | with_reducible apply Pick.there)) rfl), ?_⟩ | refine ⟨_, (S_ldM rfl (by repeat (first | with_reducible exact Pick.here | with_reducible apply Pick.there)) (by omega)), ?_⟩ | refine ⟨_, (S_loadAll rfl (by repeat (first | with_reducible exact Pick.here | with_reducible apply Pick.there)) rfl), ?_⟩ | refine ⟨_, (S_extract rfl rfl), ?_⟩ | refine ⟨_, (S_ix1 rfl rfl (by repeat (first | with_reducible exact Pick.here | with_reducible apply Pick.there)) (by omega)), ?_⟩) | ((first | refine T_list ?_ | refine T_seqOp rfl ?_); first | refine kex rfl rfl (vs := [.bool false]) rfl ?_ | refine kas rfl rfl ?_ | refine kmv rfl rfl ?_ | refine knc rfl rfl ?_ | refine kncF rfl rfl ?_ | refine kfd rfl rfl ?_ | refine kfdS rfl rfl (by repeat (first | with_reducible exact Pick.here | with_reducible apply Pick.there)) ?_ | refine kld rfl rfl (by repeat (first | with_reducible exact Pick.here | with_reducible apply Pick.there)) rfl ?_ | refine kldM rfl rfl (by repeat (first | with_reducible exact Pick.here | with_reducible apply Pick.there)) (by omega) ?_ | refine kldA rfl rfl (by repeat (first | with_reducible exact Pick.here | with_reducible apply Pick.there)) rfl ?_ | refine kex rfl rfl rfl ?_ | (refine kal rfl ?_; intro _b) | refine kst rfl rfl rfl (by repeat (first | with_reducible exact Pick.here | with_reducible apply Pick.there)) rfl ?_ | refine kix1 rfl rfl rfl (by repeat (first | with_reducible exact Pick.here | with_reducible apply Pick.there)) (by omega) ?_)))
        refine T_cond rfl (fun h => absurd h (by simp only [decide_eq_true_eq, decide_eq_false_iff_not, ne_eq, Decidable.not_not, Bool.not_eq_true', Bool.not_eq_false', Bool.not_true, Bool.not_false, Bool.false_eq_true, Bool.true_eq_false, not_true_eq_false, not_false_eq_true]; try omega)) (fun _ => ?_)
        (repeat (first | refine T_seq ?_ | refine T_region ?_ | refine T_nil ?_ | refine T_thenN ?_ | refine T_skip ?_ | refine T_thenR ?_ | refine T_thenE ?_ | refine T_inR ?_ | refine T_inN ?_ | refine T_inE ?_ | refine T_block ?_ | refine T_exit ?_ | refine T_ret ?_ | refine T_jumpR ?_ | refine T_jumpN ?_ | refine T_goto ?_ | refine T_jumpG ?_ | refine T_thenG ?_ | refine T_seqNil ?_ | refine T_seqS rfl ?_ | refine d_back perm_rest ?_ | (refine d_stillX rfl rfl ?_; first | refine ⟨_, (S_assign rfl), ?_⟩ | refine ⟨_, (S_move rfl), ?_⟩ | refine ⟨_, (S_nilCheck rfl), ?_⟩ | refine ⟨_, (S_nilCheckF rfl), ?_⟩ | refine ⟨_, (S_fieldR rfl), ?_⟩ | refine ⟨_, (S_fieldS rfl (by repeat (first | with_reducible exact Pick.here | with_reducible apply Pick.there))), ?_⟩ | refine ⟨_, (S_load rfl (by repeat (first | with_reducible exact Pick.here | with_reducible apply Pick.there)) rfl), ?_⟩ | refine ⟨_, (S_ldM rfl (by repeat (first | with_reducible exact Pick.here | with_reducible apply Pick.there)) (by omega)), ?_⟩ | refine ⟨_, (S_loadAll rfl (by repeat (first | with_reducible exact Pick.here | with_reducible apply Pick.there)) rfl), ?_⟩ | refine ⟨_, (S_extract rfl rfl), ?_⟩ | refine ⟨_, (S_ix1 rfl rfl (by repeat (first | with_reducible exact Pick.here | with_reducible apply Pick.there)) (by omega)), ?_⟩) | ((first | refine T_list ?_ | refine T_seqOp rfl ?_); first | refine kas rfl rfl ?_ | refine kmv rfl rfl ?_ | refine knc rfl rfl ?_ | refine kncF rfl rfl ?_ | refine kfd rfl rfl ?_ | refine kfdS rfl rfl (by repeat (first | with_reducible exact Pick.here | with_reducible apply Pick.there)) ?_ | refine kld rfl rfl (by repeat (first | with_reducible exact Pick.here | with_reducible apply Pick.there)) rfl ?_ | refine kldM rfl rfl (by repeat (first | with_reducible exact Pick.here | with_reducible apply Pick.there)) (by omega) ?_ | refine kldA rfl rfl (by repeat (first | with_reducible exact Pick.here | with_reducible apply Pick.there)) rfl ?_ | refine kex rfl rfl rfl ?_ | (refine kal rfl ?_; intro _b) | refine kst rfl rfl rfl (by repeat (first | with_reducible exact Pick.here | with_reducible apply Pick.there)) rfl ?_ | refine kix1 rfl rfl rfl (by repeat (first | with_reducible exact Pick.here | with_reducible apply Pick.there)) (by omega) ?_)))
        refine T_endIt (by repeat (first | with_reducible exact Pick.here | with_reducible apply Pick.there)) ?_
        (repeat (first | refine T_seq ?_ | refine T_region ?_ | refine T_nil ?_ | refine T_thenN ?_ | refine T_skip ?_ | refine T_thenR ?_ | refine T_thenE ?_ | refine T_inR ?_ | refine T_inN ?_ | refine T_inE ?_ | refine T_block ?_ | refine T_exit ?_ | refine T_ret ?_ | refine T_jumpR ?_ | refine T_jumpN ?_ | refine T_goto ?_ | refine T_jumpG ?_ | refine T_thenG ?_ | refine T_seqNil ?_ | refine T_seqS rfl ?_ | refine d_back perm_rest ?_ | (refine d_stillX rfl rfl ?_; first | refine ⟨_, (S_assign rfl), ?_⟩ | refine ⟨_, (S_move rfl), ?_⟩ | refine ⟨_, (S_nilCheck rfl), ?_⟩ | refine ⟨_, (S_nilCheckF rfl), ?_⟩ | refine ⟨_, (S_fieldR rfl), ?_⟩ | refine ⟨_, (S_fieldS rfl (by repeat (first | with_reducible exact Pick.here | with_reducible apply Pick.there))), ?_⟩ | refine ⟨_, (S_load rfl (by repeat (first | with_reducible exact Pick.here | with_reducible apply Pick.there)) rfl), ?_⟩ | refine ⟨_, (S_ldM rfl (by repeat (first | with_reducible exact Pick.here | with_reducible apply Pick.there)) (by omega)), ?_⟩ | refine ⟨_, (S_loadAll rfl (by repeat (first | with_reducible exact Pick.here | with_reducible apply Pick.there)) rfl), ?_⟩ | refine ⟨_, (S_extract rfl rfl), ?_⟩ | refine ⟨_, (S_ix1 rfl rfl (by repeat (first | with_reducible exact Pick.here | with_reducible apply Pick.there)) (by omega)), ?_⟩) | ((first | refine T_list ?_ | refine T_seqOp rfl ?_); first | refine kas rfl rfl ?_ | refine kmv rfl rfl ?_ | refine knc rfl rfl ?_ | refine kncF rfl rfl ?_ | refine kfd rfl rfl ?_ | refine kfdS rfl rfl (by repeat (first | with_reducible exact Pick.here | with_reducible apply Pick.there)) ?_ | refine kld rfl rfl (by repeat (first | with_reducible exact Pick.here | with_reducible apply Pick.there)) rfl ?_ | refine kldM rfl rfl (by repeat (first | with_reducible exact Pick.here | with_reducible apply Pick.there)) (by omega) ?_ | refine kldA rfl rfl (by repeat (first | with_reducible exact Pick.here | with_reducible apply Pick.there)) rfl ?_ | refine kex rfl rfl rfl ?_ | (refine kal rfl ?_; intro _b) | refine kst rfl rfl rfl (by repeat (first | with_reducible exact Pick.here | with_reducible apply Pick.there)) rfl ?_ | refine kix1 rfl rfl rfl (by repeat (first | with_reducible exact Pick.here | with_reducible apply Pick.there)) (by omega) ?_)))
        refine T_list ?_; refine kclr rfl (by repeat (first | with_reducible exact Pick.here | with_reducible apply Pick.there)) ?_
        (repeat (first | refine T_seq ?_ | refine T_region ?_ | refine T_nil ?_ | refine T_thenN ?_ | refine T_skip ?_ | refine T_thenR ?_ | refine T_thenE ?_ | refine T_inR ?_ | refine T_inN ?_ | refine T_inE ?_ | refine T_block ?_ | refine T_exit ?_ | refine T_ret ?_ | refine T_jumpR ?_ | refine T_jumpN ?_ | refine T_goto ?_ | refine T_jumpG ?_ | refine T_thenG ?_ | refine T_seqNil ?_ | refine T_seqS rfl ?_ | refine d_back perm_rest ?_ | (refine d_stillX rfl rfl ?_; first | refine ⟨_, (S_assign rfl), ?_⟩ | refine ⟨_, (S_move rfl), ?_⟩ | refine ⟨_, (S_nilCheck rfl), ?_⟩ | refine ⟨_, (S_nilCheckF rfl), ?_⟩ | refine ⟨_, (S_fieldR rfl), ?_⟩ | refine ⟨_, (S_fieldS rfl (by repeat (first | with_reducible exact Pick.here | with_reducible apply Pick.there))), ?_⟩ | refine ⟨_, (S_load rfl (by repeat (first | with_reducible exact Pick.here | with_reducible apply Pick.there)) rfl), ?_⟩ | refine ⟨_, (S_ldM rfl (by repeat (first | with_reducible exact Pick.here | with_reducible apply Pick.there)) (by omega)), ?_⟩ | refine ⟨_, (S_loadAll rfl (by repeat (first | with_reducible exact Pick.here | with_reducible apply Pick.there)) rfl), ?_⟩ | refine ⟨_, (S_extract rfl rfl), ?_⟩ | refine ⟨_, (S_ix1 rfl rfl (by repeat (first | with_reducible exact Pick.here | with_reducible apply Pick.there)) (by omega)), ?_⟩) | ((first | refine T_list ?_ | refine T_seqOp rfl ?_); first | refine kas rfl rfl ?_ | refine kmv rfl rfl ?_ | refine knc rfl rfl ?_ | refine kncF rfl rfl ?_ | refine kfd rfl rfl ?_ | refine kfdS rfl rfl (by repeat (first | with_reducible exact Pick.here | with_reducible apply Pick.there)) ?_ | refine kld rfl rfl (by repeat (first | with_reducible exact Pick.here | with_reducible apply Pick.there)) rfl ?_ | refine kldM rfl rfl (by repeat (first | with_reducible exact Pick.here | with_reducible apply Pick.there)) (by omega) ?_ | refine kldA rfl rfl (by repeat (first | with_reducible exact Pick.here | with_reducible apply Pick.there)) rfl ?_ | refine kex rfl rfl rfl ?_ | (refine kal rfl ?_; intro _b) | refine kst rfl rfl rfl (by repeat (first | with_reducible exact Pick.here | with_reducible apply Pick.there)) rfl ?_ | refine kix1 rfl rfl rfl (by repeat (first | with_reducible exact Pick.here | with_reducible apply Pick.there)) (by omega) ?_)))
        have hK : K' = e.flushed.k := hx.done hok hw hall
        have hl : K'.length = e.k.length := hx.1
        have hfl : e.flushed.left = e.left := rfl
        refine T_close (R := pdR e.flushed) (Ls := pdL p e.flushed) (a, c, r, []) ⟨hok.flushed, WOk.new _⟩ ?_ (M := F) ?_
        · simp only [pdL, ← hK, hl, hfl]
          exact (by repeat (first | with_reducible exact Take.nil | apply Take.cons (by repeat (first | with_reducible exact Pick.here | ((with_reducible refine Pick.rowE ?_); rfl) | ((with_reducible refine Pick.slcE ?_ ?_ ?_) <;> rfl) | ((with_reducible refine Pick.imapE ?_); rfl) | with_reducible apply Pick.there))))
        · exact T_fin [_] _ ⟨rfl, trivial⟩ ⟨rfl, rfl⟩ perm_rest
      · obtain ⟨j, s, rfl, hj, hws, rfl⟩ := hw.mem hn hm
        have hs : s.length = 64 := hok.w64 s (getD_none_some hws)
        have hjk : j < e.k.length := by rw [← hok.len]; exact hj
        (repeat (first | refine T_seq ?_ | refine T_region ?_ | refine T_nil ?_ | refine T_thenN ?_ | refine T_skip ?_ | refine T_thenR ?_ | refine T_thenE ?_ | refine T_inR ?_ | refine T_inN ?_ | refine T_inE ?_ | refine T_block ?_ | refine T_exit ?_ | refine T_ret ?_ | refine T_jumpR ?_ | refine T_jumpN ?_ | refine T_goto ?_ | refine T_jumpG ?_ | refine T_thenG ?_ | refine T_seqNil ?_ | refine T_seqS rfl ?_ | refine d_back perm_rest ?_ | (refine d_stillX rfl rfl ?_; first | refine ⟨_, (S_extract rfl (vs := [.bool true, _, _]) rfl), ?_⟩ | refine ⟨_, (S_assign rfl), ?_⟩ | refine ⟨_, (S_move rfl), ?_⟩ | refine ⟨_, (S_nilCheck rfl), ?_⟩ | refine ⟨_, (S_nilCheckF rfl), ?_⟩ | refine ⟨_, (S_fieldR rfl), ?_⟩ | refine ⟨_, (S_fieldS rfl (by repeat (first | with_reducible exact Pick.here | with_reducible apply Pick.there))), ?_⟩ | refine ⟨_, (S_load rfl (by repeat (first | with_reducible exact Pick.here | with_reducible apply Pick.there)) rfl), ?_⟩ | refine ⟨_, (S_ldM rfl (by repeat (first | with_reducible exact Pick.here | with_reducible apply Pick.there)) (by omega)), ?_⟩ | refine ⟨_, (S_loadAll rfl (by repeat (first | with_reducible exact Pick.here | with_reducible apply Pick.there)) rfl), ?_⟩ | refine ⟨_, (S_extract rfl rfl), ?_⟩ | refine ⟨_, (S_ix1 rfl rfl (by repeat (first | with_reducible exact Pick.here | with_reducible apply Pick.there)) (by omega)), ?_⟩) | ((first | refine T_list ?_ | refine T_seqOp rfl ?_); first | refine kex rfl rfl (vs := [.bool true, _, _]) rfl ?_ | refine kas rfl rfl ?_ | refine kmv rfl rfl ?_ | refine knc rfl rfl ?_ | refine kncF rfl rfl ?_ | refine kfd rfl rfl ?_ | refine kfdS rfl rfl (by repeat (first | with_reducible exact Pick.here | with_reducible apply Pick.there)) ?_ | refine kld rfl rfl (by repeat (first | with_reducible exact Pick.here | with_reducible apply Pick.there)) rfl ?_ | refine kldM rfl rfl (by repeat (first | with_reducible exact Pick.here | with_reducible apply Pick.there)) (by omega) ?_ | refine kldA rfl rfl (by repeat (first | with_reducible exact Pick.here | with_reducible apply Pick.there)) rfl ?_ | refine kex rfl rfl rfl ?_ | (refine kal rfl ?_; intro _b) | refine kst rfl rfl rfl (by repeat (first | with_reducible exact Pick.here | with_reducible apply Pick.there)) rfl ?_ | refine kix1 rfl rfl rfl (by repeat (first | with_reducible exact Pick.here | with_reducible apply Pick.there)) (by omega) ?_)))
        refine T_cond rfl (fun _ => ?_) (fun h => absurd h (by simp only [decide_eq_true_eq, decide_eq_false_iff_not, ne_eq, Decidable.not_not, Bool.not_eq_true', Bool.not_eq_false', Bool.not_true, Bool.not_false, Bool.false_eq_true, Bool.true_eq_false, not_true_eq_false, not_false_eq_true]; try omega))
        (repeat (first | refine T_seq ?_ | refine T_region ?_ | refine T_nil ?_ | refine T_thenN ?_ | refine T_skip ?_ | refine T_thenR ?_ | refine T_thenE ?_ | refine T_inR ?_ | refine T_inN ?_ | refine T_inE ?_ | refine T_block ?_ | refine T_exit ?_ | refine T_ret ?_ | refine T_jumpR ?_ | refine T_jumpN ?_ | refine T_goto ?_ | refine T_jumpG ?_ | refine T_thenG ?_ | refine T_seqNil ?_ | refine T_seqS rfl ?_ | refine d_back perm_rest ?_ | (refine d_stillX rfl rfl ?_; first | refine ⟨_, (S_assign rfl), ?_⟩ | refine ⟨_, (S_move rfl), ?_⟩ | refine ⟨_, (S_nilCheck rfl), ?_⟩ | refine ⟨_, (S_nilCheckF rfl), ?_⟩ | refine ⟨_, (S_fieldR rfl), ?_⟩ | refine ⟨_, (S_fieldS rfl (by repeat (first | with_reducible exact Pick.here | with_reducible apply Pick.there))), ?_⟩ | refine ⟨_, (S_load rfl (by repeat (first | with_reducible exact Pick.here | with_reducible apply Pick.there)) rfl), ?_⟩ | refine ⟨_, (S_ldM rfl (by repeat (first | with_reducible exact Pick.here | with_reducible apply Pick.there)) (by omega)), ?_⟩ | refine ⟨_, (S_loadAll rfl (by repeat (first | with_reducible exact Pick.here | with_reducible apply Pick.there)) rfl), ?_⟩ | refine ⟨_, (S_extract rfl rfl), ?_⟩ | refine ⟨_, (S_ix1 rfl rfl (by repeat (first | with_reducible exact Pick.here | with_reducible apply Pick.there)) (by omega)), ?_⟩) | ((first | refine T_list ?_ | refine T_seqOp rfl ?_); first | refine kas rfl rfl ?_ | refine kmv rfl rfl ?_ | refine knc rfl rfl ?_ | refine kncF rfl rfl ?_ | refine kfd rfl rfl ?_ | refine kfdS rfl rfl (by repeat (first | with_reducible exact Pick.here | with_reducible apply Pick.there)) ?_ | refine kld rfl rfl (by repeat (first | with_reducible exact Pick.here | with_reducible apply Pick.there)) rfl ?_ | refine kldM rfl rfl (by repeat (first | with_reducible exact Pick.here | with_reducible apply Pick.there)) (by omega) ?_ | refine kldA rfl rfl (by repeat (first | with_reducible exact Pick.here | with_reducible apply Pick.there)) rfl ?_ | refine kex rfl rfl rfl ?_ | (refine kal rfl ?_; intro _b) | refine kst rfl rfl rfl (by repeat (first | with_reducible exact Pick.here | with_reducible apply Pick.there)) rfl ?_ | refine kix1 rfl rfl rfl (by repeat (first | with_reducible exact Pick.here | with_reducible apply Pick.there)) (by omega) ?_)))
        refine T_list ?_; refine kent rfl rfl (by repeat (first | with_reducible exact Pick.here | with_reducible apply Pick.there)) hm ?_
        (repeat (first | refine T_seq ?_ | refine T_region ?_ | refine T_nil ?_ | refine T_thenN ?_ | refine T_skip ?_ | refine T_thenR ?_ | refine T_thenE ?_ | refine T_inR ?_ | refine T_inN ?_ | refine T_inE ?_ | refine T_block ?_ | refine T_exit ?_ | refine T_ret ?_ | refine T_jumpR ?_ | refine T_jumpN ?_ | refine T_goto ?_ | refine T_jumpG ?_ | refine T_thenG ?_ | refine T_seqNil ?_ | refine T_seqS rfl ?_ | refine d_back perm_rest ?_ | (refine d_stillX rfl rfl ?_; first | refine ⟨_, (S_assign rfl), ?_⟩ | refine ⟨_, (S_move rfl), ?_⟩ | refine ⟨_, (S_nilCheck rfl), ?_⟩ | refine ⟨_, (S_nilCheckF rfl), ?_⟩ | refine ⟨_, (S_fieldR rfl), ?_⟩ | refine ⟨_, (S_fieldS rfl (by repeat (first | with_reducible exact Pick.here | with_reducible apply Pick.there))), ?_⟩ | refine ⟨_, (S_load rfl (by repeat (first | with_reducible exact Pick.here | with_reducible apply Pick.there)) rfl), ?_⟩ | refine ⟨_, (S_ldM rfl (by repeat (first | with_reducible exact Pick.here | with_reducible apply Pick.there)) (by omega)), ?_⟩ | refine ⟨_, (S_loadAll rfl (by repeat (first | with_reducible exact Pick.here | with_reducible apply Pick.there)) rfl), ?_⟩ | refine ⟨_, (S_extract rfl rfl), ?_⟩ | refine ⟨_, (S_ix1 rfl rfl (by repeat (first | with_reducible exact Pick.here | with_reducible apply Pick.there)) (by omega)), ?_⟩) | ((first | refine T_list ?_ | refine T_seqOp rfl ?_); first | refine kstCA (k := 64) (vs := s.map encB) rfl rfl cells_agg (ones_encB _) (by rw [List.length_map]; exact hs) (by repeat (first | with_reducible exact Pick.here | with_reducible apply Pick.there)) rfl ?_ | refine kas rfl rfl ?_ | refine kmv rfl rfl ?_ | refine knc rfl rfl ?_ | refine kncF rfl rfl ?_ | refine kfd rfl rfl ?_ | refine kfdS rfl rfl (by repeat (first | with_reducible exact Pick.here | with_reducible apply Pick.there)) ?_ | refine kld rfl rfl (by repeat (first | with_reducible exact Pick.here | with_reducible apply Pick.there)) rfl ?_ | refine kldM rfl rfl (by repeat (first | with_reducible exact Pick.here | with_reducible apply Pick.there)) (by omega) ?_ | refine kldA rfl rfl (by repeat (first | with_reducible exact Pick.here | with_reducible apply Pick.there)) rfl ?_ | refine kex rfl rfl rfl ?_ | (refine kal rfl ?_; intro _b) | refine kst rfl rfl rfl (by repeat (first | with_reducible exact Pick.here | with_reducible apply Pick.there)) rfl ?_ | refine kix1 rfl rfl rfl (by repeat (first | with_reducible exact Pick.here | with_reducible apply Pick.there)) (by omega) ?_)))
        refine T_draw [7] [(0, true), (1, true), (2, true), (3, true), (4, true), (5, true), (6, true), (7, false)] mixedT rfl (by kernel_rfl) ?_
        (repeat (first | refine T_seq ?_ | refine T_region ?_ | refine T_nil ?_ | refine T_thenN ?_ | refine T_skip ?_ | refine T_thenR ?_ | refine T_thenE ?_ | refine T_inR ?_ | refine T_inN ?_ | refine T_inE ?_ | refine T_block ?_ | refine T_exit ?_ | refine T_ret ?_ | refine T_jumpR ?_ | refine T_jumpN ?_ | refine T_goto ?_ | refine T_jumpG ?_ | refine T_thenG ?_ | refine T_seqNil ?_ | refine T_seqS rfl ?_ | refine d_back perm_rest ?_ | (refine d_stillX rfl rfl ?_; first | refine ⟨_, (S_loadAll rfl (by repeat (first | with_reducible exact Pick.here | with_reducible apply Pick.there)) (by rw [List.length_map]; exact hs)), ?_⟩ | refine ⟨_, (S_ix rfl rfl (by repeat (first | with_reducible exact Pick.here | with_reducible apply Pick.there)) hjk), ?_⟩ | refine ⟨_, (S_assign rfl), ?_⟩ | refine ⟨_, (S_move rfl), ?_⟩ | refine ⟨_, (S_nilCheck rfl), ?_⟩ | refine ⟨_, (S_nilCheckF rfl), ?_⟩ | refine ⟨_, (S_fieldR rfl), ?_⟩ | refine ⟨_, (S_fieldS rfl (by repeat (first | with_reducible exact Pick.here | with_reducible apply Pick.there))), ?_⟩ | refine ⟨_, (S_load rfl (by repeat (first | with_reducible exact Pick.here | with_reducible apply Pick.there)) rfl), ?_⟩ | refine ⟨_, (S_ldM rfl (by repeat (first | with_reducible exact Pick.here | with_reducible apply Pick.there)) (by omega)), ?_⟩ | refine ⟨_, (S_loadAll rfl (by repeat (first | with_reducible exact Pick.here | with_reducible apply Pick.there)) rfl), ?_⟩ | refine ⟨_, (S_extract rfl rfl), ?_⟩ | refine ⟨_, (S_ix1 rfl rfl (by repeat (first | with_reducible exact Pick.here | with_reducible apply Pick.there)) (by omega)), ?_⟩) | ((first | refine T_list ?_ | refine T_seqOp rfl ?_); first | refine kldA rfl rfl (by repeat (first | with_reducible exact Pick.here | with_reducible apply Pick.there)) (by rw [List.length_map]; exact hs) ?_ | refine kixN rfl rfl rfl (by repeat (first | with_reducible exact Pick.here | with_reducible apply Pick.there)) hjk ?_ | refine kas rfl rfl ?_ | refine kmv rfl rfl ?_ | refine knc rfl rfl ?_ | refine kncF rfl rfl ?_ | refine kfd rfl rfl ?_ | refine kfdS rfl rfl (by repeat (first | with_reducible exact Pick.here | with_reducible apply Pick.there)) ?_ | refine kld rfl rfl (by repeat (first | with_reducible exact Pick.here | with_reducible apply Pick.there)) rfl ?_ | refine kldM rfl rfl (by repeat (first | with_reducible exact Pick.here | with_reducible apply Pick.there)) (by omega) ?_ | refine kldA rfl rfl (by repeat (first | with_reducible exact Pick.here | with_reducible apply Pick.there)) rfl ?_ | refine kex rfl rfl rfl ?_ | (refine kal rfl ?_; intro _b) | refine kst rfl rfl rfl (by repeat (first | with_reducible exact Pick.here | with_reducible apply Pick.there)) rfl ?_ | refine kix1 rfl rfl rfl (by repeat (first | with_reducible exact Pick.here | with_reducible apply Pick.there)) (by omega) ?_)))
        have hl1 : K'.length = e.k.length := hx.1
        have h64 := Flu.k64 hok hx
        refine T_seqOp rfl ?_; refine kstSC (k' := 64) (vs := s.map encB) rfl rfl rfl (ones_encB _) (by rw [List.length_map]; exact hs) (by decide) (by repeat (first | with_reducible exact Pick.here | with_reducible apply Pick.there)) (by rw [flatMap_len _ 64 _ h64, hl1]; omega) ?_
        rw [flat_set (fun s : Bytes => s.map encB) 64 K' j s (by omega) h64 (by rw [List.length_map]; exact hs)]
        (repeat (first | refine T_seq ?_ | refine T_region ?_ | refine T_nil ?_ | refine T_thenN ?_ | refine T_skip ?_ | refine T_thenR ?_ | refine T_thenE ?_ | refine T_inR ?_ | refine T_inN ?_ | refine T_inE ?_ | refine T_block ?_ | refine T_exit ?_ | refine T_ret ?_ | refine T_jumpR ?_ | refine T_jumpN ?_ | refine T_goto ?_ | refine T_jumpG ?_ | refine T_thenG ?_ | refine T_seqNil ?_ | refine T_seqS rfl ?_ | refine d_back perm_rest ?_ | (refine d_stillX rfl rfl ?_; first | refine ⟨_, (S_assign rfl), ?_⟩ | refine ⟨_, (S_move rfl), ?_⟩ | refine ⟨_, (S_nilCheck rfl), ?_⟩ | refine ⟨_, (S_nilCheckF rfl), ?_⟩ | refine ⟨_, (S_fieldR rfl), ?_⟩ | refine ⟨_, (S_fieldS rfl (by repeat (first | with_reducible exact Pick.here | with_reducible apply Pick.there))), ?_⟩ | refine ⟨_, (S_load rfl (by repeat (first | with_reducible exact Pick.here | with_reducible apply Pick.there)) rfl), ?_⟩ | refine ⟨_, (S_ldM rfl (by repeat (first | with_reducible exact Pick.here | with_reducible apply Pick.there)) (by omega)), ?_⟩ | refine ⟨_, (S_loadAll rfl (by repeat (first | with_reducible exact Pick.here | with_reducible apply Pick.there)) rfl), ?_⟩ | refine ⟨_, (S_extract rfl rfl), ?_⟩ | refine ⟨_, (S_ix1 rfl rfl (by repeat (first | with_reducible exact Pick.here | with_reducible apply Pick.there)) (by omega)), ?_⟩) | ((first | refine T_list ?_ | refine T_seqOp rfl ?_); first | refine kas rfl rfl ?_ | refine kmv rfl rfl ?_ | refine knc rfl rfl ?_ | refine kncF rfl rfl ?_ | refine kfd rfl rfl ?_ | refine kfdS rfl rfl (by repeat (first | with_reducible exact Pick.here | with_reducible apply Pick.there)) ?_ | refine kld rfl rfl (by repeat (first | with_reducible exact Pick.here | with_reducible apply Pick.there)) rfl ?_ | refine kldM rfl rfl (by repeat (first | with_reducible exact Pick.here | with_reducible apply Pick.there)) (by omega) ?_ | refine kldA rfl rfl (by repeat (first | with_reducible exact Pick.here | with_reducible apply Pick.there)) rfl ?_ | refine kex rfl rfl rfl ?_ | (refine kal rfl ?_; intro _b) | refine kst rfl rfl rfl (by repeat (first | with_reducible exact Pick.here | with_reducible apply Pick.there)) rfl ?_ | refine kix1 rfl rfl rfl (by repeat (first | with_reducible exact Pick.here | with_reducible apply Pick.there)) (by omega) ?_)))
        refine T_inv (K'.set j s, (j : Int) :: S) ⟨⟨by simpa using hl1, ?_⟩, leftOf_lt hm hk⟩ ⟨rfl, rfl, trivial⟩ ?_
        · intro i hi
          have := hx.2 i hi
          simp only [List.getD_eq_getElem?_getD, List.getElem?_set] at this ⊢
          by_cases hij : j = i
          · subst hij
            have hat : e.at j = s := by unfold Dsk.at; rw [hws]; rfl
            simp [hl1, hjk, hat]
          · have : ¬ (i : Int) = j := by omega
            simp [hij, this]; simpa using hx.2 i hi
        · dsimp only
          (repeat (first | exact perm_rest | apply perm_take (by repeat (first | with_reducible exact Pick.here | with_reducible apply Pick.there)) | apply perm_drop))
end Go.Proofs
namespace Go.Proofs
set_option linter.unusedVariables false
set_option linter.unusedSimpArgs false
set_option linter.unnecessarySimpa false
open Go Go.Sl Go.RowKit Go.Maps Go.Sort Go.Shelf
open Go.WideElems (Fit rd rg rd_mk rg_of)
theorem insert_perm {H : Type} (x : Lit × DataW H) : ∀ l : List (Lit × DataW H), (DataW.insert x l).Perm (x :: l)
  | [] => List.Perm.refl _
  | y :: r => by
    rw [DataW.insert]
    split
    · exact List.Perm.refl _
    · exact ((insert_perm x r).cons y).trans (List.Perm.swap x y r)
theorem foldr_insert_perm {H : Type} : ∀ l : List (Lit × DataW H), (l.foldr DataW.insert []).Perm l
  | [] => List.Perm.refl _
  | x :: l => (insert_perm x _).trans ((foldr_insert_perm l).cons x)
theorem Tryd.sortsA (m : Nat) : AnyZI.SortsIn Tryd.prog Tryd.sortedA_ren Fence.wide m :=
  ⟨fun blk off cap ss W hH hblk hsz => callsIn_wide.2 (AnyM.slices_Sort_int Tryd.sortA blk off cap ss W hH hblk hsz),
   fun p cap W => callsIn_wide.2 (AnyM.slices_Sort_int_none Tryd.sortA p cap W)⟩
/-- A block that is new. -/
theorem Hd.fresh {w w' : World} {L : List SP} {g : Nat} {o : Obj} (H : Hd w L) (hb : Below w.heap.size w w') (hg : w.heap.size ≤ g) (ho : w'.heap[g]? = some o) : Hd w' (pts g o :: L) := by
  obtain ⟨h, hw, hs⟩ := H
  have hlt : ∀ r o, h r = some o → r < w.heap.size := fun r o hr => (Array.getElem?_eq_some_iff.1 (hw r o hr)).1
  refine ⟨PH.union (PH.one g o) h, ?_, PH.one g o, h, ?_, rfl, rfl, hs⟩
  · intro s q hq
    by_cases e : s = g
    · subst e; simp [PH.union, PH.one] at hq; subst hq; exact ho
    · have hq : h s = some q := by simpa [PH.union, PH.one, e] using hq
      rw [hb.block s (hlt s q hq)]; exact hw s q hq
  · intro s
    by_cases e : s = g
    · subst e; right
      cases hh : h s with
      | none => rfl
      | some q => have := hlt s q hh; omega
    · left; simp [PH.one, e]
theorem Hd.below {w w' : World} {L : List SP} (H : Hd w L) (hb : Below w.heap.size w w') : Hd w' L := by
  obtain ⟨h, hw, hs⟩ := H
  exact ⟨h, fun r o hr => by rw [hb.block r (Array.getElem?_eq_some_iff.1 (hw r o hr)).1]; exact hw r o hr, hs⟩
theorem Keep.below {w w' : World} (hb : Below w.heap.size w w') : Keep w w' := ⟨hb.os, hb.tape, hb.output⟩
theorem sorted_ctr (b r : Nat) (l : List (Int × Value)) (hl : ∀ p ∈ l, 0 ≤ p.1 ∧ p.1 < 512) (hn : l.length ≤ 512) :
    Ctr Tryd.prog 58 [.func (.func 68) #[] #[.pointer (some ⟨b, 0, none⟩)]] [row b 59 [.map (some r)], imap r l]
      (fun v L => ∃ a c, v = .slice a l.length c ∧ L = [slc 3 1 a l.length c (((l.map (·.1)).mergeSort leI).map (Value.int .i64)), row b 59 [.map (some r)], imap r l]) := by
  intro w F H
  have Hc : w.cell? ⟨b, 0, none⟩ = some (.map (some r)) := Hd.cell H rfl
  have hblt : b < w.heap.size := by
    obtain ⟨fz, hf, H1⟩ := Hd.openRow H
    exact (Array.getElem?_eq_some_iff.1 H1.get).1
  obtain ⟨es, clk, he, H2⟩ := Hd.openImap (Hd.drop H)
  have hm := H2.get
  have hlen := he.length
  have key : ∀ x ∈ es, ∃ p ∈ l, x.key = .int .i64 p.1 := by
    intro x hx
    obtain ⟨i, hi⟩ := List.getElem?_of_mem hx
    obtain ⟨p, hp, hk, _⟩ := he.get hi
    exact ⟨p, List.mem_of_getElem? hp, hk⟩
  let R : Value → Option (DataW Unit × List MemPlace) := fun _ => some (.nil, [])
  have hrd : ∀ x ∈ es, ∃ p ∈ l, x.key = .int .i64 p.1 ∧ rd Tryd.prog 3 R x = some (.int .i64 p.1, .nil) := by
    intro x hx
    obtain ⟨p, hp, hk⟩ := key x hx
    obtain ⟨g1, g2⟩ := hl p hp
    refine ⟨p, hp, hk, ?_⟩
    obtain ⟨k0, v0, b0⟩ := x
    dsimp only at hk; subst hk
    have hwf : (Lit.int .i64 p.1).wf = true := by simp [Lit.wf, IntKind.min, IntKind.max, IntKind.bits, IntKind.signed]; omega
    exact rd_mk (yv := (.nil, [])) (keyOf_int_mk Tryd.underlying3 hwf) rfl
  have hfit : Fit Tryd.prog 3 R es.toArray clk := by
    refine ⟨by simp only [List.size_toArray]; unfold maxLen; omega, ⟨by simpa using he.clock, by simpa using he.borns, ?_⟩, ?_⟩
    · rw [List.toList_toArray, he.keys]
      have := he.nodup
      rw [List.Nodup, List.pairwise_map] at this ⊢
      exact this.imp fun h e => h (by simpa using e)
    · intro x hx
      obtain ⟨p, _, _, h⟩ := hrd x (by simpa using hx)
      exact ⟨_, h⟩
  have hown : w.ownsMap Tryd.prog 3 R r 512 (.map ((es.map (rg Tryd.prog 3 R)).foldr DataW.insert [])) := ⟨es.toArray, clk, hm, hfit, by simp only [List.size_toArray]; omega, by rw [List.toList_toArray]⟩
  generalize hD0 : (DataW.map ((es.map (rg Tryd.prog 3 R)).foldr DataW.insert []) : DataW Unit) = D0 at hown
  have hsize : Maps.size D0 = l.length := by
    rw [← hD0]; show ((es.map (rg Tryd.prog 3 R)).foldr DataW.insert []).length = _
    rw [(foldr_insert_perm _).length_eq, List.length_map, hlen]
  have hkeys : (intKeys D0).Perm (l.map (·.1)) := by
    rw [← hD0]
    show (((es.map (rg Tryd.prog 3 R)).foldr DataW.insert []).map fun p => Go.intOf p.1).Perm _
    refine ((foldr_insert_perm _).map _).trans ?_
    rw [List.map_map]
    have : es.map ((fun p : Lit × DataW Unit => Go.intOf p.1) ∘ rg Tryd.prog 3 R) = l.map (·.1) := by
      apply List.ext_getElem?
      intro i
      simp only [List.getElem?_map]
      cases hi : es[i]? with
      | none =>
        have : l[i]? = none := List.getElem?_eq_none (by rw [← hlen]; exact List.getElem?_eq_none_iff.1 hi)
        rw [this]; rfl
      | some x =>
        obtain ⟨p, hp, hk, _⟩ := he.get hi
        obtain ⟨p', _, hk', hr'⟩ := hrd x (List.mem_of_getElem? hi)
        have : p'.1 = p.1 := by rw [hk] at hk'; simpa using hk'.symm
        rw [hp]
        simp only [Option.map_some, Function.comp, rg_of hr', Go.intOf, this]
    rw [this]
  have hseq : SeqGives Fence.wide 2 Tryd.prog 68 #[.pointer (some ⟨b, 0, none⟩)] encZ (fun ss => ss.Perm (intKeys D0)) (Maps.size D0) w :=
    AnyZI.keys_gives (ρ := Tryd.keysA_ren) { Tryd.keysA with } Fence.wide _ trivial rfl (by omega) b r 512 D0 w hblt Hc hown
  have cS := AnyZI.sorted_in Tryd.sortedA Fence.wide 5 trivial trivial trivial trivial rfl (by omega) (Tryd.sortsA _) (enters_of Tryd.func67 (by kernel_rfl) rfl) 68 #[.pointer (some ⟨b, 0, none⟩)] trivial (enters_of Tryd.func68 (by kernel_rfl) rfl) _ _ (by rw [hsize]; unfold maxLen; omega) (by rw [hsize]; omega) _ hseq
  change CallsIn _ _ Tryd.prog 58 _ _ _ at cS
  have c := (callsIn_wide (n := 5)).1 cS
  refine c.mono ?_
  rintro e w' ⟨v, ss, rfl, hperm, hrow, hnil, hb⟩
  have hms : ss.mergeSort (fun x y => decide (x ≤ y)) = (l.map (·.1)).mergeSort leI := mergeSort_of_perm_i (hperm.trans hkeys)
  have hlss : ss.length = l.length := by rw [(hperm.trans hkeys).length_eq, List.length_map]
  rw [hms] at hrow
  have H' := Hd.below H hb
  obtain ⟨h1, h2⟩ := hrow
  have hxs : (((l.map (·.1)).mergeSort leI).map (Value.int .i64)).length = l.length * 1 := by simp
  rcases h2 with ⟨rfl, hz⟩ | ⟨g, cap, cur, rfl, hg, ho, hc, hc2, hcs, hct⟩
  · have hl0 : l = [] := List.eq_nil_of_length_eq_zero (by omega)
    subst hl0
    exact ⟨_, _, rfl, ⟨none, 0, rfl, rfl⟩, by simpa using Hd.nilSlc (t := 3) (k := 1) H', Keep.below hb⟩
  · refine ⟨_, _, rfl, ⟨some ⟨g, 0, none⟩, cap, by rw [hlss], rfl⟩, ?_, Keep.below hb⟩
    have ho' : w'.heap[g]? = some (.cells cur 3 (0, 0)) := ho
    have Hf := Hd.fresh H hb hg ho'
    have hcl : cur.toList.length = cap := by rw [Array.length_toList, hcs, Nat.mul_one]
    refine Hd.mkSlc (pre := []) (post := cur.toList.drop l.length) hxs (by omega) (by rw [List.length_drop, hcl]; omega) ?_
    have e : [] ++ ((l.map (·.1)).mergeSort leI).map (Value.int .i64) ++ cur.toList.drop l.length = cur.toList := by
      rw [List.nil_append, ← List.take_append_drop l.length cur.toList]
      congr 1
      · rw [← hct, hlss]; simp
      · simp
    rw [e]
    exact Hd.mkRow (fz := (0, 0)) (.inl rfl) (by simpa using Hf)
end Go.Proofs
set_option linter.unusedVariables false
set_option linter.unusedSimpArgs false
namespace Go.Sl
set_option linter.unnecessarySimpa false
open Go
section
variable {P : Program} {n : Nat} {w0 : World} {Q : Exit → Act → World → Prop} {env : Env} {L M R : List SP} {ops : Array Oper}
theorem T_drawR {i : Nat} {l : List Oper} (R : List SP) (S : List Nat) (ord : List (Nat × Bool)) (hm : P.follows .mixedOrders = true)
    (hlen : Nat.beq ord.length l.length = true) (hok : (Region.noSelect l.toArray && okSeq l.toArray S ord (Array.replicate l.length false)) = true)
    (h : T n w0 (wpSeq P l.toArray (fun w => Hd w R ∧ Keep w0 w) S (Q .normal) ord) env L) : T n w0 ((Code.region i l.toArray true).wp P Q) env L :=
  T_regionD R S ord hm (by simpa using hlen) hok h
theorem r_still {S : List Nat} {N : Act → World → Prop} {i d : Nat} {op : Op} {ty : TypeId} {pos : String} {after : Array Edge} {r : List (Nat × Bool)} (ht : Take R L M)
    (hi : ops[i]? = some ⟨some d, op, ty, pos, after, none⟩) (hd : Nat.blt d n = true) (h : ∃ v, Still P n w0 env R ⟨some d, op, ty, pos, after, none⟩ v ∧ T n w0 (wpSeq P ops (fun w => Hd w R ∧ Keep w0 w) S N r) ((d, v) :: env) L) :
    T n w0 (wpSeq P ops (fun w => Hd w R ∧ Keep w0 w) S N ((i, true) :: r)) env L := by
  obtain ⟨v, h1, h2⟩ := h
  exact T_seqStill (M := M) hi hd ht h1 h2
theorem r_back {i : Nat} {S : List Nat} {X : Act → World → Prop} (ht : Take R L M) (h : T n w0 X env L) : T n w0 (fun a' w' => (S.contains i = true ∨ (Hd w' R ∧ Keep w0 w')) ∧ X a' w') env L :=
  T_seqC (M := M) ht h
theorem r_stillGY {S : List Nat} {N : Act → World → Prop} {i d j dj : Nat} {want : Bool} {op : Op} {ty : TypeId} {pos : String} {after : Array Edge} {r : List (Nat × Bool)} (ht : Take R L M)
    (hi : ops[i]? = some ⟨some d, op, ty, pos, after, some (j, want)⟩) (hd : Nat.blt d n = true) (hj : (ops[j]?).bind (·.dst) = some dj) (hb : look env dj = some (.bool want))
    (h : ∃ v, Still P n w0 env R ⟨some d, op, ty, pos, after, some (j, want)⟩ v ∧ T n w0 (wpSeq P ops (fun w => Hd w R ∧ Keep w0 w) S N r) ((d, v) :: env) L) :
    T n w0 (wpSeq P ops (fun w => Hd w R ∧ Keep w0 w) S N ((i, true) :: r)) env L := by
  obtain ⟨v, hr, h⟩ := h
  intro a w A
  have hyl : yielded ops a.tmps j = some want := by
    simp only [yielded, hj, Option.bind_some]
    rw [A.slots _ _ hb]
  exact ⟨_, v, hi, .inl ⟨by simp [Region.wanted, hyl], fun w' hw' => hr a w' ⟨A.defers, A.size, A.slots, hw'.1, hw'.2⟩⟩, ⟨(A.heap.perm ht).append_left, A.keep⟩,
    h _ _ (A.put (by simpa [Nat.blt_eq] using hd) A.heap (.refl _))⟩
theorem r_stillGN {S : List Nat} {N : Act → World → Prop} {i d j dj : Nat} {want b : Bool} {op : Op} {ty : TypeId} {pos : String} {after : Array Edge} {r : List (Nat × Bool)} (ht : Take R L M)
    (hi : ops[i]? = some ⟨some d, op, ty, pos, after, some (j, want)⟩) (hd : Nat.blt d n = true) (hj : (ops[j]?).bind (·.dst) = some dj) (hb : look env dj = some (.bool b)) (hne : (b == want) = false)
    (h : T n w0 (wpSeq P ops (fun w => Hd w R ∧ Keep w0 w) S N r) ((d, undef) :: env) L) :
    T n w0 (wpSeq P ops (fun w => Hd w R ∧ Keep w0 w) S N ((i, true) :: r)) env L := by
  intro a w A
  have hyl : yielded ops a.tmps j = some b := by
    simp only [yielded, hj, Option.bind_some]
    rw [A.slots _ _ hb]
  have hne : ¬ b = want := fun e => by simp [e] at hne
  exact ⟨_, undef, hi, .inr ⟨by simp [Region.wanted, hyl, hne], rfl⟩, ⟨(A.heap.perm ht).append_left, A.keep⟩,
    h _ _ (A.put (by simpa [Nat.blt_eq] using hd) A.heap (.refl _))⟩
theorem bnd_none0 : bnd env none 0 = some 0 := rfl
theorem Hd.freeze {w : World} {b : Nat} {t : TypeId} {cs : List Value} (H : Hd w (row b t cs :: L)) (o : Nat) :
    (Go.markStringish ⟨b, o, none⟩).run P w = .ok () (w.freeze ⟨b, cs.length, none⟩ 1) ∧ Hd (w.freeze ⟨b, cs.length, none⟩ 1) (row b t cs :: L) := by
  obtain ⟨fz, hf, H⟩ := H.openRow
  have hg := H.get
  constructor
  · simp [markStringish, World.shape?, hg]
  · refine Hd.mkRow (fz := if fz.1 == fz.2 then (cs.length, cs.length + 1) else (min fz.1 cs.length, max fz.2 (cs.length + 1))) ?_ (H.put ?_ ?_)
    · right
      split
      · exact Nat.le_refl _
      · rename_i hne
        rcases hf with rfl | hf
        · simp at hne
        · show cs.length ≤ min fz.1 cs.length
          omega
    · simp only [World.freeze, Nat.one_ne_zero, if_false, Array.getElem?_modify, hg]
      simp
    · intro s hs
      simp only [World.freeze, Nat.one_ne_zero, if_false, Array.getElem?_modify]
      rw [if_neg (fun e => hs e.symm)]
theorem kcvM {K : Act → World → Prop} {d t e t' : TypeId} {x : Operand} {a : Option Addr} {m c : Nat} {xs : List Value} {ty : TypeId} {pos : String} {after : Array Edge} {g : Option (Nat × Bool)} [hs : SliceTy P t e 1 1] [he : UndTy P e (.int .u8)]
    (hd : Nat.blt d n = true) (hx : ev env x = some (.slice a m c)) (hp : Pick (slc t' 1 a m c xs) L M) (hm : 0 < m) (h : T n w0 K ((d, .slice a m c) :: env) (slc t' 1 a m c xs :: M)) :
    T n w0 (opO P ⟨some d, .convert t t x, ty, pos, after, g⟩ K) env L :=
  T_eff (R := fun v L' => v = .slice a m c ∧ L' = slc t' 1 a m c xs :: M) hd (fun a' w A' => by
    obtain ⟨e1, e2, h3⟩ := (hp.back A'.heap).openSlc
    rcases h3 with ⟨rfl, rfl⟩ | ⟨b, pre, post, rfl, hc, hr⟩
    · omega
    · obtain ⟨f1, f2⟩ := hr.freeze (P := P) pre.length
      refine ⟨_, _, _, ?_, ⟨rfl, rfl⟩, Hd.mkSlc e1 e2 hc f2, ⟨by simp [World.freeze], by simp [World.freeze], by simp [World.freeze]⟩⟩
      simp [execOp, A'.ev hx, convert, run_und hs.und, run_und he.und, f1])
    (by rintro v L' ⟨rfl, rfl⟩; exact h)
end
end Go.Sl
set_option linter.unusedVariables false
set_option linter.unusedSimpArgs false
namespace Go.Sl
set_option linter.unnecessarySimpa false
open Go
section
variable {P : Program} {n : Nat} {w0 : World} {Q : Exit → Act → World → Prop} {env : Env} {L M R : List SP} {ops : Array Oper}
theorem zeroCells_one (z : Value) (q : Nat) : (Builtin.zeroCells #[z] q).toList = List.replicate q z := by
  simp only [Builtin.zeroCells, List.size_toArray, List.length_cons, List.length_nil, Nat.zero_add, Nat.mul_one, Array.toList_map, Array.toList_range]
  apply List.ext_getElem
  · simp
  · intro i h1 h2
    simp [Nat.mod_one]
/-- Zeros are appended to bytes. -/
theorem run_append_zero {t e y xt : Nat} [h : SliceTy P t e 1 y] [hx : UndTy P xt (.int .i64)] {zv : Value} [hz : ZeroTy P e [zv]] {a : Option Addr} {m c q : Nat} {xs : List Value} {w : World} {tt : TypeId}
    (H : Hd w (slc e 1 a m c xs :: L)) (h1 : zv.oneCell' = true) (hq : q ≤ 1099511627776) (hb : (m + q) * y ≤ 140737488355328) (hb2 : m + q ≤ 9223372036854775807) :
    ∃ a' c' w', (Builtin.append_ #[t, xt] tt #[.slice a m c, .int .i64 (q : Int)]).run P w = .ok (.slice a' (m + q) c') w' ∧
      Hd w' (slc e 1 a' (m + q) c' (xs ++ List.replicate q zv) :: L) ∧ Keep w w' := by
  obtain ⟨inf, z, i1, i2, i3, i4, i5⟩ := h.info
  obtain ⟨z2, hz1, hz2⟩ := hz.zero
  obtain ⟨e1, e2, h3⟩ := H.openSlc
  have f1 := e1
  have hzz : z = z2 := by
    have := hz1 w
    simp [zeroValue, typeInfo, i1, i4] at this
    exact this
  have hzc : z.cells = #[zv] := by rw [hzz, hz2]
  have hwrap : IntKind.i64.wrap (q : Int) = q := wrap_fits (k := .i64) (by simp only [fits]; omega)
  have hneg : ¬ ((q : Int) < 0) := by omega
  have hqy : q * y ≤ (m + q) * y := Nat.mul_le_mul_right _ (by omega)
  have h48q : ¬ ((q : Int) * (y : Int) > 2 ^ 48) := by
    have : ((q * y : Nat) : Int) ≤ 140737488355328 := by omega
    rw [Int.natCast_mul] at this
    omega
  have hzl := zeroCells_one zv q
  have hai : ∀ w : World, (asInt (.int .i64 (q : Int))).run P w = .ok (q : Int) w := fun w => by simp [asInt, asIntOf]
  have hai0 : ∀ w : World, (asInt (.int .i64 0)).run P w = .ok 0 w := fun w => by simp [asInt, asIntOf]
  have hw0 : IntKind.i64.wrap 0 = 0 := by decide
  by_cases hroom : m + q ≤ c
  · rcases h3 with ⟨rfl, rfl⟩ | ⟨b, pre, post, rfl, hc, hr'⟩
    · obtain rfl : m = 0 := by omega
      obtain rfl : q = 0 := by omega
      have hx' : xs = [] := List.eq_nil_of_length_eq_zero (by simpa using f1)
      subst hx'
      refine ⟨none, 0, w, ?_, by simpa using H, .refl _⟩
      simp [Builtin.append_, run_und h.und, run_und hx.und, sizeOf, typeInfo, i1, i2, hw0, hai0]
    · obtain ⟨w', hst, hH, hK⟩ := run_storeCells_row (P := P) (o := pre.length + m * 1) (List.replicate q zv) 0 _ w hr' (by simp; omega) (by simp; intro _; exact h1)
      refine ⟨some ⟨b, pre.length, none⟩, c, w', ?_, ?_, hK⟩
      · by_cases hq0 : q = 0
        · subst hq0
          have : w' = w := by simpa [storeCells, eq_comm] using hst
          subst this
          simp [Builtin.append_, run_und h.und, run_und hx.und, sizeOf, typeInfo, i1, i2, hw0, hai0, show m ≤ c by omega, storeCells]
        · simp only [Nat.mul_one] at hst
          have h48' : ¬ (281474976710656 < (q : Int) * (inf.bytes : Int)) := by rw [i3]; omega
          simp [Builtin.append_, run_und h.und, run_und hx.und, sizeOf, typeInfo, zeroValue, i1, i2, i4, hzc, hwrap, hai, hroom, hq0, hneg, h48', hzl, Addr.mk_add, hst]
      · have es : splice (pre ++ xs ++ post) (pre.length + m * 1 + 0) (List.replicate q zv) = pre ++ (xs ++ List.replicate q zv) ++ post.drop q := by
          simp only [splice, Nat.add_zero, List.append_assoc, Nat.mul_one]
          rw [show pre ++ (xs ++ post) = (pre ++ xs) ++ post by simp, show pre.length + m = (pre ++ xs).length by simp; omega, List.take_left, List.drop_append]
          rw [List.drop_of_length_le (by simp), show (pre ++ xs).length + (List.replicate q zv).length - (pre ++ xs).length = q by simp]
          simp
        rw [es] at hH
        refine Hd.mkSlc (by simp [f1]) hroom ?_ hH
        simp only [List.length_drop]
        omega
  · have hg : c < m + q := by omega
    have hn : ¬ (m + q ≤ c) := hroom
    have hfo := firstCells_slc (P := P) (H.drew)
    have h48 := growslice_fits (old := c) (need := m + q) hg hb
    have h48' : ¬ (281474976710656 < Builtin.nextslicecap (m + q) c * y) := by omega
    have h63' : ¬ (9223372036854775807 < ((m : Int) + (q : Int))) := by omega
    have hge := grownCap_ge w (m + q) c e
    have h48q' : ¬ (281474976710656 < (q : Int) * (y : Int)) := by omega
    refine ⟨some ⟨w.heap.size, 0, none⟩, grownCap w (m + q) c e, (w.drew.alloc (.cells (xs ++ List.replicate q zv ++ (Builtin.zeroCells z.cells (grownCap w (m + q) c e - (m + q))).toList).toArray e)), ?_, ?_, ⟨rfl, rfl, rfl⟩⟩
    · have hzq : Builtin.zeroCells z.cells q = (List.replicate q zv).toArray := by
        apply Array.ext'; rw [hzc, hzl]
      by_cases hq0 : q = 0
      · subst hq0
        simp [Builtin.append_, run_und h.und, run_und hx.und, sizeOf, typeInfo, zeroValue, i1, i2, i3, i4, hw0, hai0, hn, h63', h48', Question.forced, hfo, newRow, grownCap] at *
        try omega
      · simp [Builtin.append_, run_und h.und, run_und hx.und, sizeOf, typeInfo, zeroValue, i1, i2, i3, i4, hwrap, hai, hneg, h48q', hq0, hzq, hn, h63', h48', Question.forced, hfo, newRow, grownCap]
        congr 2
        apply Array.ext'
        simp
    · have hd : Hd w.drew L := H.drop.of_heap rfl
      have := hd.alloc (t := e) (cs := xs ++ List.replicate q zv ++ (Builtin.zeroCells z.cells (grownCap w (m + q) c e - (m + q))).toList)
      refine Hd.mkSlc (pre := []) (post := (Builtin.zeroCells z.cells (grownCap w (m + q) c e - (m + q))).toList) (by simp [f1]) hge ?_ (by rw [List.nil_append]; exact this)
      simp [Builtin.zeroCells, i5]
theorem kapZ {K : Act → World → Prop} {d t e y xt : Nat} {x x2 : Operand} {zv : Value} {a : Option Addr} {m c q : Nat} {xs : List Value} {ty : TypeId} {pos : String} {after : Array Edge} {g : Option (Nat × Bool)} [hs : SliceTy P t e 1 y] [hu : UndTy P xt (.int .i64)] [hz : ZeroTy P e [zv]]
    (hd : Nat.blt d n = true) (hx : ev env x = some (.slice a m c)) (hy : ev env x2 = some (.int .i64 (q : Int))) (hp : Pick (slc e 1 a m c xs) L M) (h1 : zv.oneCell' = true) (hq : q ≤ 1099511627776) (hb : (m + q) * y ≤ 140737488355328) (hb2 : m + q ≤ 9223372036854775807)
    (h : ∀ a' c', T n w0 K ((d, .slice a' (m + q) c') :: env) (slc e 1 a' (m + q) c' (xs ++ List.replicate q zv) :: M)) :
    T n w0 (opO P ⟨some d, .call ⟨.builtin .append, #[x, x2], #[t, xt]⟩, ty, pos, after, g⟩ K) env L :=
  T_eff (R := fun v L' => ∃ a' c', v = .slice a' (m + q) c' ∧ L' = slc e 1 a' (m + q) c' (xs ++ List.replicate q zv) :: M) hd (fun a' w A' => by
    obtain ⟨b, c', w', hrun, hH, hK⟩ := run_append_zero (P := P) (t := t) (xt := xt) (e := e) (y := y) (tt := ty) (hp.back A'.heap) h1 hq hb hb2
    exact ⟨_, _, w', by simp [execOp, resolve, invoke, builtin, A'.ev hx, A'.ev hy, hrun], ⟨b, c', rfl, rfl⟩, hH, hK⟩)
    (by rintro v L' ⟨a', c', rfl, rfl⟩; exact h a' c')
/-- A result that lies in a variable. -/
theorem res_agg {t k b t' : Nat} {cs : List Value} [ht : AggTy P t k] (hp : Pick (row b t' cs) L M) (hk : cs.length = k) : ∀ w, Hd w L → (loadVar t ⟨b, 0, none⟩).run P w = .ok (.agg cs.toArray) w := by
  intro w H
  have hc := loadCells_row (P := P) (hp.back H) 0 k (by omega)
  rw [List.drop_zero, List.take_of_length_le (by omega)] at hc
  simp [loadVar, ht.agg, ht.size, hc]
end
end Go.Sl
set_option linter.unusedVariables false
set_option linter.unusedSimpArgs false
namespace Go.Sl
set_option linter.unnecessarySimpa false
open Go
section
variable {P : Program} {n : Nat} {w0 : World} {Q : Exit → Act → World → Prop} {env : Env} {L M R : List SP} {ops : Array Oper}
def okSeqK (ops : Array Oper) (S : List Nat) (k : Array Bool → Bool) : List (Nat × Bool) → Array Bool → Bool
  | [], listed => k listed
  | (i, true) :: r, listed => (Region.ready .any ops listed).contains i && Region.free .any ops listed i && S.all (fun j => Region.waitsFor .any ops j i) && okSeqK ops S k r (listed.setIfInBounds i true)
  | (i, false) :: r, listed => Region.ready .any ops listed == [i] && okSeqK ops S k r (listed.setIfInBounds i true)
def okBr (ops : Array Oper) (S : List Nat) (i : Nat) (r : List (Nat × Bool)) (j : Nat) (s : List (Nat × Bool)) : Array Bool → Bool := fun listed =>
  Region.ready .any ops listed == [i, j] && okSeq ops S r (listed.setIfInBounds i true) && okSeq ops S s (listed.setIfInBounds j true)
theorem anyC_of_seqK {C : World → Prop} {S : List Nat} {N N' : Act → World → Prop} {k : Array Bool → Bool} {f : Nat} (hs : Region.noSelect ops = true)
    (hk : ∀ (listed : Array Bool) (a : Act) (w : World), k listed = true → N' a w → anyC P ops C S N f listed a w) : ∀ (l : List (Nat × Bool)) (listed : Array Bool) (a : Act) (w : World),
    okSeqK ops S k l listed = true → wpSeq P ops C S N' l a w → anyC P ops C S N (l.length + f) listed a w
  | [], _, _, _, hB, h => by rw [List.length_nil, Nat.zero_add]; exact hk _ _ _ hB h
  | (i, true) :: r, listed, a, w, hB, h => by
    simp only [okSeqK, Bool.and_eq_true] at hB
    obtain ⟨⟨⟨hr, hf⟩, hS⟩, hB'⟩ := hB
    obtain ⟨o, v, ho, hy, hC, hrest⟩ := h
    have := anyC_first ho (Region.noSelect_spec hs) hS (r.length + f) listed a w (Region.free_spec ho hf) (by simpa using hr) hy hC (anyC_of_seqK hs hk r _ _ _ hB' hrest) (fun _ h => .inr h)
    rw [List.length_cons, Nat.add_right_comm]; exact this
  | (i, false) :: r, listed, a, w, hB, h => by
    simp only [okSeqK, Bool.and_eq_true, beq_iff_eq] at hB
    obtain ⟨hr, hB'⟩ := hB
    rw [List.length_cons, Nat.add_right_comm]
    refine ⟨fun e => (by rw [e] at hr; cases hr), fun j hj => ?_⟩
    rw [hr] at hj
    obtain rfl : j = i := by simpa using hj
    exact opE.mono (fun a' w' hh => ⟨hh.1, anyC_of_seqK hs hk r _ _ _ hB' hh.2⟩) h
theorem S_bld {dd : Option Nat} {t : TypeId} {offs : List (Nat × Nat)} {zs cs : List Value} [hs : StructTy P t offs zs] {parts : Array (Nat × Operand)} {vs : List (Nat × Value)} {ty : TypeId} {pos : String} {after : Array Edge} {g : Option (Nat × Bool)}
    (hvs : parts.toList.map (fun p => (p.1, ev env p.2)) = vs.map (fun p => (p.1, some p.2))) (hf : fillL offs zs vs = some cs) : Still P n w0 env L ⟨dd, .build t parts, ty, pos, after, g⟩ (.agg cs.toArray) :=
  fun a w A' => by
    obtain ⟨fs, h1, h2⟩ := hs.und
    obtain ⟨z, h3, h4⟩ := hs.zero
    have hpp : (parts.map fun x => (x.1, a.eval x.2)).toList = vs := by
      simp only [Array.toList_map]
      apply List.ext_getElem?
      intro i
      have hi := congrArg (fun l => l[i]?) hvs
      simp only [List.getElem?_map] at hi ⊢
      cases h1 : parts.toList[i]? with
      | none => rw [h1] at hi; cases h2 : vs[i]? <;> simp_all
      | some x =>
        rw [h1] at hi
        cases h2 : vs[i]? with
        | none => simp_all
        | some v =>
          rw [h2] at hi
          simp only [Option.map_some, Option.some.injEq, Prod.mk.injEq] at hi ⊢
          rw [A'.ev hi.2, hi.1]
    have hf' := fill_fillL hf
    have h2' := h2 w
    simp only [execOp, Instr.build, Sem.run_bind, h3, Result.andThen_ok, run_und h1, h4, hpp]
    rw [h2']
    simp only [Result.andThen_ok, hf', Sem.run_pure]
/-- A guard that itself did not run. -/
theorem T_guardU {rest : List Oper} {d : Nat} {op : Op} {ty : TypeId} {pos : String} {after : Array Edge} {j dj : Nat} {want : Bool}
    (hj : (ops[j]?).bind (·.dst) = some dj) (hb : look env dj = some undef) (hd : Nat.blt d n = true)
    (h : T n w0 (wpList P ops Q rest) ((d, undef) :: env) L) : T n w0 (wpList P ops Q (⟨some d, op, ty, pos, after, some (j, want)⟩ :: rest)) env L := by
  intro a w A
  have hyl : yielded ops a.tmps j = none := by
    simp only [yielded, hj, Option.bind_some]
    rw [A.slots _ _ hb]
    rfl
  unfold wpList
  rw [if_neg (by simp [Region.wanted, hyl])]
  exact h _ _ (A.put (by simpa [Nat.blt_eq] using hd) A.heap (.refl _))
theorem T_guardUN {rest : List Oper} {op : Op} {ty : TypeId} {pos : String} {after : Array Edge} {j dj : Nat} {want : Bool}
    (hj : (ops[j]?).bind (·.dst) = some dj) (hb : look env dj = some undef)
    (h : T n w0 (wpList P ops Q rest) env L) : T n w0 (wpList P ops Q (⟨none, op, ty, pos, after, some (j, want)⟩ :: rest)) env L := by
  intro a w A
  have hyl : yielded ops a.tmps j = none := by
    simp only [yielded, hj, Option.bind_some]
    rw [A.slots _ _ hb]
    rfl
  unfold wpList
  rw [if_neg (by simp [Region.wanted, hyl])]
  exact h _ _ (A.puts A.heap (.refl _))
theorem r_stillGU {S : List Nat} {N : Act → World → Prop} {i d j dj : Nat} {want : Bool} {op : Op} {ty : TypeId} {pos : String} {after : Array Edge} {r : List (Nat × Bool)} (ht : Take R L M)
    (hi : ops[i]? = some ⟨some d, op, ty, pos, after, some (j, want)⟩) (hd : Nat.blt d n = true) (hj : (ops[j]?).bind (·.dst) = some dj) (hb : look env dj = some undef)
    (h : T n w0 (wpSeq P ops (fun w => Hd w R ∧ Keep w0 w) S N r) ((d, undef) :: env) L) :
    T n w0 (wpSeq P ops (fun w => Hd w R ∧ Keep w0 w) S N ((i, true) :: r)) env L := by
  intro a w A
  have hyl : yielded ops a.tmps j = none := by
    simp only [yielded, hj, Option.bind_some]
    rw [A.slots _ _ hb]
    rfl
  exact ⟨_, undef, hi, .inr ⟨by simp [Region.wanted, hyl], rfl⟩, ⟨(A.heap.perm ht).append_left, A.keep⟩,
    h _ _ (A.put (by simpa [Nat.blt_eq] using hd) A.heap (.refl _))⟩
theorem d_stillGU {S : List Nat} {N : Act → World → Prop} {i d j dj : Nat} {want : Bool} {op : Op} {ty : TypeId} {pos : String} {after : Array Edge} {r : List (Nat × Bool)}
    (hi : ops[i]? = some ⟨some d, op, ty, pos, after, some (j, want)⟩) (hd : Nat.blt d n = true) (hj : (ops[j]?).bind (·.dst) = some dj) (hb : look env dj = some undef)
    (h : T n w0 (wpSeq P ops (fun w => Hd w L ∧ Keep w0 w) S N r) ((d, undef) :: env) L) :
    T n w0 (wpSeq P ops (fun w => Hd w L ∧ Keep w0 w) S N ((i, true) :: r)) env L := r_stillGU (M := []) (by simp [Take]) hi hd hj hb h
theorem T_both {X Y : Act → World → Prop} (h1 : T n w0 X env L) (h2 : T n w0 Y env L) : T n w0 (fun a w => X a w ∧ Y a w) env L := fun a w A => ⟨h1 a w A, h2 a w A⟩
theorem T_drawB {ix : Nat} {l : List Oper} (R : List SP) (S : List Nat) (pre : List (Nat × Bool)) (i : Nat) (r : List (Nat × Bool)) (j : Nat) (s : List (Nat × Bool)) (hm : P.follows .mixedOrders = true)
    (hlen : (Nat.beq (pre.length + (r.length + 1)) l.length && Nat.beq r.length s.length) = true) (hok : (Region.noSelect l.toArray && okSeqK l.toArray S (okBr l.toArray S i r j s) pre (Array.replicate l.length false)) = true)
    (h : T n w0 (wpSeq P l.toArray (fun w => Hd w R ∧ Keep w0 w) S (fun a w => wpSeq P l.toArray (fun w => Hd w R ∧ Keep w0 w) S (Q .normal) ((i, false) :: r) a w ∧ wpSeq P l.toArray (fun w => Hd w R ∧ Keep w0 w) S (Q .normal) ((j, false) :: s) a w) pre) env L) :
    T n w0 ((Code.region ix l.toArray true).wp P Q) env L := by
  intro a w A
  simp only [Bool.and_eq_true] at hok hlen
  have hl1 : pre.length + (r.length + 1) = l.length := by simpa using hlen.1
  have hl2 : r.length = s.length := by simpa using hlen.2
  refine wp_region_any hm ?_
  have key := anyC_of_seqK (P := P) (C := fun w => Hd w R ∧ Keep w0 w) (S := S) (N := Q .normal) (k := okBr l.toArray S i r j s) (f := r.length + 1) hok.1 (fun listed a w hb hh => by
    simp only [okBr, Bool.and_eq_true, beq_iff_eq] at hb
    obtain ⟨⟨hr, hb1⟩, hb2⟩ := hb
    refine ⟨fun e => (by rw [e] at hr; cases hr), fun x hx => ?_⟩
    rw [hr] at hx
    rcases List.mem_cons.1 hx with rfl | hx
    · exact opE.mono (fun a' w' h3 => ⟨h3.1, anyC_of_seq hok.1 r _ _ _ hb1 h3.2⟩) hh.1
    · obtain rfl : x = j := by simpa using hx
      exact opE.mono (fun a' w' h3 => ⟨h3.1, by rw [hl2]; exact anyC_of_seq hok.1 s _ _ _ hb2 h3.2⟩) hh.2)
    pre (Array.replicate l.length false) a { w with drawn := w.drawn + 1 } hok.2 (h _ _ ⟨A.defers, A.size, A.slots, A.heap.of_heap rfl, A.keep.trans ⟨rfl, rfl, rfl⟩⟩)
  have := wpAny_of_anyC (Q := Q) _ _ _ _ key
  rw [hl1] at this
  simpa using this
end
end Go.Sl
set_option linter.unusedVariables false
set_option linter.unusedSimpArgs false
namespace Go.Sl
set_option linter.unnecessarySimpa false
open Go
section
variable {P : Program} {n : Nat} {w0 : World} {Q : Exit → Act → World → Prop} {env : Env} {L M : List SP} {ops : Array Oper}
variable {A : SP} {ty : TypeId} {pos : String} {after : Array Edge} {g : Option (Nat × Bool)} {K : Act → World → Prop}
theorem Hd.rdSpot {w : World} {k : Nat} {a : Option Addr} {m : Nat} {xs : List Value} (H : Hd w (A :: L)) (hr : Rd A k a m xs) (h0 : 0 < xs.length) : (a.getD default).spot = none := by
  obtain ⟨h1, h2⟩ := H.rd hr
  obtain ⟨b, o, cs, t, fz, rfl, _⟩ := h2 h0
  rfl
/-- A field behind a place of what is only read. -/
theorem S_fieldRd {d : Option Nat} {s f off ft : Nat} {x : Operand} {k : Nat} {a : Option Addr} {m j : Nat} {xs : List Value} [h : FieldTy P s f off ft] (hr : Rd A k a m xs) (hp : Pick A L M) (h0 : 0 < xs.length) (hx : ev env x = some (.pointer (some (sAt a j)))) :
    Still P n w0 env L ⟨d, .fieldAddr s x f, ty, pos, after, g⟩ (.pointer (some (sAt a (j + off)))) :=
  fun a' w A' => by
    have := S_field (P := P) (n := n) (w0 := w0) (L := L) (d := d) (ty := ty) (pos := pos) (after := after) (g := g) (s := s) (f := f) hx a' w A'
    rwa [sAt_add ((hp.back A'.heap).rdSpot hr h0)] at this
theorem kfdRd {d : Nat} {s f off ft : Nat} {x : Operand} {k : Nat} {a : Option Addr} {m j : Nat} {xs : List Value} [hf : FieldTy P s f off ft] (hr : Rd A k a m xs) (hp : Pick A L M) (h0 : 0 < xs.length) (hd : Nat.blt d n = true) (hx : ev env x = some (.pointer (some (sAt a j))))
    (h : T n w0 K ((d, .pointer (some (sAt a (j + off)))) :: env) L) : T n w0 (opO P ⟨some d, .fieldAddr s x f, ty, pos, after, g⟩ K) env L := T_still hd (S_fieldRd hr hp h0 hx) h
/-- Several cells of what is only read. -/
theorem S_ldRA {d : Option Nat} {t k k' : Nat} [ht : AggTy P t k'] {x : Operand} {a : Option Addr} {m j : Nat} {xs vs : List Value} (hr : Rd A k a m xs) (hp : Pick A L M) (hx : ev env x = some (.pointer (some (sAt a j)))) (h0 : 0 < vs.length) (hk : vs.length = k') (hv : (xs.drop j).take k' = vs) :
    Still P n w0 env L ⟨d, .load t x, ty, pos, after, g⟩ (.agg vs.toArray) :=
  fun a' w A' => by
    have H := hp.back A'.heap
    have hl : vs.length ≤ xs.length - j := by
      rw [← hv, List.length_take, List.length_drop]; omega
    obtain ⟨h1, h2⟩ := H.rd hr
    obtain ⟨b, o, cs, t', fz, rfl, e2, e3⟩ := h2 (by omega)
    have hc := run_loadCells_list (P := P) w (sAt (some ⟨b, o, none⟩) j) vs (fun i v hi => by
      have hx2 : xs[j + i]? = some v := by
        rw [← hv, List.getElem?_take] at hi
        split at hi
        · rw [List.getElem?_drop] at hi; exact hi
        · cases hi
      obtain ⟨y, hy, hs, hcell⟩ := H.rdCell hr hx2
      cases hy
      rw [show (sAt (some ⟨b, o, none⟩) j).add i = (⟨b, o, none⟩ : Addr).add (j + i) by rw [sAt, Option.getD_some, Addr.add_add _ _ _ rfl]]
      exact hcell)
    rw [hk] at hc
    simp [execOp, A'.ev hx, Instr.loadAt, Instr.sureAddr, loadVar, ht.agg, ht.size, hc]
theorem kldRA {d : Nat} {t k k' : Nat} [ht : AggTy P t k'] {x : Operand} {a : Option Addr} {m j : Nat} {xs vs : List Value} (hr : Rd A k a m xs) (hp : Pick A L M) (hd : Nat.blt d n = true) (hx : ev env x = some (.pointer (some (sAt a j)))) (h0 : 0 < vs.length) (hk : vs.length = k') (hv : (xs.drop j).take k' = vs)
    (h : T n w0 K ((d, .agg vs.toArray) :: env) L) : T n w0 (opO P ⟨some d, .load t x, ty, pos, after, g⟩ K) env L := T_still hd (S_ldRA hr hp hx h0 hk hv) h
theorem flat_cell_at {α : Type} {f : α → List Value} {k : Nat} {l : List α} (hk : ∀ x ∈ l, (f x).length = k) {i t : Nat} (hi : i < l.length) (ht : t < k) : (l.flatMap f)[i * k + t]? = (f l[i])[t]? := by
  have h := flat_get f k l i hi hk
  have h2 := congrArg (fun l => l[t]?) h
  simp only [List.getElem?_take, ht, if_true, List.getElem?_drop] at h2
  exact h2
end
end Go.Sl
namespace Go.Proofs
set_option linter.unnecessarySimpa false
open Go Go.Sl
attribute [local irreducible] Still T opO Sl.Inv row slc wpSeq Code.wp wpList Exit.then Exit.inBlock
set_option linter.unusedVariables false
set_option linter.unusedSimpArgs false
set_option maxRecDepth 4000
theorem keys_ctr (r : Nat) : Ctr Tryd.prog 59 [.map (some r)] [] (fun v L => ∃ b, v = .func (.func 68) #[] #[.pointer (some ⟨b, 0, none⟩)] ∧ L = [row b 59 [.map (some r)]]) := by
  refine Ctr.of Tryd.func59 rfl rfl (fun w F => ?_)
  simp only [Tryd.ntmps59, env0, List.cons_append, List.nil_append]
  refine T_seq ?_; refine T_region ?_; refine T_list ?_; refine kbx rfl rfl rfl ?_; intro _b; refine T_list ?_; refine kas rfl rfl ?_; refine T_nil ?_; refine T_thenN ?_; refine T_seq ?_; refine T_region ?_; refine T_list ?_; refine kmf rfl (vs := [.pointer (some ⟨_b, 0, none⟩)]) rfl ?_; refine T_list ?_; refine kas rfl rfl ?_; refine T_nil ?_; refine T_thenN ?_; refine T_ret ?_
  refine T_fin [_] _ ⟨rfl, trivial⟩ ⟨_b, rfl, rfl⟩ ?_
  (repeat (first | exact perm_rest | apply perm_take (by repeat (first | with_reducible apply Pick.here | with_reducible apply Pick.there)) | apply perm_drop))
theorem waits_keys {d : Dsk} (hok : d.ok) {l : List (Int × Value)} (hw : WOk d.w l) (hn : (l.map (·.1)).Nodup) : (l.map (·.1)).mergeSort leI = d.waits.map (fun i : Nat => (i : Int)) := by
  have tr : ∀ a b c : Int, leI a b = true → leI b c = true → leI a c = true := fun a b c h1 h2 => by simp only [leI, decide_eq_true_eq] at *; omega
  have to : ∀ a b : Int, (leI a b || leI b a) = true := fun a b => by simp only [leI, Bool.or_eq_true, decide_eq_true_eq]; omega
  have hr : d.waits.Pairwise (· < ·) := List.Pairwise.sublist List.filter_sublist List.pairwise_lt_range
  have hs : (d.waits.map (fun i : Nat => (i : Int))).Pairwise (fun a b => leI a b = true) := by
    rw [List.pairwise_map]
    exact hr.imp fun h => by simp only [leI, decide_eq_true_eq]; omega
  have hnd : (d.waits.map (fun i : Nat => (i : Int))).Nodup := by
    rw [List.Nodup, List.pairwise_map]
    exact hr.imp fun h => by omega
  refine List.Perm.eq_of_pairwise (le := fun a b => leI a b = true) (fun a b _ _ h1 h2 => by simp only [leI, decide_eq_true_eq] at h1 h2; omega) (List.pairwise_mergeSort tr to _) hs ?_
  refine (List.mergeSort_perm _ _).trans ((List.perm_ext_iff_of_nodup hn hnd).2 fun a => ?_)
  rw [List.mem_map, List.mem_map]
  constructor
  · rintro ⟨⟨k, v⟩, hm, rfl⟩
    obtain ⟨j, s, rfl, hj, hws, rfl⟩ := hw.mem hn hm
    refine ⟨j, List.mem_filter.2 ⟨List.mem_range.2 (by rw [← hok.len]; exact hj), by rw [hws]; rfl⟩, rfl⟩
  · rintro ⟨j, hm, rfl⟩
    obtain ⟨h1, h2⟩ := List.mem_filter.1 hm
    obtain ⟨s, hs⟩ := Option.isSome_iff_exists.1 h2
    exact ⟨_, hw.has (by rw [hok.len]; exact List.mem_range.1 h1) hs, rfl⟩
theorem waits_ctr (p : Nat) (d : Dsk) : Ctr Tryd.prog 42 [.pointer (some ⟨p, 0, none⟩)] [PD p d] (fun v L => ∃ a c, v = .slice a d.waits.length c ∧ L = [slc 3 1 a d.waits.length c (d.waits.map encN), PD p d]) := by
  refine Ctr.of Tryd.func42 rfl rfl (fun w F => ?_)
  simp only [Tryd.ntmps42, env0, List.cons_append, List.nil_append]
  refine T_open Pick.here ?_
  rintro ⟨ka, kc, r, l⟩ ⟨hok, hw⟩
  dsimp only at hw
  simp only [pdL, List.cons_append, List.nil_append]
  refine T_know (p := (l.map (·.1)).Nodup) (fun w H => (Hd.drop (Hd.drop H)).mapNodup) (fun hn => ?_)
  have hwl : d.waits.length ≤ d.k.length := by
    have := List.length_filter_le (fun i => (d.w.getD i none).isSome) (List.range d.k.length)
    rwa [List.length_range] at this
  have hfew := hok.few
  have hkeys := waits_keys hok hw hn
  have hlen : l.length = d.waits.length := by
    have := congrArg List.length hkeys
    rw [List.length_mergeSort, List.length_map, List.length_map] at this; exact this
  have hrange : ∀ q ∈ l, 0 ≤ q.1 ∧ q.1 < 512 := by
    rintro ⟨k, v⟩ hm
    obtain ⟨j, s, rfl, hj, _, _⟩ := hw.mem hn hm
    have := hok.len
    dsimp only; omega
  refine T_seq ?_; refine T_region ?_; refine T_list ?_; refine kas rfl rfl ?_; refine T_nil ?_; refine T_thenN ?_; refine T_seq ?_; refine T_region ?_; refine T_list ?_; refine kmv rfl rfl ?_; refine T_list ?_; refine knc rfl rfl ?_; refine T_list ?_; refine kfd rfl rfl ?_; refine T_list ?_; refine kld rfl rfl (by repeat (first | with_reducible apply Pick.here | with_reducible apply Pick.there)) rfl ?_
  refine T_list ?_; refine T_call rfl (keys_ctr r) (by repeat (first | with_reducible apply Take.nil | apply Take.cons (by repeat (first | with_reducible apply Pick.here | with_reducible apply Pick.there)))) rfl ?_
  rintro v L' ⟨b, rfl, rfl⟩
  simp only [List.cons_append, List.nil_append]
  refine T_list ?_; refine T_call rfl (sorted_ctr b r l hrange (by omega)) (by repeat (first | with_reducible apply Take.nil | apply Take.cons (by repeat (first | with_reducible apply Pick.here | with_reducible apply Pick.there)))) rfl ?_
  rintro v L' ⟨a, c, rfl, rfl⟩
  simp only [List.cons_append, List.nil_append]
  rw [hkeys, hlen, List.map_map]
  refine T_list ?_; refine kas rfl rfl ?_; refine T_nil ?_; refine T_thenN ?_; refine T_ret ?_
  refine T_close (R := pdR d) (Ls := pdL p d) (ka, kc, r, l) ⟨hok, hw⟩ (by repeat (first | with_reducible apply Take.nil | apply Take.cons (by repeat (first | with_reducible apply Pick.here | ((with_reducible refine Pick.rowE ?_); rfl) | ((with_reducible refine Pick.slcE ?_ ?_ ?_) <;> rfl) | ((with_reducible refine Pick.imapE ?_); rfl) | with_reducible apply Pick.there)))) ?_
  refine T_fin [_] _ ⟨rfl, trivial⟩ ⟨a, c, rfl, rfl⟩ ?_
  (repeat (first | exact perm_rest | apply perm_take (by repeat (first | with_reducible apply Pick.here | ((with_reducible refine Pick.rowE ?_); rfl) | ((with_reducible refine Pick.slcE ?_ ?_ ?_) <;> rfl) | ((with_reducible refine Pick.imapE ?_); rfl) | with_reducible apply Pick.there)) | apply perm_drop))
end Go.Proofs
