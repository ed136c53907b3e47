/- Slices that hold given bytes; a crash of a disk; a new disk. Part 8 of 13 of the proof of SlotsPlays; no condition. -/
import Derived.Test.YtmjaepaakpaadaaDoorWalkF
import Derived.Test.YtmjaepaakpaadaaDoorWalkG
namespace Go.Proofs
set_option linter.unnecessarySimpa false
open Go Go.Sl
attribute [local irreducible] Still T opO Sl.Inv row slc wpSeq Code.wp wpList Exit.then Exit.inBlock
set_option linter.unusedVariables false
set_option linter.unusedSimpArgs false
set_option maxRecDepth 4000
/-- Slices that hold given bytes. -/
def Holds (A : SP) (v : Value) (s : Bytes) : Prop := ∃ a c, v = .slice a s.length c ∧ Rd A 1 a s.length (s.map encB)
theorem rsame_ctr (A B : SP) (aa ab : Option Addr) (ca cb : Nat) (ks js : List Bytes) (va vb : List Value) (hla : va.length = ks.length) (hlb : vb.length = js.length) (hk : ks.length ≤ 512)
    (ha : ∀ i, i < ks.length → Holds A (va.getD i undef) (ks.getD i [])) (hb : ∀ i, i < js.length → Holds B (vb.getD i undef) (js.getD i [])) :
    Ctr Tryd.prog 23 [.slice aa ks.length ca, .slice ab js.length cb] [slc 36 1 aa ks.length ca va, slc 36 1 ab js.length cb vb, A, B]
      (fun v L => v = .bool (decide (ks = js)) ∧ L = [slc 36 1 aa ks.length ca va, slc 36 1 ab js.length cb vb, A, B]) := by
  refine Ctr.of Tryd.func23 rfl rfl (fun w F => ?_)
  simp only [Tryd.ntmps23, env0, List.cons_append, List.nil_append]
  refine T_seq ?_; refine T_region ?_; refine T_list ?_; refine kas rfl rfl ?_; refine T_nil ?_; refine T_thenN ?_; refine T_seq ?_; refine T_seq ?_; refine T_region ?_; refine T_list ?_; refine kmv rfl rfl ?_; refine T_list ?_; refine klen rfl rfl ?_; refine T_list ?_; refine kmv rfl rfl ?_; refine T_list ?_; refine klen rfl rfl ?_; refine T_list ?_; refine kcmp rfl rfl rfl rfl ?_; refine T_nil ?_; refine T_thenN ?_
  refine T_cond rfl (fun h => ?_) (fun h => ?_) <;> simp only [decide_eq_true_eq, decide_eq_false_iff_not, ne_eq, Decidable.not_not, Bool.not_eq_true', Bool.not_eq_false', Bool.cond_eq_true_distrib, Bool.cond_eq_false_distrib] at h
  · refine T_seq ?_; refine T_region ?_; refine T_list ?_; refine kas rfl rfl ?_; refine T_nil ?_; refine T_thenN ?_; refine T_ret ?_; refine T_thenR ?_
    refine T_fin [_] _ ⟨rfl, trivial⟩ ⟨?_, rfl⟩ perm_rest
    have : ¬ ks = js := fun e => by subst e; omega
    rw [decide_eq_false this]; rfl
  · refine T_skip ?_; refine T_thenN ?_; refine T_seq ?_; refine T_seq ?_; refine T_region ?_; refine T_list ?_; refine kas rfl rfl ?_; refine T_nil ?_; refine T_thenN ?_; refine T_block ?_
    have hlen : ks.length = js.length := by omega
    refine T_loop (fun i : Nat => i ≤ ks.length ∧ ks.take i = js.take i) (fun i => [(5, .int .i64 (i : Nat)), (0, .slice aa ks.length ca), (1, .slice ab js.length cb)]) (fun _ => slc 36 1 aa ks.length ca va :: slc 36 1 ab js.length cb vb :: A :: B :: F) (fun i => ks.length - i) ?_ ?_
    · exact T_inv 0 ⟨Nat.zero_le _, rfl⟩ ⟨rfl, rfl, rfl, trivial⟩ perm_rest
    · rintro i ⟨hi, he⟩
      refine T_seq ?_; refine T_seq ?_; refine T_region ?_; refine T_list ?_; refine kmv rfl rfl ?_; refine T_list ?_; refine kmv rfl rfl ?_; refine T_list ?_; refine klen rfl rfl ?_; refine T_list ?_; refine kcmp rfl rfl rfl rfl ?_; refine T_nil ?_; refine T_thenN ?_
      refine T_cond rfl (fun h => ?_) (fun h => ?_) <;> simp only [decide_eq_true_eq, decide_eq_false_iff_not, ne_eq, Decidable.not_not, Bool.not_eq_true', Bool.not_eq_false', Bool.cond_eq_true_distrib, Bool.cond_eq_false_distrib] at h
      · have h1 : i < ks.length := by omega
        have h2 : i < js.length := by omega
        obtain ⟨x1, y1, e1, r1⟩ := ha i h1
        obtain ⟨x2, y2, e2, r2⟩ := hb i h2
        have g1 : va[i]? = some (va.getD i undef) := getD_lt (by omega) _
        have g2 : vb[i]? = some (vb.getD i undef) := getD_lt (by omega) _
        rw [e1] at g1
        rw [e2] at g2
        have k1 : ks.getD i [] = ks[i] := by rw [List.getD_eq_getElem?_getD, List.getElem?_eq_getElem h1]; rfl
        have k2 : js.getD i [] = js[i] := by rw [List.getD_eq_getElem?_getD, List.getElem?_eq_getElem h2]; rfl
        rw [k1] at g1 r1
        rw [k2] at g2 r2
        refine T_skip ?_; refine T_thenN ?_; refine T_seq ?_; refine T_block ?_; refine T_seq ?_
        refine T_draw [] [(0, true), (1, true), (2, true), (3, true), (4, true), (5, true), (6, true), (7, true), (8, true), (9, true), (10, true)] mixedT rfl (by kernel_rfl) ?_
        refine d_stillX rfl rfl ?_; refine ⟨_, (S_move rfl), ?_⟩; refine d_stillX rfl rfl ?_; refine ⟨_, (S_move rfl), ?_⟩; refine d_stillX rfl rfl ?_; refine ⟨_, (S_ix1 rfl rfl (by repeat (first | with_reducible apply Pick.here | with_reducible apply Pick.there)) h1), ?_⟩; refine d_stillX rfl rfl ?_; refine ⟨_, (S_loadS rfl (by repeat (first | with_reducible apply Pick.here | with_reducible apply Pick.there)) g1), ?_⟩; refine d_stillX rfl rfl ?_; refine ⟨_, (S_cvS r1 (by repeat (first | with_reducible apply Pick.here | with_reducible apply Pick.there)) rfl), ?_⟩; refine d_stillX rfl rfl ?_; refine ⟨_, (S_move rfl), ?_⟩; refine d_stillX rfl rfl ?_; refine ⟨_, (S_move rfl), ?_⟩; refine d_stillX rfl rfl ?_; refine ⟨_, (S_ix1 rfl rfl (by repeat (first | with_reducible apply Pick.here | with_reducible apply Pick.there)) h2), ?_⟩; refine d_stillX rfl rfl ?_; refine ⟨_, (S_loadS rfl (by repeat (first | with_reducible apply Pick.here | with_reducible apply Pick.there)) g2), ?_⟩; refine d_stillX rfl rfl ?_; refine ⟨_, (S_cvS r2 (by repeat (first | with_reducible apply Pick.here | with_reducible apply Pick.there)) rfl), ?_⟩; refine d_stillX rfl rfl ?_; refine ⟨_, (S_neStr rfl rfl), ?_⟩; refine T_seqNil ?_; refine T_thenN ?_
        rw [byteArray_beq]
        refine T_cond rfl (fun hc => ?_) (fun hc => ?_) <;> simp only [Bool.not_eq_true', Bool.not_eq_false', decide_eq_true_eq, decide_eq_false_iff_not] at hc
        · refine T_seq ?_; refine T_region ?_; refine T_list ?_; refine kas rfl rfl ?_; refine T_nil ?_; refine T_thenN ?_; refine T_ret ?_; refine T_inR ?_; refine T_thenR ?_; refine T_thenR ?_; refine T_inR ?_; refine T_thenR ?_
          refine T_fin [_] _ ⟨rfl, trivial⟩ ⟨?_, rfl⟩ perm_rest
          have : ¬ ks = js := fun e => by subst e; exact hc rfl
          rw [decide_eq_false this]; rfl
        · refine T_skip ?_; refine T_inN ?_; refine T_thenN ?_; refine T_region ?_; refine T_list ?_; refine kmv rfl rfl ?_; refine T_list ?_; refine kar rfl rfl rfl rfl (by simp only [fits]; omega) ?_; refine T_list ?_; refine kas rfl rfl ?_; refine T_nil ?_; refine T_thenN ?_
          refine T_inv (i + 1) ⟨⟨(by first | omega | (dsimp only; omega)), ?_⟩, (by first | omega | (dsimp only; omega))⟩ ⟨rfl, rfl, rfl, trivial⟩ perm_rest
          rw [take_snoc h1, take_snoc h2, he, hc]
      · refine T_exit ?_; refine T_thenE ?_; refine T_thenE ?_; refine T_inE ?_; refine T_thenN ?_; refine T_seq ?_; refine T_region ?_; refine T_list ?_; refine kas rfl rfl ?_; refine T_nil ?_; refine T_thenN ?_; refine T_ret ?_
        refine T_fin [_] _ ⟨rfl, trivial⟩ ⟨?_, rfl⟩ perm_rest
        have : ks = js := by
          rw [List.take_of_length_le (by omega), List.take_of_length_le (by omega)] at he; exact he
        rw [decide_eq_true this]; rfl
end Go.Proofs
namespace Go.Proofs
set_option linter.unnecessarySimpa false
open Go Go.Sl
attribute [local irreducible] Still T opO Sl.Inv row slc wpSeq Code.wp wpList Exit.then Exit.inBlock
set_option linter.unusedVariables false
set_option linter.unusedSimpArgs false
set_option maxRecDepth 4000
theorem keeps_len : ∀ (l : List Nat) (d : Dsk) (keep : List Bool) (k : Nat), (d.keeps keep k l).k.length = d.k.length ∧ (d.keeps keep k l).w.length = d.w.length
  | [], d, keep, k => ⟨rfl, rfl⟩
  | i :: l, d, keep, k => by
    obtain ⟨h1, h2⟩ := keeps_len l (d.keep i (keep.getD k false)) keep (k + 1)
    refine ⟨h1.trans ?_, h2.trans ?_⟩
    · simp only [Dsk.keep]; split <;> simp
    · simp only [Dsk.keep, List.length_set]
/-- Where it is, in a crash: l is what is left. -/
def Waiting (d : Dsk) (l : List Nat) : Prop := l.Nodup ∧ ∀ i ∈ l, i < d.k.length ∧ (d.w.getD i none).isSome = true
theorem Waiting.keep {d : Dsk} {i : Nat} {l : List Nat} (hl : d.w.length = d.k.length) (h : Waiting d (i :: l)) (b : Bool) : Waiting (d.keep i b) l := by
  obtain ⟨h1, h2⟩ := h
  rw [List.nodup_cons] at h1
  refine ⟨h1.2, fun j hj => ?_⟩
  obtain ⟨g1, g2⟩ := h2 j (List.mem_cons_of_mem _ hj)
  have hji : ¬ i = j := fun e => h1.1 (e ▸ hj)
  have hi := (h2 i List.mem_cons_self).1
  constructor
  · simp only [Dsk.keep]; split <;> simpa using g1
  · simp only [Dsk.keep, List.getD_eq_getElem?_getD, List.getElem?_set, if_neg hji]
    rw [List.getD_eq_getElem?_getD] at g2; exact g2
theorem waits_waiting (d : Dsk) : Waiting d d.waits := by
  refine ⟨List.Nodup.sublist List.filter_sublist List.nodup_range, fun i hi => ?_⟩
  obtain ⟨h1, h2⟩ := List.mem_filter.1 hi
  exact ⟨List.mem_range.1 h1, h2⟩
set_option maxHeartbeats 1000000 in
theorem rcrash_ctr (p : Nat) (d : Dsk) (A : SP) (ak : Option Addr) (ck : Nat) (keep : List Bool) (hr : Rd A 1 ak keep.length (keep.map .bool)) (hkl : keep.length ≤ 1099511627776) :
    Ctr Tryd.prog 17 [.pointer (some ⟨p, 0, none⟩), .slice ak keep.length ck] [RD p d, A] (fun v L => L = [RD p (d.crash keep), A]) := by
  refine Ctr.of Tryd.func17 rfl rfl (fun w F => ?_)
  simp only [Tryd.ntmps17, env0, List.cons_append, List.nil_append]
  refine T_know (p := d.ok) (fun w H => by obtain ⟨x, hx, _⟩ := (Pick.here.back H).openAb; exact hx.ok) (fun hok => ?_)
  have hfew := hok.few
  refine T_seq ?_; refine T_region ?_; refine T_list ?_; refine kmv rfl rfl ?_
  refine T_list ?_; refine T_call rfl (rwaits_ctr p d) (by repeat (first | with_reducible apply Take.nil | apply Take.cons (by repeat (first | with_reducible apply Pick.here | with_reducible apply Pick.there)))) rfl ?_
  rintro v L' ⟨a, c, rfl, rfl⟩
  simp only [List.cons_append, List.nil_append]
  have hwl : d.waits.length ≤ d.k.length := by
    have := List.length_filter_le (fun i => (d.w.getD i none).isSome) (List.range d.k.length)
    rwa [List.length_range] at this
  refine T_list ?_; refine kas rfl rfl ?_; refine T_nil ?_; refine T_thenN ?_; refine T_seq ?_; refine T_seq ?_; refine T_region ?_; refine T_list ?_; refine kas rfl rfl ?_; refine T_nil ?_; refine T_thenN ?_; refine T_block ?_
  refine T_loop (ι := Nat × Dsk) (fun y => y.1 ≤ d.waits.length ∧ y.2.ok ∧ Waiting y.2 (d.waits.drop y.1) ∧ y.2.k.length = d.k.length ∧ y.2.keeps keep y.1 (d.waits.drop y.1) = d.keeps keep 0 d.waits)
    (fun y => [(5, .int .i64 (y.1 : Nat)), (4, .slice a d.waits.length c), (0, .pointer (some ⟨p, 0, none⟩)), (1, .slice ak keep.length ck)])
    (fun y => RD p y.2 :: slc 3 1 a d.waits.length c (d.waits.map encN) :: A :: F) (fun y => d.waits.length - y.1) ?_ ?_
  · refine T_inv (0, d) ⟨Nat.zero_le _, hok, waits_waiting d, rfl, rfl⟩ ⟨rfl, rfl, rfl, rfl, trivial⟩ ?_
    (repeat (first | exact perm_rest | apply perm_take (by repeat (first | with_reducible apply Pick.here | with_reducible apply Pick.there)) | apply perm_drop))
  · rintro ⟨i, e⟩ ⟨hi, heok, hwt, hel, hkeep⟩
    dsimp only at hi heok hwt hel hkeep ⊢
    refine T_seq ?_; refine T_seq ?_; refine T_region ?_; refine T_list ?_; refine kmv rfl rfl ?_; refine T_list ?_; refine kmv rfl rfl ?_; refine T_list ?_; refine klen rfl rfl ?_; refine T_list ?_; refine kcmp rfl rfl rfl rfl ?_; refine T_nil ?_; refine T_thenN ?_
    refine T_cond rfl (fun h => ?_) (fun h => ?_) <;> simp only [decide_eq_true_eq, decide_eq_false_iff_not, ne_eq, Decidable.not_not, Bool.not_eq_true', Bool.not_eq_false', Bool.cond_eq_true_distrib, Bool.cond_eq_false_distrib] at h
    · have h1 : i < d.waits.length := by omega
      have hd := List.drop_eq_getElem_cons h1
      rw [hd] at hwt hkeep
      generalize hj : d.waits[i] = j at *
      obtain ⟨g1, g2⟩ := hwt.2 j List.mem_cons_self
      have hget : (d.waits.map encN)[i]? = some (.int .i64 (j : Int)) := by
        rw [List.getElem?_map, List.getElem?_eq_getElem h1, hj]; rfl
      refine T_skip ?_; refine T_thenN ?_; refine T_seq ?_; refine T_block ?_
      refine T_drawR ([slc 3 1 a d.waits.length c (d.waits.map encN), A]) [] [(0, true), (1, true), (2, true), (3, true), (4, true), (5, true), (6, true), (7, true), (8, true), (9, true), (10, true), (11, true), (12, true), (13, true), (14, true), (15, false)] mixedT rfl (by kernel_rfl) ?_
      by_cases hik : i < keep.length
      · have hkg : (keep.map Value.bool)[i]? = some (.bool (keep.getD i false)) := by
          rw [List.getElem?_map, List.getElem?_eq_getElem hik, List.getD_eq_getElem?_getD, List.getElem?_eq_getElem hik]; rfl
        refine r_still (by repeat (first | with_reducible apply Take.nil | apply Take.cons (by repeat (first | with_reducible apply Pick.here | with_reducible apply Pick.there)))) rfl rfl ?_; refine ⟨_, (S_move rfl), ?_⟩; refine r_still (by repeat (first | with_reducible apply Take.nil | apply Take.cons (by repeat (first | with_reducible apply Pick.here | with_reducible apply Pick.there)))) rfl rfl ?_; refine ⟨_, (S_move rfl), ?_⟩; refine r_still (by repeat (first | with_reducible apply Take.nil | apply Take.cons (by repeat (first | with_reducible apply Pick.here | with_reducible apply Pick.there)))) rfl rfl ?_; refine ⟨_, (S_move rfl), ?_⟩; refine r_still (by repeat (first | with_reducible apply Take.nil | apply Take.cons (by repeat (first | with_reducible apply Pick.here | with_reducible apply Pick.there)))) rfl rfl ?_; refine ⟨_, (S_ix1 rfl rfl (by repeat (first | with_reducible apply Pick.here | with_reducible apply Pick.there)) h1), ?_⟩; refine r_still (by repeat (first | with_reducible apply Take.nil | apply Take.cons (by repeat (first | with_reducible apply Pick.here | with_reducible apply Pick.there)))) rfl rfl ?_; refine ⟨_, (S_loadS rfl (by repeat (first | with_reducible apply Pick.here | with_reducible apply Pick.there)) hget), ?_⟩; refine r_still (by repeat (first | with_reducible apply Take.nil | apply Take.cons (by repeat (first | with_reducible apply Pick.here | with_reducible apply Pick.there)))) rfl rfl ?_; refine ⟨_, (S_move rfl), ?_⟩; refine r_still (by repeat (first | with_reducible apply Take.nil | apply Take.cons (by repeat (first | with_reducible apply Pick.here | with_reducible apply Pick.there)))) rfl rfl ?_; refine ⟨_, (S_move rfl), ?_⟩; refine r_still (by repeat (first | with_reducible apply Take.nil | apply Take.cons (by repeat (first | with_reducible apply Pick.here | with_reducible apply Pick.there)))) rfl rfl ?_; refine ⟨_, (S_lenSlice rfl), ?_⟩; refine r_still (by repeat (first | with_reducible apply Take.nil | apply Take.cons (by repeat (first | with_reducible apply Pick.here | with_reducible apply Pick.there)))) rfl rfl ?_; refine ⟨_, (S_cmpT rfl rfl rfl (by simp only [decide_eq_true_eq]; omega)), ?_⟩; refine r_still (by repeat (first | with_reducible apply Take.nil | apply Take.cons (by repeat (first | with_reducible apply Pick.here | with_reducible apply Pick.there)))) rfl rfl ?_; refine ⟨_, (S_move rfl), ?_⟩; refine r_stillGY (by repeat (first | with_reducible apply Take.nil | apply Take.cons (by repeat (first | with_reducible apply Pick.here | with_reducible apply Pick.there)))) rfl rfl rfl rfl ?_; refine ⟨_, (S_move rfl), ?_⟩; refine r_stillGY (by repeat (first | with_reducible apply Take.nil | apply Take.cons (by repeat (first | with_reducible apply Pick.here | with_reducible apply Pick.there)))) rfl rfl rfl rfl ?_; refine ⟨_, (S_move rfl), ?_⟩; refine r_stillGY (by repeat (first | with_reducible apply Take.nil | apply Take.cons (by repeat (first | with_reducible apply Pick.here | with_reducible apply Pick.there)))) rfl rfl rfl rfl ?_; refine ⟨_, (S_ixR1 hr (by repeat (first | with_reducible apply Pick.here | with_reducible apply Pick.there)) rfl rfl hik), ?_⟩; refine r_stillGY (by repeat (first | with_reducible apply Take.nil | apply Take.cons (by repeat (first | with_reducible apply Pick.here | with_reducible apply Pick.there)))) rfl rfl rfl rfl ?_; refine ⟨_, (S_ldR hr (by repeat (first | with_reducible apply Pick.here | with_reducible apply Pick.there)) rfl hkg), ?_⟩; refine r_still (by repeat (first | with_reducible apply Take.nil | apply Take.cons (by repeat (first | with_reducible apply Pick.here | with_reducible apply Pick.there)))) rfl rfl ?_; refine ⟨_, (S_pickT rfl rfl), ?_⟩
        refine T_seqOp rfl ?_; refine T_call rfl (rkeep_ctr p e j (keep.getD i false) g1 (fun _ => g2)) (by repeat (first | with_reducible apply Take.nil | apply Take.cons (by repeat (first | with_reducible apply Pick.here | with_reducible apply Pick.there)))) rfl ?_
        rintro v L' rfl
        simp only [List.cons_append, List.nil_append]
        have hok2 : (e.keep j (keep.getD i false)).ok := heok.keep g2
        have hl2 : (e.keep j (keep.getD i false)).k.length = d.k.length := by rw [← hel]; simp only [Dsk.keep]; split <;> simp
        refine r_back (by repeat (first | with_reducible apply Take.nil | apply Take.cons (by repeat (first | with_reducible apply Pick.here | with_reducible apply Pick.there)))) ?_; refine T_seqNil ?_; refine T_inN ?_; refine T_thenN ?_; refine T_region ?_; refine T_list ?_; refine kmv rfl rfl ?_; refine T_list ?_; refine kaddN rfl rfl (q := 1) rfl (by simp only [fits]; omega) ?_; refine T_list ?_; refine kas rfl rfl ?_; refine T_nil ?_; refine T_thenN ?_
        refine T_inv (i + 1, e.keep j (keep.getD i false)) ⟨⟨(by first | omega | (dsimp only; omega)), hok2, hwt.keep heok.len _, hl2, hkeep⟩, (by first | omega | (dsimp only; omega))⟩ ⟨rfl, rfl, rfl, rfl, trivial⟩ ?_
        (repeat (first | exact perm_rest | apply perm_take (by repeat (first | with_reducible apply Pick.here | with_reducible apply Pick.there)) | apply perm_drop))
      · have hkg : keep.getD i false = false := by
          rw [List.getD_eq_getElem?_getD, List.getElem?_eq_none (by omega)]; rfl
        refine r_still (by repeat (first | with_reducible apply Take.nil | apply Take.cons (by repeat (first | with_reducible apply Pick.here | with_reducible apply Pick.there)))) rfl rfl ?_; refine ⟨_, (S_move rfl), ?_⟩; refine r_still (by repeat (first | with_reducible apply Take.nil | apply Take.cons (by repeat (first | with_reducible apply Pick.here | with_reducible apply Pick.there)))) rfl rfl ?_; refine ⟨_, (S_move rfl), ?_⟩; refine r_still (by repeat (first | with_reducible apply Take.nil | apply Take.cons (by repeat (first | with_reducible apply Pick.here | with_reducible apply Pick.there)))) rfl rfl ?_; refine ⟨_, (S_move rfl), ?_⟩; refine r_still (by repeat (first | with_reducible apply Take.nil | apply Take.cons (by repeat (first | with_reducible apply Pick.here | with_reducible apply Pick.there)))) rfl rfl ?_; refine ⟨_, (S_ix1 rfl rfl (by repeat (first | with_reducible apply Pick.here | with_reducible apply Pick.there)) h1), ?_⟩; refine r_still (by repeat (first | with_reducible apply Take.nil | apply Take.cons (by repeat (first | with_reducible apply Pick.here | with_reducible apply Pick.there)))) rfl rfl ?_; refine ⟨_, (S_loadS rfl (by repeat (first | with_reducible apply Pick.here | with_reducible apply Pick.there)) hget), ?_⟩; refine r_still (by repeat (first | with_reducible apply Take.nil | apply Take.cons (by repeat (first | with_reducible apply Pick.here | with_reducible apply Pick.there)))) rfl rfl ?_; refine ⟨_, (S_move rfl), ?_⟩; refine r_still (by repeat (first | with_reducible apply Take.nil | apply Take.cons (by repeat (first | with_reducible apply Pick.here | with_reducible apply Pick.there)))) rfl rfl ?_; refine ⟨_, (S_move rfl), ?_⟩; refine r_still (by repeat (first | with_reducible apply Take.nil | apply Take.cons (by repeat (first | with_reducible apply Pick.here | with_reducible apply Pick.there)))) rfl rfl ?_; refine ⟨_, (S_lenSlice rfl), ?_⟩; refine r_still (by repeat (first | with_reducible apply Take.nil | apply Take.cons (by repeat (first | with_reducible apply Pick.here | with_reducible apply Pick.there)))) rfl rfl ?_; refine ⟨_, (S_cmpF rfl rfl rfl (by simp only [decide_eq_false_iff_not]; omega)), ?_⟩; refine r_still (by repeat (first | with_reducible apply Take.nil | apply Take.cons (by repeat (first | with_reducible apply Pick.here | with_reducible apply Pick.there)))) rfl rfl ?_; refine ⟨_, (S_move rfl), ?_⟩; refine r_stillGN (by repeat (first | with_reducible apply Take.nil | apply Take.cons (by repeat (first | with_reducible apply Pick.here | with_reducible apply Pick.there)))) rfl rfl rfl rfl rfl ?_; refine r_stillGN (by repeat (first | with_reducible apply Take.nil | apply Take.cons (by repeat (first | with_reducible apply Pick.here | with_reducible apply Pick.there)))) rfl rfl rfl rfl rfl ?_; refine r_stillGN (by repeat (first | with_reducible apply Take.nil | apply Take.cons (by repeat (first | with_reducible apply Pick.here | with_reducible apply Pick.there)))) rfl rfl rfl rfl rfl ?_; refine r_stillGN (by repeat (first | with_reducible apply Take.nil | apply Take.cons (by repeat (first | with_reducible apply Pick.here | with_reducible apply Pick.there)))) rfl rfl rfl rfl rfl ?_; refine r_still (by repeat (first | with_reducible apply Take.nil | apply Take.cons (by repeat (first | with_reducible apply Pick.here | with_reducible apply Pick.there)))) rfl rfl ?_; refine ⟨_, (S_pickF rfl rfl), ?_⟩
        refine T_seqOp rfl ?_; refine T_call rfl (rkeep_ctr p e j false g1 (fun h => by cases h)) (by repeat (first | with_reducible apply Take.nil | apply Take.cons (by repeat (first | with_reducible apply Pick.here | with_reducible apply Pick.there)))) rfl ?_
        rintro v L' rfl
        simp only [List.cons_append, List.nil_append]
        have hok2 : (e.keep j false).ok := heok.keep g2
        have hl2 : (e.keep j false).k.length = d.k.length := by rw [← hel]; simp only [Dsk.keep]; split <;> simp
        refine r_back (by repeat (first | with_reducible apply Take.nil | apply Take.cons (by repeat (first | with_reducible apply Pick.here | with_reducible apply Pick.there)))) ?_; refine T_seqNil ?_; refine T_inN ?_; refine T_thenN ?_; refine T_region ?_; refine T_list ?_; refine kmv rfl rfl ?_; refine T_list ?_; refine kaddN rfl rfl (q := 1) rfl (by simp only [fits]; omega) ?_; refine T_list ?_; refine kas rfl rfl ?_; refine T_nil ?_; refine T_thenN ?_
        refine T_inv (i + 1, e.keep j false) ⟨⟨(by first | omega | (dsimp only; omega)), hok2, hwt.keep heok.len _, hl2, by rw [← hkeep, Dsk.keeps, hkg]⟩, (by first | omega | (dsimp only; omega))⟩ ⟨rfl, rfl, rfl, rfl, trivial⟩ ?_
        (repeat (first | exact perm_rest | apply perm_take (by repeat (first | with_reducible apply Pick.here | with_reducible apply Pick.there)) | apply perm_drop))
    · obtain rfl : i = d.waits.length := by omega
      rw [List.drop_length] at hkeep
      have hE : e = d.keeps keep 0 d.waits := hkeep
      refine T_exit ?_; refine T_thenE ?_; refine T_thenE ?_; refine T_inE ?_; refine T_thenN ?_; refine T_region ?_; refine T_list ?_; refine kmv rfl rfl ?_; refine T_list ?_; refine knc rfl rfl ?_; refine T_list ?_; refine kfd rfl rfl ?_
      refine T_open Pick.here ?_
      rintro x hx
      simp only [rdL, List.cons_append, List.nil_append]
      have hcr : rdR (d.crash keep) x := by
        have h2 : rdR { e with left := -1 } x := ⟨⟨hx.ok.len, hx.ok.few, hx.ok.k64, hx.ok.w64, by simp, by simp⟩, hx.lenK, hx.lenW, hx.oneW, hx.secK, hx.secW⟩
        rw [hE] at h2; exact h2
      have hck : (d.crash keep).k = e.k := by rw [hE]; rfl
      have hcw : (d.crash keep).w = e.w := by rw [hE]; rfl
      refine T_list ?_; refine kst rfl rfl rfl (by repeat (first | with_reducible apply Pick.here | with_reducible apply Pick.there)) rfl ?_; refine T_nil ?_
      refine T_close (R := rdR (d.crash keep)) (Ls := rdL p (d.crash keep)) x hcr (M := slc 3 1 a d.waits.length c (d.waits.map encN) :: A :: F) ?_ ?_
      · simp only [rdL, hck, hcw]
        exact (by repeat (first | with_reducible apply Take.nil | apply Take.cons (by repeat (first | with_reducible apply Pick.here | ((with_reducible refine Pick.rowE ?_); rfl) | ((with_reducible refine Pick.slcE ?_ ?_ ?_) <;> rfl) | ((with_reducible refine Pick.imapE ?_); rfl) | with_reducible apply Pick.there))))
      · refine T_finN [] _ trivial rfl ?_
        (repeat (first | exact perm_rest | apply perm_take (by repeat (first | with_reducible apply Pick.here | with_reducible apply Pick.there)) | apply perm_drop))
end Go.Proofs
namespace Go.Proofs
set_option linter.unnecessarySimpa false
open Go Go.Sl
attribute [local irreducible] Still T opO Sl.Inv row slc wpSeq Code.wp wpList Exit.then Exit.inBlock
set_option linter.unusedVariables false
set_option linter.unusedSimpArgs false
set_option maxRecDepth 4000
set_option maxHeartbeats 8000000 in
theorem dcrash_ctr (p : Nat) (d : Dsk) (A : SP) (ak : Option Addr) (ck : Nat) (keep : List Bool) (hr : Rd A 1 ak keep.length (keep.map .bool)) (hkl : keep.length ≤ 1099511627776) :
    Ctr Tryd.prog 16 [.pointer (some ⟨p, 0, none⟩), .slice ak keep.length ck] [PD p d, A] (fun v L => L = [PD p (d.crash keep), A]) := by
  refine Ctr.of Tryd.func16 rfl rfl (fun w F => ?_)
  simp only [Tryd.ntmps16, env0, List.cons_append, List.nil_append]
  refine T_know (p := d.ok) (fun w H => by obtain ⟨x, hx, _⟩ := (Pick.here.back H).openAb; exact hx.1) (fun hok => ?_)
  have hfew := hok.few
  refine T_seq ?_; refine T_seq ?_; refine T_region ?_; refine T_list ?_; refine kmv rfl rfl ?_
  refine T_list ?_; refine T_call rfl (waits_ctr p d) (by repeat (first | with_reducible apply Take.nil | apply Take.cons (by repeat (first | with_reducible apply Pick.here | with_reducible apply Pick.there)))) rfl ?_
  rintro v L' ⟨a, c, rfl, rfl⟩
  simp only [List.cons_append, List.nil_append]
  have hwl : d.waits.length ≤ d.k.length := by
    have := List.length_filter_le (fun i => (d.w.getD i none).isSome) (List.range d.k.length)
    rwa [List.length_range] at this
  refine T_list ?_; refine klen rfl rfl ?_; refine T_list ?_; refine kmv rfl rfl ?_; refine T_nil ?_; refine T_thenN ?_; refine T_block ?_
  refine T_loop (ι := Nat × Dsk) (fun y => y.1 ≤ d.waits.length ∧ y.2.ok ∧ Waiting y.2 (d.waits.drop y.1) ∧ y.2.k.length = d.k.length ∧ y.2.keeps keep y.1 (d.waits.drop y.1) = d.keeps keep 0 d.waits)
    (fun y => [(9, .int .i64 (y.1 : Nat)), (7, .slice a d.waits.length c), (8, .int .i64 (d.waits.length : Nat)), (0, .pointer (some ⟨p, 0, none⟩)), (1, .slice ak keep.length ck)])
    (fun y => PD p y.2 :: slc 3 1 a d.waits.length c (d.waits.map encN) :: A :: F) (fun y => d.waits.length - y.1) ?_ ?_
  · refine T_inv (0, d) ⟨Nat.zero_le _, hok, waits_waiting d, rfl, rfl⟩ ⟨rfl, rfl, rfl, rfl, rfl, trivial⟩ ?_
    (repeat (first | exact perm_rest | apply perm_take (by repeat (first | with_reducible apply Pick.here | with_reducible apply Pick.there)) | apply perm_drop))
  · rintro ⟨i, e⟩ ⟨hi, heok, hwt, hel, hkeep⟩
    dsimp only at hi heok hwt hel hkeep ⊢
    refine T_seq ?_; refine T_region ?_; refine T_list ?_; refine kcmp rfl rfl rfl rfl ?_; refine T_nil ?_; refine T_thenN ?_; refine T_seq ?_
    refine T_cond rfl (fun h => ?_) (fun h => ?_) <;> simp only [decide_eq_true_eq, decide_eq_false_iff_not, ne_eq, Decidable.not_not, Bool.not_eq_true', Bool.not_eq_false', Bool.cond_eq_true_distrib, Bool.cond_eq_false_distrib] at h
    · have h1 : i < d.waits.length := by omega
      have hd := List.drop_eq_getElem_cons h1
      rw [hd] at hwt hkeep
      generalize hj : d.waits[i] = j at *
      obtain ⟨g1, g2⟩ := hwt.2 j List.mem_cons_self
      obtain ⟨s, hs⟩ := Option.isSome_iff_exists.1 g2
      have hs64 : s.length = 64 := heok.w64 s (getD_none_some hs)
      have hget : (d.waits.map encN)[i]? = some (.int .i64 (j : Int)) := by
        rw [List.getElem?_map, List.getElem?_eq_getElem h1, hj]; rfl
      have hjw : (0 : Int) ≤ (j : Int) ∧ (j : Int) < e.w.length := by rw [heok.len]; omega
      refine T_open (R := pdR e) (Ls := pdL p e) Pick.here ?_
      rintro ⟨ka, kc, r, l⟩ ⟨_, hw⟩
      dsimp only at hw
      simp only [pdL, List.cons_append, List.nil_append]
      have hf := find_some hw heok (i := (j : Int)) (by unfold Dsk.has; omega)
      rw [Int.toNat_natCast, hs] at hf
      have hdel := hw.del hjw
      rw [Int.toNat_natCast] at hdel
      have h64 : ∀ s ∈ e.k, (s.map encB).length = 64 := k64' heok
      by_cases hik : i < keep.length
      · have F1 : decide ((i : Int) < (keep.length : Nat)) = true := decide_eq_true (by omega)
        cases hkv : keep.getD i false with
        | true =>
          have hkg : (keep.map Value.bool)[i]? = some (.bool true) := by
            rw [← hkv, List.getElem?_map, List.getElem?_eq_getElem hik, List.getD_eq_getElem?_getD, List.getElem?_eq_getElem hik]; rfl
          refine T_skip ?_; refine T_thenN ?_; refine T_seq ?_; refine T_block ?_; refine T_seq ?_; refine T_region ?_; refine T_list ?_; refine kmv rfl rfl ?_; refine T_list ?_; refine kix1 rfl rfl rfl (by repeat (first | with_reducible apply Pick.here | with_reducible apply Pick.there)) h1 ?_; refine T_list ?_; refine kldS rfl rfl (by repeat (first | with_reducible apply Pick.here | with_reducible apply Pick.there)) hget ?_; refine T_list ?_; refine kas rfl rfl ?_; refine T_list ?_; refine kas rfl rfl ?_; refine T_nil ?_; refine T_thenN ?_; refine T_seq ?_; refine T_seq ?_; refine T_region ?_; refine T_list ?_; refine kmv rfl rfl ?_; refine T_list ?_; refine kmv rfl rfl ?_; refine T_list ?_; refine klen rfl rfl ?_; refine T_list ?_; refine kcmpT rfl rfl rfl rfl F1 ?_; refine T_list ?_; refine kmv rfl rfl ?_; refine T_guardY rfl rfl rfl ?_; refine T_list ?_; refine kmv rfl rfl ?_; refine T_guardY rfl rfl rfl ?_; refine T_list ?_; refine kmv rfl rfl ?_; refine T_guardY rfl rfl rfl ?_; refine T_list ?_; refine kixR1 hr (by repeat (first | with_reducible apply Pick.here | with_reducible apply Pick.there)) rfl rfl rfl hik ?_; refine T_guardY rfl rfl rfl ?_; refine T_list ?_; refine kldR hr (by repeat (first | with_reducible apply Pick.here | with_reducible apply Pick.there)) rfl rfl hkg ?_; refine T_list ?_; refine kpT rfl rfl rfl ?_; refine T_nil ?_; refine T_thenN ?_
          refine T_condT rfl ?_
          refine T_draw [12] [(0, true), (1, true), (2, true), (3, true), (4, true), (5, true), (6, true), (7, true), (8, true), (9, true), (10, false), (11, true), (12, false)] mixedT rfl (by kernel_rfl) ?_
          refine d_stillX rfl rfl ?_; refine ⟨_, (S_move rfl), ?_⟩; refine d_stillX rfl rfl ?_; refine ⟨_, (S_nilCheck rfl), ?_⟩; refine d_stillX rfl rfl ?_; refine ⟨_, (S_fieldR rfl), ?_⟩; refine d_stillX rfl rfl ?_; refine ⟨_, (S_load rfl (by repeat (first | with_reducible apply Pick.here | with_reducible apply Pick.there)) rfl), ?_⟩; refine d_stillX rfl rfl ?_; refine ⟨_, (S_move rfl), ?_⟩; refine d_stillX rfl rfl ?_; refine ⟨_, (S_move rfl), ?_⟩; refine d_stillX rfl rfl ?_; refine ⟨_, (S_nilCheck rfl), ?_⟩; refine d_stillX rfl rfl ?_; refine ⟨_, (S_fieldR rfl), ?_⟩; refine d_stillX rfl rfl ?_; refine ⟨_, (S_load rfl (by repeat (first | with_reducible apply Pick.here | with_reducible apply Pick.there)) rfl), ?_⟩; refine d_stillX rfl rfl ?_; refine ⟨_, (S_move rfl), ?_⟩
          refine T_seqOp rfl ?_; refine klk rfl rfl rfl (by repeat (first | with_reducible apply Pick.here | with_reducible apply Pick.there)) (fun z hz => ?_)
          rw [hf]
          simp only [Option.map_some, Option.getD_some]
          refine d_back perm_rest ?_; refine d_stillX rfl rfl ?_; refine ⟨_, (S_ix rfl rfl (by repeat (first | with_reducible apply Pick.here | with_reducible apply Pick.there)) g1), ?_⟩
          refine T_seqOp rfl ?_; refine kstSC (k' := 64) (vs := s.map encB) rfl rfl rfl (ones_encB _) (by rw [List.length_map]; exact hs64) (by decide) (by repeat (first | with_reducible apply Pick.here | with_reducible apply Pick.there)) (by rw [flatMap_len _ 64 _ h64]; omega) ?_
          rw [flat_set (fun s : Bytes => s.map encB) 64 e.k j s g1 h64 (by rw [List.length_map]; exact hs64)]
          refine T_seqS rfl ?_; refine T_seqNil ?_; refine T_thenN ?_; refine T_region ?_; refine T_list ?_; refine kmv rfl rfl ?_; refine T_list ?_; refine knc rfl rfl ?_; refine T_list ?_; refine kfd rfl rfl ?_; refine T_list ?_; refine kld rfl rfl (by repeat (first | with_reducible apply Pick.here | with_reducible apply Pick.there)) rfl ?_; refine T_list ?_; refine kmv rfl rfl ?_
          refine T_list ?_; refine kdl rfl rfl (by repeat (first | with_reducible apply Pick.here | with_reducible apply Pick.there)) ?_
          refine T_nil ?_; refine T_inN ?_; refine T_thenN ?_; refine T_region ?_; refine T_list ?_; refine kaddN rfl rfl (q := 1) rfl (by simp only [fits]; omega) ?_; refine T_list ?_; refine kmv rfl rfl ?_; refine T_nil ?_; refine T_thenN ?_
          have hk1 : (e.keep j true).k = e.k.set j s := by simp only [Dsk.keep, if_true, hs, Option.getD_some]
          have hl2 : (e.keep j true).k.length = d.k.length := by rw [hk1, List.length_set]; exact hel
          have hE : (e.keep j true).k.length = e.k.length := by rw [hk1, List.length_set]
          have hL : (e.keep j true).left = e.left := rfl
          have hW : (e.keep j true).w = e.w.set j none := rfl
          have hok2 : (e.keep j true).ok := heok.keep g2
          refine T_close (R := pdR (e.keep j true)) (Ls := pdL p (e.keep j true)) (ka, kc, r, del l j) ⟨hok2, by rw [hW]; exact hdel⟩ ?_ (M := slc 3 1 a d.waits.length c (d.waits.map encN) :: A :: F) ?_
          · simp only [pdL, hk1, hL, List.length_set]
            exact (by repeat (first | with_reducible apply Take.nil | apply Take.cons (by repeat (first | with_reducible apply Pick.here | ((with_reducible refine Pick.rowE ?_); rfl) | ((with_reducible refine Pick.slcE ?_ ?_ ?_) <;> rfl) | ((with_reducible refine Pick.imapE ?_); rfl) | with_reducible apply Pick.there))))
          · refine T_inv (i + 1, e.keep j true) ⟨⟨(by first | omega | (dsimp only; omega)), hok2, hwt.keep heok.len _, hl2, by rw [← hkeep, Dsk.keeps, hkv]⟩, (by first | omega | (dsimp only; omega))⟩ ⟨rfl, rfl, rfl, rfl, rfl, trivial⟩ ?_
            (repeat (first | exact perm_rest | apply perm_take (by repeat (first | with_reducible apply Pick.here | with_reducible apply Pick.there)) | apply perm_drop))
        | false =>
          have hkg : (keep.map Value.bool)[i]? = some (.bool false) := by
            rw [← hkv, List.getElem?_map, List.getElem?_eq_getElem hik, List.getD_eq_getElem?_getD, List.getElem?_eq_getElem hik]; rfl
          refine T_skip ?_; refine T_thenN ?_; refine T_seq ?_; refine T_block ?_; refine T_seq ?_; refine T_region ?_; refine T_list ?_; refine kmv rfl rfl ?_; refine T_list ?_; refine kix1 rfl rfl rfl (by repeat (first | with_reducible apply Pick.here | with_reducible apply Pick.there)) h1 ?_; refine T_list ?_; refine kldS rfl rfl (by repeat (first | with_reducible apply Pick.here | with_reducible apply Pick.there)) hget ?_; refine T_list ?_; refine kas rfl rfl ?_; refine T_list ?_; refine kas rfl rfl ?_; refine T_nil ?_; refine T_thenN ?_; refine T_seq ?_; refine T_seq ?_; refine T_region ?_; refine T_list ?_; refine kmv rfl rfl ?_; refine T_list ?_; refine kmv rfl rfl ?_; refine T_list ?_; refine klen rfl rfl ?_; refine T_list ?_; refine kcmpT rfl rfl rfl rfl F1 ?_; refine T_list ?_; refine kmv rfl rfl ?_; refine T_guardY rfl rfl rfl ?_; refine T_list ?_; refine kmv rfl rfl ?_; refine T_guardY rfl rfl rfl ?_; refine T_list ?_; refine kmv rfl rfl ?_; refine T_guardY rfl rfl rfl ?_; refine T_list ?_; refine kixR1 hr (by repeat (first | with_reducible apply Pick.here | with_reducible apply Pick.there)) rfl rfl rfl hik ?_; refine T_guardY rfl rfl rfl ?_; refine T_list ?_; refine kldR hr (by repeat (first | with_reducible apply Pick.here | with_reducible apply Pick.there)) rfl rfl hkg ?_; refine T_list ?_; refine kpT rfl rfl rfl ?_; refine T_nil ?_; refine T_thenN ?_
          refine T_condF rfl ?_
          refine T_skip ?_; refine T_thenN ?_; refine T_region ?_; refine T_list ?_; refine kmv rfl rfl ?_; refine T_list ?_; refine knc rfl rfl ?_; refine T_list ?_; refine kfd rfl rfl ?_; refine T_list ?_; refine kld rfl rfl (by repeat (first | with_reducible apply Pick.here | with_reducible apply Pick.there)) rfl ?_; refine T_list ?_; refine kmv rfl rfl ?_
          refine T_list ?_; refine kdl rfl rfl (by repeat (first | with_reducible apply Pick.here | with_reducible apply Pick.there)) ?_
          refine T_nil ?_; refine T_inN ?_; refine T_thenN ?_; refine T_region ?_; refine T_list ?_; refine kaddN rfl rfl (q := 1) rfl (by simp only [fits]; omega) ?_; refine T_list ?_; refine kmv rfl rfl ?_; refine T_nil ?_; refine T_thenN ?_
          have hk1 : (e.keep j false).k = e.k := rfl
          have hL : (e.keep j false).left = e.left := rfl
          have hW : (e.keep j false).w = e.w.set j none := rfl
          have hok2 : (e.keep j false).ok := heok.keep g2
          refine T_close (R := pdR (e.keep j false)) (Ls := pdL p (e.keep j false)) (ka, kc, r, del l j) ⟨hok2, by rw [hW]; exact hdel⟩ ?_ (M := slc 3 1 a d.waits.length c (d.waits.map encN) :: A :: F) ?_
          · simp only [pdL, hk1, hL]
            exact (by repeat (first | with_reducible apply Take.nil | apply Take.cons (by repeat (first | with_reducible apply Pick.here | ((with_reducible refine Pick.rowE ?_); rfl) | ((with_reducible refine Pick.slcE ?_ ?_ ?_) <;> rfl) | ((with_reducible refine Pick.imapE ?_); rfl) | with_reducible apply Pick.there))))
          · refine T_inv (i + 1, e.keep j false) ⟨⟨(by first | omega | (dsimp only; omega)), hok2, hwt.keep heok.len _, hel, by rw [← hkeep, Dsk.keeps, hkv]⟩, (by first | omega | (dsimp only; omega))⟩ ⟨rfl, rfl, rfl, rfl, rfl, trivial⟩ ?_
            (repeat (first | exact perm_rest | apply perm_take (by repeat (first | with_reducible apply Pick.here | with_reducible apply Pick.there)) | apply perm_drop))
      · have F1 : decide ((i : Int) < (keep.length : Nat)) = false := decide_eq_false (by omega)
        have hkv : keep.getD i false = false := by
          rw [List.getD_eq_getElem?_getD, List.getElem?_eq_none (by omega)]; rfl
        refine T_skip ?_; refine T_thenN ?_; refine T_seq ?_; refine T_block ?_; refine T_seq ?_; refine T_region ?_; refine T_list ?_; refine kmv rfl rfl ?_; refine T_list ?_; refine kix1 rfl rfl rfl (by repeat (first | with_reducible apply Pick.here | with_reducible apply Pick.there)) h1 ?_; refine T_list ?_; refine kldS rfl rfl (by repeat (first | with_reducible apply Pick.here | with_reducible apply Pick.there)) hget ?_; refine T_list ?_; refine kas rfl rfl ?_; refine T_list ?_; refine kas rfl rfl ?_; refine T_nil ?_; refine T_thenN ?_; refine T_seq ?_; refine T_seq ?_; refine T_region ?_; refine T_list ?_; refine kmv rfl rfl ?_; refine T_list ?_; refine kmv rfl rfl ?_; refine T_list ?_; refine klen rfl rfl ?_; refine T_list ?_; refine kcmpF rfl rfl rfl rfl F1 ?_; refine T_list ?_; refine kmv rfl rfl ?_; refine T_guardN rfl rfl rfl rfl ?_; refine T_guardN rfl rfl rfl rfl ?_; refine T_guardN rfl rfl rfl rfl ?_; refine T_guardN rfl rfl rfl rfl ?_; refine T_list ?_; refine kpF rfl rfl rfl ?_; refine T_nil ?_; refine T_thenN ?_
        refine T_condF rfl ?_
        refine T_skip ?_; refine T_thenN ?_; refine T_region ?_; refine T_list ?_; refine kmv rfl rfl ?_; refine T_list ?_; refine knc rfl rfl ?_; refine T_list ?_; refine kfd rfl rfl ?_; refine T_list ?_; refine kld rfl rfl (by repeat (first | with_reducible apply Pick.here | with_reducible apply Pick.there)) rfl ?_; refine T_list ?_; refine kmv rfl rfl ?_
        refine T_list ?_; refine kdl rfl rfl (by repeat (first | with_reducible apply Pick.here | with_reducible apply Pick.there)) ?_
        refine T_nil ?_; refine T_inN ?_; refine T_thenN ?_; refine T_region ?_; refine T_list ?_; refine kaddN rfl rfl (q := 1) rfl (by simp only [fits]; omega) ?_; refine T_list ?_; refine kmv rfl rfl ?_; refine T_nil ?_; refine T_thenN ?_
        have hk1 : (e.keep j false).k = e.k := rfl
        have hL : (e.keep j false).left = e.left := rfl
        have hW : (e.keep j false).w = e.w.set j none := rfl
        have hok2 : (e.keep j false).ok := heok.keep g2
        refine T_close (R := pdR (e.keep j false)) (Ls := pdL p (e.keep j false)) (ka, kc, r, del l j) ⟨hok2, by rw [hW]; exact hdel⟩ ?_ (M := slc 3 1 a d.waits.length c (d.waits.map encN) :: A :: F) ?_
        · simp only [pdL, hk1, hL]
          exact (by repeat (first | with_reducible apply Take.nil | apply Take.cons (by repeat (first | with_reducible apply Pick.here | ((with_reducible refine Pick.rowE ?_); rfl) | ((with_reducible refine Pick.slcE ?_ ?_ ?_) <;> rfl) | ((with_reducible refine Pick.imapE ?_); rfl) | with_reducible apply Pick.there))))
        · refine T_inv (i + 1, e.keep j false) ⟨⟨(by first | omega | (dsimp only; omega)), hok2, hwt.keep heok.len _, hel, by rw [← hkeep, Dsk.keeps, hkv]⟩, (by first | omega | (dsimp only; omega))⟩ ⟨rfl, rfl, rfl, rfl, rfl, trivial⟩ ?_
          (repeat (first | exact perm_rest | apply perm_take (by repeat (first | with_reducible apply Pick.here | with_reducible apply Pick.there)) | apply perm_drop))
    · obtain rfl : i = d.waits.length := by omega
      rw [List.drop_length] at hkeep
      have hE : e = d.keeps keep 0 d.waits := hkeep
      refine T_open (R := pdR e) (Ls := pdL p e) Pick.here ?_
      rintro ⟨ka, kc, r, l⟩ ⟨_, hw⟩
      dsimp only at hw
      simp only [pdL, List.cons_append, List.nil_append]
      refine T_exit ?_; refine T_thenE ?_; refine T_thenE ?_; refine T_inE ?_; refine T_thenN ?_; refine T_region ?_; refine T_list ?_; refine kmv rfl rfl ?_; refine T_list ?_; refine knc rfl rfl ?_; refine T_list ?_; refine kfd rfl rfl ?_; refine T_list ?_; refine kst rfl rfl rfl (by repeat (first | with_reducible apply Pick.here | with_reducible apply Pick.there)) rfl ?_; refine T_nil ?_
      have hck : (d.crash keep).k = e.k := by rw [hE]; rfl
      have hcw : (d.crash keep).w = e.w := by rw [hE]; rfl
      have hcl : (d.crash keep).left = -1 := rfl
      have hok2 : (d.crash keep).ok := by
        have h2 : ({ e with left := -1 } : Dsk).ok := ⟨heok.len, heok.few, heok.k64, heok.w64, by simp, by simp⟩
        rw [hE] at h2; exact h2
      refine T_close (R := pdR (d.crash keep)) (Ls := pdL p (d.crash keep)) (ka, kc, r, l) ⟨hok2, by rw [hcw]; exact hw⟩ ?_ (M := slc 3 1 a d.waits.length c (d.waits.map encN) :: A :: F) ?_
      · simp only [pdL, hck, hcl]
        exact (by repeat (first | with_reducible apply Take.nil | apply Take.cons (by repeat (first | with_reducible apply Pick.here | ((with_reducible refine Pick.rowE ?_); rfl) | ((with_reducible refine Pick.slcE ?_ ?_ ?_) <;> rfl) | ((with_reducible refine Pick.imapE ?_); rfl) | with_reducible apply Pick.there))))
      · refine T_finN [] _ trivial rfl ?_
        (repeat (first | exact perm_rest | apply perm_take (by repeat (first | with_reducible apply Pick.here | with_reducible apply Pick.there)) | apply perm_drop))
end Go.Proofs
namespace Go.Proofs
set_option linter.unnecessarySimpa false
open Go Go.Sl
attribute [local irreducible] Still T opO Sl.Inv row slc wpSeq Code.wp wpList Exit.then Exit.inBlock
set_option linter.unusedVariables false
set_option linter.unusedSimpArgs false
set_option maxRecDepth 4000
theorem flat_cell {k : List Bytes} (h : ∀ s ∈ k, (s.map encB).length = 64) {j q : Nat} (hj : j < k.length) (hq : q < 64) : (k.flatMap fun s => s.map encB)[j * 64 + q]? = some (encB ((k.getD j []).getD q 0)) := by
  have h1 := flat_get (fun s : Bytes => s.map encB) 64 k j hj h
  have h2 : (((k.flatMap fun s => s.map encB).drop (j * 64)).take 64)[q]? = (k[j].map encB)[q]? := by rw [h1]
  have hl := h k[j] (List.getElem_mem hj)
  rw [List.length_map] at hl
  rw [List.getElem?_take, if_pos hq, List.getElem?_drop] at h2
  rw [h2, List.getElem?_map, List.getElem?_eq_getElem (by omega)]
  have e1 : k.getD j [] = k[j] := by rw [List.getD_eq_getElem?_getD, List.getElem?_eq_getElem hj]; rfl
  rw [e1, List.getD_eq_getElem?_getD, List.getElem?_eq_getElem (by omega)]; rfl
theorem flat_cell_set {k : List Bytes} (h : ∀ s ∈ k, (s.map encB).length = 64) {j q : Nat} (hj : j < k.length) (hq : q < 64) (x : UInt8) :
    (k.flatMap fun s => s.map encB).set (j * 64 + q) (encB x) = (k.set j ((k.getD j []).set q x)).flatMap fun s => s.map encB := by
  have hl := h k[j] (List.getElem_mem hj)
  have e1 : k.getD j [] = k[j] := by rw [List.getD_eq_getElem?_getD, List.getElem?_eq_getElem hj]; rfl
  rw [e1, ← flat_set (fun s : Bytes => s.map encB) 64 k j _ hj h (by rw [List.length_map] at *; rw [List.length_set]; exact hl)]
  have hfl := flatMap_len (fun s : Bytes => s.map encB) 64 k h
  have h1 := flat_get (fun s : Bytes => s.map encB) 64 k j hj h
  apply List.ext_getElem?
  intro i
  rw [List.length_map] at hl
  have hle : j * 64 + 64 ≤ k.length * 64 := by omega
  simp only [splice, List.getElem?_set, List.getElem?_append, List.length_append, List.length_take, List.getElem?_take, List.getElem?_drop, List.length_map, List.length_set, hfl, hl]
  have hmin : min (j * 64) (k.length * 64) = j * 64 := by omega
  rw [hmin]
  by_cases c1 : i < j * 64
  · have : ¬ j * 64 + q = i := by omega
    simp [c1, this, show i < j * 64 + 64 by omega]
  · by_cases c2 : i < j * 64 + 64
    · obtain ⟨r, rfl⟩ : ∃ r, i = j * 64 + r := ⟨i - j * 64, by omega⟩
      have h2 : (((k.flatMap fun s => s.map encB).drop (j * 64)).take 64)[r]? = (k[j].map encB)[r]? := by rw [h1]
      rw [List.getElem?_take, if_pos (by omega), List.getElem?_drop] at h2
      simp only [c1, c2, if_false, if_true, Nat.add_sub_cancel_left, List.getElem?_map, List.getElem?_set]
      by_cases hr : q = r
      · subst hr
        have : j * 64 + q < k.length * 64 := by omega
        have hq' : q < k[j].length := by omega
        simp [this, hq']
      · have : ¬ j * 64 + q = j * 64 + r := by omega
        rw [if_neg this, if_neg hr, h2, List.getElem?_map]
    · have : ¬ j * 64 + q = i := by omega
      rw [if_neg this]
      simp only [c1, c2, if_false]
      congr 1; omega
set_option maxHeartbeats 1000000 in
theorem drot_ctr (p : Nat) (d : Dsk) (i bit : Int) : Ctr Tryd.prog 18 [.pointer (some ⟨p, 0, none⟩), .int .i64 i, .int .i64 bit] [PD p d] (fun v L => L = [PD p (d.rot i bit)]) := by
  refine Ctr.of Tryd.func18 rfl rfl (fun w F => ?_)
  simp only [Tryd.ntmps18, env0, List.cons_append, List.nil_append]
  refine T_seq ?_; refine T_region ?_; refine T_list ?_; refine kmv rfl rfl ?_; refine T_list ?_; refine kmv rfl rfl ?_
  refine T_list ?_; refine T_call rfl (dthere_ctr p d i) (by repeat (first | with_reducible apply Take.nil | apply Take.cons (by repeat (first | with_reducible apply Pick.here | with_reducible apply Pick.there)))) rfl ?_
  rintro v L' ⟨rfl, rfl⟩
  simp only [List.cons_append, List.nil_append]
  unfold Dsk.rot
  by_cases hh : d.has i
  · rw [decide_eq_true hh]
    by_cases h1 : 0 ≤ bit
    · refine T_list ?_; refine kmv rfl rfl ?_; refine T_guardY rfl rfl rfl ?_; refine T_list ?_; refine kmv rfl rfl ?_; refine T_guardY rfl rfl rfl ?_; refine T_list ?_; refine kcmpT rfl rfl rfl rfl (decide_eq_true h1) ?_; refine T_list ?_; refine kpT rfl rfl rfl ?_; refine T_list ?_; refine kmv rfl rfl ?_; refine T_guardY rfl rfl rfl ?_; refine T_list ?_; refine kmv rfl rfl ?_; refine T_guardY rfl rfl rfl ?_; refine T_list ?_; refine kcmp rfl rfl rfl rfl ?_; refine T_list ?_; refine kpT rfl rfl rfl ?_; refine T_nil ?_; refine T_thenN ?_
      refine T_cond rfl (fun h => ?_) (fun h => ?_) <;> simp only [decide_eq_true_eq, decide_eq_false_iff_not, ne_eq, Decidable.not_not, Bool.not_eq_true', Bool.not_eq_false', Bool.cond_eq_true_distrib, Bool.cond_eq_false_distrib] at h
      · rw [if_pos ⟨hh, h1, h⟩]
        refine T_open Pick.here ?_
        rintro ⟨a, c, r, l⟩ ⟨hok, hw⟩
        dsimp only at hw
        simp only [pdL, List.cons_append, List.nil_append]
        have hi := hh; unfold Dsk.has at hi
        obtain ⟨j, rfl⟩ : ∃ j : Nat, i = j := ⟨i.toNat, by omega⟩
        obtain ⟨q, rfl⟩ : ∃ q : Nat, bit = q := ⟨bit.toNat, by omega⟩
        simp only [Int.toNat_natCast]
        have hj : j < d.k.length := by omega
        have hq : q < 512 := by omega
        have hq8 : q / 8 < 64 := by omega
        have hq7 : q % 8 < 8 := by omega
        have hpw : 2 ^ (q % 8) ≤ 2 ^ 7 := Nat.pow_le_pow_right (by decide) (by omega)
        have h64 := k64' hok
        have hfl := flatMap_len (fun s : Bytes => s.map encB) 64 d.k h64
        have hb := ((d.k.getD j []).getD (q / 8) 0).toNat_lt
        skip
        refine T_draw [16] [(0, true), (1, true), (2, true), (3, true), (4, true), (5, true), (6, true), (7, true), (8, true), (9, true), (10, true), (11, true), (12, true), (13, true), (14, false), (15, true), (16, false)] mixedT rfl (by kernel_rfl) ?_
        refine d_stillX rfl rfl ?_; refine ⟨_, (S_move rfl), ?_⟩; refine d_stillX rfl rfl ?_; refine ⟨_, (S_nilCheck rfl), ?_⟩; refine d_stillX rfl rfl ?_; refine ⟨_, (S_fieldR rfl), ?_⟩; refine d_stillX rfl rfl ?_; refine ⟨_, (S_load rfl (by repeat (first | with_reducible apply Pick.here | with_reducible apply Pick.there)) rfl), ?_⟩; refine d_stillX rfl rfl ?_; refine ⟨_, (S_move rfl), ?_⟩; refine d_stillX rfl rfl ?_; refine ⟨_, (S_move rfl), ?_⟩; refine d_stillX rfl rfl ?_; refine ⟨_, (S_quoNN rfl (q := 8) rfl rfl (by simp only [fits]; omega)), ?_⟩; refine d_stillX rfl rfl ?_; refine ⟨_, (S_ix rfl rfl (by repeat (first | with_reducible apply Pick.here | with_reducible apply Pick.there)) hj), ?_⟩; refine d_stillX rfl rfl ?_; refine ⟨_, (S_iaS1 rfl rfl hq8 (by repeat (first | with_reducible apply Pick.here | with_reducible apply Pick.there))), ?_⟩; refine d_stillX rfl rfl ?_; refine ⟨_, (S_loadS rfl (by repeat (first | with_reducible apply Pick.here | with_reducible apply Pick.there)) (flat_cell h64 hj hq8)), ?_⟩; refine d_stillX rfl rfl ?_; refine ⟨_, (S_move rfl), ?_⟩; refine d_stillX rfl rfl ?_; refine ⟨_, (S_remNN rfl (q := 8) rfl rfl), ?_⟩; refine d_stillX rfl rfl ?_; refine ⟨_, (S_shlNN (p := 1) rfl rfl (by simp only [IntKind.bits]; omega) (by simp only [fits]; omega)), ?_⟩; refine d_stillX rfl rfl ?_; refine ⟨_, (S_xorNN rfl rfl rfl (by simp only [IntKind.bits]; omega) (by simp only [IntKind.bits]; omega)), ?_⟩; refine T_seqOp rfl ?_; refine kixN rfl rfl rfl (by repeat (first | with_reducible apply Pick.here | with_reducible apply Pick.there)) hj ?_; refine d_back perm_rest ?_; refine d_stillX rfl rfl ?_; refine ⟨_, (S_iaS1 rfl rfl hq8 (by repeat (first | with_reducible apply Pick.here | with_reducible apply Pick.there))), ?_⟩
        rw [flip_nat _ hq7]
        refine T_seqOp rfl ?_; refine kstS (v := encB (flip ((d.k.getD j []).getD (q / 8) 0) (q % 8))) rfl rfl rfl (by repeat (first | with_reducible apply Pick.here | with_reducible apply Pick.there)) (by rw [hfl]; omega) ?_
        rw [flat_cell_set h64 hj hq8]
        have hrot := Dsk.ok.rot hok j q
        unfold Dsk.rot at hrot
        rw [if_pos ⟨hh, h1, h⟩] at hrot
        simp only [Int.toNat_natCast] at hrot
        refine T_seqS rfl ?_; refine T_seqNil ?_
        refine T_close (R := pdR { d with k := d.k.set j ((d.k.getD j []).set (q / 8) (flip ((d.k.getD j []).getD (q / 8) 0) (q % 8))) }) (Ls := pdL p { d with k := d.k.set j ((d.k.getD j []).set (q / 8) (flip ((d.k.getD j []).getD (q / 8) 0) (q % 8))) }) (a, c, r, l) ⟨hrot, hw⟩ ?_ (M := F) ?_
        · simp only [pdL, List.length_set]
          exact (by repeat (first | with_reducible apply Take.nil | apply Take.cons (by repeat (first | with_reducible apply Pick.here | ((with_reducible refine Pick.rowE ?_); rfl) | ((with_reducible refine Pick.slcE ?_ ?_ ?_) <;> rfl) | ((with_reducible refine Pick.imapE ?_); rfl) | with_reducible apply Pick.there))))
        · exact T_finN [] _ trivial rfl perm_rest
      · rw [if_neg (fun hc => h hc.2.2)]
        refine T_skip ?_
        exact T_finN [] _ trivial rfl perm_rest
    · rw [if_neg (fun hc => h1 hc.2.1)]
      refine T_list ?_; refine kmv rfl rfl ?_; refine T_guardY rfl rfl rfl ?_; refine T_list ?_; refine kmv rfl rfl ?_; refine T_guardY rfl rfl rfl ?_; refine T_list ?_; refine kcmpF rfl rfl rfl rfl (decide_eq_false h1) ?_; refine T_list ?_; refine kpT rfl rfl rfl ?_; refine T_list ?_; refine kmv rfl rfl ?_; refine T_guardN rfl rfl rfl rfl ?_; refine T_guardN rfl rfl rfl rfl ?_; refine T_list ?_; refine kpF rfl rfl rfl ?_; refine T_nil ?_; refine T_thenN ?_
      refine T_cond rfl (fun h => absurd h (by simp only [decide_eq_true_eq, decide_eq_false_iff_not, ne_eq, Decidable.not_not, Bool.not_eq_true', Bool.not_eq_false', Bool.not_true, Bool.not_false, Bool.false_eq_true, Bool.true_eq_false, not_true_eq_false, not_false_eq_true]; try omega)) (fun _ => ?_)
      refine T_skip ?_
      exact T_finN [] _ trivial rfl perm_rest
  · rw [if_neg (fun hc => hh hc.1), decide_eq_false hh]
    refine T_list ?_; refine kmv rfl rfl ?_; refine T_guardN rfl rfl rfl rfl ?_; refine T_guardN rfl rfl rfl rfl ?_; refine T_list ?_; refine kpF rfl rfl rfl ?_; refine T_list ?_; refine kmv rfl rfl ?_; refine T_guardN rfl rfl rfl rfl ?_; refine T_guardN rfl rfl rfl rfl ?_; refine T_list ?_; refine kpF rfl rfl rfl ?_; refine T_nil ?_; refine T_thenN ?_
    refine T_cond rfl (fun h => absurd h (by simp only [decide_eq_true_eq, decide_eq_false_iff_not, ne_eq, Decidable.not_not, Bool.not_eq_true', Bool.not_eq_false', Bool.not_true, Bool.not_false, Bool.false_eq_true, Bool.true_eq_false, not_true_eq_false, not_false_eq_true]; try omega)) (fun _ => ?_)
    refine T_skip ?_
    exact T_finN [] _ trivial rfl perm_rest
/-- Slices of new sectors: a list of them. -/
def copies (ks : List Bytes) (bs : List Nat) : List SP := List.zipWith (fun s b => row b 83 (s.map encB)) ks bs
def copyV (b : Nat) : Value := .slice (some ⟨b, 0, none⟩) 64 64
set_option maxHeartbeats 1000000 in
theorem dkept_ctr (p : Nat) (d : Dsk) : Ctr Tryd.prog 24 [.pointer (some ⟨p, 0, none⟩)] [PD p d]
    (fun v L => ∃ a c bs, bs.length = d.k.length ∧ v = .slice a d.k.length c ∧ L = [slc 36 1 a d.k.length c (bs.map copyV), sl (copies d.k bs), PD p d]) := by
  refine Ctr.of Tryd.func24 rfl rfl (fun w F => ?_)
  simp only [Tryd.ntmps24, env0, List.cons_append, List.nil_append]
  refine T_open Pick.here ?_
  rintro ⟨a, c, r, l⟩ ⟨hok, hw⟩
  dsimp only at hw
  simp only [pdL, List.cons_append, List.nil_append]
  have h64 := k64' hok
  have hfl := flatMap_len (fun s : Bytes => s.map encB) 64 d.k h64
  have hfew := hok.few
  refine T_seq ?_; refine T_region ?_; refine T_list ?_; refine kas rfl rfl ?_; refine T_nil ?_; refine T_thenN ?_; refine T_seq ?_; refine T_region ?_; refine T_list ?_; refine kas rfl rfl ?_; refine T_nil ?_; refine T_thenN ?_; refine T_seq ?_; refine T_seq ?_; refine T_region ?_; refine T_list ?_; refine kmv rfl rfl ?_; refine T_list ?_; refine knc rfl rfl ?_; refine T_list ?_; refine kfd rfl rfl ?_; refine T_list ?_; refine kld rfl rfl (by repeat (first | with_reducible apply Pick.here | with_reducible apply Pick.there)) rfl ?_; refine T_list ?_; refine klen rfl rfl ?_; refine T_list ?_; refine kmv rfl rfl ?_; refine T_nil ?_; refine T_thenN ?_; refine T_block ?_
  refine T_slNil ?_
  refine T_nilS 36 1 ?_
  refine T_loop (ι := Nat × Option Addr × Nat × List Nat) (fun x => x.1 ≤ d.k.length ∧ x.2.2.2.length = x.1) (fun x => [(11, .int .i64 (x.1 : Nat)), (3, .slice x.2.1 x.1 x.2.2.1), (9, .slice a d.k.length c), (10, .int .i64 (d.k.length : Nat))])
    (fun x => slc 36 1 x.2.1 x.1 x.2.2.1 (x.2.2.2.map copyV) :: sl (copies (d.k.take x.1) x.2.2.2) :: row p 61 [.slice a d.k.length c, .map (some r), .int .i64 d.left] :: slc 83 64 a d.k.length c (d.k.flatMap fun s => s.map encB) :: imap r l :: F)
    (fun x => d.k.length - x.1) ?_ ?_
  · refine T_inv (0, none, 0, []) ⟨Nat.zero_le _, rfl⟩ ⟨rfl, rfl, rfl, rfl, trivial⟩ ?_
    exact ⟨[], by simp [copies]⟩
  · rintro ⟨i, a', c', bs⟩ ⟨hi, hbs⟩
    dsimp only at hi hbs ⊢
    refine T_seq ?_; refine T_region ?_; refine T_list ?_; refine kcmp rfl rfl rfl rfl ?_; refine T_nil ?_; refine T_thenN ?_; refine T_seq ?_
    refine T_cond rfl (fun h => ?_) (fun h => ?_) <;> simp only [decide_eq_true_eq, decide_eq_false_iff_not, ne_eq, Decidable.not_not, Bool.not_eq_true', Bool.not_eq_false', Bool.cond_eq_true_distrib, Bool.cond_eq_false_distrib] at h
    · have hik : i < d.k.length := by omega
      refine T_skip ?_; refine T_thenN ?_; refine T_seq ?_; refine T_block ?_; refine T_seq ?_; refine T_region ?_; refine T_list ?_; refine kixN rfl rfl rfl (by repeat (first | with_reducible apply Pick.here | with_reducible apply Pick.there)) hik ?_
      refine T_list ?_; refine kldSA rfl rfl (by repeat (first | with_reducible apply Pick.here | with_reducible apply Pick.there)) (by rw [hfl]; omega) rfl ?_
      rw [flat_get (fun s : Bytes => s.map encB) 64 _ i hik h64]
      refine T_list ?_; refine kal rfl ?_; intro _b; refine T_list ?_; refine kstCA (k := 64) (vs := d.k[i].map encB) rfl rfl rfl (ones_encB _) (h64 _ (List.getElem_mem hik)) (by repeat (first | with_reducible apply Pick.here | with_reducible apply Pick.there)) rfl ?_; refine T_nil ?_; refine T_thenN ?_; refine T_region ?_; refine T_list ?_; refine kmv rfl rfl ?_; refine T_list ?_; refine ksa rfl rfl ?_
      refine T_list ?_; refine kbs1 rfl rfl (vs := [_]) rfl (by simp [Value.oneCell']) rfl (fun b => ?_)
      refine T_list ?_; refine kap rfl rfl rfl (by repeat (first | with_reducible apply Pick.here | with_reducible apply Pick.there)) (by repeat (first | with_reducible apply Pick.here | with_reducible apply Pick.there)) (by simp [Value.oneCell']) (by omega) (by omega) (fun a2 c2 => ?_)
      refine T_list ?_; refine kas rfl rfl ?_; refine T_nil ?_; refine T_inN ?_; refine T_thenN ?_; refine T_region ?_; refine T_list ?_; refine kar rfl rfl rfl rfl (by simp only [fits]; omega) ?_; refine T_list ?_; refine kmv rfl rfl ?_; refine T_nil ?_; refine T_thenN ?_
      refine T_slSnoc (by repeat (first | with_reducible apply Pick.here | with_reducible apply Pick.there)) (A := row _b 83 (d.k[i].map encB)) (by repeat (first | with_reducible apply Pick.here | with_reducible apply Pick.there)) ?_
      have e1 : copies (d.k.take i) bs ++ [row _b 83 (d.k[i].map encB)] = copies (d.k.take (i + 1)) (bs ++ [_b]) := by
        rw [take_snoc hik]
        unfold copies
        rw [List.zipWith_append (by simp; omega)]; rfl
      rw [e1]
      refine T_inv (i + 1, a2, c2, bs ++ [_b]) ⟨⟨(by first | omega | (dsimp only; omega)), by simp [hbs]⟩, (by first | omega | (dsimp only; omega))⟩ ⟨rfl, rfl, rfl, rfl, trivial⟩ ?_
      dsimp only
      rw [List.map_append]
      (repeat (first | exact perm_rest | apply perm_take (by repeat (first | with_reducible apply Pick.here | ((with_reducible refine Pick.rowE ?_); rfl) | ((with_reducible refine Pick.slcE ?_ ?_ ?_) <;> rfl) | ((with_reducible refine Pick.imapE ?_); rfl) | with_reducible apply Pick.there)) | apply perm_drop))
    · obtain rfl : i = d.k.length := by omega
      refine T_exit ?_; refine T_thenE ?_; refine T_thenE ?_; refine T_inE ?_; refine T_thenN ?_; refine T_seq ?_; refine T_region ?_; refine T_list ?_; refine kmv rfl rfl ?_; refine T_list ?_; refine kas rfl rfl ?_; refine T_nil ?_; refine T_thenN ?_; refine T_ret ?_
      rw [List.take_length]
      refine T_close (R := pdR d) (Ls := pdL p d) (a, c, r, l) ⟨hok, hw⟩ (by repeat (first | with_reducible apply Take.nil | apply Take.cons (by repeat (first | with_reducible apply Pick.here | ((with_reducible refine Pick.rowE ?_); rfl) | ((with_reducible refine Pick.slcE ?_ ?_ ?_) <;> rfl) | ((with_reducible refine Pick.imapE ?_); rfl) | with_reducible apply Pick.there)))) ?_
      refine T_fin [_] _ ⟨rfl, trivial⟩ ⟨_, _, bs, hbs, rfl, rfl⟩ ?_
      (repeat (first | exact perm_rest | apply perm_take (by repeat (first | with_reducible apply Pick.here | with_reducible apply Pick.there)) | apply perm_drop))
end Go.Proofs
namespace Go.Proofs
set_option linter.unnecessarySimpa false
open Go Go.Sl
attribute [local irreducible] Still T opO Sl.Inv row slc wpSeq Code.wp wpList Exit.then Exit.inBlock
set_option linter.unusedVariables false
set_option linter.unusedSimpArgs false
set_option maxRecDepth 4000
theorem flip_all : ∀ b : Fin 256, ∀ k : Fin 8, (b.val / 2 ^ k.val % 2 = 1 → b.val ^^^ 2 ^ k.val = b.val - 2 ^ k.val ∧ 2 ^ k.val ≤ b.val) ∧ (¬ b.val / 2 ^ k.val % 2 = 1 → b.val ^^^ 2 ^ k.val = b.val + 2 ^ k.val ∧ b.val + 2 ^ k.val < 256) := by
  decide +kernel
theorem flip_is (b : UInt8) {k : Nat} (hk : k < 8) : (b.toNat / 2 ^ k % 2 = 1 → (flip b k).toNat = b.toNat - 2 ^ k ∧ 2 ^ k ≤ b.toNat) ∧ (¬ b.toNat / 2 ^ k % 2 = 1 → (flip b k).toNat = b.toNat + 2 ^ k ∧ b.toNat + 2 ^ k < 256) := by
  have h := flip_all ⟨b.toNat, b.toNat_lt⟩ ⟨k, hk⟩
  have hf := flip_nat b hk
  rw [Nat.one_mul] at hf
  simp only [hf] at h
  exact h
theorem encB_of {b : UInt8} {n : Nat} (h : b.toNat = n) : Value.int .u8 (n : Int) = encB b := by rw [encB, h]
set_option maxHeartbeats 2000000 in
theorem rrot_ctr (p : Nat) (d : Dsk) (i bit : Int) : Ctr Tryd.prog 19 [.pointer (some ⟨p, 0, none⟩), .int .i64 i, .int .i64 bit] [RD p d] (fun v L => L = [RD p (d.rot i bit)]) := by
  refine Ctr.of Tryd.func19 rfl rfl (fun w F => ?_)
  simp only [Tryd.ntmps19, env0, List.cons_append, List.nil_append]
  refine T_open Pick.here ?_
  rintro x hx
  simp only [rdL, List.cons_append, List.nil_append]
  by_cases hall : d.has i ∧ 0 ≤ bit ∧ bit < 512
  · obtain ⟨hh, h1, h2⟩ := hall
    have hrot := Dsk.ok.rot hx.ok i bit
    unfold Dsk.rot at hrot ⊢
    rw [if_pos ⟨hh, h1, h2⟩] at hrot ⊢
    have hi := hh; unfold Dsk.has at hi
    obtain ⟨j, rfl⟩ : ∃ j : Nat, i = j := ⟨i.toNat, by omega⟩
    obtain ⟨q, rfl⟩ : ∃ q : Nat, bit = q := ⟨bit.toNat, by omega⟩
    simp only [Int.toNat_natCast] at hrot ⊢
    have hj : j < d.k.length := by omega
    have hq : q < 512 := by omega
    have hq8 : q / 8 < 64 := by omega
    have hq7 : q % 8 < 8 := by omega
    obtain ⟨a, c, e, hm⟩ := hx.secK j hj
    have hK := hx.getK hj
    rw [e] at hK
    have hr := arena_rd hm
    have hs64 : (d.k.getD j []).length = 64 := by
      rw [List.getD_eq_getElem?_getD, List.getElem?_eq_getElem hj]; exact hx.ok.k64 _ (List.getElem_mem hj)
    generalize hS : d.k.getD j [] = S at *
    refine T_seq ?_; refine T_seq ?_; refine T_region ?_; refine T_list ?_; refine kmv rfl rfl ?_; refine T_list ?_; refine kcmpF rfl rfl rfl rfl (by first | (simp only [decide_eq_false_iff_not, ne_eq, not_true_eq_false, not_false_eq_true]; done) | (simp only [decide_eq_false_iff_not, ne_eq]; omega)) ?_; refine T_list ?_; refine kmv rfl rfl ?_; refine T_guardY rfl rfl rfl ?_; refine T_list ?_; refine kmv rfl rfl ?_; refine T_guardY rfl rfl rfl ?_; refine T_list ?_; refine kmv rfl rfl ?_; refine T_guardY rfl rfl rfl ?_; refine T_list ?_; refine knc rfl rfl ?_; refine T_guardY rfl rfl rfl ?_; refine T_list ?_; refine kfd rfl rfl ?_; refine T_guardY rfl rfl rfl ?_; refine T_list ?_; refine kld rfl rfl (by repeat (first | with_reducible apply Pick.here | with_reducible apply Pick.there)) rfl ?_; refine T_guardY rfl rfl rfl ?_; refine T_list ?_; refine klen rfl rfl ?_; refine T_guardY rfl rfl rfl ?_; refine T_list ?_; refine kcmpF rfl rfl rfl rfl (by first | (simp only [decide_eq_false_iff_not, ne_eq, not_true_eq_false, not_false_eq_true]; done) | (simp only [decide_eq_false_iff_not, ne_eq]; omega)) ?_; refine T_list ?_; refine kpF rfl rfl rfl ?_; refine T_list ?_; refine kmv rfl rfl ?_; refine T_guardY rfl rfl rfl ?_; refine T_list ?_; refine kmv rfl rfl ?_; refine T_guardY rfl rfl rfl ?_; refine T_list ?_; refine kcmpF rfl rfl rfl rfl (by first | (simp only [decide_eq_false_iff_not, ne_eq, not_true_eq_false, not_false_eq_true]; done) | (simp only [decide_eq_false_iff_not, ne_eq]; omega)) ?_; refine T_list ?_; refine kpF rfl rfl rfl ?_; refine T_list ?_; refine kmv rfl rfl ?_; refine T_guardY rfl rfl rfl ?_; refine T_list ?_; refine kmv rfl rfl ?_; refine T_guardY rfl rfl rfl ?_; refine T_list ?_; refine kcmpF rfl rfl rfl rfl (by first | (simp only [decide_eq_false_iff_not, ne_eq, not_true_eq_false, not_false_eq_true]; done) | (simp only [decide_eq_false_iff_not, ne_eq]; omega)) ?_; refine T_list ?_; refine kpF rfl rfl rfl ?_; refine T_nil ?_; refine T_thenN ?_
    refine T_condF rfl ?_
    refine T_skip ?_; refine T_thenN ?_; refine T_seq ?_; refine T_region ?_; refine T_list ?_; refine kbs1 rfl rfl (vs := []) rfl (by simp) rfl ?_; intro _a; refine T_list ?_; refine kmv rfl rfl ?_; refine T_list ?_; refine knc rfl rfl ?_; refine T_list ?_; refine kfd rfl rfl ?_; refine T_list ?_; refine kld rfl rfl (by repeat (first | with_reducible apply Pick.here | with_reducible apply Pick.there)) rfl ?_; refine T_list ?_; refine kmv rfl rfl ?_; refine T_list ?_; refine kix1 rfl rfl rfl (by repeat (first | with_reducible apply Pick.here | with_reducible apply Pick.there)) hj ?_; refine T_list ?_; refine kldS rfl rfl (by repeat (first | with_reducible apply Pick.here | with_reducible apply Pick.there)) hK ?_
    refine T_list ?_; refine kapR hr rfl rfl rfl (by repeat (first | with_reducible apply Pick.here | with_reducible apply Pick.there)) (by repeat (first | with_reducible apply Pick.here | with_reducible apply Pick.there)) (ones_encB S) (by omega) (by omega) (fun a' c' => ?_)
    rw [Nat.zero_add, List.nil_append]
    refine T_list ?_; refine kas rfl rfl ?_; refine T_nil ?_; refine T_thenN ?_; refine T_seq ?_; refine T_region ?_; refine T_list ?_; refine kas rfl rfl ?_; refine T_nil ?_; refine T_thenN ?_; refine T_seq ?_; refine T_seq ?_; refine T_region ?_; refine T_list ?_; refine kas rfl rfl ?_; refine T_nil ?_; refine T_thenN ?_; refine T_block ?_
    refine T_loop (fun y : Nat => y ≤ q % 8) (fun y => [(8, .int .i64 (y : Nat)), (7, .int .u8 (2 ^ y : Nat)), (6, .slice a' 64 c'), (2, .int .i64 (q : Nat)), (1, .int .i64 (j : Nat)), (0, .pointer (some ⟨p, 0, none⟩))])
      (fun y => slc 5 1 a' 64 c' (S.map encB) :: rdL p d x ++ F) (fun y => q % 8 - y) ?_ ?_
    · refine T_inv 0 (Nat.zero_le _) ⟨rfl, rfl, rfl, rfl, rfl, rfl, trivial⟩ ?_
      simp only [rdL]
      (repeat (first | exact perm_rest | apply perm_take (by repeat (first | with_reducible apply Pick.here | with_reducible apply Pick.there)) | apply perm_drop))
    · intro y hy
      have hpw : 2 ^ y ≤ 2 ^ 7 := Nat.pow_le_pow_right (by decide) (by omega)
      have hpw6 : y < 7 → 2 ^ y ≤ 2 ^ 6 := fun h => Nat.pow_le_pow_right (by decide) (by omega)
      simp only [rdL, List.cons_append, List.nil_append]
      generalize hP : 2 ^ y = P at *
      refine T_seq ?_; refine T_seq ?_; refine T_region ?_; refine T_list ?_; refine kmv rfl rfl ?_; refine T_list ?_; refine kmv rfl rfl ?_; refine T_list ?_; refine kremN rfl rfl (q := 8) rfl rfl ?_; refine T_list ?_; refine kcmp rfl rfl rfl rfl ?_; refine T_nil ?_; refine T_thenN ?_
      refine T_cond rfl (fun h => ?_) (fun h => ?_) <;> simp only [decide_eq_true_eq, decide_eq_false_iff_not, ne_eq, Decidable.not_not, Bool.not_eq_true', Bool.not_eq_false', Bool.cond_eq_true_distrib, Bool.cond_eq_false_distrib] at h
      · have hp6 := hpw6 (by omega)
        refine T_skip ?_; refine T_thenN ?_; refine T_seq ?_; refine T_block ?_; refine T_region ?_; refine T_list ?_; refine kmv rfl rfl ?_; refine T_list ?_; refine kmulN rfl rfl (q := 2) rfl (by simp only [fits]; omega) ?_; refine T_list ?_; refine kas rfl rfl ?_; refine T_nil ?_; refine T_inN ?_; refine T_thenN ?_; refine T_region ?_; refine T_list ?_; refine kmv rfl rfl ?_; refine T_list ?_; refine kar rfl rfl rfl rfl (by simp only [fits]; omega) ?_; refine T_list ?_; refine kas rfl rfl ?_; refine T_nil ?_; refine T_thenN ?_
        refine T_inv (y + 1) ⟨(by first | omega | (dsimp only; omega)), (by first | omega | (dsimp only; omega))⟩ ⟨rfl, ?_, rfl, rfl, rfl, rfl, trivial⟩ ?_
        · rw [Nat.pow_succ, hP]; rfl
        · (repeat (first | exact perm_rest | apply perm_take (by repeat (first | with_reducible apply Pick.here | with_reducible apply Pick.there)) | apply perm_drop))
      · obtain rfl : y = q % 8 := by omega
        have hl8 : q / 8 < (S.map encB).length := by rw [List.length_map, hs64]; exact hq8
        have hl8' : q / 8 < S.length := by rw [hs64]; exact hq8
        have hP0 : 0 < P := by rw [← hP]; exact Nat.two_pow_pos _
        obtain ⟨f1, f2⟩ := flip_is S[q / 8] hq7
        have hgd : S.getD (q / 8) 0 = S[q / 8] := by rw [List.getD_eq_getElem?_getD, List.getElem?_eq_getElem hl8']; rfl
        rw [hP] at f1 f2
        have hb := S[q / 8].toNat_lt
        refine T_exit ?_; refine T_thenE ?_; refine T_thenE ?_; refine T_inE ?_; refine T_thenN ?_; refine T_seq ?_; refine T_seq ?_; refine T_region ?_; refine T_list ?_; refine kmv rfl rfl ?_; refine T_list ?_; refine kmv rfl rfl ?_; refine T_list ?_; refine kquoN rfl rfl (q := 8) rfl rfl (by simp only [fits]; omega) ?_; refine T_list ?_; refine kix1 rfl rfl rfl (by repeat (first | with_reducible apply Pick.here | with_reducible apply Pick.there)) hq8 ?_; refine T_list ?_; refine kldM rfl rfl (by repeat (first | with_reducible apply Pick.here | with_reducible apply Pick.there)) hl8' ?_; refine T_list ?_; refine kmv rfl rfl ?_; refine T_list ?_; refine kquoNP rfl rfl rfl hP0 (by simp only [fits]; omega) ?_; refine T_list ?_; refine kremN rfl rfl (q := 2) rfl rfl ?_; refine T_list ?_; refine kcmp rfl rfl rfl rfl ?_; refine T_nil ?_; refine T_thenN ?_
        refine T_cut (ι := Unit) (fun _ => True) (fun _ => [(6, .slice a' 64 c'), (1, .int .i64 (j : Nat)), (0, .pointer (some ⟨p, 0, none⟩))])
          (fun _ => slc 5 1 a' 64 c' ((S.set (q / 8) (flip S[q / 8] (q % 8))).map encB) :: rdL p d x ++ F) ?_ ?_
        · refine T_cond rfl (fun hc => ?_) (fun hc => ?_) <;> simp only [decide_eq_true_eq, decide_eq_false_iff_not, ne_eq, Decidable.not_not, Bool.not_eq_true', Bool.not_eq_false', Bool.cond_eq_true_distrib, Bool.cond_eq_false_distrib] at hc
          · obtain ⟨g1, g2⟩ := f1 (by omega)
            refine T_region ?_; refine T_list ?_; refine kmv rfl rfl ?_; refine T_list ?_; refine kmv rfl rfl ?_; refine T_list ?_; refine kquoN rfl rfl (q := 8) rfl rfl (by simp only [fits]; omega) ?_; refine T_list ?_; refine kmv rfl rfl ?_; refine T_list ?_; refine kmv rfl rfl ?_; refine T_list ?_; refine kquoN rfl rfl (q := 8) rfl rfl (by simp only [fits]; omega) ?_; refine T_list ?_; refine kix1 rfl rfl rfl (by repeat (first | with_reducible apply Pick.here | with_reducible apply Pick.there)) hq8 ?_; refine T_list ?_; refine kldM rfl rfl (by repeat (first | with_reducible apply Pick.here | with_reducible apply Pick.there)) hl8' ?_; refine T_list ?_; refine kmv rfl rfl ?_; refine T_list ?_; refine ksubN rfl rfl rfl g2 (by simp only [fits]; omega) ?_; refine T_list ?_; refine kix1 rfl rfl rfl (by repeat (first | with_reducible apply Pick.here | with_reducible apply Pick.there)) hq8 ?_
            rw [encB_of g1]
            refine T_list ?_; refine kstS rfl rfl rfl (by repeat (first | with_reducible apply Pick.here | with_reducible apply Pick.there)) hl8 ?_
            rw [map_set']
            refine T_nil ?_; refine T_thenN ?_
            refine T_inv () trivial ⟨rfl, rfl, rfl, trivial⟩ ?_
            simp only [rdL]
            (repeat (first | exact perm_rest | apply perm_take (by repeat (first | with_reducible apply Pick.here | with_reducible apply Pick.there)) | apply perm_drop))
          · obtain ⟨g1, g2⟩ := f2 (by omega)
            refine T_region ?_; refine T_list ?_; refine kmv rfl rfl ?_; refine T_list ?_; refine kmv rfl rfl ?_; refine T_list ?_; refine kquoN rfl rfl (q := 8) rfl rfl (by simp only [fits]; omega) ?_; refine T_list ?_; refine kmv rfl rfl ?_; refine T_list ?_; refine kmv rfl rfl ?_; refine T_list ?_; refine kquoN rfl rfl (q := 8) rfl rfl (by simp only [fits]; omega) ?_; refine T_list ?_; refine kix1 rfl rfl rfl (by repeat (first | with_reducible apply Pick.here | with_reducible apply Pick.there)) hq8 ?_; refine T_list ?_; refine kldM rfl rfl (by repeat (first | with_reducible apply Pick.here | with_reducible apply Pick.there)) hl8' ?_; refine T_list ?_; refine kmv rfl rfl ?_; refine T_list ?_; refine kaddN rfl rfl rfl (by simp only [fits]; omega) ?_; refine T_list ?_; refine kix1 rfl rfl rfl (by repeat (first | with_reducible apply Pick.here | with_reducible apply Pick.there)) hq8 ?_
            rw [encB_of g1]
            refine T_list ?_; refine kstS rfl rfl rfl (by repeat (first | with_reducible apply Pick.here | with_reducible apply Pick.there)) hl8 ?_
            rw [map_set']
            refine T_nil ?_; refine T_thenN ?_
            refine T_inv () trivial ⟨rfl, rfl, rfl, trivial⟩ ?_
            simp only [rdL]
            (repeat (first | exact perm_rest | apply perm_take (by repeat (first | with_reducible apply Pick.here | with_reducible apply Pick.there)) | apply perm_drop))
        · intro _ _
          rw [hgd] at hrot ⊢
          generalize hS2 : S.set (q / 8) (flip S[q / 8] (q % 8)) = S2 at *
          simp only [rdL, List.cons_append, List.nil_append]
          refine T_region ?_; refine T_list ?_; refine kmv rfl rfl ?_; refine T_list ?_; refine knc rfl rfl ?_; refine T_list ?_; refine kfd rfl rfl ?_; refine T_list ?_; refine kld rfl rfl (by repeat (first | with_reducible apply Pick.here | with_reducible apply Pick.there)) rfl ?_; refine T_list ?_; refine kmv rfl rfl ?_; refine T_list ?_; refine kmv rfl rfl ?_; refine T_list ?_; refine kix1 rfl rfl rfl (by repeat (first | with_reducible apply Pick.here | with_reducible apply Pick.there)) hj ?_
          refine T_list ?_; refine kstS rfl rfl rfl (by repeat (first | with_reducible apply Pick.here | with_reducible apply Pick.there)) (by rw [hx.lenK]; exact hj) ?_
          refine T_nil ?_
          refine T_slCons (X := x.ar.map fun x => slc 5 1 x.1 64 x.2.1 (x.2.2.map encB)) (by repeat (first | with_reducible apply Pick.here | with_reducible apply Pick.there)) (A := slc 5 1 a' 64 c' (S2.map encB)) (by repeat (first | with_reducible apply Pick.here | with_reducible apply Pick.there)) ?_
          rw [show slc 5 1 a' 64 c' (S2.map encB) :: x.ar.map (fun x => slc 5 1 x.1 64 x.2.1 (x.2.2.map encB)) = ((a', c', S2) :: x.ar).map (fun x => slc 5 1 x.1 64 x.2.1 (x.2.2.map encB)) from rfl]
          have hl : (d.k.set j S2).length = d.k.length := List.length_set
          refine T_close (R := rdR { d with k := d.k.set j S2 }) (Ls := rdL p { d with k := d.k.set j S2 }) { x with vK := x.vK.set j (.slice a' 64 c'), ar := (a', c', S2) :: x.ar } ⟨hrot, ?_, ?_, hx.oneW, ?_, ?_⟩ ?_ (M := F) ?_
          · rw [List.length_set, hl]; exact hx.lenK
          · rw [hl]; exact hx.lenW
          · intro t ht
            rw [hl] at ht
            dsimp only
            rw [getD_set (by rw [hx.lenK]; exact hj), getD_set hj]
            split
            · exact ⟨a', c', rfl, List.mem_cons_self⟩
            · exact (hx.secK t ht).mono _
          · intro t s ht; exact (hx.secW t s ht).mono _
          · simp only [rdL, hl]
            exact (by repeat (first | with_reducible apply Take.nil | apply Take.cons (by repeat (first | with_reducible apply Pick.here | ((with_reducible refine Pick.rowE ?_); rfl) | ((with_reducible refine Pick.slcE ?_ ?_ ?_) <;> rfl) | ((with_reducible refine Pick.imapE ?_); rfl) | with_reducible apply Pick.there))))
          · exact T_finN [] _ trivial rfl perm_rest
  · have hsame : d.rot i bit = d := if_neg hall
    rw [hsame]
    by_cases c1 : i < 0
    · refine T_seq ?_; refine T_seq ?_; refine T_region ?_; refine T_list ?_; refine kmv rfl rfl ?_; refine T_list ?_; refine kcmpT rfl rfl rfl rfl (by first | (simp only [decide_eq_true_eq, ne_eq]; done) | (simp only [decide_eq_true_eq, ne_eq]; omega)) ?_; refine T_list ?_; refine kmv rfl rfl ?_; refine T_guardN rfl rfl rfl rfl ?_; refine T_guardN rfl rfl rfl rfl ?_; refine T_guardN rfl rfl rfl rfl ?_; refine T_guardN rfl rfl rfl rfl ?_; refine T_guardN rfl rfl rfl rfl ?_; refine T_guardN rfl rfl rfl rfl ?_; refine T_guardN rfl rfl rfl rfl ?_; refine T_list ?_; refine kpT rfl rfl rfl ?_; refine T_list ?_; refine kmv rfl rfl ?_; refine T_guardN rfl rfl rfl rfl ?_; refine T_guardN rfl rfl rfl rfl ?_; refine T_list ?_; refine kpT rfl rfl rfl ?_; refine T_list ?_; refine kmv rfl rfl ?_; refine T_guardN rfl rfl rfl rfl ?_; refine T_guardN rfl rfl rfl rfl ?_; refine T_list ?_; refine kpT rfl rfl rfl ?_; refine T_nil ?_; refine T_thenN ?_
      refine T_condT rfl ?_
      refine T_ret ?_; refine T_thenR ?_
      refine T_close (R := rdR d) (Ls := rdL p d) x hx (by repeat (first | with_reducible apply Take.nil | apply Take.cons (by repeat (first | with_reducible apply Pick.here | ((with_reducible refine Pick.rowE ?_); rfl) | ((with_reducible refine Pick.slcE ?_ ?_ ?_) <;> rfl) | ((with_reducible refine Pick.imapE ?_); rfl) | with_reducible apply Pick.there)))) ?_
      exact T_fin [] _ trivial rfl perm_rest
    · by_cases c2 : (d.k.length : Int) ≤ i
      · refine T_seq ?_; refine T_seq ?_; refine T_region ?_; refine T_list ?_; refine kmv rfl rfl ?_; refine T_list ?_; refine kcmpF rfl rfl rfl rfl (by first | (simp only [decide_eq_false_iff_not, ne_eq, not_true_eq_false, not_false_eq_true]; done) | (simp only [decide_eq_false_iff_not, ne_eq]; omega)) ?_; refine T_list ?_; refine kmv rfl rfl ?_; refine T_guardY rfl rfl rfl ?_; refine T_list ?_; refine kmv rfl rfl ?_; refine T_guardY rfl rfl rfl ?_; refine T_list ?_; refine kmv rfl rfl ?_; refine T_guardY rfl rfl rfl ?_; refine T_list ?_; refine knc rfl rfl ?_; refine T_guardY rfl rfl rfl ?_; refine T_list ?_; refine kfd rfl rfl ?_; refine T_guardY rfl rfl rfl ?_; refine T_list ?_; refine kld rfl rfl (by repeat (first | with_reducible apply Pick.here | with_reducible apply Pick.there)) rfl ?_; refine T_guardY rfl rfl rfl ?_; refine T_list ?_; refine klen rfl rfl ?_; refine T_guardY rfl rfl rfl ?_; refine T_list ?_; refine kcmpT rfl rfl rfl rfl (by first | (simp only [decide_eq_true_eq, ne_eq]; done) | (simp only [decide_eq_true_eq, ne_eq]; omega)) ?_; refine T_list ?_; refine kpF rfl rfl rfl ?_; refine T_list ?_; refine kmv rfl rfl ?_; refine T_guardN rfl rfl rfl rfl ?_; refine T_guardN rfl rfl rfl rfl ?_; refine T_list ?_; refine kpT rfl rfl rfl ?_; refine T_list ?_; refine kmv rfl rfl ?_; refine T_guardN rfl rfl rfl rfl ?_; refine T_guardN rfl rfl rfl rfl ?_; refine T_list ?_; refine kpT rfl rfl rfl ?_; refine T_nil ?_; refine T_thenN ?_
        refine T_condT rfl ?_
        refine T_ret ?_; refine T_thenR ?_
        refine T_close (R := rdR d) (Ls := rdL p d) x hx (by repeat (first | with_reducible apply Take.nil | apply Take.cons (by repeat (first | with_reducible apply Pick.here | ((with_reducible refine Pick.rowE ?_); rfl) | ((with_reducible refine Pick.slcE ?_ ?_ ?_) <;> rfl) | ((with_reducible refine Pick.imapE ?_); rfl) | with_reducible apply Pick.there)))) ?_
        exact T_fin [] _ trivial rfl perm_rest
      · by_cases c3 : bit < 0
        · refine T_seq ?_; refine T_seq ?_; refine T_region ?_; refine T_list ?_; refine kmv rfl rfl ?_; refine T_list ?_; refine kcmpF rfl rfl rfl rfl (by first | (simp only [decide_eq_false_iff_not, ne_eq, not_true_eq_false, not_false_eq_true]; done) | (simp only [decide_eq_false_iff_not, ne_eq]; omega)) ?_; refine T_list ?_; refine kmv rfl rfl ?_; refine T_guardY rfl rfl rfl ?_; refine T_list ?_; refine kmv rfl rfl ?_; refine T_guardY rfl rfl rfl ?_; refine T_list ?_; refine kmv rfl rfl ?_; refine T_guardY rfl rfl rfl ?_; refine T_list ?_; refine knc rfl rfl ?_; refine T_guardY rfl rfl rfl ?_; refine T_list ?_; refine kfd rfl rfl ?_; refine T_guardY rfl rfl rfl ?_; refine T_list ?_; refine kld rfl rfl (by repeat (first | with_reducible apply Pick.here | with_reducible apply Pick.there)) rfl ?_; refine T_guardY rfl rfl rfl ?_; refine T_list ?_; refine klen rfl rfl ?_; refine T_guardY rfl rfl rfl ?_; refine T_list ?_; refine kcmpF rfl rfl rfl rfl (by first | (simp only [decide_eq_false_iff_not, ne_eq, not_true_eq_false, not_false_eq_true]; done) | (simp only [decide_eq_false_iff_not, ne_eq]; omega)) ?_; refine T_list ?_; refine kpF rfl rfl rfl ?_; refine T_list ?_; refine kmv rfl rfl ?_; refine T_guardY rfl rfl rfl ?_; refine T_list ?_; refine kmv rfl rfl ?_; refine T_guardY rfl rfl rfl ?_; refine T_list ?_; refine kcmpT rfl rfl rfl rfl (by first | (simp only [decide_eq_true_eq, ne_eq]; done) | (simp only [decide_eq_true_eq, ne_eq]; omega)) ?_; refine T_list ?_; refine kpF rfl rfl rfl ?_; refine T_list ?_; refine kmv rfl rfl ?_; refine T_guardN rfl rfl rfl rfl ?_; refine T_guardN rfl rfl rfl rfl ?_; refine T_list ?_; refine kpT rfl rfl rfl ?_; refine T_nil ?_; refine T_thenN ?_
          refine T_condT rfl ?_
          refine T_ret ?_; refine T_thenR ?_
          refine T_close (R := rdR d) (Ls := rdL p d) x hx (by repeat (first | with_reducible apply Take.nil | apply Take.cons (by repeat (first | with_reducible apply Pick.here | ((with_reducible refine Pick.rowE ?_); rfl) | ((with_reducible refine Pick.slcE ?_ ?_ ?_) <;> rfl) | ((with_reducible refine Pick.imapE ?_); rfl) | with_reducible apply Pick.there)))) ?_
          exact T_fin [] _ trivial rfl perm_rest
        · have c4 : (511 : Int) < bit := by unfold Dsk.has at hall; omega
          refine T_seq ?_; refine T_seq ?_; refine T_region ?_; refine T_list ?_; refine kmv rfl rfl ?_; refine T_list ?_; refine kcmpF rfl rfl rfl rfl (by first | (simp only [decide_eq_false_iff_not, ne_eq, not_true_eq_false, not_false_eq_true]; done) | (simp only [decide_eq_false_iff_not, ne_eq]; omega)) ?_; refine T_list ?_; refine kmv rfl rfl ?_; refine T_guardY rfl rfl rfl ?_; refine T_list ?_; refine kmv rfl rfl ?_; refine T_guardY rfl rfl rfl ?_; refine T_list ?_; refine kmv rfl rfl ?_; refine T_guardY rfl rfl rfl ?_; refine T_list ?_; refine knc rfl rfl ?_; refine T_guardY rfl rfl rfl ?_; refine T_list ?_; refine kfd rfl rfl ?_; refine T_guardY rfl rfl rfl ?_; refine T_list ?_; refine kld rfl rfl (by repeat (first | with_reducible apply Pick.here | with_reducible apply Pick.there)) rfl ?_; refine T_guardY rfl rfl rfl ?_; refine T_list ?_; refine klen rfl rfl ?_; refine T_guardY rfl rfl rfl ?_; refine T_list ?_; refine kcmpF rfl rfl rfl rfl (by first | (simp only [decide_eq_false_iff_not, ne_eq, not_true_eq_false, not_false_eq_true]; done) | (simp only [decide_eq_false_iff_not, ne_eq]; omega)) ?_; refine T_list ?_; refine kpF rfl rfl rfl ?_; refine T_list ?_; refine kmv rfl rfl ?_; refine T_guardY rfl rfl rfl ?_; refine T_list ?_; refine kmv rfl rfl ?_; refine T_guardY rfl rfl rfl ?_; refine T_list ?_; refine kcmpF rfl rfl rfl rfl (by first | (simp only [decide_eq_false_iff_not, ne_eq, not_true_eq_false, not_false_eq_true]; done) | (simp only [decide_eq_false_iff_not, ne_eq]; omega)) ?_; refine T_list ?_; refine kpF rfl rfl rfl ?_; refine T_list ?_; refine kmv rfl rfl ?_; refine T_guardY rfl rfl rfl ?_; refine T_list ?_; refine kmv rfl rfl ?_; refine T_guardY rfl rfl rfl ?_; refine T_list ?_; refine kcmpT rfl rfl rfl rfl (by first | (simp only [decide_eq_true_eq, ne_eq]; done) | (simp only [decide_eq_true_eq, ne_eq]; omega)) ?_; refine T_list ?_; refine kpF rfl rfl rfl ?_; refine T_nil ?_; refine T_thenN ?_
          refine T_condT rfl ?_
          refine T_ret ?_; refine T_thenR ?_
          refine T_close (R := rdR d) (Ls := rdL p d) x hx (by repeat (first | with_reducible apply Take.nil | apply Take.cons (by repeat (first | with_reducible apply Pick.here | ((with_reducible refine Pick.rowE ?_); rfl) | ((with_reducible refine Pick.slcE ?_ ?_ ?_) <;> rfl) | ((with_reducible refine Pick.imapE ?_); rfl) | with_reducible apply Pick.there)))) ?_
          exact T_fin [] _ trivial rfl perm_rest
end Go.Proofs
