/- Opening a store; one operation of the play. Part 11 of 13 of the proof of SlotsPlays; no condition. -/
import Derived.Test.YtmjaepaakpaadaaDoorWalkJ
import Derived.Test.YtmjaepaakpaadaaDoorWalkG
import Derived.Test.YtmjaepaakpaadaaDoorWalkI
import Derived.KernelRfl
namespace Go.Proofs
set_option linter.unnecessarySimpa false
open Go Go.Sl
attribute [local irreducible] Still T opO Sl.Inv row slc wpSeq Code.wp wpList Exit.then Exit.inBlock
set_option linter.unusedVariables false
set_option linter.unusedSimpArgs false
set_option maxRecDepth 4000
set_option maxHeartbeats 1000000 in
theorem rseal_ctr (s p : Nat) (st : Sto) (has : Bool) (image : Bytes) (d : Dsk) (A : SP) (ia : Option Addr) (ic : Nat) (hr : Rd A 1 ia image.length (image.map encB)) (ha : st.age + 1 ≤ 1099511627776) (hm : image.length ≤ 100000) :
    Ctr Tryd.prog 41 [.pointer (some ⟨s, 0, none⟩), .bool has, .slice ia image.length ic] [RS s p st, RD p d, A]
      (fun v L => v = .int .i64 (d.headed st ⟨st.age + 1, has, image⟩).e ∧ L = [RS s p (d.headed st ⟨st.age + 1, has, image⟩).st, RD p (d.headed st ⟨st.age + 1, has, image⟩).d, A]) := by
  refine Ctr.of Tryd.func41 rfl rfl (fun w F => ?_)
  simp only [Tryd.ntmps41, env0, List.cons_append, List.nil_append]
  refine T_open Pick.here ?_
  rintro x hx
  simp only [rsL, List.cons_append, List.nil_append]
  unfold Dsk.headed
  dsimp only
  refine T_seq ?_; refine T_region ?_; refine T_list ?_; refine kas rfl rfl ?_; refine T_nil ?_; refine T_thenN ?_; refine T_seq ?_
  refine T_drawR ([row s 47 [.pointer (some ⟨p, 0, none⟩), .int .i64 (st.age : Nat), .bool st.has, .slice x.1 st.image.length x.2.1]]) [] [(0, true), (1, true), (2, true), (3, true), (4, true), (5, true), (6, true), (7, true), (8, true), (9, true), (10, true), (11, true), (12, true), (13, true), (14, true), (15, true), (16, true), (17, false), (18, false), (19, true)] mixedT rfl (by kernel_rfl) ?_
  refine r_still (by repeat (first | with_reducible apply Take.nil | apply Take.cons (by repeat (first | with_reducible apply Pick.here | with_reducible apply Pick.there)))) rfl rfl ?_; refine ⟨_, (S_move rfl), ?_⟩; refine r_still (by repeat (first | with_reducible apply Take.nil | apply Take.cons (by repeat (first | with_reducible apply Pick.here | with_reducible apply Pick.there)))) rfl rfl ?_; refine ⟨_, (S_nilCheck rfl), ?_⟩; refine r_still (by repeat (first | with_reducible apply Take.nil | apply Take.cons (by repeat (first | with_reducible apply Pick.here | with_reducible apply Pick.there)))) rfl rfl ?_; refine ⟨_, (S_fieldR rfl), ?_⟩; refine r_still (by repeat (first | with_reducible apply Take.nil | apply Take.cons (by repeat (first | with_reducible apply Pick.here | with_reducible apply Pick.there)))) rfl rfl ?_; refine ⟨_, (S_load rfl (by repeat (first | with_reducible apply Pick.here | with_reducible apply Pick.there)) rfl), ?_⟩; refine r_still (by repeat (first | with_reducible apply Take.nil | apply Take.cons (by repeat (first | with_reducible apply Pick.here | with_reducible apply Pick.there)))) rfl rfl ?_; refine ⟨_, (S_move rfl), ?_⟩; refine r_still (by repeat (first | with_reducible apply Take.nil | apply Take.cons (by repeat (first | with_reducible apply Pick.here | with_reducible apply Pick.there)))) rfl rfl ?_; refine ⟨_, (S_nilCheck rfl), ?_⟩; refine r_still (by repeat (first | with_reducible apply Take.nil | apply Take.cons (by repeat (first | with_reducible apply Pick.here | with_reducible apply Pick.there)))) rfl rfl ?_; refine ⟨_, (S_fieldR rfl), ?_⟩; refine r_still (by repeat (first | with_reducible apply Take.nil | apply Take.cons (by repeat (first | with_reducible apply Pick.here | with_reducible apply Pick.there)))) rfl rfl ?_; refine ⟨_, (S_load rfl (by repeat (first | with_reducible apply Pick.here | with_reducible apply Pick.there)) rfl), ?_⟩; refine r_still (by repeat (first | with_reducible apply Take.nil | apply Take.cons (by repeat (first | with_reducible apply Pick.here | with_reducible apply Pick.there)))) rfl rfl ?_; refine ⟨_, (S_addNN rfl (q := 1) rfl (by simp only [fits]; omega)), ?_⟩; refine r_still (by repeat (first | with_reducible apply Take.nil | apply Take.cons (by repeat (first | with_reducible apply Pick.here | with_reducible apply Pick.there)))) rfl rfl ?_; refine ⟨_, (S_remNN rfl (q := 2) rfl rfl), ?_⟩; refine r_still (by repeat (first | with_reducible apply Take.nil | apply Take.cons (by repeat (first | with_reducible apply Pick.here | with_reducible apply Pick.there)))) rfl rfl ?_; refine ⟨_, (S_move rfl), ?_⟩; refine r_still (by repeat (first | with_reducible apply Take.nil | apply Take.cons (by repeat (first | with_reducible apply Pick.here | with_reducible apply Pick.there)))) rfl rfl ?_; refine ⟨_, (S_nilCheck rfl), ?_⟩; refine r_still (by repeat (first | with_reducible apply Take.nil | apply Take.cons (by repeat (first | with_reducible apply Pick.here | with_reducible apply Pick.there)))) rfl rfl ?_; refine ⟨_, (S_fieldR rfl), ?_⟩; refine r_still (by repeat (first | with_reducible apply Take.nil | apply Take.cons (by repeat (first | with_reducible apply Pick.here | with_reducible apply Pick.there)))) rfl rfl ?_; refine ⟨_, (S_load rfl (by repeat (first | with_reducible apply Pick.here | with_reducible apply Pick.there)) rfl), ?_⟩; refine r_still (by repeat (first | with_reducible apply Take.nil | apply Take.cons (by repeat (first | with_reducible apply Pick.here | with_reducible apply Pick.there)))) rfl rfl ?_; refine ⟨_, (S_addNN rfl (q := 1) rfl (by simp only [fits]; omega)), ?_⟩; refine r_still (by repeat (first | with_reducible apply Take.nil | apply Take.cons (by repeat (first | with_reducible apply Pick.here | with_reducible apply Pick.there)))) rfl rfl ?_; refine ⟨_, (S_move rfl), ?_⟩; refine r_still (by repeat (first | with_reducible apply Take.nil | apply Take.cons (by repeat (first | with_reducible apply Pick.here | with_reducible apply Pick.there)))) rfl rfl ?_; refine ⟨_, (S_move rfl), ?_⟩
  refine T_seqOp rfl ?_; refine T_call rfl (rhead_ctr A ia image.length ic (st.age + 1) has image hr (by omega) hm) (by repeat (first | with_reducible apply Take.nil | apply Take.cons (by repeat (first | with_reducible apply Pick.here | with_reducible apply Pick.there)))) rfl ?_
  rintro v L' ⟨pa, pc, rfl, rfl⟩
  simp only [List.cons_append, List.nil_append]
  refine r_back (by repeat (first | with_reducible apply Take.nil | apply Take.cons (by repeat (first | with_reducible apply Pick.here | with_reducible apply Pick.there)))) ?_
  refine T_seqOp rfl ?_; refine T_call rfl (rwrite_ctr p d (((st.age + 1) % 2 : Nat) : Int) _ pa 64 pc (pad (headB (st.age + 1) has image)) Rd.slc (by decide)) (by repeat (first | with_reducible apply Take.nil | apply Take.cons (by repeat (first | with_reducible apply Pick.here | with_reducible apply Pick.there)))) rfl ?_
  rintro v L' ⟨rfl, rfl⟩
  simp only [List.cons_append, List.nil_append]
  generalize hW : d.write (((st.age + 1) % 2 : Nat) : Int) (pad (headB (st.age + 1) has image)) = W at *
  refine r_back (by repeat (first | with_reducible apply Take.nil | apply Take.cons (by repeat (first | with_reducible apply Pick.here | with_reducible apply Pick.there)))) ?_; refine r_still (by repeat (first | with_reducible apply Take.nil | apply Take.cons (by repeat (first | with_reducible apply Pick.here | with_reducible apply Pick.there)))) rfl rfl ?_; refine ⟨_, (S_assign rfl), ?_⟩; refine T_seqNil ?_; refine T_thenN ?_; refine T_seq ?_; refine T_seq ?_; refine T_region ?_; refine T_list ?_; refine kmv rfl rfl ?_; refine T_list ?_; refine kcmp rfl rfl rfl rfl ?_; refine T_nil ?_; refine T_thenN ?_
  refine T_cond rfl (fun h => ?_) (fun h => ?_) <;> simp only [decide_eq_true_eq, decide_eq_false_iff_not, ne_eq, Decidable.not_not, Bool.not_eq_true', Bool.not_eq_false', Bool.cond_eq_true_distrib, Bool.cond_eq_false_distrib] at h
  · rw [if_neg h]
    refine T_seq ?_; refine T_region ?_; refine T_list ?_; refine kmv rfl rfl ?_; refine T_list ?_; refine kas rfl rfl ?_; refine T_nil ?_; refine T_thenN ?_; refine T_ret ?_; refine T_thenR ?_
    refine T_close (R := stR st) (Ls := rsL s p st) x hx (by repeat (first | with_reducible apply Take.nil | apply Take.cons (by repeat (first | with_reducible apply Pick.here | ((with_reducible refine Pick.rowE ?_); rfl) | ((with_reducible refine Pick.slcE ?_ ?_ ?_) <;> rfl) | ((with_reducible refine Pick.imapE ?_); rfl) | with_reducible apply Pick.there)))) ?_
    refine T_fin [_] _ ⟨rfl, trivial⟩ ⟨rfl, rfl⟩ ?_
    (repeat (first | exact perm_rest | apply perm_take (by repeat (first | with_reducible apply Pick.here | with_reducible apply Pick.there)) | apply perm_drop))
  · rw [if_pos h]
    refine T_skip ?_; refine T_thenN ?_; refine T_seq ?_; refine T_region ?_; refine T_list ?_; refine kmv rfl rfl ?_; refine T_list ?_; refine knc rfl rfl ?_; refine T_list ?_; refine kfd rfl rfl ?_; refine T_list ?_; refine kld rfl rfl (by repeat (first | with_reducible apply Pick.here | with_reducible apply Pick.there)) rfl ?_
    refine T_list ?_; refine T_call rfl (rflush_ctr p W.2) (by repeat (first | with_reducible apply Take.nil | apply Take.cons (by repeat (first | with_reducible apply Pick.here | with_reducible apply Pick.there)))) rfl ?_
    rintro v L' ⟨rfl, rfl⟩
    simp only [List.cons_append, List.nil_append]
    refine T_list ?_; refine kas rfl rfl ?_; refine T_nil ?_; refine T_thenN ?_; refine T_seq ?_; refine T_seq ?_; refine T_region ?_; refine T_list ?_; refine kmv rfl rfl ?_; refine T_list ?_; refine kcmp rfl rfl rfl rfl ?_; refine T_nil ?_; refine T_thenN ?_
    refine T_cond rfl (fun h => ?_) (fun h => ?_) <;> simp only [decide_eq_true_eq, decide_eq_false_iff_not, ne_eq, Decidable.not_not, Bool.not_eq_true', Bool.not_eq_false', Bool.cond_eq_true_distrib, Bool.cond_eq_false_distrib] at h
    · rw [if_neg h]
      refine T_seq ?_; refine T_region ?_; refine T_list ?_; refine kmv rfl rfl ?_; refine T_list ?_; refine kas rfl rfl ?_; refine T_nil ?_; refine T_thenN ?_; refine T_ret ?_; refine T_thenR ?_
      refine T_close (R := stR st) (Ls := rsL s p st) x hx (by repeat (first | with_reducible apply Take.nil | apply Take.cons (by repeat (first | with_reducible apply Pick.here | ((with_reducible refine Pick.rowE ?_); rfl) | ((with_reducible refine Pick.slcE ?_ ?_ ?_) <;> rfl) | ((with_reducible refine Pick.imapE ?_); rfl) | with_reducible apply Pick.there)))) ?_
      refine T_fin [_] _ ⟨rfl, trivial⟩ ⟨rfl, rfl⟩ ?_
      (repeat (first | exact perm_rest | apply perm_take (by repeat (first | with_reducible apply Pick.here | with_reducible apply Pick.there)) | apply perm_drop))
    · rw [if_pos h]
      refine T_skip ?_; refine T_thenN ?_; refine T_seq ?_; refine T_region ?_; refine T_list ?_; refine kmv rfl rfl ?_; refine T_list ?_; refine knc rfl rfl ?_; refine T_list ?_; refine kfd rfl rfl ?_; refine T_list ?_; refine kld rfl rfl (by repeat (first | with_reducible apply Pick.here | with_reducible apply Pick.there)) rfl ?_; refine T_list ?_; refine kaddN rfl rfl (q := 1) rfl (by simp only [fits]; omega) ?_; refine T_list ?_; refine knc rfl rfl ?_; refine T_list ?_; refine kfd rfl rfl ?_; refine T_list ?_; refine kst rfl rfl rfl (by repeat (first | with_reducible apply Pick.here | with_reducible apply Pick.there)) rfl ?_; refine T_nil ?_; refine T_thenN ?_; refine T_seq ?_; refine T_region ?_; refine T_list ?_; refine kmv rfl rfl ?_; refine T_list ?_; refine kmv rfl rfl ?_; refine T_list ?_; refine knc rfl rfl ?_; refine T_list ?_; refine kfd rfl rfl ?_; refine T_list ?_; refine kst rfl rfl rfl (by repeat (first | with_reducible apply Pick.here | with_reducible apply Pick.there)) rfl ?_; refine T_nil ?_; refine T_thenN ?_; refine T_seq ?_; refine T_region ?_; refine T_list ?_; refine kmv rfl rfl ?_; refine T_list ?_; refine kbs1 rfl rfl (vs := []) rfl (by simp) rfl ?_; intro _a; refine T_list ?_; refine kmv rfl rfl ?_
      refine T_list ?_; refine kapR hr rfl rfl rfl (by repeat (first | with_reducible apply Pick.here | with_reducible apply Pick.there)) (by repeat (first | with_reducible apply Pick.here | with_reducible apply Pick.there)) (ones_encB _) (by omega) (by omega) (fun a2 c2 => ?_)
      rw [List.nil_append, Nat.zero_add]
      refine T_list ?_; refine knc rfl rfl ?_; refine T_list ?_; refine kfd rfl rfl ?_; refine T_list ?_; refine kst rfl rfl rfl (by repeat (first | with_reducible apply Pick.here | with_reducible apply Pick.there)) rfl ?_; refine T_nil ?_; refine T_thenN ?_; refine T_seq ?_; refine T_region ?_; refine T_list ?_; refine kas rfl rfl ?_; refine T_nil ?_; refine T_thenN ?_; refine T_ret ?_
      refine T_close (R := stR ⟨st.age + 1, has, image⟩) (Ls := rsL s p ⟨st.age + 1, has, image⟩) (a2, c2, slc 5 1 a2 image.length c2 (image.map encB)) ⟨Rd.slc, ha, hm⟩ (by repeat (first | with_reducible apply Take.nil | apply Take.cons (by repeat (first | with_reducible apply Pick.here | ((with_reducible refine Pick.rowE ?_); rfl) | ((with_reducible refine Pick.slcE ?_ ?_ ?_) <;> rfl) | ((with_reducible refine Pick.imapE ?_); rfl) | with_reducible apply Pick.there)))) ?_
      refine T_fin [_] _ ⟨rfl, trivial⟩ ⟨rfl, rfl⟩ ?_
      (repeat (first | exact perm_rest | apply perm_take (by repeat (first | with_reducible apply Pick.here | with_reducible apply Pick.there)) | apply perm_drop))
theorem rdelete_ctr (s p : Nat) (st : Sto) (d : Dsk) :
    Ctr Tryd.prog 13 [.pointer (some ⟨s, 0, none⟩)] [RS s p st, RD p d]
      (fun v L => v = .int .i64 (d.delete st).e ∧ L = [RS s p (d.delete st).st, RD p (d.delete st).d]) := by
  refine Ctr.of Tryd.func13 rfl rfl (fun w F => ?_)
  simp only [Tryd.ntmps13, env0, List.cons_append, List.nil_append]
  refine T_open Pick.here ?_
  rintro x hx
  have hx2 := hx.2.1
  simp only [rsL, List.cons_append, List.nil_append]
  unfold Dsk.delete
  refine T_seq ?_; refine T_region ?_; refine T_list ?_; refine kas rfl rfl ?_; refine T_nil ?_; refine T_thenN ?_; refine T_seq ?_; refine T_seq ?_; refine T_region ?_; refine T_list ?_; refine kmv rfl rfl ?_; refine T_list ?_; refine knc rfl rfl ?_; refine T_list ?_; refine kfd rfl rfl ?_; refine T_list ?_; refine kld rfl rfl (by repeat (first | with_reducible apply Pick.here | with_reducible apply Pick.there)) rfl ?_; refine T_list ?_; refine knot rfl rfl ?_; refine T_nil ?_; refine T_thenN ?_
  refine T_cond rfl (fun h => ?_) (fun h => ?_) <;> simp only [decide_eq_true_eq, decide_eq_false_iff_not, ne_eq, Decidable.not_not, Bool.not_eq_true', Bool.not_eq_false', Bool.cond_eq_true_distrib, Bool.cond_eq_false_distrib] at h
  · rw [if_pos (by simpa using h)]
    refine T_seq ?_; refine T_region ?_; refine T_list ?_; refine kas rfl rfl ?_; refine T_nil ?_; refine T_thenN ?_; refine T_ret ?_; refine T_thenR ?_
    refine T_close (R := stR st) (Ls := rsL s p st) x hx (by repeat (first | with_reducible apply Take.nil | apply Take.cons (by repeat (first | with_reducible apply Pick.here | ((with_reducible refine Pick.rowE ?_); rfl) | ((with_reducible refine Pick.slcE ?_ ?_ ?_) <;> rfl) | ((with_reducible refine Pick.imapE ?_); rfl) | with_reducible apply Pick.there)))) ?_
    refine T_fin [_] _ ⟨rfl, trivial⟩ ⟨rfl, rfl⟩ ?_
    (repeat (first | exact perm_rest | apply perm_take (by repeat (first | with_reducible apply Pick.here | with_reducible apply Pick.there)) | apply perm_drop))
  · rw [if_neg (by simpa using h)]
    refine T_skip ?_; refine T_thenN ?_; refine T_seq ?_; refine T_seq ?_; refine T_region ?_; refine T_list ?_; refine kmv rfl rfl ?_; refine T_list ?_; refine knc rfl rfl ?_; refine T_list ?_; refine kfd rfl rfl ?_; refine T_list ?_; refine kld rfl rfl (by repeat (first | with_reducible apply Pick.here | with_reducible apply Pick.there)) rfl ?_; refine T_list ?_; refine kcmp rfl rfl rfl rfl ?_; refine T_nil ?_; refine T_thenN ?_
    refine T_cond rfl (fun h => ?_) (fun h => ?_) <;> simp only [decide_eq_true_eq, decide_eq_false_iff_not, ne_eq, Decidable.not_not, Bool.not_eq_true', Bool.not_eq_false', Bool.cond_eq_true_distrib, Bool.cond_eq_false_distrib] at h
    · rw [if_pos (by omega)]
      refine T_seq ?_; refine T_region ?_; refine T_list ?_; refine kas rfl rfl ?_; refine T_nil ?_; refine T_thenN ?_; refine T_ret ?_; refine T_thenR ?_
      refine T_close (R := stR st) (Ls := rsL s p st) x hx (by repeat (first | with_reducible apply Take.nil | apply Take.cons (by repeat (first | with_reducible apply Pick.here | ((with_reducible refine Pick.rowE ?_); rfl) | ((with_reducible refine Pick.slcE ?_ ?_ ?_) <;> rfl) | ((with_reducible refine Pick.imapE ?_); rfl) | with_reducible apply Pick.there)))) ?_
      refine T_fin [_] _ ⟨rfl, trivial⟩ ⟨rfl, rfl⟩ ?_
      (repeat (first | exact perm_rest | apply perm_take (by repeat (first | with_reducible apply Pick.here | with_reducible apply Pick.there)) | apply perm_drop))
    · rw [if_neg (by omega)]
      refine T_skip ?_; refine T_thenN ?_; refine T_seq ?_; refine T_region ?_; refine T_list ?_; refine kmv rfl rfl ?_
      refine T_close (R := stR st) (Ls := rsL s p st) x hx (by repeat (first | with_reducible apply Take.nil | apply Take.cons (by repeat (first | with_reducible apply Pick.here | ((with_reducible refine Pick.rowE ?_); rfl) | ((with_reducible refine Pick.slcE ?_ ?_ ?_) <;> rfl) | ((with_reducible refine Pick.imapE ?_); rfl) | with_reducible apply Pick.there)))) ?_
      refine T_nilS 5 1 ?_
      refine T_list ?_; refine T_call rfl (rseal_ctr s p st false [] d (slc 5 1 none 0 0 []) none 0 Rd.slc (by omega) (by simp)) (by repeat (first | with_reducible apply Take.nil | apply Take.cons (by repeat (first | with_reducible apply Pick.here | with_reducible apply Pick.there)))) rfl ?_
      rintro v L' ⟨rfl, rfl⟩
      simp only [List.cons_append, List.nil_append]
      refine T_list ?_; refine kas rfl rfl ?_; refine T_nil ?_; refine T_thenN ?_; refine T_seq ?_; refine T_region ?_; refine T_list ?_; refine kmv rfl rfl ?_; refine T_list ?_; refine kas rfl rfl ?_; refine T_nil ?_; refine T_thenN ?_; refine T_ret ?_
      refine T_fin [_] _ ⟨rfl, trivial⟩ ⟨rfl, rfl⟩ ?_
      (repeat (first | exact perm_rest | apply perm_take (by repeat (first | with_reducible apply Pick.here | with_reducible apply Pick.there)) | apply perm_drop))
end Go.Proofs
namespace Go.Proofs
set_option linter.unnecessarySimpa false
open Go Go.Sl
attribute [local irreducible] Still T opO Sl.Inv row slc wpSeq Code.wp wpList Exit.then Exit.inBlock
set_option linter.unusedVariables false
set_option linter.unusedSimpArgs false
set_option maxRecDepth 4000
set_option maxHeartbeats 4000000 in
theorem ropen_ctr (p : Nat) (d : Dsk) : Ctr Tryd.prog 9 [.pointer (some ⟨p, 0, none⟩)] [RD p d]
    (fun v L => (d.k.length < 4 ∧ v = .tuple [.pointer none, .int .i64 1].toArray ∧ L = [RD p d]) ∨
      (4 ≤ d.k.length ∧ d.left = 0 ∧ v = .tuple [.pointer none, .int .i64 19].toArray ∧ L = [RD p d]) ∨
      (4 ≤ d.k.length ∧ d.left ≠ 0 ∧ ∃ s, v = .tuple [.pointer (some ⟨s, 0, none⟩), .int .i64 0].toArray ∧ L = [RS s p d.found, RD p d])) := by
  refine Ctr.of Tryd.func9 rfl rfl (fun w F => ?_)
  simp only [Tryd.ntmps9, env0, List.cons_append, List.nil_append]
  refine T_know (p := d.ok) (fun w H => by obtain ⟨x, hx, _⟩ := (Pick.here.back H).openAb; exact hx.ok) (fun hok => ?_)
  have hfew := hok.few
  have hhalf : d.half ≤ 255 := by unfold Dsk.half; omega
  refine T_open Pick.here ?_
  rintro z0 hz0
  simp only [rdL, List.cons_append, List.nil_append]
  refine T_seq ?_; refine T_region ?_; refine T_list ?_; refine kas rfl rfl ?_; refine T_list ?_; refine kas rfl rfl ?_; refine T_nil ?_; refine T_thenN ?_; refine T_seq ?_; refine T_seq ?_; refine T_region ?_; refine T_list ?_; refine kmv rfl rfl ?_; refine T_list ?_; refine knc rfl rfl ?_; refine T_list ?_; refine kfd rfl rfl ?_; refine T_list ?_; refine kld rfl rfl (by repeat (first | with_reducible apply Pick.here | with_reducible apply Pick.there)) rfl ?_; refine T_list ?_; refine klen rfl rfl ?_; refine T_list ?_; refine kcmp rfl rfl rfl rfl ?_; refine T_nil ?_; refine T_thenN ?_
  refine T_close (R := rdR d) (Ls := rdL p d) z0 hz0 (by repeat (first | with_reducible apply Take.nil | apply Take.cons (by repeat (first | with_reducible apply Pick.here | ((with_reducible refine Pick.rowE ?_); rfl) | ((with_reducible refine Pick.slcE ?_ ?_ ?_) <;> rfl) | ((with_reducible refine Pick.imapE ?_); rfl) | with_reducible apply Pick.there)))) ?_
  refine T_cond rfl (fun h => ?_) (fun h => ?_) <;> simp only [decide_eq_true_eq, decide_eq_false_iff_not, ne_eq, Decidable.not_not, Bool.not_eq_true', Bool.not_eq_false', Bool.cond_eq_true_distrib, Bool.cond_eq_false_distrib] at h
  · refine T_seq ?_; refine T_region ?_; refine T_list ?_; refine kas rfl rfl ?_; refine T_list ?_; refine kas rfl rfl ?_; refine T_nil ?_; refine T_thenN ?_; refine T_ret ?_; refine T_thenR ?_
    refine T_fin [_, _] [RD p d] ⟨rfl, rfl, trivial⟩ (.inl ⟨by omega, rfl, rfl⟩) ?_
    (repeat (first | exact perm_rest | apply perm_take (by repeat (first | with_reducible apply Pick.here | with_reducible apply Pick.there)) | apply perm_drop))
  · have h4 : 4 ≤ d.k.length := by omega
    refine T_skip ?_; refine T_thenN ?_; refine T_seq ?_; refine T_region ?_; refine T_list ?_; refine kmv rfl rfl ?_; refine T_list ?_; refine kbld rfl (vs := [(0, _)]) rfl rfl ?_; refine T_list ?_; refine kbx rfl rfl rfl ?_; intro _b; refine T_list ?_; refine kas rfl rfl ?_; refine T_nil ?_; refine T_thenN ?_; refine T_seq ?_; refine T_seq ?_; refine T_region ?_; refine T_list ?_; refine kas rfl rfl ?_; refine T_nil ?_; refine T_thenN ?_; refine T_block ?_
    refine T_nilS 5 1 ?_
    refine T_loop (ι := Nat × Sto × (Option Addr × Nat × SP)) (fun y => y.1 ≤ 2 ∧ stR y.2.1 y.2.2 ∧ y.2.1 = d.foundTo y.1 ∧ (y.1 = 0 ∨ d.left ≠ 0))
      (fun y => [(5, .int .i64 (y.1 : Nat)), (4, .pointer (some ⟨_b, 0, none⟩)), (0, .pointer (some ⟨p, 0, none⟩))])
      (fun y => row _b 47 [.pointer (some ⟨p, 0, none⟩), .int .i64 (y.2.1.age : Nat), .bool y.2.1.has, .slice y.2.2.1 y.2.1.image.length y.2.2.2.1] :: y.2.2.2.2 :: RD p d :: F)
      (fun y => 2 - y.1) ?_ ?_
    · refine T_inv (0, ⟨0, false, []⟩, (none, 0, slc 5 1 none 0 0 [])) ⟨by simp, ⟨Rd.slc, by simp, by simp⟩, rfl, .inl rfl⟩ ⟨rfl, rfl, rfl, trivial⟩ ?_
      (repeat (first | exact perm_rest | apply perm_take (by repeat (first | with_reducible apply Pick.here | ((with_reducible refine Pick.rowE ?_); rfl) | ((with_reducible refine Pick.slcE ?_ ?_ ?_) <;> rfl) | ((with_reducible refine Pick.imapE ?_); rfl) | with_reducible apply Pick.there)) | apply perm_drop))
    · rintro ⟨i, st, x⟩ ⟨hi, hx, hst, hl⟩
      dsimp only at hi hx hst hl ⊢
      refine T_seq ?_; refine T_seq ?_; refine T_region ?_; refine T_list ?_; refine kmv rfl rfl ?_; refine T_list ?_; refine kcmp rfl rfl rfl rfl ?_; refine T_nil ?_; refine T_thenN ?_
      refine T_cond rfl (fun h => ?_) (fun h => ?_) <;> simp only [decide_eq_true_eq, decide_eq_false_iff_not, ne_eq, Decidable.not_not, Bool.not_eq_true', Bool.not_eq_false', Bool.cond_eq_true_distrib, Bool.cond_eq_false_distrib] at h
      · have hi1 : i ≤ 1 := by omega
        by_cases hleft : d.left = 0
        · refine T_skip ?_; refine T_thenN ?_; refine T_seq ?_; refine T_block ?_; refine T_seq ?_; refine T_region ?_; refine T_list ?_; refine kmv rfl rfl ?_; refine T_list ?_; refine kmv rfl rfl ?_
          refine T_list ?_; refine T_call rfl (rread_ctr p d (i : Int)) (by repeat (first | with_reducible apply Take.nil | apply Take.cons (by repeat (first | with_reducible apply Pick.here | with_reducible apply Pick.there)))) rfl ?_
          rintro v L' (⟨hno, _, _⟩ | ⟨_, h0, rfl, rfl⟩ | ⟨_, h0, _⟩)
          · exact absurd (show d.has _ by unfold Dsk.has; omega) hno
          · simp only [List.cons_append, List.nil_append]
            refine T_list ?_; refine kmv rfl rfl ?_; refine T_list ?_; refine kex rfl rfl rfl ?_; refine T_list ?_; refine kex rfl rfl rfl ?_; refine T_list ?_; refine kas rfl rfl ?_; refine T_list ?_; refine kas rfl rfl ?_; refine T_nil ?_; refine T_thenN ?_; refine T_seq ?_; refine T_seq ?_; refine T_region ?_; refine T_list ?_; refine kmv rfl rfl ?_; refine T_list ?_; refine kcmp rfl rfl rfl rfl ?_; refine T_nil ?_; refine T_thenN ?_
            refine T_cond rfl (fun _ => ?_) (fun h => absurd h (by simp only [decide_eq_true_eq, decide_eq_false_iff_not, ne_eq, Decidable.not_not, Bool.not_eq_true', Bool.not_eq_false', Bool.not_true, Bool.not_false, Bool.false_eq_true, Bool.true_eq_false, not_true_eq_false, not_false_eq_true]; try omega))
            refine T_seq ?_; refine T_region ?_; refine T_list ?_; refine kmv rfl rfl ?_; refine T_list ?_; refine kas rfl rfl ?_; refine T_list ?_; refine kas rfl rfl ?_; refine T_nil ?_; refine T_thenN ?_; refine T_ret ?_; refine T_thenR ?_; refine T_inR ?_; refine T_thenR ?_; refine T_thenR ?_; refine T_inR ?_; refine T_thenR ?_
            refine T_fin [_, _] [RD p d] ⟨rfl, rfl, trivial⟩ (.inr (.inl ⟨h4, hleft, rfl, rfl⟩)) ?_
            (repeat (first | exact perm_rest | apply perm_take (by repeat (first | with_reducible apply Pick.here | with_reducible apply Pick.there)) | apply perm_drop))
          · exact absurd hleft h0
        · refine T_open (R := rdR d) (Ls := rdL p d) (by repeat (first | with_reducible apply Pick.here | with_reducible apply Pick.there)) ?_
          rintro z hz
          simp only [rdL, List.cons_append, List.nil_append]
          refine T_skip ?_; refine T_thenN ?_; refine T_seq ?_; refine T_block ?_; refine T_seq ?_; refine T_region ?_; refine T_list ?_; refine kmv rfl rfl ?_; refine T_list ?_; refine kmv rfl rfl ?_
          refine T_list ?_; refine T_call rfl (rread_x p d z hz i (by omega) hleft) (by repeat (first | with_reducible apply Take.nil | apply Take.cons (by repeat (first | with_reducible apply Pick.here | with_reducible apply Pick.there)))) rfl ?_
          rintro v L' ⟨a, c, hmem, rfl, rfl⟩
          simp only [rdL, List.cons_append, List.nil_append]
          refine T_know (p := 64 ≤ c) (fun w H => arena_cap (Hd.drop (Hd.drop (Hd.drop (Hd.drop H)))) hmem) (fun hcap => ?_)
          have hat : (d.at i).length = 64 := Dsk.at_length hok (by omega)
          have hrd : Rd (arena z.ar) 1 a 64 ((d.at i).map encB) := arena_rd hmem
          have hfl := flag_cell hat
          have hrd1 := hrd.part (c := c) (l := 4) (q := 12) (by decide) (by decide) (by omega)
          have hrd2 := hrd.part (c := c) (l := 13) (q := 17) (by decide) (by decide) (by omega)
          rw [part_enc] at hrd1 hrd2
          have hAlt := hAge_lt d i
          have hMlt := hMany_lt d i
          have hFlt := hFlag_lt d i
          refine T_list ?_; refine kmv rfl rfl ?_; refine T_list ?_; refine kex rfl rfl rfl ?_; refine T_list ?_; refine kex rfl rfl rfl ?_; refine T_list ?_; refine kas rfl rfl ?_; refine T_list ?_; refine kas rfl rfl ?_; refine T_nil ?_; refine T_thenN ?_; refine T_seq ?_; refine T_seq ?_; refine T_region ?_; refine T_list ?_; refine kmv rfl rfl ?_; refine T_list ?_; refine kcmp rfl rfl rfl rfl ?_; refine T_nil ?_; refine T_thenN ?_
          refine T_cond rfl (fun h => absurd h (by simp only [decide_eq_true_eq, decide_eq_false_iff_not, ne_eq, Decidable.not_not, Bool.not_eq_true', Bool.not_eq_false', Bool.not_true, Bool.not_false, Bool.false_eq_true, Bool.true_eq_false, not_true_eq_false, not_false_eq_true]; try omega)) (fun _ => ?_)
          refine T_skip ?_; refine T_thenN ?_; refine T_seq ?_; refine T_region ?_; refine T_list ?_; refine kmv rfl rfl ?_
          refine T_list ?_; refine ksl (l := 4) (q := 12) rfl rfl rfl rfl (by decide) (by omega) ?_
          refine T_list ?_; refine T_call rfl (number_ctr (arena z.ar) _ (12 - 4) _ (((d.at i).drop 4).take (12 - 4)) hrd1 (by decide)) (by repeat (first | with_reducible apply Take.nil | apply Take.cons (by repeat (first | with_reducible apply Pick.here | with_reducible apply Pick.there)))) rfl ?_
          rintro v L' ⟨rfl, rfl⟩
          simp only [List.cons_append, List.nil_append]
          rw [show leNum (((d.at i).drop 4).take (12 - 4)) = d.hAge i from rfl]
          refine T_list ?_; refine kas rfl rfl ?_; refine T_nil ?_; refine T_thenN ?_; refine T_seq ?_; refine T_region ?_; refine T_list ?_; refine kmv rfl rfl ?_
          refine T_list ?_; refine ksl (l := 13) (q := 17) rfl rfl rfl rfl (by decide) (by omega) ?_
          refine T_list ?_; refine T_call rfl (number_ctr (arena z.ar) _ (17 - 13) _ (((d.at i).drop 13).take (17 - 13)) hrd2 (by decide)) (by repeat (first | with_reducible apply Take.nil | apply Take.cons (by repeat (first | with_reducible apply Pick.here | with_reducible apply Pick.there)))) rfl ?_
          rintro v L' ⟨rfl, rfl⟩
          simp only [List.cons_append, List.nil_append]
          rw [show leNum (((d.at i).drop 13).take (17 - 13)) = d.hMany i from rfl]
          clear hrd1 hrd2
          refine T_list ?_; refine kas rfl rfl ?_; refine T_nil ?_
          refine T_thenN ?_
          refine T_seq ?_
          refine T_cut (ι := Unit) (fun _ => 1 ≤ d.hAge i ∧ d.hAge i ≤ 1099511627776 ∧ d.hAge i % 2 = i ∧ d.hMany i ≤ 64 * d.half ∧ d.hFlag i ≤ 1 ∧ (d.hFlag i = 0 → d.hMany i = 0))
            (fun _ => [(5, .int .i64 (i : Nat)), (4, .pointer (some ⟨_b, 0, none⟩)), (0, .pointer (some ⟨p, 0, none⟩)), (6, .slice a 64 c), (8, .int .u64 (d.hAge i : Nat)), (9, .int .u64 (d.hMany i : Nat))])
            (fun _ => row _b 47 [.pointer (some ⟨p, 0, none⟩), .int .i64 (st.age : Nat), .bool st.has, .slice x.1 st.image.length x.2.1] :: x.2.2 :: (rdL p d z ++ F)) ?_ ?_
          · by_cases g1 : d.hAge i < 1
            · have F1 : decide ((d.hAge i : Int) < 1) = true := decide_eq_true (by omega)
              have hno : d.told i = none := told_none (by unfold Dsk.hCan; rintro ⟨q1, _⟩; omega)
              refine T_seq ?_; refine T_region ?_; refine T_list ?_; refine kmv rfl rfl ?_; refine T_list ?_; refine kcmpT rfl rfl rfl rfl F1 ?_; refine T_list ?_; refine kmv rfl rfl ?_; refine T_guardN rfl rfl rfl rfl ?_; refine T_guardN rfl rfl rfl rfl ?_; refine T_list ?_; refine kpT rfl rfl rfl ?_; refine T_list ?_; refine kmv rfl rfl ?_; refine T_guardN rfl rfl rfl rfl ?_; refine T_guardN rfl rfl rfl rfl ?_; refine T_guardN rfl rfl rfl rfl ?_; refine T_guardN rfl rfl rfl rfl ?_; refine T_guardN rfl rfl rfl rfl ?_; refine T_list ?_; refine kpT rfl rfl rfl ?_; refine T_list ?_; refine kmv rfl rfl ?_; refine T_guardN rfl rfl rfl rfl ?_; refine T_guardN rfl rfl rfl rfl ?_; refine T_guardN rfl rfl rfl rfl ?_; refine T_guardN rfl rfl rfl rfl ?_; refine T_guardN rfl rfl rfl rfl ?_; refine T_guardN rfl rfl rfl rfl ?_; refine T_list ?_; refine kpT rfl rfl rfl ?_; refine T_list ?_; refine kmv rfl rfl ?_; refine T_guardN rfl rfl rfl rfl ?_; refine T_guardN rfl rfl rfl rfl ?_; refine T_guardN rfl rfl rfl rfl ?_; refine T_guardN rfl rfl rfl rfl ?_; refine T_list ?_; refine kpT rfl rfl rfl ?_; refine T_list ?_; refine kmv rfl rfl ?_; refine T_guardN rfl rfl rfl rfl ?_; refine T_guardN rfl rfl rfl rfl ?_; refine T_guardN rfl rfl rfl rfl ?_; refine T_guardN rfl rfl rfl rfl ?_; refine T_guardN rfl rfl rfl rfl ?_; refine T_guardU rfl rfl rfl ?_; refine T_guardU rfl rfl rfl ?_; refine T_guardN rfl rfl rfl rfl ?_; refine T_list ?_; refine kpT rfl rfl rfl ?_; refine T_nil ?_; refine T_thenN ?_
              refine T_condT rfl ?_
              refine T_exit ?_; refine T_thenE ?_; refine T_inE ?_; refine T_thenN ?_; refine T_region ?_; refine T_list ?_; refine kmv rfl rfl ?_; refine T_list ?_; refine kaddN rfl rfl (q := 1) rfl (by simp only [fits]; omega) ?_; refine T_list ?_; refine kas rfl rfl ?_; refine T_nil ?_; refine T_thenN ?_
              refine T_close (R := rdR d) (Ls := rdL p d) z hz (by repeat (first | with_reducible apply Take.nil | apply Take.cons (by repeat (first | with_reducible apply Pick.here | ((with_reducible refine Pick.rowE ?_); rfl) | ((with_reducible refine Pick.slcE ?_ ?_ ?_) <;> rfl) | ((with_reducible refine Pick.imapE ?_); rfl) | with_reducible apply Pick.there)))) ?_
              refine T_inv (i + 1, st, x) ⟨⟨by dsimp only; omega, hx, by dsimp only; rw [Dsk.foundTo, hno, ← hst]; rfl, .inr hleft⟩, (by first | omega | (dsimp only; omega))⟩ ⟨rfl, rfl, rfl, trivial⟩ ?_
              (repeat (first | exact perm_rest | apply perm_take (by repeat (first | with_reducible apply Pick.here | ((with_reducible refine Pick.rowE ?_); rfl) | ((with_reducible refine Pick.slcE ?_ ?_ ?_) <;> rfl) | ((with_reducible refine Pick.imapE ?_); rfl) | with_reducible apply Pick.there)) | apply perm_drop))
            have F1 : decide ((d.hAge i : Int) < 1) = false := decide_eq_false (by omega)
            by_cases g2 : 1099511627776 < d.hAge i
            · have F2 : decide ((1099511627776 : Int) < (d.hAge i : Nat)) = true := decide_eq_true (by omega)
              have hno : d.told i = none := told_none (by unfold Dsk.hCan; rintro ⟨q1, q2, _⟩; omega)
              refine T_seq ?_; refine T_region ?_; refine T_list ?_; refine kmv rfl rfl ?_; refine T_list ?_; refine kcmpF rfl rfl rfl rfl F1 ?_; refine T_list ?_; refine kmv rfl rfl ?_; refine T_guardY rfl rfl rfl ?_; refine T_list ?_; refine kmv rfl rfl ?_; refine T_guardY rfl rfl rfl ?_; refine T_list ?_; refine kcmpT rfl rfl rfl rfl F2 ?_; refine T_list ?_; refine kpF rfl rfl rfl ?_; refine T_list ?_; refine kmv rfl rfl ?_; refine T_guardN rfl rfl rfl rfl ?_; refine T_guardN rfl rfl rfl rfl ?_; refine T_guardN rfl rfl rfl rfl ?_; refine T_guardN rfl rfl rfl rfl ?_; refine T_guardN rfl rfl rfl rfl ?_; refine T_list ?_; refine kpT rfl rfl rfl ?_; refine T_list ?_; refine kmv rfl rfl ?_; refine T_guardN rfl rfl rfl rfl ?_; refine T_guardN rfl rfl rfl rfl ?_; refine T_guardN rfl rfl rfl rfl ?_; refine T_guardN rfl rfl rfl rfl ?_; refine T_guardN rfl rfl rfl rfl ?_; refine T_guardN rfl rfl rfl rfl ?_; refine T_list ?_; refine kpT rfl rfl rfl ?_; refine T_list ?_; refine kmv rfl rfl ?_; refine T_guardN rfl rfl rfl rfl ?_; refine T_guardN rfl rfl rfl rfl ?_; refine T_guardN rfl rfl rfl rfl ?_; refine T_guardN rfl rfl rfl rfl ?_; refine T_list ?_; refine kpT rfl rfl rfl ?_; refine T_list ?_; refine kmv rfl rfl ?_; refine T_guardN rfl rfl rfl rfl ?_; refine T_guardN rfl rfl rfl rfl ?_; refine T_guardN rfl rfl rfl rfl ?_; refine T_guardN rfl rfl rfl rfl ?_; refine T_guardN rfl rfl rfl rfl ?_; refine T_guardU rfl rfl rfl ?_; refine T_guardU rfl rfl rfl ?_; refine T_guardN rfl rfl rfl rfl ?_; refine T_list ?_; refine kpT rfl rfl rfl ?_; refine T_nil ?_; refine T_thenN ?_
              refine T_condT rfl ?_
              refine T_exit ?_; refine T_thenE ?_; refine T_inE ?_; refine T_thenN ?_; refine T_region ?_; refine T_list ?_; refine kmv rfl rfl ?_; refine T_list ?_; refine kaddN rfl rfl (q := 1) rfl (by simp only [fits]; omega) ?_; refine T_list ?_; refine kas rfl rfl ?_; refine T_nil ?_; refine T_thenN ?_
              refine T_close (R := rdR d) (Ls := rdL p d) z hz (by repeat (first | with_reducible apply Take.nil | apply Take.cons (by repeat (first | with_reducible apply Pick.here | ((with_reducible refine Pick.rowE ?_); rfl) | ((with_reducible refine Pick.slcE ?_ ?_ ?_) <;> rfl) | ((with_reducible refine Pick.imapE ?_); rfl) | with_reducible apply Pick.there)))) ?_
              refine T_inv (i + 1, st, x) ⟨⟨by dsimp only; omega, hx, by dsimp only; rw [Dsk.foundTo, hno, ← hst]; rfl, .inr hleft⟩, (by first | omega | (dsimp only; omega))⟩ ⟨rfl, rfl, rfl, trivial⟩ ?_
              (repeat (first | exact perm_rest | apply perm_take (by repeat (first | with_reducible apply Pick.here | ((with_reducible refine Pick.rowE ?_); rfl) | ((with_reducible refine Pick.slcE ?_ ?_ ?_) <;> rfl) | ((with_reducible refine Pick.imapE ?_); rfl) | with_reducible apply Pick.there)) | apply perm_drop))
            have F2 : decide ((1099511627776 : Int) < (d.hAge i : Nat)) = false := decide_eq_false (by omega)
            by_cases g3 : d.hAge i % 2 = i
            rotate_left
            · have F3 : decide (((d.hAge i % 2 : Nat) : Int) ≠ (i : Nat)) = true := decide_eq_true (by omega)
              have hno : d.told i = none := told_none (by unfold Dsk.hCan; rintro ⟨q1, q2, q3, _⟩; exact g3 q3)
              refine T_seq ?_; refine T_region ?_; refine T_list ?_; refine kmv rfl rfl ?_; refine T_list ?_; refine kcmpF rfl rfl rfl rfl F1 ?_; refine T_list ?_; refine kmv rfl rfl ?_; refine T_guardY rfl rfl rfl ?_; refine T_list ?_; refine kmv rfl rfl ?_; refine T_guardY rfl rfl rfl ?_; refine T_list ?_; refine kcmpF rfl rfl rfl rfl F2 ?_; refine T_list ?_; refine kpF rfl rfl rfl ?_; refine T_list ?_; refine kmv rfl rfl ?_; refine T_guardY rfl rfl rfl ?_; refine T_list ?_; refine kmv rfl rfl ?_; refine T_guardY rfl rfl rfl ?_; refine T_list ?_; refine kcv rfl rfl (by simp only [fits]; omega) ?_; refine T_guardY rfl rfl rfl ?_; refine T_list ?_; refine kremN rfl rfl (q := 2) rfl rfl ?_; refine T_guardY rfl rfl rfl ?_; refine T_list ?_; refine kmv rfl rfl ?_; refine T_guardY rfl rfl rfl ?_; refine T_list ?_; refine kcmpT rfl rfl rfl rfl F3 ?_; refine T_list ?_; refine kpF rfl rfl rfl ?_; refine T_list ?_; refine kmv rfl rfl ?_; refine T_guardN rfl rfl rfl rfl ?_; refine T_guardN rfl rfl rfl rfl ?_; refine T_guardN rfl rfl rfl rfl ?_; refine T_guardN rfl rfl rfl rfl ?_; refine T_guardN rfl rfl rfl rfl ?_; refine T_guardN rfl rfl rfl rfl ?_; refine T_list ?_; refine kpT rfl rfl rfl ?_; refine T_list ?_; refine kmv rfl rfl ?_; refine T_guardN rfl rfl rfl rfl ?_; refine T_guardN rfl rfl rfl rfl ?_; refine T_guardN rfl rfl rfl rfl ?_; refine T_guardN rfl rfl rfl rfl ?_; refine T_list ?_; refine kpT rfl rfl rfl ?_; refine T_list ?_; refine kmv rfl rfl ?_; refine T_guardN rfl rfl rfl rfl ?_; refine T_guardN rfl rfl rfl rfl ?_; refine T_guardN rfl rfl rfl rfl ?_; refine T_guardN rfl rfl rfl rfl ?_; refine T_guardN rfl rfl rfl rfl ?_; refine T_guardU rfl rfl rfl ?_; refine T_guardU rfl rfl rfl ?_; refine T_guardN rfl rfl rfl rfl ?_; refine T_list ?_; refine kpT rfl rfl rfl ?_; refine T_nil ?_; refine T_thenN ?_
              refine T_condT rfl ?_
              refine T_exit ?_; refine T_thenE ?_; refine T_inE ?_; refine T_thenN ?_; refine T_region ?_; refine T_list ?_; refine kmv rfl rfl ?_; refine T_list ?_; refine kaddN rfl rfl (q := 1) rfl (by simp only [fits]; omega) ?_; refine T_list ?_; refine kas rfl rfl ?_; refine T_nil ?_; refine T_thenN ?_
              refine T_close (R := rdR d) (Ls := rdL p d) z hz (by repeat (first | with_reducible apply Take.nil | apply Take.cons (by repeat (first | with_reducible apply Pick.here | ((with_reducible refine Pick.rowE ?_); rfl) | ((with_reducible refine Pick.slcE ?_ ?_ ?_) <;> rfl) | ((with_reducible refine Pick.imapE ?_); rfl) | with_reducible apply Pick.there)))) ?_
              refine T_inv (i + 1, st, x) ⟨⟨by dsimp only; omega, hx, by dsimp only; rw [Dsk.foundTo, hno, ← hst]; rfl, .inr hleft⟩, (by first | omega | (dsimp only; omega))⟩ ⟨rfl, rfl, rfl, trivial⟩ ?_
              (repeat (first | exact perm_rest | apply perm_take (by repeat (first | with_reducible apply Pick.here | ((with_reducible refine Pick.rowE ?_); rfl) | ((with_reducible refine Pick.slcE ?_ ?_ ?_) <;> rfl) | ((with_reducible refine Pick.imapE ?_); rfl) | with_reducible apply Pick.there)) | apply perm_drop))
            have F3 : decide (((d.hAge i % 2 : Nat) : Int) ≠ (i : Nat)) = false := decide_eq_false (by omega)
            by_cases g4 : d.hMany i ≤ 64 * d.half
            rotate_left
            · have F4 : decide (64 * (d.half : Int) < (d.hMany i : Nat)) = true := decide_eq_true (by omega)
              have hno : d.told i = none := told_none (by unfold Dsk.hCan; rintro ⟨q1, q2, q3, q4, _⟩; exact g4 q4)
              refine T_seq ?_; refine T_region ?_; refine T_list ?_; refine kmv rfl rfl ?_; refine T_list ?_; refine kcmpF rfl rfl rfl rfl F1 ?_; refine T_list ?_; refine kmv rfl rfl ?_; refine T_guardY rfl rfl rfl ?_; refine T_list ?_; refine kmv rfl rfl ?_; refine T_guardY rfl rfl rfl ?_; refine T_list ?_; refine kcmpF rfl rfl rfl rfl F2 ?_; refine T_list ?_; refine kpF rfl rfl rfl ?_; refine T_list ?_; refine kmv rfl rfl ?_; refine T_guardY rfl rfl rfl ?_; refine T_list ?_; refine kmv rfl rfl ?_; refine T_guardY rfl rfl rfl ?_; refine T_list ?_; refine kcv rfl rfl (by simp only [fits]; omega) ?_; refine T_guardY rfl rfl rfl ?_; refine T_list ?_; refine kremN rfl rfl (q := 2) rfl rfl ?_; refine T_guardY rfl rfl rfl ?_; refine T_list ?_; refine kmv rfl rfl ?_; refine T_guardY rfl rfl rfl ?_; refine T_list ?_; refine kcmpF rfl rfl rfl rfl F3 ?_; refine T_list ?_; refine kpF rfl rfl rfl ?_; refine T_list ?_; refine kmv rfl rfl ?_; refine T_guardY rfl rfl rfl ?_; refine T_list ?_; refine kmv rfl rfl ?_; refine T_guardY rfl rfl rfl ?_; refine T_list ?_; refine kmv rfl rfl ?_; refine T_guardY rfl rfl rfl ?_
              refine T_list ?_; refine T_call rfl (rhalf_x p d z hz (by omega)) (by repeat (first | with_reducible apply Take.nil | apply Take.cons (by repeat (first | with_reducible apply Pick.here | with_reducible apply Pick.there)))) rfl ?_
              rintro v L' ⟨rfl, rfl⟩
              simp only [rdL, List.cons_append, List.nil_append]
              refine T_guardY rfl rfl rfl ?_; refine T_list ?_; refine kar rfl rfl rfl rfl (by simp only [fits]; omega) ?_; refine T_guardY rfl rfl rfl ?_; refine T_list ?_; refine kcv rfl rfl (by simp only [fits]; omega) ?_; refine T_guardY rfl rfl rfl ?_; refine T_list ?_; refine kcmpT rfl rfl rfl rfl F4 ?_; refine T_list ?_; refine kpF rfl rfl rfl ?_; refine T_list ?_; refine kmv rfl rfl ?_; refine T_guardN rfl rfl rfl rfl ?_; refine T_guardN rfl rfl rfl rfl ?_; refine T_guardN rfl rfl rfl rfl ?_; refine T_guardN rfl rfl rfl rfl ?_; refine T_list ?_; refine kpT rfl rfl rfl ?_; refine T_list ?_; refine kmv rfl rfl ?_; refine T_guardN rfl rfl rfl rfl ?_; refine T_guardN rfl rfl rfl rfl ?_; refine T_guardN rfl rfl rfl rfl ?_; refine T_guardN rfl rfl rfl rfl ?_; refine T_guardN rfl rfl rfl rfl ?_; refine T_guardU rfl rfl rfl ?_; refine T_guardU rfl rfl rfl ?_; refine T_guardN rfl rfl rfl rfl ?_; refine T_list ?_; refine kpT rfl rfl rfl ?_; refine T_nil ?_; refine T_thenN ?_
              refine T_condT rfl ?_
              refine T_exit ?_; refine T_thenE ?_; refine T_inE ?_; refine T_thenN ?_; refine T_region ?_; refine T_list ?_; refine kmv rfl rfl ?_; refine T_list ?_; refine kaddN rfl rfl (q := 1) rfl (by simp only [fits]; omega) ?_; refine T_list ?_; refine kas rfl rfl ?_; refine T_nil ?_; refine T_thenN ?_
              refine T_close (R := rdR d) (Ls := rdL p d) z hz (by repeat (first | with_reducible apply Take.nil | apply Take.cons (by repeat (first | with_reducible apply Pick.here | ((with_reducible refine Pick.rowE ?_); rfl) | ((with_reducible refine Pick.slcE ?_ ?_ ?_) <;> rfl) | ((with_reducible refine Pick.imapE ?_); rfl) | with_reducible apply Pick.there)))) ?_
              refine T_inv (i + 1, st, x) ⟨⟨by dsimp only; omega, hx, by dsimp only; rw [Dsk.foundTo, hno, ← hst]; rfl, .inr hleft⟩, (by first | omega | (dsimp only; omega))⟩ ⟨rfl, rfl, rfl, trivial⟩ ?_
              (repeat (first | exact perm_rest | apply perm_take (by repeat (first | with_reducible apply Pick.here | ((with_reducible refine Pick.rowE ?_); rfl) | ((with_reducible refine Pick.slcE ?_ ?_ ?_) <;> rfl) | ((with_reducible refine Pick.imapE ?_); rfl) | with_reducible apply Pick.there)) | apply perm_drop))
            have F4 : decide (64 * (d.half : Int) < (d.hMany i : Nat)) = false := decide_eq_false (by omega)
            by_cases g5 : 1 < d.hFlag i
            · have F5 : decide ((1 : Int) < (d.hFlag i : Nat)) = true := decide_eq_true (by omega)
              have hno : d.told i = none := told_flag g5
              refine T_seq ?_; refine T_region ?_; refine T_list ?_; refine kmv rfl rfl ?_; refine T_list ?_; refine kcmpF rfl rfl rfl rfl F1 ?_; refine T_list ?_; refine kmv rfl rfl ?_; refine T_guardY rfl rfl rfl ?_; refine T_list ?_; refine kmv rfl rfl ?_; refine T_guardY rfl rfl rfl ?_; refine T_list ?_; refine kcmpF rfl rfl rfl rfl F2 ?_; refine T_list ?_; refine kpF rfl rfl rfl ?_; refine T_list ?_; refine kmv rfl rfl ?_; refine T_guardY rfl rfl rfl ?_; refine T_list ?_; refine kmv rfl rfl ?_; refine T_guardY rfl rfl rfl ?_; refine T_list ?_; refine kcv rfl rfl (by simp only [fits]; omega) ?_; refine T_guardY rfl rfl rfl ?_; refine T_list ?_; refine kremN rfl rfl (q := 2) rfl rfl ?_; refine T_guardY rfl rfl rfl ?_; refine T_list ?_; refine kmv rfl rfl ?_; refine T_guardY rfl rfl rfl ?_; refine T_list ?_; refine kcmpF rfl rfl rfl rfl F3 ?_; refine T_list ?_; refine kpF rfl rfl rfl ?_; refine T_list ?_; refine kmv rfl rfl ?_; refine T_guardY rfl rfl rfl ?_; refine T_list ?_; refine kmv rfl rfl ?_; refine T_guardY rfl rfl rfl ?_; refine T_list ?_; refine kmv rfl rfl ?_; refine T_guardY rfl rfl rfl ?_
              refine T_list ?_; refine T_call rfl (rhalf_x p d z hz (by omega)) (by repeat (first | with_reducible apply Take.nil | apply Take.cons (by repeat (first | with_reducible apply Pick.here | with_reducible apply Pick.there)))) rfl ?_
              rintro v L' ⟨rfl, rfl⟩
              simp only [rdL, List.cons_append, List.nil_append]
              refine T_guardY rfl rfl rfl ?_; refine T_list ?_; refine kar rfl rfl rfl rfl (by simp only [fits]; omega) ?_; refine T_guardY rfl rfl rfl ?_; refine T_list ?_; refine kcv rfl rfl (by simp only [fits]; omega) ?_; refine T_guardY rfl rfl rfl ?_; refine T_list ?_; refine kcmpF rfl rfl rfl rfl F4 ?_; refine T_list ?_; refine kpF rfl rfl rfl ?_; refine T_list ?_; refine kmv rfl rfl ?_; refine T_guardY rfl rfl rfl ?_; refine T_list ?_; refine kmv rfl rfl ?_; refine T_guardY rfl rfl rfl ?_; refine T_list ?_; refine kixR1 hrd (by repeat (first | with_reducible apply Pick.here | with_reducible apply Pick.there)) rfl rfl (q := 12) rfl (by decide) ?_; refine T_guardY rfl rfl rfl ?_; refine T_list ?_; refine kldR hrd (by repeat (first | with_reducible apply Pick.here | with_reducible apply Pick.there)) rfl rfl hfl ?_; refine T_guardY rfl rfl rfl ?_; refine T_list ?_; refine kcmpT rfl rfl rfl rfl F5 ?_; refine T_list ?_; refine kpF rfl rfl rfl ?_; refine T_list ?_; refine kmv rfl rfl ?_; refine T_guardN rfl rfl rfl rfl ?_; refine T_guardN rfl rfl rfl rfl ?_; refine T_guardN rfl rfl rfl rfl ?_; refine T_guardN rfl rfl rfl rfl ?_; refine T_guardN rfl rfl rfl rfl ?_; refine T_guardU rfl rfl rfl ?_; refine T_guardU rfl rfl rfl ?_; refine T_guardN rfl rfl rfl rfl ?_; refine T_list ?_; refine kpT rfl rfl rfl ?_; refine T_nil ?_; refine T_thenN ?_
              refine T_condT rfl ?_
              refine T_exit ?_; refine T_thenE ?_; refine T_inE ?_; refine T_thenN ?_; refine T_region ?_; refine T_list ?_; refine kmv rfl rfl ?_; refine T_list ?_; refine kaddN rfl rfl (q := 1) rfl (by simp only [fits]; omega) ?_; refine T_list ?_; refine kas rfl rfl ?_; refine T_nil ?_; refine T_thenN ?_
              refine T_close (R := rdR d) (Ls := rdL p d) z hz (by repeat (first | with_reducible apply Take.nil | apply Take.cons (by repeat (first | with_reducible apply Pick.here | ((with_reducible refine Pick.rowE ?_); rfl) | ((with_reducible refine Pick.slcE ?_ ?_ ?_) <;> rfl) | ((with_reducible refine Pick.imapE ?_); rfl) | with_reducible apply Pick.there)))) ?_
              refine T_inv (i + 1, st, x) ⟨⟨by dsimp only; omega, hx, by dsimp only; rw [Dsk.foundTo, hno, ← hst]; rfl, .inr hleft⟩, (by first | omega | (dsimp only; omega))⟩ ⟨rfl, rfl, rfl, trivial⟩ ?_
              (repeat (first | exact perm_rest | apply perm_take (by repeat (first | with_reducible apply Pick.here | ((with_reducible refine Pick.rowE ?_); rfl) | ((with_reducible refine Pick.slcE ?_ ?_ ?_) <;> rfl) | ((with_reducible refine Pick.imapE ?_); rfl) | with_reducible apply Pick.there)) | apply perm_drop))
            have F5 : decide ((1 : Int) < (d.hFlag i : Nat)) = false := decide_eq_false (by omega)
            by_cases g6 : d.hFlag i = 0
            · have F6 : decide ((d.hFlag i : Int) = 0) = true := decide_eq_true (by omega)
              by_cases g7 : 0 < d.hMany i
              · have F7 : decide ((0 : Int) < (d.hMany i : Nat)) = true := decide_eq_true (by omega)
                have hno : d.told i = none := told_none (by unfold Dsk.hCan; rintro ⟨q1, q2, q3, q4, q5⟩; have := q5 g7; omega)
                refine T_seq ?_; refine T_region ?_; refine T_list ?_; refine kmv rfl rfl ?_; refine T_list ?_; refine kcmpF rfl rfl rfl rfl F1 ?_; refine T_list ?_; refine kmv rfl rfl ?_; refine T_guardY rfl rfl rfl ?_; refine T_list ?_; refine kmv rfl rfl ?_; refine T_guardY rfl rfl rfl ?_; refine T_list ?_; refine kcmpF rfl rfl rfl rfl F2 ?_; refine T_list ?_; refine kpF rfl rfl rfl ?_; refine T_list ?_; refine kmv rfl rfl ?_; refine T_guardY rfl rfl rfl ?_; refine T_list ?_; refine kmv rfl rfl ?_; refine T_guardY rfl rfl rfl ?_; refine T_list ?_; refine kcv rfl rfl (by simp only [fits]; omega) ?_; refine T_guardY rfl rfl rfl ?_; refine T_list ?_; refine kremN rfl rfl (q := 2) rfl rfl ?_; refine T_guardY rfl rfl rfl ?_; refine T_list ?_; refine kmv rfl rfl ?_; refine T_guardY rfl rfl rfl ?_; refine T_list ?_; refine kcmpF rfl rfl rfl rfl F3 ?_; refine T_list ?_; refine kpF rfl rfl rfl ?_; refine T_list ?_; refine kmv rfl rfl ?_; refine T_guardY rfl rfl rfl ?_; refine T_list ?_; refine kmv rfl rfl ?_; refine T_guardY rfl rfl rfl ?_; refine T_list ?_; refine kmv rfl rfl ?_; refine T_guardY rfl rfl rfl ?_
                refine T_list ?_; refine T_call rfl (rhalf_x p d z hz (by omega)) (by repeat (first | with_reducible apply Take.nil | apply Take.cons (by repeat (first | with_reducible apply Pick.here | with_reducible apply Pick.there)))) rfl ?_
                rintro v L' ⟨rfl, rfl⟩
                simp only [rdL, List.cons_append, List.nil_append]
                refine T_guardY rfl rfl rfl ?_; refine T_list ?_; refine kar rfl rfl rfl rfl (by simp only [fits]; omega) ?_; refine T_guardY rfl rfl rfl ?_; refine T_list ?_; refine kcv rfl rfl (by simp only [fits]; omega) ?_; refine T_guardY rfl rfl rfl ?_; refine T_list ?_; refine kcmpF rfl rfl rfl rfl F4 ?_; refine T_list ?_; refine kpF rfl rfl rfl ?_; refine T_list ?_; refine kmv rfl rfl ?_; refine T_guardY rfl rfl rfl ?_; refine T_list ?_; refine kmv rfl rfl ?_; refine T_guardY rfl rfl rfl ?_; refine T_list ?_; refine kixR1 hrd (by repeat (first | with_reducible apply Pick.here | with_reducible apply Pick.there)) rfl rfl (q := 12) rfl (by decide) ?_; refine T_guardY rfl rfl rfl ?_; refine T_list ?_; refine kldR hrd (by repeat (first | with_reducible apply Pick.here | with_reducible apply Pick.there)) rfl rfl hfl ?_; refine T_guardY rfl rfl rfl ?_; refine T_list ?_; refine kcmpF rfl rfl rfl rfl F5 ?_; refine T_list ?_; refine kpF rfl rfl rfl ?_; refine T_list ?_; refine kmv rfl rfl ?_; refine T_guardY rfl rfl rfl ?_; refine T_list ?_; refine kmv rfl rfl ?_; refine T_guardY rfl rfl rfl ?_; refine T_list ?_; refine kixR1 hrd (by repeat (first | with_reducible apply Pick.here | with_reducible apply Pick.there)) rfl rfl (q := 12) rfl (by decide) ?_; refine T_guardY rfl rfl rfl ?_; refine T_list ?_; refine kldR hrd (by repeat (first | with_reducible apply Pick.here | with_reducible apply Pick.there)) rfl rfl hfl ?_; refine T_guardY rfl rfl rfl ?_; refine T_list ?_; refine kcmpT rfl rfl rfl rfl F6 ?_; refine T_guardY rfl rfl rfl ?_; refine T_list ?_; refine kmv rfl rfl ?_; refine T_guardY rfl rfl rfl ?_; refine T_list ?_; refine kmv rfl rfl ?_; refine T_guardY rfl rfl rfl ?_; refine T_list ?_; refine kcmpT rfl rfl rfl rfl F7 ?_; refine T_guardY rfl rfl rfl ?_; refine T_list ?_; refine kpT rfl rfl rfl ?_; refine T_list ?_; refine kpF rfl rfl rfl ?_; refine T_nil ?_; refine T_thenN ?_
                refine T_condT rfl ?_
                refine T_exit ?_; refine T_thenE ?_; refine T_inE ?_; refine T_thenN ?_; refine T_region ?_; refine T_list ?_; refine kmv rfl rfl ?_; refine T_list ?_; refine kaddN rfl rfl (q := 1) rfl (by simp only [fits]; omega) ?_; refine T_list ?_; refine kas rfl rfl ?_; refine T_nil ?_; refine T_thenN ?_
                refine T_close (R := rdR d) (Ls := rdL p d) z hz (by repeat (first | with_reducible apply Take.nil | apply Take.cons (by repeat (first | with_reducible apply Pick.here | ((with_reducible refine Pick.rowE ?_); rfl) | ((with_reducible refine Pick.slcE ?_ ?_ ?_) <;> rfl) | ((with_reducible refine Pick.imapE ?_); rfl) | with_reducible apply Pick.there)))) ?_
                refine T_inv (i + 1, st, x) ⟨⟨by dsimp only; omega, hx, by dsimp only; rw [Dsk.foundTo, hno, ← hst]; rfl, .inr hleft⟩, (by first | omega | (dsimp only; omega))⟩ ⟨rfl, rfl, rfl, trivial⟩ ?_
                (repeat (first | exact perm_rest | apply perm_take (by repeat (first | with_reducible apply Pick.here | ((with_reducible refine Pick.rowE ?_); rfl) | ((with_reducible refine Pick.slcE ?_ ?_ ?_) <;> rfl) | ((with_reducible refine Pick.imapE ?_); rfl) | with_reducible apply Pick.there)) | apply perm_drop))
              · have F7 : decide ((0 : Int) < (d.hMany i : Nat)) = false := decide_eq_false (by omega)
                refine T_seq ?_; refine T_region ?_; refine T_list ?_; refine kmv rfl rfl ?_; refine T_list ?_; refine kcmpF rfl rfl rfl rfl F1 ?_; refine T_list ?_; refine kmv rfl rfl ?_; refine T_guardY rfl rfl rfl ?_; refine T_list ?_; refine kmv rfl rfl ?_; refine T_guardY rfl rfl rfl ?_; refine T_list ?_; refine kcmpF rfl rfl rfl rfl F2 ?_; refine T_list ?_; refine kpF rfl rfl rfl ?_; refine T_list ?_; refine kmv rfl rfl ?_; refine T_guardY rfl rfl rfl ?_; refine T_list ?_; refine kmv rfl rfl ?_; refine T_guardY rfl rfl rfl ?_; refine T_list ?_; refine kcv rfl rfl (by simp only [fits]; omega) ?_; refine T_guardY rfl rfl rfl ?_; refine T_list ?_; refine kremN rfl rfl (q := 2) rfl rfl ?_; refine T_guardY rfl rfl rfl ?_; refine T_list ?_; refine kmv rfl rfl ?_; refine T_guardY rfl rfl rfl ?_; refine T_list ?_; refine kcmpF rfl rfl rfl rfl F3 ?_; refine T_list ?_; refine kpF rfl rfl rfl ?_; refine T_list ?_; refine kmv rfl rfl ?_; refine T_guardY rfl rfl rfl ?_; refine T_list ?_; refine kmv rfl rfl ?_; refine T_guardY rfl rfl rfl ?_; refine T_list ?_; refine kmv rfl rfl ?_; refine T_guardY rfl rfl rfl ?_
                refine T_list ?_; refine T_call rfl (rhalf_x p d z hz (by omega)) (by repeat (first | with_reducible apply Take.nil | apply Take.cons (by repeat (first | with_reducible apply Pick.here | with_reducible apply Pick.there)))) rfl ?_
                rintro v L' ⟨rfl, rfl⟩
                simp only [rdL, List.cons_append, List.nil_append]
                refine T_guardY rfl rfl rfl ?_; refine T_list ?_; refine kar rfl rfl rfl rfl (by simp only [fits]; omega) ?_; refine T_guardY rfl rfl rfl ?_; refine T_list ?_; refine kcv rfl rfl (by simp only [fits]; omega) ?_; refine T_guardY rfl rfl rfl ?_; refine T_list ?_; refine kcmpF rfl rfl rfl rfl F4 ?_; refine T_list ?_; refine kpF rfl rfl rfl ?_; refine T_list ?_; refine kmv rfl rfl ?_; refine T_guardY rfl rfl rfl ?_; refine T_list ?_; refine kmv rfl rfl ?_; refine T_guardY rfl rfl rfl ?_; refine T_list ?_; refine kixR1 hrd (by repeat (first | with_reducible apply Pick.here | with_reducible apply Pick.there)) rfl rfl (q := 12) rfl (by decide) ?_; refine T_guardY rfl rfl rfl ?_; refine T_list ?_; refine kldR hrd (by repeat (first | with_reducible apply Pick.here | with_reducible apply Pick.there)) rfl rfl hfl ?_; refine T_guardY rfl rfl rfl ?_; refine T_list ?_; refine kcmpF rfl rfl rfl rfl F5 ?_; refine T_list ?_; refine kpF rfl rfl rfl ?_; refine T_list ?_; refine kmv rfl rfl ?_; refine T_guardY rfl rfl rfl ?_; refine T_list ?_; refine kmv rfl rfl ?_; refine T_guardY rfl rfl rfl ?_; refine T_list ?_; refine kixR1 hrd (by repeat (first | with_reducible apply Pick.here | with_reducible apply Pick.there)) rfl rfl (q := 12) rfl (by decide) ?_; refine T_guardY rfl rfl rfl ?_; refine T_list ?_; refine kldR hrd (by repeat (first | with_reducible apply Pick.here | with_reducible apply Pick.there)) rfl rfl hfl ?_; refine T_guardY rfl rfl rfl ?_; refine T_list ?_; refine kcmpT rfl rfl rfl rfl F6 ?_; refine T_guardY rfl rfl rfl ?_; refine T_list ?_; refine kmv rfl rfl ?_; refine T_guardY rfl rfl rfl ?_; refine T_list ?_; refine kmv rfl rfl ?_; refine T_guardY rfl rfl rfl ?_; refine T_list ?_; refine kcmpF rfl rfl rfl rfl F7 ?_; refine T_guardY rfl rfl rfl ?_; refine T_list ?_; refine kpT rfl rfl rfl ?_; refine T_list ?_; refine kpF rfl rfl rfl ?_; refine T_nil ?_; refine T_thenN ?_
                refine T_condF rfl ?_
                refine T_skip ?_; refine T_thenN ?_
                refine T_inv () ⟨by omega, by omega, g3, g4, by omega, by omega⟩ ⟨rfl, rfl, rfl, rfl, rfl, rfl, trivial⟩ ?_
                (repeat (first | exact perm_rest | apply perm_take (by repeat (first | with_reducible apply Pick.here | ((with_reducible refine Pick.rowE ?_); rfl) | ((with_reducible refine Pick.slcE ?_ ?_ ?_) <;> rfl) | ((with_reducible refine Pick.imapE ?_); rfl) | with_reducible apply Pick.there)) | apply perm_drop))
            · have F6 : decide ((d.hFlag i : Int) = 0) = false := decide_eq_false (by omega)
              refine T_seq ?_; refine T_region ?_; refine T_list ?_; refine kmv rfl rfl ?_; refine T_list ?_; refine kcmpF rfl rfl rfl rfl F1 ?_; refine T_list ?_; refine kmv rfl rfl ?_; refine T_guardY rfl rfl rfl ?_; refine T_list ?_; refine kmv rfl rfl ?_; refine T_guardY rfl rfl rfl ?_; refine T_list ?_; refine kcmpF rfl rfl rfl rfl F2 ?_; refine T_list ?_; refine kpF rfl rfl rfl ?_; refine T_list ?_; refine kmv rfl rfl ?_; refine T_guardY rfl rfl rfl ?_; refine T_list ?_; refine kmv rfl rfl ?_; refine T_guardY rfl rfl rfl ?_; refine T_list ?_; refine kcv rfl rfl (by simp only [fits]; omega) ?_; refine T_guardY rfl rfl rfl ?_; refine T_list ?_; refine kremN rfl rfl (q := 2) rfl rfl ?_; refine T_guardY rfl rfl rfl ?_; refine T_list ?_; refine kmv rfl rfl ?_; refine T_guardY rfl rfl rfl ?_; refine T_list ?_; refine kcmpF rfl rfl rfl rfl F3 ?_; refine T_list ?_; refine kpF rfl rfl rfl ?_; refine T_list ?_; refine kmv rfl rfl ?_; refine T_guardY rfl rfl rfl ?_; refine T_list ?_; refine kmv rfl rfl ?_; refine T_guardY rfl rfl rfl ?_; refine T_list ?_; refine kmv rfl rfl ?_; refine T_guardY rfl rfl rfl ?_
              refine T_list ?_; refine T_call rfl (rhalf_x p d z hz (by omega)) (by repeat (first | with_reducible apply Take.nil | apply Take.cons (by repeat (first | with_reducible apply Pick.here | with_reducible apply Pick.there)))) rfl ?_
              rintro v L' ⟨rfl, rfl⟩
              simp only [rdL, List.cons_append, List.nil_append]
              refine T_guardY rfl rfl rfl ?_; refine T_list ?_; refine kar rfl rfl rfl rfl (by simp only [fits]; omega) ?_; refine T_guardY rfl rfl rfl ?_; refine T_list ?_; refine kcv rfl rfl (by simp only [fits]; omega) ?_; refine T_guardY rfl rfl rfl ?_; refine T_list ?_; refine kcmpF rfl rfl rfl rfl F4 ?_; refine T_list ?_; refine kpF rfl rfl rfl ?_; refine T_list ?_; refine kmv rfl rfl ?_; refine T_guardY rfl rfl rfl ?_; refine T_list ?_; refine kmv rfl rfl ?_; refine T_guardY rfl rfl rfl ?_; refine T_list ?_; refine kixR1 hrd (by repeat (first | with_reducible apply Pick.here | with_reducible apply Pick.there)) rfl rfl (q := 12) rfl (by decide) ?_; refine T_guardY rfl rfl rfl ?_; refine T_list ?_; refine kldR hrd (by repeat (first | with_reducible apply Pick.here | with_reducible apply Pick.there)) rfl rfl hfl ?_; refine T_guardY rfl rfl rfl ?_; refine T_list ?_; refine kcmpF rfl rfl rfl rfl F5 ?_; refine T_list ?_; refine kpF rfl rfl rfl ?_; refine T_list ?_; refine kmv rfl rfl ?_; refine T_guardY rfl rfl rfl ?_; refine T_list ?_; refine kmv rfl rfl ?_; refine T_guardY rfl rfl rfl ?_; refine T_list ?_; refine kixR1 hrd (by repeat (first | with_reducible apply Pick.here | with_reducible apply Pick.there)) rfl rfl (q := 12) rfl (by decide) ?_; refine T_guardY rfl rfl rfl ?_; refine T_list ?_; refine kldR hrd (by repeat (first | with_reducible apply Pick.here | with_reducible apply Pick.there)) rfl rfl hfl ?_; refine T_guardY rfl rfl rfl ?_; refine T_list ?_; refine kcmpF rfl rfl rfl rfl F6 ?_; refine T_guardY rfl rfl rfl ?_; refine T_list ?_; refine kmv rfl rfl ?_; refine T_guardN rfl rfl rfl rfl ?_; refine T_guardN rfl rfl rfl rfl ?_; refine T_guardY rfl rfl rfl ?_; refine T_list ?_; refine kpF rfl rfl rfl ?_; refine T_list ?_; refine kpF rfl rfl rfl ?_; refine T_nil ?_; refine T_thenN ?_
              refine T_condF rfl ?_
              refine T_skip ?_; refine T_thenN ?_
              refine T_inv () ⟨by omega, by omega, g3, g4, by omega, by omega⟩ ⟨rfl, rfl, rfl, rfl, rfl, rfl, trivial⟩ ?_
              (repeat (first | exact perm_rest | apply perm_take (by repeat (first | with_reducible apply Pick.here | ((with_reducible refine Pick.rowE ?_); rfl) | ((with_reducible refine Pick.slcE ?_ ?_ ?_) <;> rfl) | ((with_reducible refine Pick.imapE ?_); rfl) | with_reducible apply Pick.there)) | apply perm_drop))
          · rintro _ ⟨q1, q2, q3, q4, q5, q6⟩
            have hcan : d.hCan i := ⟨q1, q2, q3, q4, fun h => by omega⟩
            have hle : d.hMany i ≤ d.half * 64 := by omega
            have hsl := slotB_length hok h4 hi1 hle
            have hdec : decide ((d.hFlag i : Int) = 1) = (d.hFlag i == 1) := by
              by_cases h : d.hFlag i = 1
              · simp [h]
              · have : ¬ (d.hFlag i : Int) = 1 := by omega
                simp [h, this]
            have htold : d.at i = pad (headB (d.hAge i) (d.hFlag i == 1) (d.slotB i (d.hMany i))) → d.told i = some ⟨d.hAge i, d.hFlag i == 1, d.slotB i (d.hMany i)⟩ := by
              intro h; unfold Dsk.told; rw [if_pos ⟨hcan, h⟩]
            have hnone : ¬ d.at i = pad (headB (d.hAge i) (d.hFlag i == 1) (d.slotB i (d.hMany i))) → d.told i = none := by
              intro h; unfold Dsk.told; rw [if_neg (fun h' => h h'.2)]
            simp only [rdL, List.cons_append, List.nil_append]
            refine T_seq ?_; refine T_region ?_; refine T_list ?_; refine kmv rfl rfl ?_; refine T_list ?_; refine kmv rfl rfl ?_; refine T_list ?_; refine kmv rfl rfl ?_; refine T_list ?_; refine kcv rfl rfl (by simp only [fits]; omega) ?_
            refine T_list ?_; refine T_call rfl (slot_x p d z hz h4 hleft i (d.hMany i) hi1 hle) (by repeat (first | with_reducible apply Take.nil | apply Take.cons (by repeat (first | with_reducible apply Pick.here | with_reducible apply Pick.there)))) rfl ?_
            rintro v L' ⟨ia, ic, B, rfl, hB, rfl⟩
            simp only [rdL, List.cons_append, List.nil_append]
            generalize hSB : d.slotB i (d.hMany i) = SB at *
            have hle2 : d.hMany i ≤ 100000 := by omega
            clear hle q4 q6
            generalize hMM : d.hMany i = MM at *
            subst hsl
            refine T_list ?_; refine kas rfl rfl ?_; refine T_nil ?_; refine T_thenN ?_; refine T_seq ?_; refine T_seq ?_; refine T_region ?_; refine T_list ?_; refine kmv rfl rfl ?_; refine T_list ?_; refine kmv rfl rfl ?_; refine T_list ?_; refine kcv rfl rfl (by simp only [fits]; omega) ?_; refine T_list ?_; refine kmv rfl rfl ?_; refine T_list ?_; refine kixR1 hrd (by repeat (first | with_reducible apply Pick.here | with_reducible apply Pick.there)) rfl rfl (q := 12) rfl (by decide) ?_; refine T_list ?_; refine kldR hrd (by repeat (first | with_reducible apply Pick.here | with_reducible apply Pick.there)) rfl rfl hfl ?_; refine T_list ?_; refine kcmp rfl rfl rfl rfl ?_; refine T_list ?_; refine kmv rfl rfl ?_
            rw [hdec]
            generalize hHf : (d.hFlag i == 1) = Hf at *
            refine T_list ?_; refine T_call rfl (rhead_ctr B ia SB.length ic (d.hAge i) Hf SB hB (by omega) (by omega)) (by repeat (first | with_reducible apply Take.nil | apply Take.cons (by repeat (first | with_reducible apply Pick.here | with_reducible apply Pick.there)))) rfl ?_
            rintro v L' ⟨pa, pc, rfl, rfl⟩
            simp only [List.cons_append, List.nil_append]
            generalize hHB : pad (headB (d.hAge i) Hf SB) = HB at *
            skip
            refine T_list ?_; refine T_call rfl (same_ctr (arena z.ar) _ a pa 64 c 64 pc (d.at i) HB hrd Rd.slc (by decide)) (by repeat (first | with_reducible apply Take.nil | apply Take.cons (by repeat (first | with_reducible apply Pick.here | with_reducible apply Pick.there)))) rfl ?_
            rintro v L' ⟨rfl, rfl⟩
            simp only [List.cons_append, List.nil_append]
            by_cases heq : d.at i = HB
            · have ht := htold heq
              rw [decide_eq_true heq]
              refine T_list ?_; refine knot rfl rfl ?_; refine T_nil ?_; refine T_thenN ?_
              refine T_condF rfl ?_
              refine T_skip ?_; refine T_thenN ?_; refine T_seq ?_; refine T_region ?_; refine T_list ?_; refine kmv rfl rfl ?_; refine T_list ?_; refine kcv rfl rfl (by simp only [fits]; omega) ?_; refine T_list ?_; refine kmv rfl rfl ?_; refine T_list ?_; refine knc rfl rfl ?_; refine T_list ?_; refine kfd rfl rfl ?_; refine T_list ?_; refine kld rfl rfl (by repeat (first | with_reducible apply Pick.here | with_reducible apply Pick.there)) rfl ?_; refine T_list ?_; refine kcmp rfl rfl rfl rfl ?_; refine T_nil ?_; refine T_thenN ?_
              refine T_cond rfl (fun h => ?_) (fun h => ?_) <;> simp only [decide_eq_true_eq, decide_eq_false_iff_not, ne_eq, Decidable.not_not, Bool.not_eq_true', Bool.not_eq_false', Bool.cond_eq_true_distrib, Bool.cond_eq_false_distrib] at h
              · refine T_seq ?_; refine T_region ?_; refine T_list ?_; refine kmv rfl rfl ?_; refine T_list ?_; refine kmv rfl rfl ?_; refine T_list ?_; refine kcv rfl rfl (by simp only [fits]; omega) ?_; refine T_list ?_; refine knc rfl rfl ?_; refine T_list ?_; refine kfd rfl rfl ?_; refine T_list ?_; refine kst rfl rfl rfl (by repeat (first | with_reducible apply Pick.here | with_reducible apply Pick.there)) rfl ?_; refine T_nil ?_; refine T_thenN ?_; refine T_seq ?_; refine T_region ?_; refine T_list ?_; refine kmv rfl rfl ?_; refine T_list ?_; refine kmv rfl rfl ?_; refine T_list ?_; refine kixR1 hrd (by repeat (first | with_reducible apply Pick.here | with_reducible apply Pick.there)) rfl rfl (q := 12) rfl (by decide) ?_; refine T_list ?_; refine kldR hrd (by repeat (first | with_reducible apply Pick.here | with_reducible apply Pick.there)) rfl rfl hfl ?_; refine T_list ?_; refine kcmp rfl rfl rfl rfl ?_; refine T_list ?_; refine knc rfl rfl ?_; refine T_list ?_; refine kfd rfl rfl ?_; refine T_list ?_; refine kst rfl rfl rfl (by repeat (first | with_reducible apply Pick.here | with_reducible apply Pick.there)) rfl ?_; refine T_nil ?_; refine T_thenN ?_; refine T_region ?_; refine T_list ?_; refine kmv rfl rfl ?_; refine T_list ?_; refine kbs1 rfl rfl (vs := []) rfl (by simp) rfl ?_; intro _a; refine T_list ?_; refine kmv rfl rfl ?_
                rw [hdec]
                skip
                refine T_list ?_; refine kapR hB rfl rfl rfl (by repeat (first | with_reducible apply Pick.here | with_reducible apply Pick.there)) (by repeat (first | with_reducible apply Pick.here | with_reducible apply Pick.there)) (ones_encB _) (by omega) (by omega) (fun a2 c2 => ?_)
                rw [List.nil_append, Nat.zero_add]
                refine T_list ?_; refine knc rfl rfl ?_; refine T_list ?_; refine kfd rfl rfl ?_; refine T_list ?_; refine kst rfl rfl rfl (by repeat (first | with_reducible apply Pick.here | with_reducible apply Pick.there)) rfl ?_; refine T_nil ?_; refine T_inN ?_; refine T_thenN ?_; refine T_region ?_; refine T_list ?_; refine kmv rfl rfl ?_; refine T_list ?_; refine kaddN rfl rfl (q := 1) rfl (by simp only [fits]; omega) ?_; refine T_list ?_; refine kas rfl rfl ?_; refine T_nil ?_; refine T_thenN ?_
                refine T_close (R := rdR d) (Ls := rdL p d) z hz (by repeat (first | with_reducible apply Take.nil | apply Take.cons (by repeat (first | with_reducible apply Pick.here | ((with_reducible refine Pick.rowE ?_); rfl) | ((with_reducible refine Pick.slcE ?_ ?_ ?_) <;> rfl) | ((with_reducible refine Pick.imapE ?_); rfl) | with_reducible apply Pick.there)))) ?_
                refine T_inv (i + 1, ⟨d.hAge i, Hf, SB⟩, (a2, c2, slc 5 1 a2 SB.length c2 (SB.map encB))) ⟨⟨by dsimp only; omega, ⟨Rd.slc, q2, hle2⟩, by dsimp only; rw [Dsk.foundTo, ht, ← hst, better, if_pos (by dsimp only; omega)], .inr hleft⟩, (by first | omega | (dsimp only; omega))⟩ ⟨rfl, rfl, rfl, trivial⟩ ?_
                (repeat (first | exact perm_rest | apply perm_take (by repeat (first | with_reducible apply Pick.here | ((with_reducible refine Pick.rowE ?_); rfl) | ((with_reducible refine Pick.slcE ?_ ?_ ?_) <;> rfl) | ((with_reducible refine Pick.imapE ?_); rfl) | with_reducible apply Pick.there)) | apply perm_drop))
              · refine T_skip ?_; refine T_inN ?_; refine T_thenN ?_; refine T_region ?_; refine T_list ?_; refine kmv rfl rfl ?_; refine T_list ?_; refine kaddN rfl rfl (q := 1) rfl (by simp only [fits]; omega) ?_; refine T_list ?_; refine kas rfl rfl ?_; refine T_nil ?_; refine T_thenN ?_
                refine T_close (R := rdR d) (Ls := rdL p d) z hz (by repeat (first | with_reducible apply Take.nil | apply Take.cons (by repeat (first | with_reducible apply Pick.here | ((with_reducible refine Pick.rowE ?_); rfl) | ((with_reducible refine Pick.slcE ?_ ?_ ?_) <;> rfl) | ((with_reducible refine Pick.imapE ?_); rfl) | with_reducible apply Pick.there)))) ?_
                refine T_inv (i + 1, st, x) ⟨⟨by dsimp only; omega, hx, by dsimp only; rw [Dsk.foundTo, ht, ← hst, better, if_neg (by dsimp only; omega)], .inr hleft⟩, (by first | omega | (dsimp only; omega))⟩ ⟨rfl, rfl, rfl, trivial⟩ ?_
                (repeat (first | exact perm_rest | apply perm_take (by repeat (first | with_reducible apply Pick.here | ((with_reducible refine Pick.rowE ?_); rfl) | ((with_reducible refine Pick.slcE ?_ ?_ ?_) <;> rfl) | ((with_reducible refine Pick.imapE ?_); rfl) | with_reducible apply Pick.there)) | apply perm_drop))
            · have hno := hnone heq
              rw [decide_eq_false heq]
              refine T_list ?_; refine knot rfl rfl ?_; refine T_nil ?_; refine T_thenN ?_
              refine T_condT rfl ?_
              refine T_exit ?_; refine T_thenE ?_; refine T_inE ?_; refine T_thenN ?_; refine T_region ?_; refine T_list ?_; refine kmv rfl rfl ?_; refine T_list ?_; refine kaddN rfl rfl (q := 1) rfl (by simp only [fits]; omega) ?_; refine T_list ?_; refine kas rfl rfl ?_; refine T_nil ?_; refine T_thenN ?_
              refine T_close (R := rdR d) (Ls := rdL p d) z hz (by repeat (first | with_reducible apply Take.nil | apply Take.cons (by repeat (first | with_reducible apply Pick.here | ((with_reducible refine Pick.rowE ?_); rfl) | ((with_reducible refine Pick.slcE ?_ ?_ ?_) <;> rfl) | ((with_reducible refine Pick.imapE ?_); rfl) | with_reducible apply Pick.there)))) ?_
              refine T_inv (i + 1, st, x) ⟨⟨by dsimp only; omega, hx, by dsimp only; rw [Dsk.foundTo, hno, ← hst]; rfl, .inr hleft⟩, (by first | omega | (dsimp only; omega))⟩ ⟨rfl, rfl, rfl, trivial⟩ ?_
              (repeat (first | exact perm_rest | apply perm_take (by repeat (first | with_reducible apply Pick.here | ((with_reducible refine Pick.rowE ?_); rfl) | ((with_reducible refine Pick.slcE ?_ ?_ ?_) <;> rfl) | ((with_reducible refine Pick.imapE ?_); rfl) | with_reducible apply Pick.there)) | apply perm_drop))
      · obtain rfl : i = 2 := by omega
        refine T_exit ?_; refine T_thenE ?_; refine T_thenE ?_; refine T_inE ?_; refine T_thenN ?_; refine T_seq ?_; refine T_region ?_; refine T_list ?_; refine kmv rfl rfl ?_; refine T_list ?_; refine kas rfl rfl ?_; refine T_list ?_; refine kas rfl rfl ?_; refine T_nil ?_; refine T_thenN ?_; refine T_ret ?_
        have hleft : d.left ≠ 0 := by rcases hl with h | h; · cases h
                                      · exact h
        rw [found_to] at hst
        rw [← hst]
        refine T_close (R := stR st) (Ls := rsL _b p st) x hx (by repeat (first | with_reducible apply Take.nil | apply Take.cons (by repeat (first | with_reducible apply Pick.here | ((with_reducible refine Pick.rowE ?_); rfl) | ((with_reducible refine Pick.slcE ?_ ?_ ?_) <;> rfl) | ((with_reducible refine Pick.imapE ?_); rfl) | with_reducible apply Pick.there)))) ?_
        refine T_fin [_, _] [RS _b p st, RD p d] ⟨rfl, rfl, trivial⟩ (.inr (.inr ⟨h4, hleft, _b, rfl, rfl⟩)) ?_
        (repeat (first | exact perm_rest | apply perm_take (by repeat (first | with_reducible apply Pick.here | with_reducible apply Pick.there)) | apply perm_drop))
end Go.Proofs
namespace Go.Proofs
set_option linter.unnecessarySimpa false
open Go Go.Sl
attribute [local irreducible] Still T opO Sl.Inv row slc wpSeq Code.wp wpList Exit.then Exit.inBlock
set_option linter.unusedVariables false
set_option linter.unusedSimpArgs false
set_option maxRecDepth 4000
/-- One of the things that are done, as it lies in memory. -/
structure OpV where
  what : Int
  i : Int
  n : Int
  b : Bytes
  ab : Option Addr
  cb : Nat
  k : List Bool
  ak : Option Addr
  ck : Nat
def OpV.cells (o : OpV) : List Value := [.int .i64 o.what, .int .i64 o.i, .int .i64 o.n, .slice o.ab o.b.length o.cb, .slice o.ak o.k.length o.ck]
structure OpV.ok (A : SP) (o : OpV) : Prop where
  rb : Rd A 1 o.ab o.b.length (o.b.map encB)
  rk : Rd A 1 o.ak o.k.length (o.k.map .bool)
  cb : o.b.length ≤ o.cb
  lb : o.b.length ≤ 9223372036854775807
  lk : o.k.length ≤ 9223372036854775807
theorem cells5 : ∀ o : OpV, (OpV.cells o).length = 5 := fun _ => rfl
def small (o : OpV) : Bool := decide (o.b.length ≤ 400 ∧ o.k.length ≤ 50)
def fewB (l : List OpV) : Bool := l.all small && decide (l.length ≤ 20)
theorem few_ctr (A : SP) (al : Option Addr) (cl : Nat) (l : List OpV) (hr : Rd A 5 al l.length (l.flatMap OpV.cells)) (hok : ∀ o ∈ l, o.ok A) (hm : l.length ≤ 9223372036854775807) :
    Ctr Tryd.prog 5 [.slice al l.length cl] [A] (fun v L => v = .bool (fewB l) ∧ L = [A]) := by
  refine Ctr.of Tryd.func5 rfl rfl (fun w F => ?_)
  simp only [Tryd.ntmps5, env0, List.cons_append, List.nil_append]
  refine T_seq ?_; refine T_region ?_; refine T_list ?_; refine kas rfl rfl ?_; refine T_nil ?_; refine T_thenN ?_; refine T_seq ?_; refine T_seq ?_; refine T_region ?_; refine T_list ?_; refine kas rfl rfl ?_; refine T_nil ?_; refine T_thenN ?_; refine T_block ?_
  refine T_loop (ι := Nat) (fun i => i ≤ l.length ∧ (l.take i).all small = true) (fun i => [(3, .int .i64 (i : Nat)), (0, .slice al l.length cl)]) (fun _ => A :: F) (fun i => l.length - i) ?_ ?_
  · exact T_inv 0 ⟨Nat.zero_le _, by simp⟩ ⟨rfl, rfl, trivial⟩ perm_rest
  · rintro i ⟨hi, hall⟩
    refine T_seq ?_; refine T_seq ?_; refine T_region ?_; refine T_list ?_; refine kmv rfl rfl ?_; refine T_list ?_; refine kmv rfl rfl ?_; refine T_list ?_; refine klen rfl rfl ?_; refine T_list ?_; refine kcmp rfl rfl rfl rfl ?_; refine T_nil ?_; refine T_thenN ?_
    refine T_cond rfl (fun h => ?_) (fun h => ?_) <;> simp only [decide_eq_true_eq, decide_eq_false_iff_not, ne_eq, Decidable.not_not, Bool.not_eq_true', Bool.not_eq_false', Bool.cond_eq_true_distrib, Bool.cond_eq_false_distrib] at h
    · have h1 : i < l.length := by omega
      have hpos : 0 < (l.flatMap OpV.cells).length := by rw [flatMap_len _ 5 _ (fun o _ => cells5 o)]; omega
      have c3 : (l.flatMap OpV.cells)[i * 5 + 3]? = some (.slice l[i].ab l[i].b.length l[i].cb) := flat_cell_at (fun o _ => cells5 o) h1 (by decide)
      have c4 : (l.flatMap OpV.cells)[i * 5 + 4]? = some (.slice l[i].ak l[i].k.length l[i].ck) := flat_cell_at (fun o _ => cells5 o) h1 (by decide)
      have hsnoc : (l.take (i + 1)).all small = ((l.take i).all small && small l[i]) := by
        rw [take_snoc h1, List.all_append]; simp
      have hlb := (hok _ (List.getElem_mem h1)).lb
      have hlk := (hok _ (List.getElem_mem h1)).lk
      have hsm : small l[i] = decide (l[i].b.length ≤ 400 ∧ l[i].k.length ≤ 50) := rfl
      generalize hB : l[i].b.length = B at *
      generalize hK : l[i].k.length = K at *
      by_cases g1 : 400 < B
      · have F1 : decide ((400 : Int) < (B : Nat)) = true := decide_eq_true (by omega)
        refine T_skip ?_; refine T_thenN ?_; refine T_seq ?_; refine T_block ?_; refine T_seq ?_; refine T_region ?_; refine T_list ?_; refine kmv rfl rfl ?_; refine T_list ?_; refine kmv rfl rfl ?_; refine T_list ?_; refine kixR hr (by repeat (first | with_reducible apply Pick.here | with_reducible apply Pick.there)) rfl rfl rfl h1 ?_; refine T_list ?_; refine kfdRd hr (by repeat (first | with_reducible apply Pick.here | with_reducible apply Pick.there)) hpos rfl rfl ?_; refine T_list ?_; refine kldR hr (by repeat (first | with_reducible apply Pick.here | with_reducible apply Pick.there)) rfl rfl c3 ?_; refine T_list ?_; refine klen rfl rfl ?_; refine T_list ?_; refine kcmpT rfl rfl rfl rfl F1 ?_; refine T_list ?_; refine kmv rfl rfl ?_; refine T_guardN rfl rfl rfl rfl ?_; refine T_guardN rfl rfl rfl rfl ?_; refine T_guardN rfl rfl rfl rfl ?_; refine T_guardN rfl rfl rfl rfl ?_; refine T_guardN rfl rfl rfl rfl ?_; refine T_guardN rfl rfl rfl rfl ?_; refine T_guardN rfl rfl rfl rfl ?_; refine T_list ?_; refine kpT rfl rfl rfl ?_; refine T_nil ?_; refine T_thenN ?_
        refine T_condT rfl ?_
        refine T_seq ?_; refine T_region ?_; refine T_list ?_; refine kas rfl rfl ?_; refine T_nil ?_; refine T_thenN ?_; refine T_ret ?_; refine T_inR ?_; refine T_thenR ?_; refine T_thenR ?_; refine T_inR ?_; refine T_thenR ?_
        have hf : fewB l = false := by
          have : small l[i] = false := by rw [hsm]; exact decide_eq_false (by omega)
          unfold fewB
          rw [show l.all small = false from by
            rw [Bool.eq_false_iff]; intro h; have := List.all_eq_true.1 h l[i] (List.getElem_mem h1); simp_all]
          rfl
        rw [hf]
        refine T_fin [_] _ ⟨rfl, trivial⟩ ⟨rfl, rfl⟩ ?_
        (repeat (first | exact perm_rest | apply perm_take (by repeat (first | with_reducible apply Pick.here | with_reducible apply Pick.there)) | apply perm_drop))
      · have F1 : decide ((400 : Int) < (B : Nat)) = false := decide_eq_false (by omega)
        by_cases g2 : 50 < K
        · have F2 : decide ((50 : Int) < (K : Nat)) = true := decide_eq_true (by omega)
          refine T_skip ?_; refine T_thenN ?_; refine T_seq ?_; refine T_block ?_; refine T_seq ?_; refine T_region ?_; refine T_list ?_; refine kmv rfl rfl ?_; refine T_list ?_; refine kmv rfl rfl ?_; refine T_list ?_; refine kixR hr (by repeat (first | with_reducible apply Pick.here | with_reducible apply Pick.there)) rfl rfl rfl h1 ?_; refine T_list ?_; refine kfdRd hr (by repeat (first | with_reducible apply Pick.here | with_reducible apply Pick.there)) hpos rfl rfl ?_; refine T_list ?_; refine kldR hr (by repeat (first | with_reducible apply Pick.here | with_reducible apply Pick.there)) rfl rfl c3 ?_; refine T_list ?_; refine klen rfl rfl ?_; refine T_list ?_; refine kcmpF rfl rfl rfl rfl F1 ?_; refine T_list ?_; refine kmv rfl rfl ?_; refine T_guardY rfl rfl rfl ?_; refine T_list ?_; refine kmv rfl rfl ?_; refine T_guardY rfl rfl rfl ?_; refine T_list ?_; refine kmv rfl rfl ?_; refine T_guardY rfl rfl rfl ?_; refine T_list ?_; refine kixR hr (by repeat (first | with_reducible apply Pick.here | with_reducible apply Pick.there)) rfl rfl rfl h1 ?_; refine T_guardY rfl rfl rfl ?_; refine T_list ?_; refine kfdRd hr (by repeat (first | with_reducible apply Pick.here | with_reducible apply Pick.there)) hpos rfl rfl ?_; refine T_guardY rfl rfl rfl ?_; refine T_list ?_; refine kldR hr (by repeat (first | with_reducible apply Pick.here | with_reducible apply Pick.there)) rfl rfl c4 ?_; refine T_guardY rfl rfl rfl ?_; refine T_list ?_; refine klen rfl rfl ?_; refine T_guardY rfl rfl rfl ?_; refine T_list ?_; refine kcmpT rfl rfl rfl rfl F2 ?_; refine T_list ?_; refine kpF rfl rfl rfl ?_; refine T_nil ?_; refine T_thenN ?_
          refine T_condT rfl ?_
          refine T_seq ?_; refine T_region ?_; refine T_list ?_; refine kas rfl rfl ?_; refine T_nil ?_; refine T_thenN ?_; refine T_ret ?_; refine T_inR ?_; refine T_thenR ?_; refine T_thenR ?_; refine T_inR ?_; refine T_thenR ?_
          have hf : fewB l = false := by
            have : small l[i] = false := by rw [hsm]; exact decide_eq_false (by omega)
            unfold fewB
            rw [show l.all small = false from by
              rw [Bool.eq_false_iff]; intro h; have := List.all_eq_true.1 h l[i] (List.getElem_mem h1); simp_all]
            rfl
          rw [hf]
          refine T_fin [_] _ ⟨rfl, trivial⟩ ⟨rfl, rfl⟩ ?_
          (repeat (first | exact perm_rest | apply perm_take (by repeat (first | with_reducible apply Pick.here | with_reducible apply Pick.there)) | apply perm_drop))
        · have F2 : decide ((50 : Int) < (K : Nat)) = false := decide_eq_false (by omega)
          refine T_skip ?_; refine T_thenN ?_; refine T_seq ?_; refine T_block ?_; refine T_seq ?_; refine T_region ?_; refine T_list ?_; refine kmv rfl rfl ?_; refine T_list ?_; refine kmv rfl rfl ?_; refine T_list ?_; refine kixR hr (by repeat (first | with_reducible apply Pick.here | with_reducible apply Pick.there)) rfl rfl rfl h1 ?_; refine T_list ?_; refine kfdRd hr (by repeat (first | with_reducible apply Pick.here | with_reducible apply Pick.there)) hpos rfl rfl ?_; refine T_list ?_; refine kldR hr (by repeat (first | with_reducible apply Pick.here | with_reducible apply Pick.there)) rfl rfl c3 ?_; refine T_list ?_; refine klen rfl rfl ?_; refine T_list ?_; refine kcmpF rfl rfl rfl rfl F1 ?_; refine T_list ?_; refine kmv rfl rfl ?_; refine T_guardY rfl rfl rfl ?_; refine T_list ?_; refine kmv rfl rfl ?_; refine T_guardY rfl rfl rfl ?_; refine T_list ?_; refine kmv rfl rfl ?_; refine T_guardY rfl rfl rfl ?_; refine T_list ?_; refine kixR hr (by repeat (first | with_reducible apply Pick.here | with_reducible apply Pick.there)) rfl rfl rfl h1 ?_; refine T_guardY rfl rfl rfl ?_; refine T_list ?_; refine kfdRd hr (by repeat (first | with_reducible apply Pick.here | with_reducible apply Pick.there)) hpos rfl rfl ?_; refine T_guardY rfl rfl rfl ?_; refine T_list ?_; refine kldR hr (by repeat (first | with_reducible apply Pick.here | with_reducible apply Pick.there)) rfl rfl c4 ?_; refine T_guardY rfl rfl rfl ?_; refine T_list ?_; refine klen rfl rfl ?_; refine T_guardY rfl rfl rfl ?_; refine T_list ?_; refine kcmpF rfl rfl rfl rfl F2 ?_; refine T_list ?_; refine kpF rfl rfl rfl ?_; refine T_nil ?_; refine T_thenN ?_
          refine T_condF rfl ?_
          refine T_skip ?_; refine T_inN ?_; refine T_thenN ?_; refine T_region ?_; refine T_list ?_; refine kmv rfl rfl ?_; refine T_list ?_; refine kaddN rfl rfl (q := 1) rfl (by simp only [fits]; omega) ?_; refine T_list ?_; refine kas rfl rfl ?_; refine T_nil ?_; refine T_thenN ?_
          refine T_inv (i + 1) ⟨⟨(by first | omega | (dsimp only; omega)), by rw [hsnoc, hall, hsm, decide_eq_true (show B ≤ 400 ∧ K ≤ 50 by omega)]; rfl⟩, (by first | omega | (dsimp only; omega))⟩ ⟨rfl, rfl, trivial⟩ perm_rest
    · obtain rfl : i = l.length := by omega
      rw [List.take_length] at hall
      refine T_exit ?_; refine T_thenE ?_; refine T_thenE ?_; refine T_inE ?_; refine T_thenN ?_; refine T_seq ?_; refine T_region ?_; refine T_list ?_; refine kmv rfl rfl ?_; refine T_list ?_; refine klen rfl rfl ?_; refine T_list ?_; refine kcmp rfl rfl rfl rfl ?_; refine T_list ?_; refine kas rfl rfl ?_; refine T_nil ?_; refine T_thenN ?_; refine T_ret ?_
      have hf : fewB l = decide ((l.length : Int) ≤ 20) := by
        unfold fewB
        rw [hall, Bool.true_and]
        exact decide_eq_decide.2 (by omega)
      rw [hf]
      refine T_fin [_] _ ⟨rfl, trivial⟩ ⟨rfl, rfl⟩ ?_
      (repeat (first | exact perm_rest | apply perm_take (by repeat (first | with_reducible apply Pick.here | with_reducible apply Pick.there)) | apply perm_drop))
end Go.Proofs
namespace Go.Proofs
set_option linter.unusedVariables false
set_option linter.unusedSimpArgs false
set_option linter.unnecessarySimpa false
open Go Go.Sl
theorem new8_found : (Dsk.new 8).found = ⟨0, false, []⟩ := by kernel_rfl
theorem ex_e : ((Dsk.new 8).commit ⟨0, false, []⟩ [7]).e = 0 := by kernel_rfl
theorem ex_st : ((Dsk.new 8).commit ⟨0, false, []⟩ [7]).st = ⟨1, true, [7]⟩ := by kernel_rfl
theorem ex_len : ((Dsk.new 8).commit ⟨0, false, []⟩ [7]).d.k.length = 8 := by kernel_rfl
theorem ex_len5 : (((Dsk.new 8).commit ⟨0, false, []⟩ [7]).d.k.getD 5 []).length = 64 := by kernel_rfl
theorem ex_at : (((Dsk.new 8).commit ⟨0, false, []⟩ [7]).d.k.getD 5 []).head? = some 7 := by kernel_rfl
end Go.Proofs
