/- The whole commit, walked; the example of the chapter; what a store shows. Part 12 of 13 of the proof of SlotsPlays; no condition. -/
import Derived.Test.YtmjaepaakpaadaaDoorWalkJ
import Derived.Test.YtmjaepaakpaadaaDoorWalkK
import Derived.Test.YtmjaepaakpaadaaDoorWalkG
import Derived.Test.YtmjaepaakpaadaaDoorWalkH
namespace Go.Proofs
set_option linter.unnecessarySimpa false
open Go Go.Sl
attribute [local irreducible] Still T opO Sl.Inv row slc wpSeq Code.wp wpList Exit.then Exit.inBlock
set_option linter.unusedVariables false
set_option linter.unusedSimpArgs false
set_option maxRecDepth 4000
theorem keqBT {P : Program} {n : Nat} {w0 : World} {env : Env} {L : List SP} {ty : TypeId} {pos : String} {after : Array Edge} {g : Option (Nat × Bool)} {K : Act → World → Prop} {d xt yt : TypeId} {x y : Operand} {a b : Bool} [hu : UndTy P xt .bool]
    (hd : Nat.blt d n = true) (hx : ev env x = some (.bool a)) (hy : ev env y = some (.bool b)) (he : (a == b) = true) (h : T n w0 K ((d, .bool true) :: env) L) :
    T n w0 (opO P ⟨some d, .binOp .eql xt x y yt, ty, pos, after, g⟩ K) env L := T_still hd (S_eqBool hx hy) (by rw [he]; exact h)
theorem ssame_ctr (s p : Nat) (st : Sto) (B : SP) (b : Option Addr) (c : Nat) (hr : Rd B 1 b st.image.length (st.image.map encB)) (hm : st.image.length ≤ 100000) :
    Ctr Tryd.prog 20 [.pointer (some ⟨s, 0, none⟩), .int .i64 (st.age : Nat), .bool st.has, .slice b st.image.length c] [PS s p st, B]
      (fun v L => v = .bool true ∧ L = [PS s p st, B]) := by
  refine Ctr.of Tryd.func20 rfl rfl (fun w F => ?_)
  simp only [Tryd.ntmps20, env0, List.cons_append, List.nil_append]
  refine T_seq ?_; refine T_region ?_; refine T_list ?_; refine kas rfl rfl ?_; refine T_nil ?_; refine T_thenN ?_; refine T_seq ?_; refine T_region ?_; refine T_list ?_; refine kmv rfl rfl ?_
  refine T_list ?_; refine T_call rfl (image_ctr s p st) (by repeat (first | with_reducible apply Take.nil | apply Take.cons (by repeat (first | with_reducible apply Pick.here | with_reducible apply Pick.there)))) rfl ?_
  rintro v L' ⟨ia, ic, rfl, rfl⟩
  simp only [List.cons_append, List.nil_append]
  refine T_list ?_; refine kmv rfl rfl ?_; refine T_list ?_; refine kex rfl rfl rfl ?_; refine T_list ?_; refine kex rfl rfl rfl ?_; refine T_list ?_; refine kas rfl rfl ?_; refine T_list ?_; refine kas rfl rfl ?_; refine T_nil ?_; refine T_thenN ?_; refine T_seq ?_; refine T_region ?_; refine T_list ?_; refine kmv rfl rfl ?_
  refine T_list ?_; refine T_call rfl (age_ctr s p st) (by repeat (first | with_reducible apply Take.nil | apply Take.cons (by repeat (first | with_reducible apply Pick.here | with_reducible apply Pick.there)))) rfl ?_
  rintro v L' ⟨rfl, rfl⟩
  simp only [List.cons_append, List.nil_append]
  refine T_list ?_; refine kmv rfl rfl ?_; refine T_list ?_; refine kcmpT rfl rfl rfl rfl (by first | (simp only [decide_eq_true_eq, ne_eq]; done) | (simp only [decide_eq_true_eq, ne_eq]; omega)) ?_; refine T_list ?_; refine kmv rfl rfl ?_; refine T_guardY rfl rfl rfl ?_; refine T_list ?_; refine kmv rfl rfl ?_; refine T_guardY rfl rfl rfl ?_; refine T_list ?_; refine kmv rfl rfl ?_; refine T_guardY rfl rfl rfl ?_; refine T_list ?_; refine keqBT rfl rfl rfl (by simp) ?_; refine T_list ?_; refine kpT rfl rfl rfl ?_; refine T_list ?_; refine kmv rfl rfl ?_; refine T_guardY rfl rfl rfl ?_; refine T_list ?_; refine kmv rfl rfl ?_; refine T_guardY rfl rfl rfl ?_; refine T_list ?_; refine kmv rfl rfl ?_; refine T_guardY rfl rfl rfl ?_
  refine T_list ?_; refine T_call rfl (same_ctr _ _ ia b st.image.length ic st.image.length c st.image st.image Rd.slc hr (by omega)) (by repeat (first | with_reducible apply Take.nil | apply Take.cons (by repeat (first | with_reducible apply Pick.here | with_reducible apply Pick.there)))) rfl ?_
  rintro v L' ⟨rfl, rfl⟩
  simp only [List.cons_append, List.nil_append]
  refine T_list ?_; refine kpT rfl rfl rfl ?_; refine T_list ?_; refine kas rfl rfl ?_; refine T_nil ?_; refine T_thenN ?_; refine T_ret ?_
  refine T_fin [_] _ ⟨rfl, trivial⟩ ⟨rfl, rfl⟩ ?_
  (repeat (first | exact perm_rest | apply perm_take (by repeat (first | with_reducible apply Pick.here | with_reducible apply Pick.there)) | apply perm_drop))
theorem delete_ctr {tableS : SP} [hT : TableAt tableS] (s p : Nat) (st : Sto) (d : Dsk) :
    Ctr Tryd.prog 12 [.pointer (some ⟨s, 0, none⟩)] [PS s p st, PD p d, tableS]
      (fun v L => v = .int .i64 (d.delete st).e ∧ L = [PS s p (d.delete st).st, PD p (d.delete st).d, tableS]) := by
  refine Ctr.of Tryd.func12 rfl rfl (fun w F => ?_)
  simp only [Tryd.ntmps12, env0, List.cons_append, List.nil_append]
  refine T_open Pick.here ?_
  rintro x hx
  have hx2 := hx.2.1
  simp only [psL, List.cons_append, List.nil_append]
  unfold Dsk.delete
  refine T_seq ?_; refine T_region ?_; refine T_list ?_; refine kas rfl rfl ?_; refine T_nil ?_; refine T_thenN ?_; refine T_seq ?_; refine T_block ?_; refine T_seq ?_; refine T_region ?_; refine T_list ?_; refine kmv rfl rfl ?_; refine T_list ?_; refine knc rfl rfl ?_; refine T_list ?_; refine kfd rfl rfl ?_; refine T_list ?_; refine kfd rfl rfl ?_; refine T_list ?_; refine kld rfl rfl (by repeat (first | with_reducible apply Pick.here | with_reducible apply Pick.there)) rfl ?_; refine T_list ?_; refine knot rfl rfl ?_; refine T_list ?_; refine kas rfl rfl ?_; refine T_nil ?_; refine T_thenN ?_
  refine T_cond rfl (fun h => ?_) (fun h => ?_) <;> simp only [decide_eq_true_eq, decide_eq_false_iff_not, ne_eq, Decidable.not_not, Bool.not_eq_true', Bool.not_eq_false', Bool.cond_eq_true_distrib, Bool.cond_eq_false_distrib] at h
  · rw [if_pos (by simpa using h)]
    refine T_seq ?_; refine T_region ?_; refine T_list ?_; refine kas rfl rfl ?_; refine T_nil ?_; refine T_thenN ?_; refine T_ret ?_; refine T_inR ?_; refine T_thenR ?_
    refine T_close (R := stR st) (Ls := psL s p st) x hx (by repeat (first | with_reducible apply Take.nil | apply Take.cons (by repeat (first | with_reducible apply Pick.here | ((with_reducible refine Pick.rowE ?_); rfl) | ((with_reducible refine Pick.slcE ?_ ?_ ?_) <;> rfl) | ((with_reducible refine Pick.imapE ?_); rfl) | with_reducible apply Pick.there)))) ?_
    refine T_fin [_] _ ⟨rfl, trivial⟩ ⟨rfl, rfl⟩ ?_
    (repeat (first | exact perm_rest | apply perm_take (by repeat (first | with_reducible apply Pick.here | with_reducible apply Pick.there)) | apply perm_drop))
  · rw [if_neg (by simpa using h)]
    refine T_seq ?_; refine T_region ?_; refine T_list ?_; refine kmv rfl rfl ?_; refine T_list ?_; refine knc rfl rfl ?_; refine T_list ?_; refine kfd rfl rfl ?_; refine T_list ?_; refine kfd rfl rfl ?_; refine T_list ?_; refine kld rfl rfl (by repeat (first | with_reducible apply Pick.here | with_reducible apply Pick.there)) rfl ?_; refine T_list ?_; refine kcmp rfl rfl rfl rfl ?_; refine T_list ?_; refine kas rfl rfl ?_; refine T_nil ?_; refine T_thenN ?_
    refine T_cond rfl (fun h => ?_) (fun h => ?_) <;> simp only [decide_eq_true_eq, decide_eq_false_iff_not, ne_eq, Decidable.not_not, Bool.not_eq_true', Bool.not_eq_false', Bool.cond_eq_true_distrib, Bool.cond_eq_false_distrib] at h
    · rw [if_pos (by omega)]
      refine T_seq ?_; refine T_region ?_; refine T_list ?_; refine kas rfl rfl ?_; refine T_nil ?_; refine T_thenN ?_; refine T_ret ?_; refine T_inR ?_; refine T_thenR ?_
      refine T_close (R := stR st) (Ls := psL s p st) x hx (by repeat (first | with_reducible apply Take.nil | apply Take.cons (by repeat (first | with_reducible apply Pick.here | ((with_reducible refine Pick.rowE ?_); rfl) | ((with_reducible refine Pick.slcE ?_ ?_ ?_) <;> rfl) | ((with_reducible refine Pick.imapE ?_); rfl) | with_reducible apply Pick.there)))) ?_
      refine T_fin [_] _ ⟨rfl, trivial⟩ ⟨rfl, rfl⟩ ?_
      (repeat (first | exact perm_rest | apply perm_take (by repeat (first | with_reducible apply Pick.here | with_reducible apply Pick.there)) | apply perm_drop))
    · rw [if_neg (by omega)]
      refine T_skip ?_; refine T_inN ?_; refine T_thenN ?_; refine T_seq ?_; refine T_region ?_; refine T_list ?_; refine kmv rfl rfl ?_; refine T_list ?_; refine kmv rfl rfl ?_; refine T_list ?_; refine knc rfl rfl ?_; refine T_list ?_; refine kfd rfl rfl ?_; refine T_list ?_; refine kfd rfl rfl ?_; refine T_list ?_; refine kld rfl rfl (by repeat (first | with_reducible apply Pick.here | with_reducible apply Pick.there)) rfl ?_; refine T_list ?_; refine kaddN rfl rfl (q := 1) rfl (by simp only [fits]; omega) ?_; refine T_list ?_; refine kbld rfl (vs := [(0, _)]) rfl rfl ?_
      refine T_close (R := stR st) (Ls := psL s p st) x hx (by repeat (first | with_reducible apply Take.nil | apply Take.cons (by repeat (first | with_reducible apply Pick.here | ((with_reducible refine Pick.rowE ?_); rfl) | ((with_reducible refine Pick.slcE ?_ ?_ ?_) <;> rfl) | ((with_reducible refine Pick.imapE ?_); rfl) | with_reducible apply Pick.there)))) ?_
      refine T_nilS 5 1 ?_
      refine T_list ?_; refine T_call rfl (seal_ctr (tableS := tableS) s p st ⟨st.age + 1, false, []⟩ d (slc 5 1 none 0 0 []) none 0 Rd.slc (by dsimp only; omega) (by simp)) (by repeat (first | with_reducible apply Take.nil | apply Take.cons (by repeat (first | with_reducible apply Pick.here | with_reducible apply Pick.there)))) rfl ?_
      rintro v L' ⟨rfl, rfl⟩
      simp only [List.cons_append, List.nil_append]
      refine T_list ?_; refine kas rfl rfl ?_; refine T_nil ?_; refine T_thenN ?_; refine T_ret ?_
      refine T_fin [_] _ ⟨rfl, trivial⟩ ⟨rfl, rfl⟩ ?_
      (repeat (first | exact perm_rest | apply perm_take (by repeat (first | with_reducible apply Pick.here | with_reducible apply Pick.there)) | apply perm_drop))
theorem chunk_min (image : Bytes) (i : Nat) : (image.drop (64 * i)).take (min (image.length - 64 * i) 64) = chunk image i := by
  rw [chunk]
  by_cases h : 64 ≤ image.length - 64 * i
  · rw [Nat.min_eq_right h]
  · rw [Nat.min_eq_left (by omega), List.take_of_length_le (by simp), List.take_of_length_le (by simp; omega)]
set_option maxHeartbeats 2000000 in
theorem commit_ctr {tableS : SP} [hT : TableAt tableS] (s p : Nat) (st : Sto) (d : Dsk) (h4 : 4 ≤ d.k.length) (A : SP) (ia : Option Addr) (ic : Nat) (image : Bytes) (hr : Rd A 1 ia image.length (image.map encB)) (hm : image.length ≤ 100000) :
    Ctr Tryd.prog 10 [.pointer (some ⟨s, 0, none⟩), .slice ia image.length ic] [PS s p st, PD p d, A, tableS]
      (fun v L => v = .int .i64 (d.commit st image).e ∧ L = [PS s p (d.commit st image).st, PD p (d.commit st image).d, A, tableS]) := by
  refine Ctr.of Tryd.func10 rfl rfl (fun w F => ?_)
  simp only [Tryd.ntmps10, env0, List.cons_append, List.nil_append]
  refine T_know (p := d.ok) (fun w H => by obtain ⟨x, hx, _⟩ := (Pick.here.back H.drop).openAb; exact hx.1) (fun hok => ?_)
  have hfew := hok.few
  have hhalf : d.half ≤ 255 := by unfold Dsk.half; omega
  unfold Dsk.commit
  refine T_seq ?_; refine T_region ?_; refine T_list ?_; refine kas rfl rfl ?_; refine T_nil ?_; refine T_thenN ?_; refine T_seq ?_; refine T_block ?_; refine T_seq ?_; refine T_region ?_; refine T_list ?_; refine kmv rfl rfl ?_; refine T_list ?_; refine klen rfl rfl ?_; refine T_list ?_; refine kmv rfl rfl ?_
  refine T_list ?_; refine T_call rfl (room_ctr s p st d (by omega)) (by repeat (first | with_reducible apply Take.nil | apply Take.cons (by repeat (first | with_reducible apply Pick.here | with_reducible apply Pick.there)))) rfl ?_
  rintro v L' ⟨rfl, rfl⟩
  simp only [List.cons_append, List.nil_append]
  refine T_list ?_; refine kcmp rfl rfl rfl rfl ?_; refine T_list ?_; refine kas rfl rfl ?_; refine T_nil ?_; refine T_thenN ?_
  refine T_cond rfl (fun h => ?_) (fun h => ?_) <;> simp only [decide_eq_true_eq, decide_eq_false_iff_not, ne_eq, Decidable.not_not, Bool.not_eq_true', Bool.not_eq_false', Bool.cond_eq_true_distrib, Bool.cond_eq_false_distrib] at h
  · rw [if_pos (by omega)]
    refine T_seq ?_; refine T_region ?_; refine T_list ?_; refine kas rfl rfl ?_; refine T_nil ?_; refine T_thenN ?_; refine T_ret ?_; refine T_inR ?_; refine T_thenR ?_
    refine T_fin [_] _ ⟨rfl, trivial⟩ ⟨rfl, rfl⟩ ?_
    (repeat (first | exact perm_rest | apply perm_take (by repeat (first | with_reducible apply Pick.here | with_reducible apply Pick.there)) | apply perm_drop))
  · rw [if_neg (by omega)]
    refine T_open Pick.here ?_
    rintro x hx
    have hx2 := hx.2.1
    simp only [psL, List.cons_append, List.nil_append]
    refine T_seq ?_; refine T_region ?_; refine T_list ?_; refine kmv rfl rfl ?_; refine T_list ?_; refine knc rfl rfl ?_; refine T_list ?_; refine kfd rfl rfl ?_; refine T_list ?_; refine kfd rfl rfl ?_; refine T_list ?_; refine kld rfl rfl (by repeat (first | with_reducible apply Pick.here | with_reducible apply Pick.there)) rfl ?_; refine T_list ?_; refine kcmp rfl rfl rfl rfl ?_; refine T_list ?_; refine kas rfl rfl ?_; refine T_nil ?_; refine T_thenN ?_
    refine T_cond rfl (fun h => ?_) (fun h => ?_) <;> simp only [decide_eq_true_eq, decide_eq_false_iff_not, ne_eq, Decidable.not_not, Bool.not_eq_true', Bool.not_eq_false', Bool.cond_eq_true_distrib, Bool.cond_eq_false_distrib] at h
    · rw [if_pos (by omega)]
      refine T_seq ?_; refine T_region ?_; refine T_list ?_; refine kas rfl rfl ?_; refine T_nil ?_; refine T_thenN ?_; refine T_ret ?_; refine T_inR ?_; refine T_thenR ?_
      refine T_close (R := stR st) (Ls := psL s p st) x hx (by repeat (first | with_reducible apply Take.nil | apply Take.cons (by repeat (first | with_reducible apply Pick.here | ((with_reducible refine Pick.rowE ?_); rfl) | ((with_reducible refine Pick.slcE ?_ ?_ ?_) <;> rfl) | ((with_reducible refine Pick.imapE ?_); rfl) | with_reducible apply Pick.there)))) ?_
      refine T_fin [_] _ ⟨rfl, trivial⟩ ⟨rfl, rfl⟩ ?_
      (repeat (first | exact perm_rest | apply perm_take (by repeat (first | with_reducible apply Pick.here | with_reducible apply Pick.there)) | apply perm_drop))
    · rw [if_neg (by omega)]
      have hne : st.age + 1 ≤ 1099511627776 := by omega
      refine T_skip ?_; refine T_inN ?_; refine T_thenN ?_; refine T_seq ?_
      refine T_cut (ι := Nat × Option Addr × Nat) (fun _ => True) (fun y => [(5, .pointer (some ⟨y.1, 0, none⟩)), (0, .pointer (some ⟨s, 0, none⟩)), (1, .slice ia image.length ic)])
        (fun y => row y.1 63 [.int .i64 ((st.age + 1 : Nat) : Int), .bool true, .slice y.2.1 image.length y.2.2] :: slc 5 1 y.2.1 image.length y.2.2 (image.map encB) :: row s 65 [.int .i64 (st.age : Nat), .bool st.has, .slice x.1 st.image.length x.2.1, .pointer (some ⟨p, 0, none⟩)] :: x.2.2 :: PD p d :: A :: tableS :: F) ?_ ?_
      · refine T_drawB ([row s 65 [.int .i64 (st.age : Nat), .bool st.has, .slice x.1 st.image.length x.2.1, .pointer (some ⟨p, 0, none⟩)]]) [] [(0, true), (1, true), (2, true), (3, true), (4, true), (5, true), (6, true)] 7 [(8, true), (9, false), (10, false)] 9 [(7, false), (8, true), (10, false)] mixedT rfl (by kernel_rfl) ?_
        refine r_still (by repeat (first | with_reducible apply Take.nil | apply Take.cons (by repeat (first | with_reducible apply Pick.here | with_reducible apply Pick.there)))) rfl rfl ?_; refine ⟨_, (S_move rfl), ?_⟩; refine r_still (by repeat (first | with_reducible apply Take.nil | apply Take.cons (by repeat (first | with_reducible apply Pick.here | with_reducible apply Pick.there)))) rfl rfl ?_; refine ⟨_, (S_nilCheck rfl), ?_⟩; refine r_still (by repeat (first | with_reducible apply Take.nil | apply Take.cons (by repeat (first | with_reducible apply Pick.here | with_reducible apply Pick.there)))) rfl rfl ?_; refine ⟨_, (S_fieldR rfl), ?_⟩; refine r_still (by repeat (first | with_reducible apply Take.nil | apply Take.cons (by repeat (first | with_reducible apply Pick.here | with_reducible apply Pick.there)))) rfl rfl ?_; refine ⟨_, (S_fieldR rfl), ?_⟩; refine r_still (by repeat (first | with_reducible apply Take.nil | apply Take.cons (by repeat (first | with_reducible apply Pick.here | with_reducible apply Pick.there)))) rfl rfl ?_; refine ⟨_, (S_load rfl (by repeat (first | with_reducible apply Pick.here | with_reducible apply Pick.there)) rfl), ?_⟩; refine r_still (by repeat (first | with_reducible apply Take.nil | apply Take.cons (by repeat (first | with_reducible apply Pick.here | with_reducible apply Pick.there)))) rfl rfl ?_; refine ⟨_, (S_addNN rfl (q := 1) rfl (by simp only [fits]; omega)), ?_⟩; refine r_still (by repeat (first | with_reducible apply Take.nil | apply Take.cons (by repeat (first | with_reducible apply Pick.here | with_reducible apply Pick.there)))) rfl rfl ?_; refine ⟨_, (S_move rfl), ?_⟩; refine T_seqNil ?_
        refine T_both ?_ ?_
        · refine T_seqOp rfl ?_; refine T_call rfl (clone_ctr A ia image.length ic image hr (by omega)) (by repeat (first | with_reducible apply Take.nil | apply Take.cons (by repeat (first | with_reducible apply Pick.here | with_reducible apply Pick.there)))) rfl ?_
          rintro v L' ⟨ca, cc, rfl, rfl⟩
          simp only [List.cons_append, List.nil_append]
          refine r_back (by repeat (first | with_reducible apply Take.nil | apply Take.cons (by repeat (first | with_reducible apply Pick.here | with_reducible apply Pick.there)))) ?_; refine r_still (by repeat (first | with_reducible apply Take.nil | apply Take.cons (by repeat (first | with_reducible apply Pick.here | with_reducible apply Pick.there)))) rfl rfl ?_; refine ⟨_, (S_bld (vs := [(0, _), (1, _), (2, _)]) rfl rfl), ?_⟩; refine T_seqOp rfl ?_; refine kal rfl ?_; intro _b; refine r_back (by repeat (first | with_reducible apply Take.nil | apply Take.cons (by repeat (first | with_reducible apply Pick.here | with_reducible apply Pick.there)))) ?_; refine T_seqOp rfl ?_; refine kstA rfl rfl (by simp [Value.oneCell', splice, Value.cells]) rfl (by repeat (first | with_reducible apply Pick.here | with_reducible apply Pick.there)) (by rfl) ?_; refine r_back (by repeat (first | with_reducible apply Take.nil | apply Take.cons (by repeat (first | with_reducible apply Pick.here | with_reducible apply Pick.there)))) ?_; refine T_seqNil ?_; refine T_thenN ?_
          refine T_inv (_, ca, cc) trivial ⟨rfl, rfl, rfl, trivial⟩ ?_
          (repeat (first | exact perm_rest | apply perm_take (by repeat (first | with_reducible apply Pick.here | ((with_reducible refine Pick.rowE ?_); rfl) | ((with_reducible refine Pick.slcE ?_ ?_ ?_) <;> rfl) | ((with_reducible refine Pick.imapE ?_); rfl) | with_reducible apply Pick.there)) | apply perm_drop))
        · refine T_seqOp rfl ?_; refine kal rfl ?_; intro _b; refine r_back (by repeat (first | with_reducible apply Take.nil | apply Take.cons (by repeat (first | with_reducible apply Pick.here | with_reducible apply Pick.there)))) ?_
          refine T_seqOp rfl ?_; refine T_call rfl (clone_ctr A ia image.length ic image hr (by omega)) (by repeat (first | with_reducible apply Take.nil | apply Take.cons (by repeat (first | with_reducible apply Pick.here | with_reducible apply Pick.there)))) rfl ?_
          rintro v L' ⟨ca, cc, rfl, rfl⟩
          simp only [List.cons_append, List.nil_append]
          refine r_back (by repeat (first | with_reducible apply Take.nil | apply Take.cons (by repeat (first | with_reducible apply Pick.here | with_reducible apply Pick.there)))) ?_; refine r_still (by repeat (first | with_reducible apply Take.nil | apply Take.cons (by repeat (first | with_reducible apply Pick.here | with_reducible apply Pick.there)))) rfl rfl ?_; refine ⟨_, (S_bld (vs := [(0, _), (1, _), (2, _)]) rfl rfl), ?_⟩; refine T_seqOp rfl ?_; refine kstA rfl rfl (by simp [Value.oneCell', splice, Value.cells]) rfl (by repeat (first | with_reducible apply Pick.here | with_reducible apply Pick.there)) (by rfl) ?_; refine r_back (by repeat (first | with_reducible apply Take.nil | apply Take.cons (by repeat (first | with_reducible apply Pick.here | with_reducible apply Pick.there)))) ?_; refine T_seqNil ?_; refine T_thenN ?_
          refine T_inv (_, ca, cc) trivial ⟨rfl, rfl, rfl, trivial⟩ ?_
          (repeat (first | exact perm_rest | apply perm_take (by repeat (first | with_reducible apply Pick.here | ((with_reducible refine Pick.rowE ?_); rfl) | ((with_reducible refine Pick.slcE ?_ ?_ ?_) <;> rfl) | ((with_reducible refine Pick.imapE ?_); rfl) | with_reducible apply Pick.there)) | apply perm_drop))
      · rintro ⟨b5, ca, cc⟩ _
        dsimp only
        generalize hRS : row s 65 [.int .i64 (st.age : Nat), .bool st.has, .slice x.1 st.image.length x.2.1, .pointer (some ⟨p, 0, none⟩)] = RS0 at *
        subst hRS
        have hage2 : (st.age + 1) % 2 ≤ 1 := by omega
        refine T_know (p := image.length ≤ cc) (fun w H => (Hd.openSlc H.drop).2.1) (fun hcc => ?_)
        refine T_seq ?_; refine T_region ?_; refine T_list ?_; refine kfd rfl rfl ?_; refine T_list ?_; refine kld rfl rfl (by repeat (first | with_reducible apply Pick.here | with_reducible apply Pick.there)) rfl ?_; refine T_list ?_; refine kas rfl rfl ?_; refine T_nil ?_; refine T_thenN ?_; refine T_seq ?_; refine T_seq ?_
        refine T_drawR ([row s 65 [.int .i64 (st.age : Nat), .bool st.has, .slice x.1 st.image.length x.2.1, .pointer (some ⟨p, 0, none⟩)], row b5 63 [.int .i64 ((st.age + 1 : Nat) : Int), .bool true, .slice ca image.length cc]]) [] [(0, true), (1, true), (2, true), (3, true), (4, true), (5, true), (6, true), (7, false), (8, true)] mixedT rfl (by kernel_rfl) ?_
        refine r_still (by repeat (first | with_reducible apply Take.nil | apply Take.cons (by repeat (first | with_reducible apply Pick.here | with_reducible apply Pick.there)))) rfl rfl ?_; refine ⟨_, (S_move rfl), ?_⟩; refine r_still (by repeat (first | with_reducible apply Take.nil | apply Take.cons (by repeat (first | with_reducible apply Pick.here | with_reducible apply Pick.there)))) rfl rfl ?_; refine ⟨_, (S_nilCheck rfl), ?_⟩; refine r_still (by repeat (first | with_reducible apply Take.nil | apply Take.cons (by repeat (first | with_reducible apply Pick.here | with_reducible apply Pick.there)))) rfl rfl ?_; refine ⟨_, (S_fieldR rfl), ?_⟩; refine r_still (by repeat (first | with_reducible apply Take.nil | apply Take.cons (by repeat (first | with_reducible apply Pick.here | with_reducible apply Pick.there)))) rfl rfl ?_; refine ⟨_, (S_load rfl (by repeat (first | with_reducible apply Pick.here | with_reducible apply Pick.there)) rfl), ?_⟩; refine r_still (by repeat (first | with_reducible apply Take.nil | apply Take.cons (by repeat (first | with_reducible apply Pick.here | with_reducible apply Pick.there)))) rfl rfl ?_; refine ⟨_, (S_fieldR rfl), ?_⟩; refine r_still (by repeat (first | with_reducible apply Take.nil | apply Take.cons (by repeat (first | with_reducible apply Pick.here | with_reducible apply Pick.there)))) rfl rfl ?_; refine ⟨_, (S_load rfl (by repeat (first | with_reducible apply Pick.here | with_reducible apply Pick.there)) rfl), ?_⟩; refine r_still (by repeat (first | with_reducible apply Take.nil | apply Take.cons (by repeat (first | with_reducible apply Pick.here | with_reducible apply Pick.there)))) rfl rfl ?_; refine ⟨_, (S_remNN rfl (q := 2) rfl rfl), ?_⟩
        refine T_seqOp rfl ?_; refine T_call rfl (from_ctr p d (by omega) ((st.age + 1) % 2) hage2) (by repeat (first | with_reducible apply Take.nil | apply Take.cons (by repeat (first | with_reducible apply Pick.here | with_reducible apply Pick.there)))) rfl ?_
        rintro v L' ⟨rfl, rfl⟩
        simp only [List.cons_append, List.nil_append]
        rw [show (d.k.length - 2) / 2 = d.half from rfl]
        refine r_back (by repeat (first | with_reducible apply Take.nil | apply Take.cons (by repeat (first | with_reducible apply Pick.here | with_reducible apply Pick.there)))) ?_; refine r_still (by repeat (first | with_reducible apply Take.nil | apply Take.cons (by repeat (first | with_reducible apply Pick.here | with_reducible apply Pick.there)))) rfl rfl ?_; refine ⟨_, (S_assign rfl), ?_⟩; refine T_seqNil ?_; refine T_thenN ?_; refine T_block ?_
        have hbase : (st.age + 1) % 2 * d.half ≤ 1 * d.half := Nat.mul_le_mul_right _ hage2
        have hb1 : ∀ i, i < chunks image → 2 + (st.age + 1) % 2 * d.half + i < d.k.length := fun i hi => Dsk.half_le h4 hage2 (by unfold chunks at hi; omega)
        have hbody : d.body st image = d.writes (2 + (st.age + 1) % 2 * d.half) image (chunks image) 0 := rfl
        generalize hB : 2 + (st.age + 1) % 2 * d.half = B at *
        have hN : chunks image ≤ 2000 := by unfold chunks; omega
        generalize hS : slc 5 1 ca image.length cc (image.map encB) = S at *
        have hSr : Rd S 1 ca image.length (image.map encB) := hS ▸ Rd.slc
        refine T_loop (ι := Nat × Option Addr × Nat × Dsk) (fun y => y.1 ≤ chunks image ∧ Rd S 1 y.2.1 (image.length - 64 * y.1) ((image.drop (64 * y.1)).map encB) ∧ image.length - 64 * y.1 ≤ y.2.2.1 ∧ y.2.2.2.ok ∧ y.2.2.2.k.length = d.k.length ∧ y.2.2.2.writes B image (chunks image - y.1) y.1 = d.writes B image (chunks image) 0)
          (fun y => [(6, .slice y.2.1 (image.length - 64 * y.1) y.2.2.1), (7, .int .i64 ((B + y.1 : Nat) : Int)), (5, .pointer (some ⟨b5, 0, none⟩)), (0, .pointer (some ⟨s, 0, none⟩)), (1, .slice ia image.length ic)])
          (fun y => PD p y.2.2.2 :: row b5 63 [.int .i64 ((st.age + 1 : Nat) : Int), .bool true, .slice ca image.length cc] :: S :: row s 65 [.int .i64 (st.age : Nat), .bool st.has, .slice x.1 st.image.length x.2.1, .pointer (some ⟨p, 0, none⟩)] :: x.2.2 :: A :: tableS :: F)
          (fun y => chunks image - y.1) ?_ ?_
        · refine T_inv (0, ca, cc, d) ⟨Nat.zero_le _, hSr, by dsimp only; omega, hok, rfl, rfl⟩ ⟨rfl, rfl, rfl, rfl, rfl, trivial⟩ ?_
          (repeat (first | exact perm_rest | apply perm_take (by repeat (first | with_reducible apply Pick.here | with_reducible apply Pick.there)) | apply perm_drop))
        · rintro ⟨i, ra, rc, e⟩ ⟨hi, hrr, hrc, heok, hel, hwr⟩
          dsimp only at hi hrr hrc heok hel hwr ⊢
          refine T_seq ?_; refine T_seq ?_; refine T_region ?_; refine T_list ?_; refine kmv rfl rfl ?_; refine T_list ?_; refine klen rfl rfl ?_; refine T_list ?_; refine kcmp rfl rfl rfl rfl ?_; refine T_nil ?_; refine T_thenN ?_
          refine T_cond rfl (fun h => ?_) (fun h => ?_) <;> simp only [decide_eq_true_eq, decide_eq_false_iff_not, ne_eq, Decidable.not_not, Bool.not_eq_true', Bool.not_eq_false', Bool.cond_eq_true_distrib, Bool.cond_eq_false_distrib] at h
          · have hlt : i < chunks image := by unfold chunks; omega
            have hNi : chunks image - i = (chunks image - (i + 1)) + 1 := by omega
            rw [hNi, Dsk.writes] at hwr
            refine T_skip ?_; refine T_thenN ?_; refine T_seq ?_; refine T_block ?_; refine T_seq ?_; refine T_region ?_; refine T_list ?_; refine kmv rfl rfl ?_; refine T_list ?_; refine klen rfl rfl ?_; refine T_list ?_; refine kmin rfl rfl rfl ?_; refine T_list ?_; refine kas rfl rfl ?_; refine T_nil ?_; refine T_thenN ?_; refine T_seq ?_; refine T_seq ?_
            rw [show min ((image.length - 64 * i : Nat) : Int) 64 = ((min (image.length - 64 * i) 64 : Nat) : Int) by omega]
            generalize hn : min (image.length - 64 * i) 64 = q at *
            have hq1 : q ≤ image.length - 64 * i := by omega
            have hpre : Rd S 1 ra q ((chunk image i).map encB) := by
              have := Rd.pre hrr hq1
              rw [← hn, chunk_min] at this; rw [← hn]; exact this
            have hrest := Rd.rest hrr (by rw [List.length_drop]) hq1 hrc
            rw [List.drop_drop] at hrest
            skip
            refine T_drawR ([row s 65 [.int .i64 (st.age : Nat), .bool st.has, .slice x.1 st.image.length x.2.1, .pointer (some ⟨p, 0, none⟩)]]) [] [(0, true), (1, true), (2, true), (3, true), (4, true), (5, true), (6, true), (7, true), (8, false), (9, true)] mixedT rfl (by kernel_rfl) ?_
            refine r_still (by repeat (first | with_reducible apply Take.nil | apply Take.cons (by repeat (first | with_reducible apply Pick.here | with_reducible apply Pick.there)))) rfl rfl ?_; refine ⟨_, (S_move rfl), ?_⟩; refine r_still (by repeat (first | with_reducible apply Take.nil | apply Take.cons (by repeat (first | with_reducible apply Pick.here | with_reducible apply Pick.there)))) rfl rfl ?_; refine ⟨_, (S_nilCheck rfl), ?_⟩; refine r_still (by repeat (first | with_reducible apply Take.nil | apply Take.cons (by repeat (first | with_reducible apply Pick.here | with_reducible apply Pick.there)))) rfl rfl ?_; refine ⟨_, (S_fieldR rfl), ?_⟩; refine r_still (by repeat (first | with_reducible apply Take.nil | apply Take.cons (by repeat (first | with_reducible apply Pick.here | with_reducible apply Pick.there)))) rfl rfl ?_; refine ⟨_, (S_load rfl (by repeat (first | with_reducible apply Pick.here | with_reducible apply Pick.there)) rfl), ?_⟩; refine r_still (by repeat (first | with_reducible apply Take.nil | apply Take.cons (by repeat (first | with_reducible apply Pick.here | with_reducible apply Pick.there)))) rfl rfl ?_; refine ⟨_, (S_move rfl), ?_⟩; refine r_still (by repeat (first | with_reducible apply Take.nil | apply Take.cons (by repeat (first | with_reducible apply Pick.here | with_reducible apply Pick.there)))) rfl rfl ?_; refine ⟨_, (S_move rfl), ?_⟩; refine r_still (by repeat (first | with_reducible apply Take.nil | apply Take.cons (by repeat (first | with_reducible apply Pick.here | with_reducible apply Pick.there)))) rfl rfl ?_; refine ⟨_, (S_move rfl), ?_⟩; refine r_still (by repeat (first | with_reducible apply Take.nil | apply Take.cons (by repeat (first | with_reducible apply Pick.here | with_reducible apply Pick.there)))) rfl rfl ?_; refine ⟨_, (S_sl (q := q) rfl bnd_none0 (bnd_nat rfl) (Nat.zero_le _) (by omega)), ?_⟩
            rw [if_add0]
            refine T_seqOp rfl ?_; refine T_call rfl (dwrite_ctr p e ((B + i : Nat) : Int) S ra (q - 0) (rc - 0) (chunk image i) hpre) (by repeat (first | with_reducible apply Take.nil | apply Take.cons (by repeat (first | with_reducible apply Pick.here | with_reducible apply Pick.there)))) rfl ?_
            rintro v L' ⟨rfl, rfl⟩
            simp only [List.cons_append, List.nil_append]
            have hwl := like_write e ((B + i : Nat) : Int) (chunk image i)
            have hwo := heok.write ((B + i : Nat) : Int) (chunk image i)
            generalize hW : e.write ((B + i : Nat) : Int) (chunk image i) = W at *
            refine r_back (by repeat (first | with_reducible apply Take.nil | apply Take.cons (by repeat (first | with_reducible apply Pick.here | with_reducible apply Pick.there)))) ?_; refine r_still (by repeat (first | with_reducible apply Take.nil | apply Take.cons (by repeat (first | with_reducible apply Pick.here | with_reducible apply Pick.there)))) rfl rfl ?_; refine ⟨_, (S_assign rfl), ?_⟩; refine T_seqNil ?_; refine T_thenN ?_; refine T_seq ?_; refine T_region ?_; refine T_list ?_; refine kmv rfl rfl ?_; refine T_list ?_; refine kcmp rfl rfl rfl rfl ?_; refine T_nil ?_; refine T_thenN ?_
            refine T_cond rfl (fun h => ?_) (fun h => ?_) <;> simp only [decide_eq_true_eq, decide_eq_false_iff_not, ne_eq, Decidable.not_not, Bool.not_eq_true', Bool.not_eq_false', Bool.cond_eq_true_distrib, Bool.cond_eq_false_distrib] at h
            · rw [if_neg h] at hwr
              rw [hbody, ← hwr, if_neg h]
              refine T_seq ?_; refine T_region ?_; refine T_list ?_; refine kmv rfl rfl ?_; refine T_list ?_; refine kas rfl rfl ?_; refine T_nil ?_; refine T_thenN ?_; refine T_ret ?_; refine T_thenR ?_; refine T_inR ?_; refine T_thenR ?_; refine T_thenR ?_; refine T_inR ?_; refine T_thenR ?_
              refine T_close (R := stR st) (Ls := psL s p st) x hx (by repeat (first | with_reducible apply Take.nil | apply Take.cons (by repeat (first | with_reducible apply Pick.here | ((with_reducible refine Pick.rowE ?_); rfl) | ((with_reducible refine Pick.slcE ?_ ?_ ?_) <;> rfl) | ((with_reducible refine Pick.imapE ?_); rfl) | with_reducible apply Pick.there)))) ?_
              refine T_fin [_] _ ⟨rfl, trivial⟩ ⟨rfl, rfl⟩ ?_
              (repeat (first | exact perm_rest | apply perm_take (by repeat (first | with_reducible apply Pick.here | with_reducible apply Pick.there)) | apply perm_drop))
            · rw [if_pos h] at hwr
              refine T_skip ?_; refine T_thenN ?_; refine T_region ?_; refine T_list ?_; refine kmv rfl rfl ?_; refine T_list ?_; refine kmv rfl rfl ?_
              refine T_list ?_; refine ksl (l := q) rfl rfl (bnd_nat rfl) bnd_none hq1 hrc ?_
              rw [Nat.mul_one]
              have e1 : image.length - 64 * (i + 1) = image.length - 64 * i - q := by omega
              have e2 : image.drop (64 * (i + 1)) = image.drop (64 * i + q) := by
                by_cases h64 : q = 64
                · rw [h64]; congr 1
                · rw [List.drop_of_length_le (by omega), List.drop_of_length_le (by omega)]
              refine T_list ?_; refine kas rfl rfl ?_; refine T_nil ?_; refine T_inN ?_; refine T_thenN ?_; refine T_region ?_; refine T_list ?_; refine kmv rfl rfl ?_; refine T_list ?_; refine kaddN rfl rfl (q := 1) rfl (by simp only [fits]; omega) ?_; refine T_list ?_; refine kas rfl rfl ?_; refine T_nil ?_; refine T_thenN ?_
              refine T_inv (i + 1, restA ra rc q, rc - q, W.2) ⟨⟨(by first | omega | (dsimp only; omega)), ?_, ?_, hwo, hwl.len.trans hel, hwr⟩, (by first | omega | (dsimp only; omega))⟩ ⟨?_, rfl, rfl, rfl, rfl, trivial⟩ ?_
              · dsimp only; rw [e1, e2]; exact hrest
              · dsimp only; omega
              · show some _ = some _
                rw [e1]; rfl
              · (repeat (first | exact perm_rest | apply perm_take (by repeat (first | with_reducible apply Pick.here | with_reducible apply Pick.there)) | apply perm_drop))
          · obtain rfl : i = chunks image := by unfold chunks at *; omega
            rw [Nat.sub_self, Dsk.writes] at hwr
            rw [hbody, ← hwr]
            dsimp only
            rw [if_pos rfl]
            refine T_exit ?_; refine T_thenE ?_; refine T_thenE ?_; refine T_inE ?_; refine T_thenN ?_; refine T_seq ?_; refine T_seq ?_; refine T_region ?_; refine T_list ?_; refine kmv rfl rfl ?_; refine T_list ?_; refine knc rfl rfl ?_; refine T_list ?_; refine kfd rfl rfl ?_; refine T_list ?_; refine kld rfl rfl (by repeat (first | with_reducible apply Pick.here | with_reducible apply Pick.there)) rfl ?_
            refine T_list ?_; refine T_call rfl (dflush_ctr p e) (by repeat (first | with_reducible apply Take.nil | apply Take.cons (by repeat (first | with_reducible apply Pick.here | with_reducible apply Pick.there)))) rfl ?_
            rintro v L' ⟨rfl, rfl⟩
            simp only [List.cons_append, List.nil_append]
            generalize hW : e.flush = W at *
            refine T_list ?_; refine kas rfl rfl ?_; refine T_nil ?_; refine T_thenN ?_; refine T_seq ?_; refine T_region ?_; refine T_list ?_; refine kmv rfl rfl ?_; refine T_list ?_; refine kcmp rfl rfl rfl rfl ?_; refine T_nil ?_; refine T_thenN ?_
            refine T_cond rfl (fun h => ?_) (fun h => ?_) <;> simp only [decide_eq_true_eq, decide_eq_false_iff_not, ne_eq, Decidable.not_not, Bool.not_eq_true', Bool.not_eq_false', Bool.cond_eq_true_distrib, Bool.cond_eq_false_distrib] at h
            · rw [if_neg h]
              refine T_seq ?_; refine T_region ?_; refine T_list ?_; refine kmv rfl rfl ?_; refine T_list ?_; refine kas rfl rfl ?_; refine T_nil ?_; refine T_thenN ?_; refine T_ret ?_; refine T_thenR ?_
              refine T_close (R := stR st) (Ls := psL s p st) x hx (by repeat (first | with_reducible apply Take.nil | apply Take.cons (by repeat (first | with_reducible apply Pick.here | ((with_reducible refine Pick.rowE ?_); rfl) | ((with_reducible refine Pick.slcE ?_ ?_ ?_) <;> rfl) | ((with_reducible refine Pick.imapE ?_); rfl) | with_reducible apply Pick.there)))) ?_
              refine T_fin [_] _ ⟨rfl, trivial⟩ ⟨rfl, rfl⟩ ?_
              (repeat (first | exact perm_rest | apply perm_take (by repeat (first | with_reducible apply Pick.here | with_reducible apply Pick.there)) | apply perm_drop))
            · rw [if_pos h]
              refine T_skip ?_; refine T_thenN ?_; refine T_seq ?_; refine T_region ?_; refine T_list ?_; refine kmv rfl rfl ?_; refine T_list ?_; refine kldA rfl rfl (by repeat (first | with_reducible apply Pick.here | with_reducible apply Pick.there)) (by rfl) ?_
              refine T_close (R := stR st) (Ls := psL s p st) x hx (by repeat (first | with_reducible apply Take.nil | apply Take.cons (by repeat (first | with_reducible apply Pick.here | ((with_reducible refine Pick.rowE ?_); rfl) | ((with_reducible refine Pick.slcE ?_ ?_ ?_) <;> rfl) | ((with_reducible refine Pick.imapE ?_); rfl) | with_reducible apply Pick.there)))) ?_
              refine T_list ?_; refine T_call rfl (seal_ctr (tableS := tableS) s p st ⟨st.age + 1, true, image⟩ W.2 S ca cc hSr hne hm) (by repeat (first | with_reducible apply Take.nil | apply Take.cons (by repeat (first | with_reducible apply Pick.here | with_reducible apply Pick.there)))) rfl ?_
              rintro v L' ⟨rfl, rfl⟩
              simp only [List.cons_append, List.nil_append]
              refine T_list ?_; refine kas rfl rfl ?_; refine T_nil ?_; refine T_thenN ?_; refine T_ret ?_
              refine T_fin [_] _ ⟨rfl, trivial⟩ ⟨rfl, rfl⟩ ?_
              (repeat (first | exact perm_rest | apply perm_take (by repeat (first | with_reducible apply Pick.here | with_reducible apply Pick.there)) | apply perm_drop))
end Go.Proofs
namespace Go.Proofs
set_option linter.unnecessarySimpa false
open Go Go.Sl
attribute [local irreducible] Still T opO Sl.Inv row slc wpSeq Code.wp wpList Exit.then Exit.inBlock
set_option linter.unusedVariables false
set_option linter.unusedSimpArgs false
set_option maxRecDepth 4000
set_option maxHeartbeats 1000000 in
theorem awake_ctr {tableS : SP} [hT : TableAt tableS] : Ctr Tryd.prog 4 [] [tableS] (fun v L => v = .bool true ∧ L = [tableS]) := by
  refine Ctr.of Tryd.func4 rfl rfl (fun w F => ?_)
  simp only [Tryd.ntmps4, env0, List.cons_append, List.nil_append]
  have hnl : (Dsk.new 8).k.length = 8 := rfl
  have hleft : (Dsk.new 8).left = -1 := rfl
  have hfound := new8_found
  have he := ex_e
  have hst := ex_st
  have hlen := ex_len
  have hl5 := ex_len5
  have ha5 := ex_at
  refine T_seq ?_; refine T_region ?_; refine T_list ?_; refine kas rfl rfl ?_; refine T_nil ?_; refine T_thenN ?_; refine T_seq ?_; refine T_region ?_
  refine T_list ?_; refine T_call rfl (dnew_ctr 8 (by decide)) (by repeat (first | with_reducible apply Take.nil | apply Take.cons (by repeat (first | with_reducible apply Pick.here | with_reducible apply Pick.there)))) rfl ?_
  rintro v L' ⟨p, rfl, rfl⟩
  simp only [List.cons_append, List.nil_append]
  generalize hD : Dsk.new 8 = D at *
  refine T_list ?_; refine kas rfl rfl ?_; refine T_nil ?_; refine T_thenN ?_; refine T_seq ?_; refine T_seq ?_; refine T_region ?_; refine T_list ?_; refine kmv rfl rfl ?_; refine T_list ?_; refine keqP rfl rfl rfl ?_; refine T_nil ?_; refine T_thenN ?_
  refine T_condF rfl ?_
  refine T_skip ?_; refine T_thenN ?_; refine T_seq ?_; refine T_region ?_; refine T_list ?_; refine kmv rfl rfl ?_
  refine T_list ?_; refine T_call rfl (open_ctr (tableS := tableS) p D) (by repeat (first | with_reducible apply Take.nil | apply Take.cons (by repeat (first | with_reducible apply Pick.here | with_reducible apply Pick.there)))) rfl ?_
  rintro v L' (⟨h, _, _⟩ | ⟨_, h, _, _⟩ | ⟨_, _, s, rfl, rfl⟩)
  · omega
  · omega
  · simp only [List.cons_append, List.nil_append]
    rw [hfound]
    refine T_list ?_; refine kmv rfl rfl ?_; refine T_list ?_; refine kex rfl rfl rfl ?_; refine T_list ?_; refine kex rfl rfl rfl ?_; refine T_list ?_; refine kas rfl rfl ?_; refine T_list ?_; refine kas rfl rfl ?_; refine T_nil ?_; refine T_thenN ?_; refine T_seq ?_; refine T_seq ?_; refine T_region ?_; refine T_list ?_; refine kmv rfl rfl ?_; refine T_list ?_; refine keqP rfl rfl rfl ?_; refine T_list ?_; refine kmv rfl rfl ?_; refine T_guardY rfl rfl rfl ?_; refine T_list ?_; refine kmv rfl rfl ?_; refine T_guardY rfl rfl rfl ?_; refine T_list ?_; refine kcmpF rfl rfl rfl rfl (by first | (simp only [decide_eq_false_iff_not, ne_eq, not_true_eq_false, not_false_eq_true]; done) | (simp only [decide_eq_false_iff_not, ne_eq]; omega)) ?_; refine T_list ?_; refine kpF rfl rfl rfl ?_; refine T_nil ?_; refine T_thenN ?_
    refine T_condF rfl ?_
    refine T_skip ?_; refine T_thenN ?_; refine T_seq ?_; refine T_region ?_; refine T_list ?_; refine kmv rfl rfl ?_
    have h7 : [Value.int .u8 7] = ([7] : Bytes).map encB := rfl
    refine T_list ?_; refine kbs1 rfl rfl (vs := [.int .u8 7]) rfl (by simp [Value.oneCell']) rfl (fun _a => ?_)
    rw [h7]
    refine T_list ?_; refine T_call rfl (commit_ctr (tableS := tableS) s p ⟨0, false, []⟩ D (by omega) (slc 5 1 _a 1 1 (([7] : Bytes).map encB)) _a 1 [7] Rd.slc (by decide)) (by repeat (first | with_reducible apply Take.nil | apply Take.cons (by repeat (first | with_reducible apply Pick.here | with_reducible apply Pick.there)))) rfl ?_
    rintro v L' ⟨rfl, rfl⟩
    simp only [List.cons_append, List.nil_append]
    rw [he, hst]
    generalize hE : (D.commit ⟨0, false, []⟩ [7]).d = E at *
    refine T_list ?_; refine kas rfl rfl ?_; refine T_nil ?_; refine T_thenN ?_; refine T_seq ?_; refine T_region ?_; refine T_list ?_; refine kmv rfl rfl ?_
    refine T_list ?_; refine T_call rfl (dkept_ctr p E) (by repeat (first | with_reducible apply Take.nil | apply Take.cons (by repeat (first | with_reducible apply Pick.here | with_reducible apply Pick.there)))) rfl ?_
    rintro v L' ⟨ka, kc, bs, hbs, rfl, rfl⟩
    simp only [List.cons_append, List.nil_append]
    refine T_list ?_; refine kas rfl rfl ?_; refine T_nil ?_; refine T_thenN ?_; refine T_seq ?_; refine T_region ?_; refine T_list ?_; refine kmv rfl rfl ?_
    refine T_list ?_; refine T_call rfl (image_ctr s p ⟨1, true, [7]⟩) (by repeat (first | with_reducible apply Take.nil | apply Take.cons (by repeat (first | with_reducible apply Pick.here | with_reducible apply Pick.there)))) rfl ?_
    rintro v L' ⟨ia, ic, rfl, rfl⟩
    simp only [List.cons_append, List.nil_append]
    have k5 : (bs.map copyV)[5]? = some (copyV (bs.getD 5 0)) := by
      rw [List.getElem?_map, List.getElem?_eq_getElem (by omega), List.getD_eq_getElem?_getD, List.getElem?_eq_getElem (by omega)]; rfl
    have hmem : row (bs.getD 5 0) 83 ((E.k.getD 5 []).map encB) ∈ copies E.k bs := by
      have h1 : (copies E.k bs)[5]? = some (row (bs.getD 5 0) 83 ((E.k.getD 5 []).map encB)) := by
        rw [copies, List.getElem?_zipWith, List.getElem?_eq_getElem (show 5 < E.k.length by omega), List.getElem?_eq_getElem (show 5 < bs.length by omega)]
        simp only [List.getD_eq_getElem?_getD, List.getElem?_eq_getElem (show 5 < E.k.length by omega), List.getElem?_eq_getElem (show 5 < bs.length by omega), Option.getD_some]
      exact List.mem_of_getElem? h1
    have hrd : Rd (sl (copies E.k bs)) 1 (some ⟨bs.getD 5 0, 0, none⟩) 64 ((E.k.getD 5 []).map encB) := Rd.mem hmem (Rd.rowAll (by rw [List.length_map, hl5]))
    have hv5 : ((E.k.getD 5 []).map encB)[0]? = some (.int .u8 7) := by
      rw [List.getElem?_map, ← List.head?_eq_getElem?, ha5]; rfl
    refine T_list ?_; refine kmv rfl rfl ?_; refine T_list ?_; refine kex rfl rfl rfl ?_; refine T_list ?_; refine kex rfl rfl rfl ?_; refine T_list ?_; refine kas rfl rfl ?_; refine T_list ?_; refine kas rfl rfl ?_; refine T_nil ?_; refine T_thenN ?_; refine T_seq ?_; refine T_region ?_; refine T_list ?_; refine kmv rfl rfl ?_; refine T_list ?_; refine kcmpT rfl rfl rfl rfl (by first | (simp only [decide_eq_true_eq, ne_eq]; done) | (simp only [decide_eq_true_eq, ne_eq]; omega)) ?_; refine T_list ?_; refine kmv rfl rfl ?_; refine T_guardY rfl rfl rfl ?_; refine T_list ?_; refine kmv rfl rfl ?_; refine T_list ?_; refine kpT rfl rfl rfl ?_; refine T_list ?_; refine kmv rfl rfl ?_; refine T_guardY rfl rfl rfl ?_; refine T_list ?_; refine kmv rfl rfl ?_; refine T_guardY rfl rfl rfl ?_; refine T_list ?_; refine klen rfl rfl ?_; refine T_guardY rfl rfl rfl ?_; refine T_list ?_; refine kcmp rfl rfl rfl rfl ?_; refine T_list ?_; refine kpT rfl rfl rfl ?_; refine T_list ?_; refine kmv rfl rfl ?_; refine T_guardY rfl rfl rfl ?_; refine T_list ?_; refine kmv rfl rfl ?_; refine T_guardY rfl rfl rfl ?_; refine T_list ?_; refine kix1 rfl rfl (q := 0) rfl (by repeat (first | with_reducible apply Pick.here | with_reducible apply Pick.there)) (by decide) ?_; refine T_guardY rfl rfl rfl ?_; refine T_list ?_; refine kldS rfl rfl (by repeat (first | with_reducible apply Pick.here | with_reducible apply Pick.there)) (v := .int .u8 7) rfl ?_; refine T_guardY rfl rfl rfl ?_; refine T_list ?_; refine kcmpT rfl rfl rfl rfl (by first | (simp only [decide_eq_true_eq, ne_eq]; done) | (simp only [decide_eq_true_eq, ne_eq]; omega)) ?_; refine T_list ?_; refine kpT rfl rfl rfl ?_; refine T_list ?_; refine kmv rfl rfl ?_; refine T_guardY rfl rfl rfl ?_; refine T_list ?_; refine kmv rfl rfl ?_; refine T_guardY rfl rfl rfl ?_
    refine T_list ?_; refine T_call rfl (age_ctr s p ⟨1, true, [7]⟩) (by repeat (first | with_reducible apply Take.nil | apply Take.cons (by repeat (first | with_reducible apply Pick.here | with_reducible apply Pick.there)))) rfl ?_
    rintro v L' ⟨rfl, rfl⟩
    simp only [List.cons_append, List.nil_append]
    refine T_guardY rfl rfl rfl ?_; refine T_list ?_; refine kcmpT rfl rfl rfl rfl (by first | (simp only [decide_eq_true_eq, ne_eq]; done) | (simp only [decide_eq_true_eq, ne_eq]; omega)) ?_; refine T_list ?_; refine kpT rfl rfl rfl ?_; refine T_list ?_; refine kmv rfl rfl ?_; refine T_guardY rfl rfl rfl ?_; refine T_list ?_; refine kmv rfl rfl ?_; refine T_guardY rfl rfl rfl ?_
    refine T_list ?_; refine T_call rfl (room_ctr s p ⟨1, true, [7]⟩ E (by omega)) (by repeat (first | with_reducible apply Take.nil | apply Take.cons (by repeat (first | with_reducible apply Pick.here | with_reducible apply Pick.there)))) rfl ?_
    rintro v L' ⟨rfl, rfl⟩
    simp only [List.cons_append, List.nil_append]
    have hroom : (64 * E.half : Nat) = 192 := by unfold Dsk.half; omega
    rw [hroom]
    refine T_guardY rfl rfl rfl ?_; refine T_list ?_; refine kcmpT rfl rfl rfl rfl (by first | (simp only [decide_eq_true_eq, ne_eq]; done) | (simp only [decide_eq_true_eq, ne_eq]; omega)) ?_; refine T_list ?_; refine kpT rfl rfl rfl ?_; refine T_list ?_; refine kmv rfl rfl ?_; refine T_guardY rfl rfl rfl ?_; refine T_list ?_; refine kmv rfl rfl ?_; refine T_guardY rfl rfl rfl ?_; refine T_list ?_; refine klen rfl rfl ?_; refine T_guardY rfl rfl rfl ?_; refine T_list ?_; refine kcmpT rfl rfl rfl rfl (by first | (simp only [decide_eq_true_eq, ne_eq]; done) | (simp only [decide_eq_true_eq, ne_eq]; omega)) ?_; refine T_list ?_; refine kpT rfl rfl rfl ?_; refine T_list ?_; refine kmv rfl rfl ?_; refine T_guardY rfl rfl rfl ?_; refine T_list ?_; refine kmv rfl rfl ?_; refine T_guardY rfl rfl rfl ?_; refine T_list ?_; refine kix1 rfl rfl (q := 5) rfl (by repeat (first | with_reducible apply Pick.here | with_reducible apply Pick.there)) (by omega) ?_; refine T_guardY rfl rfl rfl ?_; refine T_list ?_; refine kldS rfl rfl (by repeat (first | with_reducible apply Pick.here | with_reducible apply Pick.there)) k5 ?_; refine T_guardY rfl rfl rfl ?_; refine T_list ?_; refine klen rfl rfl ?_; refine T_guardY rfl rfl rfl ?_; refine T_list ?_; refine kcmpT rfl rfl rfl rfl (by first | (simp only [decide_eq_true_eq, ne_eq]; done) | (simp only [decide_eq_true_eq, ne_eq]; omega)) ?_; refine T_list ?_; refine kpT rfl rfl rfl ?_; refine T_list ?_; refine kmv rfl rfl ?_; refine T_guardY rfl rfl rfl ?_; refine T_list ?_; refine kmv rfl rfl ?_; refine T_guardY rfl rfl rfl ?_; refine T_list ?_; refine kix1 rfl rfl (q := 5) rfl (by repeat (first | with_reducible apply Pick.here | with_reducible apply Pick.there)) (by omega) ?_; refine T_guardY rfl rfl rfl ?_; refine T_list ?_; refine kldS rfl rfl (by repeat (first | with_reducible apply Pick.here | with_reducible apply Pick.there)) k5 ?_; refine T_guardY rfl rfl rfl ?_; refine T_list ?_; refine kixR1 hrd (by repeat (first | with_reducible apply Pick.here | with_reducible apply Pick.there)) rfl rfl (q := 0) rfl (by decide) ?_; refine T_guardY rfl rfl rfl ?_; refine T_list ?_; refine kldR hrd (by repeat (first | with_reducible apply Pick.here | with_reducible apply Pick.there)) rfl rfl hv5 ?_; refine T_guardY rfl rfl rfl ?_; refine T_list ?_; refine kcmpT rfl rfl rfl rfl (by first | (simp only [decide_eq_true_eq, ne_eq]; done) | (simp only [decide_eq_true_eq, ne_eq]; omega)) ?_; refine T_list ?_; refine kpT rfl rfl rfl ?_; refine T_list ?_; refine kas rfl rfl ?_; refine T_nil ?_; refine T_thenN ?_; refine T_ret ?_
    refine T_fin [_] _ ⟨rfl, trivial⟩ ⟨rfl, rfl⟩ ?_
    (repeat (first | exact perm_rest | apply perm_take (by repeat (first | with_reducible apply Pick.here | with_reducible apply Pick.there)) | apply perm_drop))
end Go.Proofs
namespace Go.Proofs
set_option linter.unnecessarySimpa false
open Go Go.Sl
attribute [local irreducible] Still T opO Sl.Inv row slc wpSeq Code.wp wpList Exit.then Exit.inBlock
set_option linter.unusedVariables false
set_option linter.unusedSimpArgs false
set_option maxRecDepth 4000
theorem S_minNN {P : Program} {n : Nat} {w0 : World} {env : Env} {L : List SP} {dd : Option Nat} {ty : TypeId} {pos : String} {after : Array Edge} {g : Option (Nat × Bool)} {ts : Array TypeId} {x y : Operand} {k : IntKind} {p q : Nat} (hx : ev env x = some (.int k (p : Int))) (hy : ev env y = some (.int k (q : Int))) :
    Still P n w0 env L ⟨dd, .call ⟨.builtin .min, #[x, y], ts⟩, ty, pos, after, g⟩ (.int k ((min p q : Nat) : Int)) := by
  have := S_min2 (P := P) (n := n) (w0 := w0) (L := L) (d := dd) (ty := ty) (pos := pos) (after := after) (g := g) (ts := ts) hx hy
  rwa [show min (p : Int) (q : Int) = ((min p q : Nat) : Int) by omega] at this
theorem chunk_part (image : Bytes) (i : Nat) : ((image.map encB).drop (64 * i * 1)).take ((min image.length (64 * i + 64) - 64 * i) * 1) = (chunk image i).map encB := by
  rw [Nat.mul_one, Nat.mul_one, chunk, List.map_take, List.map_drop]
  by_cases h : 64 * i + 64 ≤ image.length
  · rw [Nat.min_eq_right h]; congr 1; omega
  · rw [Nat.min_eq_left (by omega), List.take_of_length_le (by simp), List.take_of_length_le (by simp; omega)]
set_option maxHeartbeats 2000000 in
theorem rcommit_ctr (s p : Nat) (st : Sto) (d : Dsk) (h4 : 4 ≤ d.k.length) (A : SP) (ia : Option Addr) (ic : Nat) (image : Bytes) (hr : Rd A 1 ia image.length (image.map encB)) (hm : image.length ≤ 100000) (hcap : image.length ≤ ic) :
    Ctr Tryd.prog 11 [.pointer (some ⟨s, 0, none⟩), .slice ia image.length ic] [RS s p st, RD p d, A]
      (fun v L => v = .int .i64 (d.commit st image).e ∧ L = [RS s p (d.commit st image).st, RD p (d.commit st image).d, A]) := by
  refine Ctr.of Tryd.func11 rfl rfl (fun w F => ?_)
  simp only [Tryd.ntmps11, env0, List.cons_append, List.nil_append]
  refine T_know (p := d.ok) (fun w H => by obtain ⟨x, hx, _⟩ := (Pick.here.back H.drop).openAb; exact hx.ok) (fun hok => ?_)
  have hfew := hok.few
  have hhalf : d.half ≤ 255 := by unfold Dsk.half; omega
  unfold Dsk.commit
  refine T_open Pick.here ?_
  rintro x hx
  have hx2 := hx.2.1
  simp only [rsL, List.cons_append, List.nil_append]
  refine T_seq ?_; refine T_region ?_; refine T_list ?_; refine kas rfl rfl ?_; refine T_nil ?_; refine T_thenN ?_; refine T_seq ?_; refine T_seq ?_; refine T_region ?_; refine T_list ?_; refine kmv rfl rfl ?_; refine T_list ?_; refine klen rfl rfl ?_; refine T_list ?_; refine kmv rfl rfl ?_; refine T_list ?_; refine knc rfl rfl ?_; refine T_list ?_; refine kfd rfl rfl ?_; refine T_list ?_; refine kld rfl rfl (by repeat (first | with_reducible apply Pick.here | with_reducible apply Pick.there)) rfl ?_
  refine T_list ?_; refine T_call rfl (rhalf_ctr p d (by omega)) (by repeat (first | with_reducible apply Take.nil | apply Take.cons (by repeat (first | with_reducible apply Pick.here | with_reducible apply Pick.there)))) rfl ?_
  rintro v L' ⟨rfl, rfl⟩
  simp only [List.cons_append, List.nil_append]
  rw [show (d.k.length - 2) / 2 = d.half from rfl]
  refine T_list ?_; refine kar rfl rfl rfl rfl (by simp only [fits]; omega) ?_; refine T_list ?_; refine kcmp rfl rfl rfl rfl ?_; refine T_nil ?_; refine T_thenN ?_
  refine T_cond rfl (fun h => ?_) (fun h => ?_) <;> simp only [decide_eq_true_eq, decide_eq_false_iff_not, ne_eq, Decidable.not_not, Bool.not_eq_true', Bool.not_eq_false', Bool.cond_eq_true_distrib, Bool.cond_eq_false_distrib] at h
  · rw [if_pos (by omega)]
    refine T_seq ?_; refine T_region ?_; refine T_list ?_; refine kas rfl rfl ?_; refine T_nil ?_; refine T_thenN ?_; refine T_ret ?_; refine T_thenR ?_
    refine T_close (R := stR st) (Ls := rsL s p st) x hx (by repeat (first | with_reducible apply Take.nil | apply Take.cons (by repeat (first | with_reducible apply Pick.here | ((with_reducible refine Pick.rowE ?_); rfl) | ((with_reducible refine Pick.slcE ?_ ?_ ?_) <;> rfl) | ((with_reducible refine Pick.imapE ?_); rfl) | with_reducible apply Pick.there)))) ?_
    refine T_fin [_] _ ⟨rfl, trivial⟩ ⟨rfl, rfl⟩ ?_
    (repeat (first | exact perm_rest | apply perm_take (by repeat (first | with_reducible apply Pick.here | with_reducible apply Pick.there)) | apply perm_drop))
  · rw [if_neg (by omega)]
    refine T_skip ?_; refine T_thenN ?_; refine T_seq ?_; refine T_seq ?_; refine T_region ?_; refine T_list ?_; refine kmv rfl rfl ?_; refine T_list ?_; refine knc rfl rfl ?_; refine T_list ?_; refine kfd rfl rfl ?_; refine T_list ?_; refine kld rfl rfl (by repeat (first | with_reducible apply Pick.here | with_reducible apply Pick.there)) rfl ?_; refine T_list ?_; refine kcmp rfl rfl rfl rfl ?_; refine T_nil ?_; refine T_thenN ?_
    refine T_cond rfl (fun h => ?_) (fun h => ?_) <;> simp only [decide_eq_true_eq, decide_eq_false_iff_not, ne_eq, Decidable.not_not, Bool.not_eq_true', Bool.not_eq_false', Bool.cond_eq_true_distrib, Bool.cond_eq_false_distrib] at h
    · rw [if_pos (by omega)]
      refine T_seq ?_; refine T_region ?_; refine T_list ?_; refine kas rfl rfl ?_; refine T_nil ?_; refine T_thenN ?_; refine T_ret ?_; refine T_thenR ?_
      refine T_close (R := stR st) (Ls := rsL s p st) x hx (by repeat (first | with_reducible apply Take.nil | apply Take.cons (by repeat (first | with_reducible apply Pick.here | ((with_reducible refine Pick.rowE ?_); rfl) | ((with_reducible refine Pick.slcE ?_ ?_ ?_) <;> rfl) | ((with_reducible refine Pick.imapE ?_); rfl) | with_reducible apply Pick.there)))) ?_
      refine T_fin [_] _ ⟨rfl, trivial⟩ ⟨rfl, rfl⟩ ?_
      (repeat (first | exact perm_rest | apply perm_take (by repeat (first | with_reducible apply Pick.here | with_reducible apply Pick.there)) | apply perm_drop))
    · rw [if_neg (by omega)]
      have hne : st.age + 1 ≤ 1099511627776 := by omega
      have hage2 : (st.age + 1) % 2 ≤ 1 := by omega
      have hbase : (st.age + 1) % 2 * d.half ≤ 1 * d.half := Nat.mul_le_mul_right _ hage2
      have hbody : d.body st image = d.writes (2 + (st.age + 1) % 2 * d.half) image (chunks image) 0 := rfl
      have hN : chunks image ≤ 2000 := by unfold chunks; omega
      refine T_skip ?_; refine T_thenN ?_; refine T_seq ?_; refine T_seq ?_; refine T_region ?_; refine T_list ?_; refine kas rfl rfl ?_; refine T_nil ?_; refine T_thenN ?_; refine T_block ?_
      refine T_loop (ι := Nat × Dsk) (fun y => y.1 ≤ chunks image ∧ y.2.ok ∧ y.2.k.length = d.k.length ∧ y.2.writes (2 + (st.age + 1) % 2 * d.half) image (chunks image - y.1) y.1 = d.writes (2 + (st.age + 1) % 2 * d.half) image (chunks image) 0)
        (fun y => [(5, .int .i64 (y.1 : Nat)), (0, .pointer (some ⟨s, 0, none⟩)), (1, .slice ia image.length ic)])
        (fun y => RD p y.2 :: row s 47 [.pointer (some ⟨p, 0, none⟩), .int .i64 (st.age : Nat), .bool st.has, .slice x.1 st.image.length x.2.1] :: x.2.2 :: A :: F)
        (fun y => chunks image - y.1) ?_ ?_
      · refine T_inv (0, d) ⟨Nat.zero_le _, hok, rfl, rfl⟩ ⟨rfl, rfl, rfl, trivial⟩ ?_
        (repeat (first | exact perm_rest | apply perm_take (by repeat (first | with_reducible apply Pick.here | with_reducible apply Pick.there)) | apply perm_drop))
      · rintro ⟨i, e⟩ ⟨hi, heok, hel, hwr⟩
        dsimp only at hi heok hel hwr ⊢
        have hmul : (64 * (i : Int)) = ((64 * i : Nat) : Int) := by omega
        refine T_seq ?_; refine T_seq ?_; refine T_region ?_; refine T_list ?_; refine kmv rfl rfl ?_; refine T_list ?_; refine kmulN rfl rfl (p := 64) rfl (by simp only [fits]; omega) ?_; refine T_list ?_; refine kmv rfl rfl ?_; refine T_list ?_; refine klen rfl rfl ?_; refine T_list ?_; refine kcmp rfl rfl rfl rfl ?_; refine T_nil ?_; refine T_thenN ?_
        refine T_cond rfl (fun h => ?_) (fun h => ?_) <;> simp only [decide_eq_true_eq, decide_eq_false_iff_not, ne_eq, Decidable.not_not, Bool.not_eq_true', Bool.not_eq_false', Bool.cond_eq_true_distrib, Bool.cond_eq_false_distrib] at h
        · have hlt : i < chunks image := by unfold chunks; omega
          have hNi : chunks image - i = (chunks image - (i + 1)) + 1 := by omega
          rw [hNi, Dsk.writes] at hwr
          have hq : ((64 * i : Nat) : Int) + 64 = ((64 * i + 64 : Nat) : Int) := by omega
          have hmin : min ((image.length : Nat) : Int) ((64 * i + 64 : Nat) : Int) = ((min image.length (64 * i + 64) : Nat) : Int) := by omega
          have hpart := hr.part (c := ic) (l := 64 * i) (q := min image.length (64 * i + 64)) (by omega) (by omega) (by omega)
          rw [chunk_part] at hpart
          refine T_skip ?_; refine T_thenN ?_; refine T_seq ?_; refine T_block ?_; refine T_seq ?_
          refine T_drawR ([row s 47 [.pointer (some ⟨p, 0, none⟩), .int .i64 (st.age : Nat), .bool st.has, .slice x.1 st.image.length x.2.1]]) [] [(0, true), (1, true), (2, true), (3, true), (4, true), (5, true), (6, true), (7, true), (8, true), (9, true), (10, true), (11, true), (12, true), (13, true), (17, true), (19, true), (20, true), (21, true), (22, true), (23, true), (24, true), (25, true), (26, true), (27, true), (28, true), (14, false), (15, true), (16, true), (18, true), (29, false), (30, true)] mixedT rfl (by kernel_rfl) ?_
          refine r_still (by repeat (first | with_reducible apply Take.nil | apply Take.cons (by repeat (first | with_reducible apply Pick.here | with_reducible apply Pick.there)))) rfl rfl ?_; refine ⟨_, (S_move rfl), ?_⟩; refine r_still (by repeat (first | with_reducible apply Take.nil | apply Take.cons (by repeat (first | with_reducible apply Pick.here | with_reducible apply Pick.there)))) rfl rfl ?_; refine ⟨_, (S_nilCheck rfl), ?_⟩; refine r_still (by repeat (first | with_reducible apply Take.nil | apply Take.cons (by repeat (first | with_reducible apply Pick.here | with_reducible apply Pick.there)))) rfl rfl ?_; refine ⟨_, (S_fieldR rfl), ?_⟩; refine r_still (by repeat (first | with_reducible apply Take.nil | apply Take.cons (by repeat (first | with_reducible apply Pick.here | with_reducible apply Pick.there)))) rfl rfl ?_; refine ⟨_, (S_load rfl (by repeat (first | with_reducible apply Pick.here | with_reducible apply Pick.there)) rfl), ?_⟩; refine r_still (by repeat (first | with_reducible apply Take.nil | apply Take.cons (by repeat (first | with_reducible apply Pick.here | with_reducible apply Pick.there)))) rfl rfl ?_; refine ⟨_, (S_move rfl), ?_⟩; refine r_still (by repeat (first | with_reducible apply Take.nil | apply Take.cons (by repeat (first | with_reducible apply Pick.here | with_reducible apply Pick.there)))) rfl rfl ?_; refine ⟨_, (S_nilCheck rfl), ?_⟩; refine r_still (by repeat (first | with_reducible apply Take.nil | apply Take.cons (by repeat (first | with_reducible apply Pick.here | with_reducible apply Pick.there)))) rfl rfl ?_; refine ⟨_, (S_fieldR rfl), ?_⟩; refine r_still (by repeat (first | with_reducible apply Take.nil | apply Take.cons (by repeat (first | with_reducible apply Pick.here | with_reducible apply Pick.there)))) rfl rfl ?_; refine ⟨_, (S_load rfl (by repeat (first | with_reducible apply Pick.here | with_reducible apply Pick.there)) rfl), ?_⟩; refine r_still (by repeat (first | with_reducible apply Take.nil | apply Take.cons (by repeat (first | with_reducible apply Pick.here | with_reducible apply Pick.there)))) rfl rfl ?_; refine ⟨_, (S_addNN rfl (q := 1) rfl (by simp only [fits]; omega)), ?_⟩; refine r_still (by repeat (first | with_reducible apply Take.nil | apply Take.cons (by repeat (first | with_reducible apply Pick.here | with_reducible apply Pick.there)))) rfl rfl ?_; refine ⟨_, (S_remNN rfl (q := 2) rfl rfl), ?_⟩; refine r_still (by repeat (first | with_reducible apply Take.nil | apply Take.cons (by repeat (first | with_reducible apply Pick.here | with_reducible apply Pick.there)))) rfl rfl ?_; refine ⟨_, (S_move rfl), ?_⟩; refine r_still (by repeat (first | with_reducible apply Take.nil | apply Take.cons (by repeat (first | with_reducible apply Pick.here | with_reducible apply Pick.there)))) rfl rfl ?_; refine ⟨_, (S_nilCheck rfl), ?_⟩; refine r_still (by repeat (first | with_reducible apply Take.nil | apply Take.cons (by repeat (first | with_reducible apply Pick.here | with_reducible apply Pick.there)))) rfl rfl ?_; refine ⟨_, (S_fieldR rfl), ?_⟩; refine r_still (by repeat (first | with_reducible apply Take.nil | apply Take.cons (by repeat (first | with_reducible apply Pick.here | with_reducible apply Pick.there)))) rfl rfl ?_; refine ⟨_, (S_load rfl (by repeat (first | with_reducible apply Pick.here | with_reducible apply Pick.there)) rfl), ?_⟩; refine r_still (by repeat (first | with_reducible apply Take.nil | apply Take.cons (by repeat (first | with_reducible apply Pick.here | with_reducible apply Pick.there)))) rfl rfl ?_; refine ⟨_, (S_move rfl), ?_⟩; refine r_still (by repeat (first | with_reducible apply Take.nil | apply Take.cons (by repeat (first | with_reducible apply Pick.here | with_reducible apply Pick.there)))) rfl rfl ?_; refine ⟨_, (S_move rfl), ?_⟩; refine r_still (by repeat (first | with_reducible apply Take.nil | apply Take.cons (by repeat (first | with_reducible apply Pick.here | with_reducible apply Pick.there)))) rfl rfl ?_; refine ⟨_, (S_move rfl), ?_⟩; refine r_still (by repeat (first | with_reducible apply Take.nil | apply Take.cons (by repeat (first | with_reducible apply Pick.here | with_reducible apply Pick.there)))) rfl rfl ?_; refine ⟨_, (S_mulNN rfl (p := 64) rfl (by simp only [fits]; omega)), ?_⟩; refine r_still (by repeat (first | with_reducible apply Take.nil | apply Take.cons (by repeat (first | with_reducible apply Pick.here | with_reducible apply Pick.there)))) rfl rfl ?_; refine ⟨_, (S_move rfl), ?_⟩; refine r_still (by repeat (first | with_reducible apply Take.nil | apply Take.cons (by repeat (first | with_reducible apply Pick.here | with_reducible apply Pick.there)))) rfl rfl ?_; refine ⟨_, (S_lenSlice rfl), ?_⟩; refine r_still (by repeat (first | with_reducible apply Take.nil | apply Take.cons (by repeat (first | with_reducible apply Pick.here | with_reducible apply Pick.there)))) rfl rfl ?_; refine ⟨_, (S_move rfl), ?_⟩; refine r_still (by repeat (first | with_reducible apply Take.nil | apply Take.cons (by repeat (first | with_reducible apply Pick.here | with_reducible apply Pick.there)))) rfl rfl ?_; refine ⟨_, (S_mulNN rfl (p := 64) rfl (by simp only [fits]; omega)), ?_⟩; refine r_still (by repeat (first | with_reducible apply Take.nil | apply Take.cons (by repeat (first | with_reducible apply Pick.here | with_reducible apply Pick.there)))) rfl rfl ?_; refine ⟨_, (S_addNN rfl (q := 64) rfl (by simp only [fits]; omega)), ?_⟩; refine r_still (by repeat (first | with_reducible apply Take.nil | apply Take.cons (by repeat (first | with_reducible apply Pick.here | with_reducible apply Pick.there)))) rfl rfl ?_; refine ⟨_, (S_minNN rfl rfl), ?_⟩; refine r_still (by repeat (first | with_reducible apply Take.nil | apply Take.cons (by repeat (first | with_reducible apply Pick.here | with_reducible apply Pick.there)))) rfl rfl ?_; refine ⟨_, (S_sl (l := 64 * i) (q := min image.length (64 * i + 64)) rfl (bnd_nat rfl) (bnd_nat rfl) (by omega) (by omega)), ?_⟩
          refine T_seqOp rfl ?_; refine T_call rfl (rhalf_ctr p e (by omega)) (by repeat (first | with_reducible apply Take.nil | apply Take.cons (by repeat (first | with_reducible apply Pick.here | with_reducible apply Pick.there)))) rfl ?_
          rintro v L' ⟨rfl, rfl⟩
          simp only [List.cons_append, List.nil_append]
          rw [hel, show (d.k.length - 2) / 2 = d.half from rfl]
          refine r_back (by repeat (first | with_reducible apply Take.nil | apply Take.cons (by repeat (first | with_reducible apply Pick.here | with_reducible apply Pick.there)))) ?_; refine r_still (by repeat (first | with_reducible apply Take.nil | apply Take.cons (by repeat (first | with_reducible apply Pick.here | with_reducible apply Pick.there)))) rfl rfl ?_; refine ⟨_, (S_mulNN rfl rfl (by simp only [fits]; omega)), ?_⟩; refine r_still (by repeat (first | with_reducible apply Take.nil | apply Take.cons (by repeat (first | with_reducible apply Pick.here | with_reducible apply Pick.there)))) rfl rfl ?_; refine ⟨_, (S_addNN rfl (p := 2) rfl (by simp only [fits]; omega)), ?_⟩; refine r_still (by repeat (first | with_reducible apply Take.nil | apply Take.cons (by repeat (first | with_reducible apply Pick.here | with_reducible apply Pick.there)))) rfl rfl ?_; refine ⟨_, (S_addNN rfl rfl (by simp only [fits]; omega)), ?_⟩
          have hin : 2 + (st.age + 1) % 2 * d.half + i < d.k.length := Dsk.half_le h4 hage2 (by unfold chunks at hlt; omega)
          generalize hB : 2 + (st.age + 1) % 2 * d.half = B at *
          refine T_seqOp rfl ?_; refine T_call rfl (rwrite_ctr p e ((B + i : Nat) : Int) A _ _ _ (chunk image i) hpart (by omega)) (by repeat (first | with_reducible apply Take.nil | apply Take.cons (by repeat (first | with_reducible apply Pick.here | with_reducible apply Pick.there)))) rfl ?_
          rintro v L' ⟨rfl, rfl⟩
          simp only [List.cons_append, List.nil_append]
          have hwl := like_write e ((B + i : Nat) : Int) (chunk image i)
          have hwo := heok.write ((B + i : Nat) : Int) (chunk image i)
          generalize hW : e.write ((B + i : Nat) : Int) (chunk image i) = W at *
          refine r_back (by repeat (first | with_reducible apply Take.nil | apply Take.cons (by repeat (first | with_reducible apply Pick.here | with_reducible apply Pick.there)))) ?_; refine r_still (by repeat (first | with_reducible apply Take.nil | apply Take.cons (by repeat (first | with_reducible apply Pick.here | with_reducible apply Pick.there)))) rfl rfl ?_; refine ⟨_, (S_assign rfl), ?_⟩; refine T_seqNil ?_; refine T_thenN ?_; refine T_seq ?_; refine T_region ?_; refine T_list ?_; refine kmv rfl rfl ?_; refine T_list ?_; refine kcmp rfl rfl rfl rfl ?_; refine T_nil ?_; refine T_thenN ?_
          refine T_cond rfl (fun h => ?_) (fun h => ?_) <;> simp only [decide_eq_true_eq, decide_eq_false_iff_not, ne_eq, Decidable.not_not, Bool.not_eq_true', Bool.not_eq_false', Bool.cond_eq_true_distrib, Bool.cond_eq_false_distrib] at h
          · rw [if_neg h] at hwr
            rw [hbody, ← hwr, if_neg h]
            refine T_seq ?_; refine T_region ?_; refine T_list ?_; refine kmv rfl rfl ?_; refine T_list ?_; refine kas rfl rfl ?_; refine T_nil ?_; refine T_thenN ?_; refine T_ret ?_; refine T_inR ?_; refine T_thenR ?_; refine T_thenR ?_; refine T_inR ?_; refine T_thenR ?_
            refine T_close (R := stR st) (Ls := rsL s p st) x hx (by repeat (first | with_reducible apply Take.nil | apply Take.cons (by repeat (first | with_reducible apply Pick.here | ((with_reducible refine Pick.rowE ?_); rfl) | ((with_reducible refine Pick.slcE ?_ ?_ ?_) <;> rfl) | ((with_reducible refine Pick.imapE ?_); rfl) | with_reducible apply Pick.there)))) ?_
            refine T_fin [_] _ ⟨rfl, trivial⟩ ⟨rfl, rfl⟩ ?_
            (repeat (first | exact perm_rest | apply perm_take (by repeat (first | with_reducible apply Pick.here | with_reducible apply Pick.there)) | apply perm_drop))
          · rw [if_pos h] at hwr
            refine T_skip ?_; refine T_inN ?_; refine T_thenN ?_; refine T_region ?_; refine T_list ?_; refine kmv rfl rfl ?_; refine T_list ?_; refine kaddN rfl rfl (q := 1) rfl (by simp only [fits]; omega) ?_; refine T_list ?_; refine kas rfl rfl ?_; refine T_nil ?_; refine T_thenN ?_
            refine T_inv (i + 1, W.2) ⟨⟨(by first | omega | (dsimp only; omega)), hwo, hwl.len.trans hel, hwr⟩, (by first | omega | (dsimp only; omega))⟩ ⟨rfl, rfl, rfl, trivial⟩ ?_
            (repeat (first | exact perm_rest | apply perm_take (by repeat (first | with_reducible apply Pick.here | with_reducible apply Pick.there)) | apply perm_drop))
        · obtain rfl : i = chunks image := by unfold chunks at *; omega
          rw [Nat.sub_self, Dsk.writes] at hwr
          rw [hbody, ← hwr]
          dsimp only
          rw [if_pos rfl]
          refine T_exit ?_; refine T_thenE ?_; refine T_thenE ?_; refine T_inE ?_; refine T_thenN ?_; refine T_seq ?_; refine T_region ?_; refine T_list ?_; refine kmv rfl rfl ?_; refine T_list ?_; refine knc rfl rfl ?_; refine T_list ?_; refine kfd rfl rfl ?_; refine T_list ?_; refine kld rfl rfl (by repeat (first | with_reducible apply Pick.here | with_reducible apply Pick.there)) rfl ?_
          refine T_list ?_; refine T_call rfl (rflush_ctr p e) (by repeat (first | with_reducible apply Take.nil | apply Take.cons (by repeat (first | with_reducible apply Pick.here | with_reducible apply Pick.there)))) rfl ?_
          rintro v L' ⟨rfl, rfl⟩
          simp only [List.cons_append, List.nil_append]
          generalize hW : e.flush = W at *
          refine T_list ?_; refine kas rfl rfl ?_; refine T_nil ?_; refine T_thenN ?_; refine T_seq ?_; refine T_seq ?_; refine T_region ?_; refine T_list ?_; refine kmv rfl rfl ?_; refine T_list ?_; refine kcmp rfl rfl rfl rfl ?_; refine T_nil ?_; refine T_thenN ?_
          refine T_cond rfl (fun h => ?_) (fun h => ?_) <;> simp only [decide_eq_true_eq, decide_eq_false_iff_not, ne_eq, Decidable.not_not, Bool.not_eq_true', Bool.not_eq_false', Bool.cond_eq_true_distrib, Bool.cond_eq_false_distrib] at h
          · rw [if_neg h]
            refine T_seq ?_; refine T_region ?_; refine T_list ?_; refine kmv rfl rfl ?_; refine T_list ?_; refine kas rfl rfl ?_; refine T_nil ?_; refine T_thenN ?_; refine T_ret ?_; refine T_thenR ?_
            refine T_close (R := stR st) (Ls := rsL s p st) x hx (by repeat (first | with_reducible apply Take.nil | apply Take.cons (by repeat (first | with_reducible apply Pick.here | ((with_reducible refine Pick.rowE ?_); rfl) | ((with_reducible refine Pick.slcE ?_ ?_ ?_) <;> rfl) | ((with_reducible refine Pick.imapE ?_); rfl) | with_reducible apply Pick.there)))) ?_
            refine T_fin [_] _ ⟨rfl, trivial⟩ ⟨rfl, rfl⟩ ?_
            (repeat (first | exact perm_rest | apply perm_take (by repeat (first | with_reducible apply Pick.here | with_reducible apply Pick.there)) | apply perm_drop))
          · rw [if_pos h]
            refine T_skip ?_; refine T_thenN ?_; refine T_seq ?_; refine T_region ?_; refine T_list ?_; refine kmv rfl rfl ?_; refine T_list ?_; refine kmv rfl rfl ?_
            refine T_close (R := stR st) (Ls := rsL s p st) x hx (by repeat (first | with_reducible apply Take.nil | apply Take.cons (by repeat (first | with_reducible apply Pick.here | ((with_reducible refine Pick.rowE ?_); rfl) | ((with_reducible refine Pick.slcE ?_ ?_ ?_) <;> rfl) | ((with_reducible refine Pick.imapE ?_); rfl) | with_reducible apply Pick.there)))) ?_
            refine T_list ?_; refine T_call rfl (rseal_ctr s p st true image W.2 A ia ic hr hne hm) (by repeat (first | with_reducible apply Take.nil | apply Take.cons (by repeat (first | with_reducible apply Pick.here | with_reducible apply Pick.there)))) rfl ?_
            rintro v L' ⟨rfl, rfl⟩
            simp only [List.cons_append, List.nil_append]
            refine T_list ?_; refine kas rfl rfl ?_; refine T_nil ?_; refine T_thenN ?_; refine T_seq ?_; refine T_region ?_; refine T_list ?_; refine kmv rfl rfl ?_; refine T_list ?_; refine kas rfl rfl ?_; refine T_nil ?_; refine T_thenN ?_; refine T_ret ?_
            refine T_fin [_] _ ⟨rfl, trivial⟩ ⟨rfl, rfl⟩ ?_
            (repeat (first | exact perm_rest | apply perm_take (by repeat (first | with_reducible apply Pick.here | with_reducible apply Pick.there)) | apply perm_drop))
end Go.Proofs
set_option linter.unusedVariables false
set_option linter.unusedSimpArgs false
namespace Go.Sl
set_option linter.unnecessarySimpa false
open Go
section
variable {P : Program} {n : Nat} {w0 : World} {Q : Exit → Act → World → Prop} {env : Env} {L M R : List SP} {ops : Array Oper}
/-- Where ways meet again behind a block. -/
theorem T_cutB {ι : Type} (R : ι → Prop) (E : ι → Env) (H : ι → List SP) {i : Nat} {c : Code} {N : Act → World → Prop}
    (h1 : T n w0 (c.wp P (Exit.inBlock i (Exit.then (Inv n w0 R E H) Q))) env L) (h2 : ∀ x, R x → T n w0 N (E x) (H x)) :
    T n w0 (c.wp P (Exit.inBlock i (Exit.then N Q))) env L :=
  fun a w A => wp_mono (h1 a w A) fun e a' w' hq => by
    have hn : Inv n w0 R E H a' w' → N a' w' := fun ⟨x, hx, hat⟩ => h2 x hx a' w' hat
    cases e with
    | normal => exact hn hq
    | exit j =>
      simp only [Exit.inBlock] at hq ⊢
      split at hq
      · rename_i hj; rw [if_pos hj]; exact hn hq
      · rename_i hj; rw [if_neg hj]; exact hq
    | goto l => exact hq
    | ret => exact hq
    | panic ch => exact hq
    | outgrown => exact hq
/-- An operation that turns memory, under a guard that lets it run. -/
theorem T_seqOpY {C : World → Prop} {S : List Nat} {N : Act → World → Prop} {i j dj : Nat} {d : Option Nat} {op : Op} {ty : TypeId} {pos : String} {after : Array Edge} {want : Bool} {r : List (Nat × Bool)}
    (hi : ops[i]? = some ⟨d, op, ty, pos, after, some (j, want)⟩) (hj : (ops[j]?).bind (·.dst) = some dj) (hb : look env dj = some (.bool want))
    (h : T n w0 (opO P ⟨d, op, ty, pos, after, some (j, want)⟩ (fun a' w' => (S.contains i = true ∨ C w') ∧ wpSeq P ops C S N r a' w')) env L) : T n w0 (wpSeq P ops C S N ((i, false) :: r)) env L := by
  intro a w A
  have hyl : yielded ops a.tmps j = some want := by
    simp only [yielded, hj, Option.bind_some]
    rw [A.slots _ _ hb]
  show opE _ _ _ _ _ _
  unfold opE
  simp only [hi]
  rw [if_pos (by simp [Region.wanted, hyl])]
  exact h a w A
section
variable {l : List Oper}
theorem rl_still {S : List Nat} {N : Act → World → Prop} {i d : Nat} {op : Op} {ty : TypeId} {pos : String} {after : Array Edge} {r : List (Nat × Bool)} (ht : Take R L M)
    (hi : l[i]? = some ⟨some d, op, ty, pos, after, none⟩) (hd : Nat.blt d n = true) (h : ∃ v, Still P n w0 env R ⟨some d, op, ty, pos, after, none⟩ v ∧ T n w0 (wpSeq P l.toArray (fun w => Hd w R ∧ Keep w0 w) S N r) ((d, v) :: env) L) :
    T n w0 (wpSeq P l.toArray (fun w => Hd w R ∧ Keep w0 w) S N ((i, true) :: r)) env L := r_still ht (by simpa using hi) hd h
theorem rl_stillGY {S : List Nat} {N : Act → World → Prop} {i d j dj : Nat} {want : Bool} {op : Op} {ty : TypeId} {pos : String} {after : Array Edge} {r : List (Nat × Bool)} (ht : Take R L M)
    (hi : l[i]? = some ⟨some d, op, ty, pos, after, some (j, want)⟩) (hd : Nat.blt d n = true) (hj : (l[j]?).bind (·.dst) = some dj) (hb : look env dj = some (.bool want))
    (h : ∃ v, Still P n w0 env R ⟨some d, op, ty, pos, after, some (j, want)⟩ v ∧ T n w0 (wpSeq P l.toArray (fun w => Hd w R ∧ Keep w0 w) S N r) ((d, v) :: env) L) :
    T n w0 (wpSeq P l.toArray (fun w => Hd w R ∧ Keep w0 w) S N ((i, true) :: r)) env L := r_stillGY ht (by simpa using hi) hd (by simpa using hj) hb h
theorem rl_stillGN {S : List Nat} {N : Act → World → Prop} {i d j dj : Nat} {want b : Bool} {op : Op} {ty : TypeId} {pos : String} {after : Array Edge} {r : List (Nat × Bool)} (ht : Take R L M)
    (hi : l[i]? = some ⟨some d, op, ty, pos, after, some (j, want)⟩) (hd : Nat.blt d n = true) (hj : (l[j]?).bind (·.dst) = some dj) (hb : look env dj = some (.bool b)) (hne : (b == want) = false)
    (h : T n w0 (wpSeq P l.toArray (fun w => Hd w R ∧ Keep w0 w) S N r) ((d, undef) :: env) L) :
    T n w0 (wpSeq P l.toArray (fun w => Hd w R ∧ Keep w0 w) S N ((i, true) :: r)) env L := r_stillGN ht (by simpa using hi) hd (by simpa using hj) hb hne h
theorem rl_stillGU {S : List Nat} {N : Act → World → Prop} {i d j dj : Nat} {want : Bool} {op : Op} {ty : TypeId} {pos : String} {after : Array Edge} {r : List (Nat × Bool)} (ht : Take R L M)
    (hi : l[i]? = some ⟨some d, op, ty, pos, after, some (j, want)⟩) (hd : Nat.blt d n = true) (hj : (l[j]?).bind (·.dst) = some dj) (hb : look env dj = some undef)
    (h : T n w0 (wpSeq P l.toArray (fun w => Hd w R ∧ Keep w0 w) S N r) ((d, undef) :: env) L) :
    T n w0 (wpSeq P l.toArray (fun w => Hd w R ∧ Keep w0 w) S N ((i, true) :: r)) env L := r_stillGU ht (by simpa using hi) hd (by simpa using hj) hb h
theorem dl_stillX {S : List Nat} {N : Act → World → Prop} {i d : Nat} {op : Op} {ty : TypeId} {pos : String} {after : Array Edge} {r : List (Nat × Bool)}
    (hi : l[i]? = some ⟨some d, op, ty, pos, after, none⟩) (hd : Nat.blt d n = true) (h : ∃ v, Still P n w0 env L ⟨some d, op, ty, pos, after, none⟩ v ∧ T n w0 (wpSeq P l.toArray (fun w => Hd w L ∧ Keep w0 w) S N r) ((d, v) :: env) L) :
    T n w0 (wpSeq P l.toArray (fun w => Hd w L ∧ Keep w0 w) S N ((i, true) :: r)) env L := d_stillX (by simpa using hi) hd h
theorem dl_stillGY {S : List Nat} {N : Act → World → Prop} {i d j dj : Nat} {want : Bool} {op : Op} {ty : TypeId} {pos : String} {after : Array Edge} {r : List (Nat × Bool)}
    (hi : l[i]? = some ⟨some d, op, ty, pos, after, some (j, want)⟩) (hd : Nat.blt d n = true) (hj : (l[j]?).bind (·.dst) = some dj) (hb : look env dj = some (.bool want))
    (h : ∃ v, Still P n w0 env L ⟨some d, op, ty, pos, after, some (j, want)⟩ v ∧ T n w0 (wpSeq P l.toArray (fun w => Hd w L ∧ Keep w0 w) S N r) ((d, v) :: env) L) :
    T n w0 (wpSeq P l.toArray (fun w => Hd w L ∧ Keep w0 w) S N ((i, true) :: r)) env L := d_stillGY (by simpa using hi) hd (by simpa using hj) hb h
theorem dl_stillGN {S : List Nat} {N : Act → World → Prop} {i d j dj : Nat} {want b : Bool} {op : Op} {ty : TypeId} {pos : String} {after : Array Edge} {r : List (Nat × Bool)}
    (hi : l[i]? = some ⟨some d, op, ty, pos, after, some (j, want)⟩) (hd : Nat.blt d n = true) (hj : (l[j]?).bind (·.dst) = some dj) (hb : look env dj = some (.bool b)) (hne : (b == want) = false)
    (h : T n w0 (wpSeq P l.toArray (fun w => Hd w L ∧ Keep w0 w) S N r) ((d, undef) :: env) L) :
    T n w0 (wpSeq P l.toArray (fun w => Hd w L ∧ Keep w0 w) S N ((i, true) :: r)) env L := d_stillGN (by simpa using hi) hd (by simpa using hj) hb hne h
theorem dl_stillGU {S : List Nat} {N : Act → World → Prop} {i d j dj : Nat} {want : Bool} {op : Op} {ty : TypeId} {pos : String} {after : Array Edge} {r : List (Nat × Bool)}
    (hi : l[i]? = some ⟨some d, op, ty, pos, after, some (j, want)⟩) (hd : Nat.blt d n = true) (hj : (l[j]?).bind (·.dst) = some dj) (hb : look env dj = some undef)
    (h : T n w0 (wpSeq P l.toArray (fun w => Hd w L ∧ Keep w0 w) S N r) ((d, undef) :: env) L) :
    T n w0 (wpSeq P l.toArray (fun w => Hd w L ∧ Keep w0 w) S N ((i, true) :: r)) env L := d_stillGU (by simpa using hi) hd (by simpa using hj) hb h
theorem Tl_seqOp {C : World → Prop} {S : List Nat} {N : Act → World → Prop} {i : Nat} {d : Option Nat} {op : Op} {ty : TypeId} {pos : String} {after : Array Edge} {r : List (Nat × Bool)}
    (hi : l[i]? = some ⟨d, op, ty, pos, after, none⟩)
    (h : T n w0 (opO P ⟨d, op, ty, pos, after, none⟩ (fun a' w' => (S.contains i = true ∨ C w') ∧ wpSeq P l.toArray C S N r a' w')) env L) : T n w0 (wpSeq P l.toArray C S N ((i, false) :: r)) env L := T_seqOp (by simpa using hi) h
theorem Tl_seqOpY {C : World → Prop} {S : List Nat} {N : Act → World → Prop} {i j dj : Nat} {d : Option Nat} {op : Op} {ty : TypeId} {pos : String} {after : Array Edge} {want : Bool} {r : List (Nat × Bool)}
    (hi : l[i]? = some ⟨d, op, ty, pos, after, some (j, want)⟩) (hj : (l[j]?).bind (·.dst) = some dj) (hb : look env dj = some (.bool want))
    (h : T n w0 (opO P ⟨d, op, ty, pos, after, some (j, want)⟩ (fun a' w' => (S.contains i = true ∨ C w') ∧ wpSeq P l.toArray C S N r a' w')) env L) : T n w0 (wpSeq P l.toArray C S N ((i, false) :: r)) env L := T_seqOpY (by simpa using hi) (by simpa using hj) hb h
theorem Tl_guardY {rest : List Oper} {d : Option Nat} {op : Op} {ty : TypeId} {pos : String} {after : Array Edge} {j dj : Nat} {want : Bool}
    (hj : (l[j]?).bind (·.dst) = some dj) (hb : look env dj = some (.bool want)) (hd : (match d with | some d => Nat.blt d n | none => true) = true)
    (h : T n w0 (wpList P l.toArray Q (⟨d, op, ty, pos, after, none⟩ :: rest)) env L) : T n w0 (wpList P l.toArray Q (⟨d, op, ty, pos, after, some (j, want)⟩ :: rest)) env L := T_guardY (by simpa using hj) hb hd h
theorem Tl_guardN {rest : List Oper} {d : Nat} {op : Op} {ty : TypeId} {pos : String} {after : Array Edge} {j dj : Nat} {want b : Bool}
    (hj : (l[j]?).bind (·.dst) = some dj) (hb : look env dj = some (.bool b)) (hne : (b == want) = false) (hd : Nat.blt d n = true)
    (h : T n w0 (wpList P l.toArray Q rest) ((d, undef) :: env) L) : T n w0 (wpList P l.toArray Q (⟨some d, op, ty, pos, after, some (j, want)⟩ :: rest)) env L := T_guardN (by simpa using hj) hb hne hd h
theorem Tl_guardNN {rest : List Oper} {op : Op} {ty : TypeId} {pos : String} {after : Array Edge} {j dj : Nat} {want b : Bool}
    (hj : (l[j]?).bind (·.dst) = some dj) (hb : look env dj = some (.bool b)) (hne : (b == want) = false)
    (h : T n w0 (wpList P l.toArray Q rest) env L) : T n w0 (wpList P l.toArray Q (⟨none, op, ty, pos, after, some (j, want)⟩ :: rest)) env L := T_guardNN (by simpa using hj) hb hne h
theorem Tl_guardU {rest : List Oper} {d : Nat} {op : Op} {ty : TypeId} {pos : String} {after : Array Edge} {j dj : Nat} {want : Bool}
    (hj : (l[j]?).bind (·.dst) = some dj) (hb : look env dj = some undef) (hd : Nat.blt d n = true)
    (h : T n w0 (wpList P l.toArray Q rest) ((d, undef) :: env) L) : T n w0 (wpList P l.toArray Q (⟨some d, op, ty, pos, after, some (j, want)⟩ :: rest)) env L := T_guardU (by simpa using hj) hb hd h
theorem Tl_guardUN {rest : List Oper} {op : Op} {ty : TypeId} {pos : String} {after : Array Edge} {j dj : Nat} {want : Bool}
    (hj : (l[j]?).bind (·.dst) = some dj) (hb : look env dj = some undef)
    (h : T n w0 (wpList P l.toArray Q rest) env L) : T n w0 (wpList P l.toArray Q (⟨none, op, ty, pos, after, some (j, want)⟩ :: rest)) env L := T_guardUN (by simpa using hj) hb h
end
end
end Go.Sl
