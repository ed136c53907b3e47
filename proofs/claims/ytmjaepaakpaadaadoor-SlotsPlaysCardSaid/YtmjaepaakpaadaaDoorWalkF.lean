/- Writing and flushing a disk. Part 6 of 13 of the proof of SlotsPlays; no condition. -/
import Derived.Test.YtmjaepaakpaadaaDoorWalkE
namespace Go.Proofs
set_option linter.unnecessarySimpa false
open Go Go.Sl
attribute [local irreducible] Still T opO Sl.Inv row slc wpSeq Code.wp wpList Exit.then Exit.inBlock
set_option linter.unusedVariables false
set_option linter.unusedSimpArgs false
set_option maxRecDepth 4000
theorem map_set' {α β : Type} (f : α → β) (l : List α) (i : Nat) (x : α) : (l.map f).set i (f x) = (l.set i x).map f := by rw [List.map_set]
theorem getD_set {α : Type} {l : List α} {i j : Nat} {x y : α} (hi : i < l.length) : (l.set i x).getD j y = if i = j then x else l.getD j y := by
  simp only [List.getD_eq_getElem?_getD, List.getElem?_set]
  split
  · subst_vars; simp [hi]
  · rfl
set_option maxHeartbeats 1000000 in
theorem rkeep_ctr (p : Nat) (d : Dsk) (i : Nat) (is : Bool) (hi : i < d.k.length) (his : is = true → (d.w.getD i none).isSome = true) :
    Ctr Tryd.prog 44 [.pointer (some ⟨p, 0, none⟩), .int .i64 (i : Nat), .bool is] [RD p d] (fun v L => L = [RD p (d.keep i is)]) := by
  refine Ctr.of Tryd.func44 rfl rfl (fun w F => ?_)
  simp only [Tryd.ntmps44, env0, List.cons_append, List.nil_append]
  refine T_open Pick.here ?_
  rintro x hx
  simp only [rdL, List.cons_append, List.nil_append]
  have hlw : i < d.w.length := by rw [hx.ok.len]; exact hi
  refine T_seq ?_; refine T_seq ?_; refine T_region ?_; refine T_list ?_; refine kmv rfl rfl ?_; refine T_nil ?_; refine T_thenN ?_
  cases is with
  | true =>
    have hsome := his rfl
    obtain ⟨s, hs⟩ := Option.isSome_iff_exists.1 hsome
    have hok : (d.keep i true).ok := hx.ok.keep hsome
    refine T_condT rfl ?_
    skip
    refine T_draw [13] [(0, true), (1, true), (2, true), (3, true), (4, true), (5, true), (6, true), (7, true), (8, true), (9, true), (10, true), (11, true), (12, true), (13, false)] mixedT rfl (by kernel_rfl) ?_
    refine d_stillX rfl rfl ?_; refine ⟨_, (S_move rfl), ?_⟩; refine d_stillX rfl rfl ?_; refine ⟨_, (S_nilCheck rfl), ?_⟩; refine d_stillX rfl rfl ?_; refine ⟨_, (S_fieldR rfl), ?_⟩; refine d_stillX rfl rfl ?_; refine ⟨_, (S_load rfl (by repeat (first | with_reducible apply Pick.here | with_reducible apply Pick.there)) rfl), ?_⟩; refine d_stillX rfl rfl ?_; refine ⟨_, (S_move rfl), ?_⟩; refine d_stillX rfl rfl ?_; refine ⟨_, (S_move rfl), ?_⟩; refine d_stillX rfl rfl ?_; refine ⟨_, (S_nilCheck rfl), ?_⟩; refine d_stillX rfl rfl ?_; refine ⟨_, (S_fieldR rfl), ?_⟩; refine d_stillX rfl rfl ?_; refine ⟨_, (S_load rfl (by repeat (first | with_reducible apply Pick.here | with_reducible apply Pick.there)) rfl), ?_⟩; refine d_stillX rfl rfl ?_; refine ⟨_, (S_move rfl), ?_⟩; refine d_stillX rfl rfl ?_; refine ⟨_, (S_ix1 rfl rfl (by repeat (first | with_reducible apply Pick.here | with_reducible apply Pick.there)) hi), ?_⟩; refine d_stillX rfl rfl ?_; refine ⟨_, (S_loadS rfl (by repeat (first | with_reducible apply Pick.here | with_reducible apply Pick.there)) (hx.getW hi)), ?_⟩; refine d_stillX rfl rfl ?_; refine ⟨_, (S_ix1 rfl rfl (by repeat (first | with_reducible apply Pick.here | with_reducible apply Pick.there)) hi), ?_⟩
    refine T_seqOp rfl ?_; refine kstS rfl rfl (hx.one hi) (by repeat (first | with_reducible apply Pick.here | with_reducible apply Pick.there)) (by rw [hx.lenK]; exact hi) ?_
    refine T_seqS rfl ?_; refine T_seqNil ?_; refine T_thenN ?_; refine T_region ?_; refine T_list ?_; refine kmv rfl rfl ?_; refine T_list ?_; refine knc rfl rfl ?_; refine T_list ?_; refine kfd rfl rfl ?_; refine T_list ?_; refine kld rfl rfl (by repeat (first | with_reducible apply Pick.here | with_reducible apply Pick.there)) rfl ?_; refine T_list ?_; refine kmv rfl rfl ?_; refine T_list ?_; refine kix1 rfl rfl rfl (by repeat (first | with_reducible apply Pick.here | with_reducible apply Pick.there)) hi ?_
    refine T_list ?_; refine kstS rfl rfl rfl (by repeat (first | with_reducible apply Pick.here | with_reducible apply Pick.there)) (by rw [List.length_map]; exact hlw) ?_
    rw [show Value.bool false = inB none from rfl, map_set']
    refine T_nil ?_
    have hk : (d.keep i true).k = d.k.set i s := by simp only [Dsk.keep, hs, if_true, Option.getD_some]
    have hl : (d.keep i true).k.length = d.k.length := by rw [hk, List.length_set]
    refine T_close (R := rdR (d.keep i true)) (Ls := rdL p (d.keep i true)) { x with vK := x.vK.set i (x.vW.getD i undef) } ⟨hok, ?_, ?_, hx.oneW, ?_, ?_⟩ ?_ (M := F) ?_
    · rw [hl, List.length_set]; exact hx.lenK
    · rw [hl]; exact hx.lenW
    · intro j hj
      rw [hl] at hj
      rw [hk, getD_set (by rw [hx.lenK]; exact hi), getD_set hi]
      split
      · exact hx.secW i s hs
      · exact hx.secK j hj
    · intro j t ht
      have : (d.w.set i none).getD j none = some t := ht
      rw [getD_set hlw] at this
      split at this
      · cases this
      · exact hx.secW j t this
    · simp only [rdL, hl]
      exact (by repeat (first | with_reducible apply Take.nil | apply Take.cons (by repeat (first | with_reducible apply Pick.here | ((with_reducible refine Pick.rowE ?_); rfl) | ((with_reducible refine Pick.slcE ?_ ?_ ?_) <;> rfl) | ((with_reducible refine Pick.imapE ?_); rfl) | with_reducible apply Pick.there))))
    · exact T_finN [] _ trivial rfl perm_rest
  | false =>
    refine T_condF rfl ?_
    refine T_skip ?_; refine T_thenN ?_; refine T_region ?_; refine T_list ?_; refine kmv rfl rfl ?_; refine T_list ?_; refine knc rfl rfl ?_; refine T_list ?_; refine kfd rfl rfl ?_; refine T_list ?_; refine kld rfl rfl (by repeat (first | with_reducible apply Pick.here | with_reducible apply Pick.there)) rfl ?_; refine T_list ?_; refine kmv rfl rfl ?_; refine T_list ?_; refine kix1 rfl rfl rfl (by repeat (first | with_reducible apply Pick.here | with_reducible apply Pick.there)) hi ?_
    refine T_list ?_; refine kstS rfl rfl rfl (by repeat (first | with_reducible apply Pick.here | with_reducible apply Pick.there)) (by rw [List.length_map]; exact hlw) ?_
    rw [show Value.bool false = inB none from rfl, map_set']
    refine T_nil ?_
    refine T_close (R := rdR (d.keep i false)) (Ls := rdL p (d.keep i false)) x ⟨⟨by simpa [Dsk.keep] using hx.ok.len, hx.ok.few, hx.ok.k64, ?_, hx.ok.low, hx.ok.high⟩, hx.lenK, hx.lenW, hx.oneW, hx.secK, ?_⟩ (by repeat (first | with_reducible apply Take.nil | apply Take.cons (by repeat (first | with_reducible apply Pick.here | ((with_reducible refine Pick.rowE ?_); rfl) | ((with_reducible refine Pick.slcE ?_ ?_ ?_) <;> rfl) | ((with_reducible refine Pick.imapE ?_); rfl) | with_reducible apply Pick.there)))) ?_
    · intro s hs
      rcases mem_set hs with hs | hs
      · exact hx.ok.w64 s hs
      · cases hs
    · intro j t ht
      have : (d.w.set i none).getD j none = some t := ht
      rw [getD_set hlw] at this
      split at this
      · cases this
      · exact hx.secW j t this
    · exact T_finN [] _ trivial rfl perm_rest
set_option maxHeartbeats 1000000 in
theorem rwrite_ctr (p : Nat) (d : Dsk) (i : Int) (A : SP) (a : Option Addr) (m c : Nat) (b : Bytes) (hr : Rd A 1 a m (b.map encB)) (hm : m ≤ 1099511627776) : Ctr Tryd.prog 39 [.pointer (some ⟨p, 0, none⟩), .int .i64 i, .slice a m c] [RD p d, A]
    (fun v L => v = .int .i64 (d.write i b).1 ∧ L = [RD p (d.write i b).2, A]) := by
  refine Ctr.of Tryd.func39 rfl rfl (fun w F => ?_)
  simp only [Tryd.ntmps39, env0, List.cons_append, List.nil_append]
  refine T_rdLen hr Pick.here.there (fun hlen => ?_)
  simp only [List.length_map, Nat.mul_one] at hlen
  refine T_seq ?_; refine T_region ?_; refine T_list ?_; refine kas rfl rfl ?_; refine T_nil ?_; refine T_thenN ?_; refine T_seq ?_; refine T_region ?_; refine T_list ?_; refine kmv rfl rfl ?_
  refine T_list ?_; refine T_call rfl (rcall_ctr p d) (by repeat (first | with_reducible apply Take.nil | apply Take.cons (by repeat (first | with_reducible apply Pick.here | with_reducible apply Pick.there)))) rfl ?_
  rintro v L' ⟨rfl, rfl⟩
  simp only [List.cons_append, List.nil_append]
  unfold Dsk.write
  by_cases h0 : d.left = 0
  · rw [if_pos h0, if_pos h0]
    refine T_list ?_; refine kas rfl rfl ?_; refine T_nil ?_; refine T_thenN ?_; refine T_seq ?_; refine T_seq ?_; refine T_region ?_; refine T_list ?_; refine kmv rfl rfl ?_; refine T_list ?_; refine knot rfl rfl ?_; refine T_nil ?_; refine T_thenN ?_
    refine T_cond rfl (fun _ => ?_) (fun h => absurd h (by simp [h0]))
    refine T_seq ?_; refine T_region ?_; refine T_list ?_; refine kas rfl rfl ?_; refine T_nil ?_; refine T_thenN ?_; refine T_ret ?_; refine T_thenR ?_
    exact T_fin [_] _ ⟨rfl, trivial⟩ ⟨rfl, rfl⟩ perm_rest
  · rw [if_neg h0, if_neg h0]
    refine T_list ?_; refine kas rfl rfl ?_; refine T_nil ?_; refine T_thenN ?_; refine T_seq ?_; refine T_seq ?_; refine T_region ?_; refine T_list ?_; refine kmv rfl rfl ?_; refine T_list ?_; refine knot rfl rfl ?_; refine T_nil ?_; refine T_thenN ?_
    refine T_cond rfl (fun h => absurd h (by simp [h0])) (fun _ => ?_)
    generalize he : d.tick = e
    have hiff : d.has i ↔ e.has i := by subst he; exact Iff.rfl
    refine T_open Pick.here ?_
    rintro x hx
    simp only [rdL, List.cons_append, List.nil_append]
    by_cases hh : e.has i
    · have hi := hh; unfold Dsk.has at hi
      obtain ⟨j, rfl⟩ : ∃ j : Nat, i = j := ⟨i.toNat, by omega⟩
      have hj : j < e.k.length := by omega
      have hlw : j < e.w.length := by rw [hx.ok.len]; exact hj
      refine T_skip ?_; refine T_thenN ?_; refine T_seq ?_; refine T_seq ?_; refine T_region ?_; refine T_list ?_; refine kmv rfl rfl ?_; refine T_list ?_; refine kcmpF rfl rfl rfl rfl (decide_eq_false (show ¬ (j : Int) < 0 by omega)) ?_; refine T_list ?_; refine kmv rfl rfl ?_; refine T_guardY rfl rfl rfl ?_; refine T_list ?_; refine kmv rfl rfl ?_; refine T_guardY rfl rfl rfl ?_; refine T_list ?_; refine kmv rfl rfl ?_; refine T_guardY rfl rfl rfl ?_; refine T_list ?_; refine knc rfl rfl ?_; refine T_guardY rfl rfl rfl ?_; refine T_list ?_; refine kfd rfl rfl ?_; refine T_guardY rfl rfl rfl ?_; refine T_list ?_; refine kld rfl rfl (by repeat (first | with_reducible apply Pick.here | with_reducible apply Pick.there)) rfl ?_; refine T_guardY rfl rfl rfl ?_; refine T_list ?_; refine klen rfl rfl ?_; refine T_guardY rfl rfl rfl ?_; refine T_list ?_; refine kcmp rfl rfl rfl rfl ?_; refine T_list ?_; refine kpF rfl rfl rfl ?_; refine T_nil ?_; refine T_thenN ?_
      refine T_cond rfl (fun hc => absurd hc (by simp; omega)) (fun _ => ?_)
      rw [if_neg (fun h => h (hiff.2 hh))]
      refine T_skip ?_; refine T_thenN ?_; refine T_seq ?_; refine T_seq ?_; refine T_region ?_; refine T_list ?_; refine kmv rfl rfl ?_; refine T_list ?_; refine klen rfl rfl ?_; refine T_list ?_; refine kcmp rfl rfl rfl rfl ?_; refine T_nil ?_; refine T_thenN ?_
      refine T_cond rfl (fun h => ?_) (fun h => ?_) <;> simp only [decide_eq_true_eq, decide_eq_false_iff_not, ne_eq, Decidable.not_not, Bool.not_eq_true', Bool.not_eq_false', Bool.cond_eq_true_distrib, Bool.cond_eq_false_distrib] at h
      · rw [if_pos (by omega)]
        refine T_seq ?_; refine T_region ?_; refine T_list ?_; refine kas rfl rfl ?_; refine T_nil ?_; refine T_thenN ?_; refine T_ret ?_; refine T_thenR ?_
        refine T_close (R := rdR e) (Ls := rdL p e) x hx (by repeat (first | with_reducible apply Take.nil | apply Take.cons (by repeat (first | with_reducible apply Pick.here | ((with_reducible refine Pick.rowE ?_); rfl) | ((with_reducible refine Pick.slcE ?_ ?_ ?_) <;> rfl) | ((with_reducible refine Pick.imapE ?_); rfl) | with_reducible apply Pick.there)))) ?_
        exact T_fin [_] _ ⟨rfl, trivial⟩ ⟨rfl, rfl⟩ perm_rest
      · rw [if_neg (by omega)]
        have hb : b.length ≤ 64 := by omega
        refine T_skip ?_; refine T_thenN ?_; refine T_seq ?_; refine T_region ?_; refine T_list ?_; refine kbs1 rfl rfl (vs := []) rfl (by simp) rfl ?_; intro _a; refine T_list ?_; refine kmv rfl rfl ?_
        refine T_list ?_; refine kapR hr rfl rfl rfl (by repeat (first | with_reducible apply Pick.here | with_reducible apply Pick.there)) (by repeat (first | with_reducible apply Pick.here | with_reducible apply Pick.there)) (ones_encB b) (by omega) (by omega) (fun a' c' => ?_)
        rw [Nat.zero_add, List.nil_append]
        refine T_list ?_; refine kas rfl rfl ?_; refine T_nil ?_; refine T_thenN ?_; refine T_seq ?_; refine T_block ?_
        refine T_loop (ι := Nat × Option Addr × Nat) (fun y => m + y.1 ≤ 64) (fun y => [(8, .slice y.2.1 (m + y.1) y.2.2), (0, .pointer (some ⟨p, 0, none⟩)), (1, .int .i64 (j : Nat))])
          (fun y => slc 5 1 y.2.1 (m + y.1) y.2.2 ((b ++ List.replicate y.1 0).map encB) :: A :: rdL p e x ++ F) (fun y => 64 - (m + y.1)) ?_ ?_
        · refine T_inv (0, a', c') (by dsimp only; omega) ⟨rfl, rfl, rfl, trivial⟩ ?_
          simp only [rdL, List.replicate_zero, List.append_nil, Nat.add_zero]
          (repeat (first | exact perm_rest | apply perm_take (by repeat (first | with_reducible apply Pick.here | with_reducible apply Pick.there)) | apply perm_drop))
        · rintro ⟨q, a1, c1⟩ hq
          dsimp only at hq ⊢
          simp only [rdL, List.cons_append, List.nil_append]
          refine T_seq ?_; refine T_seq ?_; refine T_region ?_; refine T_list ?_; refine kmv rfl rfl ?_; refine T_list ?_; refine klen rfl rfl ?_; refine T_list ?_; refine kcmp rfl rfl rfl rfl ?_; refine T_nil ?_; refine T_thenN ?_
          refine T_cond rfl (fun h => ?_) (fun h => ?_) <;> simp only [decide_eq_true_eq, decide_eq_false_iff_not, ne_eq, Decidable.not_not, Bool.not_eq_true', Bool.not_eq_false', Bool.cond_eq_true_distrib, Bool.cond_eq_false_distrib] at h
          · refine T_skip ?_; refine T_thenN ?_; refine T_block ?_; refine T_region ?_; refine T_list ?_; refine kmv rfl rfl ?_
            refine T_list ?_; refine kbs1 rfl rfl (vs := [.int .u8 0]) rfl (by simp [Value.oneCell']) rfl (fun b2 => ?_)
            refine T_list ?_; refine kap rfl rfl rfl (by repeat (first | with_reducible apply Pick.here | with_reducible apply Pick.there)) (by repeat (first | with_reducible apply Pick.here | with_reducible apply Pick.there)) (by simp [Value.oneCell']) (by omega) (by omega) (fun a2 c2 => ?_)
            refine T_list ?_; refine kas rfl rfl ?_; refine T_nil ?_; refine T_inN ?_; refine T_thenN ?_
            refine T_inv (q + 1, a2, c2) ⟨(by first | omega | (dsimp only; omega)), (by first | omega | (dsimp only; omega))⟩ ⟨rfl, rfl, rfl, trivial⟩ ?_
            have e1 : (b ++ List.replicate q 0).map encB ++ [Value.int .u8 0] = (b ++ List.replicate (q + 1) 0).map encB := by
              rw [List.replicate_succ', ← List.append_assoc, List.map_append (l₁ := b ++ List.replicate q 0)]; rfl
            simp only [rdL, ← Nat.add_assoc, e1]
            (repeat (first | exact perm_rest | apply perm_take (by repeat (first | with_reducible apply Pick.here | with_reducible apply Pick.there)) | apply perm_drop))
          · obtain rfl : q = 64 - m := by omega
            have hpad : b ++ List.replicate (64 - m) 0 = pad b := by rw [pad, hlen]
            have hm64 : m + (64 - m) = 64 := by omega
            rw [hpad, hm64]
            refine T_exit ?_; refine T_thenE ?_; refine T_thenE ?_; refine T_inE ?_; refine T_thenN ?_; refine T_seq ?_; refine T_region ?_; refine T_list ?_; refine kmv rfl rfl ?_; refine T_list ?_; refine knc rfl rfl ?_; refine T_list ?_; refine kfd rfl rfl ?_; refine T_list ?_; refine kld rfl rfl (by repeat (first | with_reducible apply Pick.here | with_reducible apply Pick.there)) rfl ?_; refine T_list ?_; refine kmv rfl rfl ?_; refine T_list ?_; refine kmv rfl rfl ?_; refine T_list ?_; refine kix1 rfl rfl rfl (by repeat (first | with_reducible apply Pick.here | with_reducible apply Pick.there)) hj ?_
            refine T_list ?_; refine kstS rfl rfl rfl (by repeat (first | with_reducible apply Pick.here | with_reducible apply Pick.there)) (by rw [hx.lenW]; exact hj) ?_
            refine T_nil ?_; refine T_thenN ?_; refine T_seq ?_; refine T_region ?_; refine T_list ?_; refine kmv rfl rfl ?_; refine T_list ?_; refine knc rfl rfl ?_; refine T_list ?_; refine kfd rfl rfl ?_; refine T_list ?_; refine kld rfl rfl (by repeat (first | with_reducible apply Pick.here | with_reducible apply Pick.there)) rfl ?_; refine T_list ?_; refine kmv rfl rfl ?_; refine T_list ?_; refine kix1 rfl rfl rfl (by repeat (first | with_reducible apply Pick.here | with_reducible apply Pick.there)) hj ?_
            refine T_list ?_; refine kstS rfl rfl rfl (by repeat (first | with_reducible apply Pick.here | with_reducible apply Pick.there)) (by rw [List.length_map]; exact hlw) ?_
            rw [show Value.bool true = inB (some (pad b)) from rfl, map_set']
            refine T_nil ?_; refine T_thenN ?_; refine T_seq ?_; refine T_region ?_; refine T_list ?_; refine kas rfl rfl ?_; refine T_nil ?_; refine T_thenN ?_; refine T_ret ?_
            refine T_slCons (X := x.ar.map fun x => slc 5 1 x.1 64 x.2.1 (x.2.2.map encB)) (by repeat (first | with_reducible apply Pick.here | with_reducible apply Pick.there)) (A := slc 5 1 a1 64 c1 ((pad b).map encB)) (by repeat (first | with_reducible apply Pick.here | with_reducible apply Pick.there)) ?_
            rw [show slc 5 1 a1 64 c1 ((pad b).map encB) :: x.ar.map (fun x => slc 5 1 x.1 64 x.2.1 (x.2.2.map encB)) = ((a1, c1, pad b) :: x.ar).map (fun x => slc 5 1 x.1 64 x.2.1 (x.2.2.map encB)) from rfl]
            refine T_close (R := rdR (e.put j b)) (Ls := rdL p (e.put j b)) { x with vW := x.vW.set j (.slice a1 64 c1), ar := (a1, c1, pad b) :: x.ar } ⟨hx.ok.put hb, hx.lenK, ?_, ?_, ?_, ?_⟩ (by repeat (first | with_reducible apply Take.nil | apply Take.cons (by repeat (first | with_reducible apply Pick.here | ((with_reducible refine Pick.rowE ?_); rfl) | ((with_reducible refine Pick.slcE ?_ ?_ ?_) <;> rfl) | ((with_reducible refine Pick.imapE ?_); rfl) | with_reducible apply Pick.there)))) ?_
            · rw [List.length_set]; exact hx.lenW
            · intro v hv
              rcases mem_set hv with hv | rfl
              · exact hx.oneW v hv
              · rfl
            · intro t ht; exact (hx.secK t ht).mono _
            · intro t s ht
              have : (e.w.set j (some (pad b))).getD t none = some s := ht
              rw [getD_set hlw] at this
              dsimp only
              rw [getD_set (by rw [hx.lenW]; exact hj)]
              split at this
              · rename_i heq
                rw [if_pos heq]
                simp only [Option.some.injEq] at this
                subst this
                exact ⟨a1, c1, rfl, List.mem_cons_self⟩
              · rename_i heq
                rw [if_neg heq]
                exact (hx.secW t s this).mono _
            · refine T_fin [_] _ ⟨rfl, trivial⟩ ⟨rfl, rfl⟩ ?_
              (repeat (first | exact perm_rest | apply perm_take (by repeat (first | with_reducible apply Pick.here | with_reducible apply Pick.there)) | apply perm_drop))
    · rw [if_pos (fun h => hh (hiff.1 h))]
      by_cases h1 : i < 0
      · refine T_skip ?_; refine T_thenN ?_; refine T_seq ?_; refine T_seq ?_; refine T_region ?_; refine T_list ?_; refine kmv rfl rfl ?_; refine T_list ?_; refine kcmpT rfl rfl rfl rfl (decide_eq_true h1) ?_; refine T_list ?_; refine kmv rfl rfl ?_; refine T_guardN rfl rfl rfl rfl ?_; refine T_guardN rfl rfl rfl rfl ?_; refine T_guardN rfl rfl rfl rfl ?_; refine T_guardN rfl rfl rfl rfl ?_; refine T_guardN rfl rfl rfl rfl ?_; refine T_guardN rfl rfl rfl rfl ?_; refine T_guardN rfl rfl rfl rfl ?_; refine T_list ?_; refine kpT rfl rfl rfl ?_; refine T_nil ?_; refine T_thenN ?_
        refine T_cond rfl (fun _ => ?_) (fun h => absurd h (by simp only [decide_eq_true_eq, decide_eq_false_iff_not, ne_eq, Decidable.not_not, Bool.not_eq_true', Bool.not_eq_false', Bool.not_true, Bool.not_false, Bool.false_eq_true, Bool.true_eq_false, not_true_eq_false, not_false_eq_true]; try omega))
        refine T_seq ?_; refine T_region ?_; refine T_list ?_; refine kas rfl rfl ?_; refine T_nil ?_; refine T_thenN ?_; refine T_ret ?_; refine T_thenR ?_
        refine T_close (R := rdR e) (Ls := rdL p e) x hx (by repeat (first | with_reducible apply Take.nil | apply Take.cons (by repeat (first | with_reducible apply Pick.here | ((with_reducible refine Pick.rowE ?_); rfl) | ((with_reducible refine Pick.slcE ?_ ?_ ?_) <;> rfl) | ((with_reducible refine Pick.imapE ?_); rfl) | with_reducible apply Pick.there)))) ?_
        exact T_fin [_] _ ⟨rfl, trivial⟩ ⟨rfl, rfl⟩ perm_rest
      · have h2 : (e.k.length : Int) ≤ i := by unfold Dsk.has at hh; omega
        refine T_skip ?_; refine T_thenN ?_; refine T_seq ?_; refine T_seq ?_; refine T_region ?_; refine T_list ?_; refine kmv rfl rfl ?_; refine T_list ?_; refine kcmpF rfl rfl rfl rfl (decide_eq_false h1) ?_; refine T_list ?_; refine kmv rfl rfl ?_; refine T_guardY rfl rfl rfl ?_; refine T_list ?_; refine kmv rfl rfl ?_; refine T_guardY rfl rfl rfl ?_; refine T_list ?_; refine kmv rfl rfl ?_; refine T_guardY rfl rfl rfl ?_; refine T_list ?_; refine knc rfl rfl ?_; refine T_guardY rfl rfl rfl ?_; refine T_list ?_; refine kfd rfl rfl ?_; refine T_guardY rfl rfl rfl ?_; refine T_list ?_; refine kld rfl rfl (by repeat (first | with_reducible apply Pick.here | with_reducible apply Pick.there)) rfl ?_; refine T_guardY rfl rfl rfl ?_; refine T_list ?_; refine klen rfl rfl ?_; refine T_guardY rfl rfl rfl ?_; refine T_list ?_; refine kcmp rfl rfl rfl rfl ?_; refine T_list ?_; refine kpF rfl rfl rfl ?_; refine T_nil ?_; refine T_thenN ?_
        refine T_cond rfl (fun _ => ?_) (fun hc => absurd hc (by simp; omega))
        refine T_seq ?_; refine T_region ?_; refine T_list ?_; refine kas rfl rfl ?_; refine T_nil ?_; refine T_thenN ?_; refine T_ret ?_; refine T_thenR ?_
        refine T_close (R := rdR e) (Ls := rdL p e) x hx (by repeat (first | with_reducible apply Take.nil | apply Take.cons (by repeat (first | with_reducible apply Pick.here | ((with_reducible refine Pick.rowE ?_); rfl) | ((with_reducible refine Pick.slcE ?_ ?_ ?_) <;> rfl) | ((with_reducible refine Pick.imapE ?_); rfl) | with_reducible apply Pick.there)))) ?_
        exact T_fin [_] _ ⟨rfl, trivial⟩ ⟨rfl, rfl⟩ perm_rest
end Go.Proofs
namespace Go.Proofs
set_option linter.unnecessarySimpa false
open Go Go.Sl
attribute [local irreducible] Still T opO Sl.Inv row slc wpSeq Code.wp wpList Exit.then Exit.inBlock
set_option linter.unusedVariables false
set_option linter.unusedSimpArgs false
set_option maxRecDepth 4000
def Dsk.flK (d : Dsk) : Nat → Dsk
  | 0 => d
  | i + 1 => (d.flK i).keep i ((d.flK i).w.getD i none).isSome
theorem flK_len (d : Dsk) : ∀ i, (d.flK i).k.length = d.k.length ∧ (d.flK i).w.length = d.w.length ∧ (d.flK i).left = d.left
  | 0 => ⟨rfl, rfl, rfl⟩
  | i + 1 => by
    obtain ⟨h1, h2, h3⟩ := flK_len d i
    refine ⟨?_, ?_, h3⟩
    · simp only [Dsk.flK, Dsk.keep]; split <;> simp [h1]
    · simp only [Dsk.flK, Dsk.keep, List.length_set]; exact h2
theorem flK_at (d : Dsk) (hl : d.w.length = d.k.length) : ∀ i, i ≤ d.k.length → ∀ j, (d.flK i).k.getD j [] = (if j < i then d.at j else d.k.getD j []) ∧ (d.flK i).w.getD j none = if j < i then none else d.w.getD j none
  | 0, _, j => by simp [Dsk.flK]
  | i + 1, hi, j => by
    have ih := flK_at d hl i (by omega)
    obtain ⟨l1, l2, _⟩ := flK_len d i
    have hwi := (ih i).2
    have hki := (ih i).1
    rw [if_neg (Nat.lt_irrefl i)] at hwi hki
    have hiw : i < (d.flK i).w.length := by omega
    have hik : i < (d.flK i).k.length := by omega
    constructor
    · simp only [Dsk.flK, Dsk.keep, hwi]
      cases hs : d.w.getD i none with
      | none =>
        simp only [Option.isSome_none, Bool.false_eq_true, if_false]
        rw [(ih j).1]
        by_cases hj : j < i
        · rw [if_pos hj, if_pos (by omega)]
        · rw [if_neg hj]
          by_cases hj2 : j < i + 1
          · obtain rfl : j = i := by omega
            rw [if_pos hj2]; unfold Dsk.at; rw [hs]; rfl
          · rw [if_neg hj2]
      | some s =>
        simp only [Option.isSome_some, if_true, Option.getD_some]
        rw [getD_set hik]
        by_cases hj : i = j
        · subst hj
          rw [if_pos rfl, if_pos (by omega)]; unfold Dsk.at; rw [hs]; rfl
        · rw [if_neg hj, (ih j).1]
          by_cases hj2 : j < i
          · rw [if_pos hj2, if_pos (by omega)]
          · rw [if_neg hj2, if_neg (by omega)]
    · simp only [Dsk.flK, Dsk.keep]
      rw [getD_set hiw]
      by_cases hj : i = j
      · subst hj; rw [if_pos rfl, if_pos (by omega)]
      · rw [if_neg hj, (ih j).2]
        by_cases hj2 : j < i
        · rw [if_pos hj2, if_pos (by omega)]
        · rw [if_neg hj2, if_neg (by omega)]
theorem ext_getD {α : Type} {l k : List α} (x : α) (hl : l.length = k.length) (h : ∀ i, i < l.length → l.getD i x = k.getD i x) : l = k := by
  apply List.ext_getElem hl
  intro i h1 h2
  have := h i h1
  rw [List.getD_eq_getElem?_getD, List.getD_eq_getElem?_getD, List.getElem?_eq_getElem h1, List.getElem?_eq_getElem h2] at this
  exact this
theorem flushed_at (d : Dsk) (hl : d.w.length = d.k.length) (j : Nat) (hj : j < d.k.length) : d.flushed.k.getD j [] = d.at j := by
  have hw : j < d.w.length := by omega
  simp only [Dsk.flushed, Dsk.at, List.getD_eq_getElem?_getD, List.getElem?_zipWith, List.getElem?_eq_getElem hj, List.getElem?_eq_getElem hw]
  simp
theorem flK_all (d : Dsk) (hl : d.w.length = d.k.length) : d.flK d.k.length = d.flushed := by
  obtain ⟨l1, l2, l3⟩ := flK_len d d.k.length
  have h := flK_at d hl d.k.length (Nat.le_refl _)
  have e1 : (d.flK d.k.length).k = d.flushed.k := by
    refine ext_getD [] (by rw [l1]; simp [Dsk.flushed, hl]) (fun i hi => ?_)
    rw [l1] at hi
    rw [(h i).1, if_pos hi, flushed_at d hl i hi]
  have e2 : (d.flK d.k.length).w = d.flushed.w := by
    refine ext_getD none (by rw [l2]; simp [Dsk.flushed, hl]) (fun i hi => ?_)
    rw [l2, hl] at hi
    rw [(h i).2, if_pos hi]
    simp only [Dsk.flushed, List.getD_eq_getElem?_getD, List.getElem?_replicate, if_pos hi]; rfl
  have e3 : (d.flK d.k.length).left = d.flushed.left := l3
  cases hh : d.flK d.k.length
  cases hg : d.flushed
  rw [hh, hg] at e1 e2 e3
  simp only at e1 e2 e3
  subst e1; subst e2; subst e3; rfl
theorem rflush_ctr (p : Nat) (d : Dsk) : Ctr Tryd.prog 40 [.pointer (some ⟨p, 0, none⟩)] [RD p d] (fun v L => v = .int .i64 d.flush.1 ∧ L = [RD p d.flush.2]) := by
  refine Ctr.of Tryd.func40 rfl rfl (fun w F => ?_)
  simp only [Tryd.ntmps40, env0, List.cons_append, List.nil_append]
  refine T_seq ?_; refine T_region ?_; refine T_list ?_; refine kas rfl rfl ?_; refine T_nil ?_; refine T_thenN ?_; refine T_seq ?_; refine T_region ?_; refine T_list ?_; refine kmv rfl rfl ?_
  refine T_list ?_; refine T_call rfl (rcall_ctr p d) (by repeat (first | with_reducible apply Take.nil | apply Take.cons (by repeat (first | with_reducible apply Pick.here | with_reducible apply Pick.there)))) rfl ?_
  rintro v L' ⟨rfl, rfl⟩
  simp only [List.cons_append, List.nil_append]
  unfold Dsk.flush
  by_cases h0 : d.left = 0
  · rw [if_pos h0, if_pos h0]
    refine T_list ?_; refine kas rfl rfl ?_; refine T_nil ?_; refine T_thenN ?_; refine T_seq ?_; refine T_seq ?_; refine T_region ?_; refine T_list ?_; refine kmv rfl rfl ?_; refine T_list ?_; refine knot rfl rfl ?_; refine T_nil ?_; refine T_thenN ?_
    refine T_cond rfl (fun _ => ?_) (fun h => absurd h (by simp [h0]))
    refine T_seq ?_; refine T_region ?_; refine T_list ?_; refine kas rfl rfl ?_; refine T_nil ?_; refine T_thenN ?_; refine T_ret ?_; refine T_thenR ?_
    exact T_fin [_] _ ⟨rfl, trivial⟩ ⟨rfl, rfl⟩ perm_rest
  · rw [if_neg h0, if_neg h0]
    refine T_list ?_; refine kas rfl rfl ?_; refine T_nil ?_; refine T_thenN ?_; refine T_seq ?_; refine T_seq ?_; refine T_region ?_; refine T_list ?_; refine kmv rfl rfl ?_; refine T_list ?_; refine knot rfl rfl ?_; refine T_nil ?_; refine T_thenN ?_
    refine T_cond rfl (fun h => absurd h (by simp [h0])) (fun _ => ?_)
    generalize d.tick = e
    refine T_skip ?_; refine T_thenN ?_; refine T_seq ?_; refine T_seq ?_; refine T_region ?_; refine T_list ?_; refine kas rfl rfl ?_; refine T_nil ?_; refine T_thenN ?_; refine T_block ?_
    refine T_know (p := e.ok) (fun w H => by obtain ⟨x, hx, _⟩ := (Pick.here.back H).openAb; exact hx.ok) (fun hok => ?_)
    have hfew := hok.few
    refine T_loop (fun i : Nat => i ≤ e.k.length) (fun i => [(4, .int .i64 (i : Nat)), (0, .pointer (some ⟨p, 0, none⟩))]) (fun i => RD p (e.flK i) :: F) (fun i => e.k.length - i) ?_ ?_
    · exact T_inv 0 (Nat.zero_le _) ⟨rfl, rfl, trivial⟩ perm_rest
    · intro i hi
      obtain ⟨l1, l2, _⟩ := flK_len e i
      refine T_open Pick.here ?_
      rintro x hx
      simp only [rdL, List.cons_append, List.nil_append]
      refine T_seq ?_; refine T_seq ?_; refine T_region ?_; refine T_list ?_; refine kmv rfl rfl ?_; refine T_list ?_; refine kmv rfl rfl ?_; refine T_list ?_; refine knc rfl rfl ?_; refine T_list ?_; refine kfd rfl rfl ?_; refine T_list ?_; refine kld rfl rfl (by repeat (first | with_reducible apply Pick.here | with_reducible apply Pick.there)) rfl ?_; refine T_list ?_; refine klen rfl rfl ?_; refine T_list ?_; refine kcmp rfl rfl rfl rfl ?_; refine T_nil ?_; refine T_thenN ?_
      refine T_cond rfl (fun h => ?_) (fun h => ?_) <;> simp only [decide_eq_true_eq, decide_eq_false_iff_not, ne_eq, Decidable.not_not, Bool.not_eq_true', Bool.not_eq_false', Bool.cond_eq_true_distrib, Bool.cond_eq_false_distrib] at h
      · have hj : i < (e.flK i).k.length := by omega
        refine T_skip ?_; refine T_thenN ?_; refine T_seq ?_; refine T_block ?_; refine T_region ?_; refine T_list ?_; refine kmv rfl rfl ?_; refine T_list ?_; refine kmv rfl rfl ?_; refine T_list ?_; refine kmv rfl rfl ?_; refine T_list ?_; refine knc rfl rfl ?_; refine T_list ?_; refine kfd rfl rfl ?_; refine T_list ?_; refine kld rfl rfl (by repeat (first | with_reducible apply Pick.here | with_reducible apply Pick.there)) rfl ?_; refine T_list ?_; refine kmv rfl rfl ?_; refine T_list ?_; refine kix1 rfl rfl rfl (by repeat (first | with_reducible apply Pick.here | with_reducible apply Pick.there)) hj ?_; refine T_list ?_; refine kldS rfl rfl (by repeat (first | with_reducible apply Pick.here | with_reducible apply Pick.there)) (hx.getI hj) ?_
        refine T_close (R := rdR (e.flK i)) (Ls := rdL p (e.flK i)) x hx (by repeat (first | with_reducible apply Take.nil | apply Take.cons (by repeat (first | with_reducible apply Pick.here | ((with_reducible refine Pick.rowE ?_); rfl) | ((with_reducible refine Pick.slcE ?_ ?_ ?_) <;> rfl) | ((with_reducible refine Pick.imapE ?_); rfl) | with_reducible apply Pick.there)))) ?_
        refine T_list ?_; refine T_call rfl (rkeep_ctr p (e.flK i) i _ hj id) (by repeat (first | with_reducible apply Take.nil | apply Take.cons (by repeat (first | with_reducible apply Pick.here | with_reducible apply Pick.there)))) rfl ?_
        rintro v L' rfl
        simp only [List.cons_append, List.nil_append]
        refine T_nil ?_; refine T_inN ?_; refine T_thenN ?_; refine T_region ?_; refine T_list ?_; refine kmv rfl rfl ?_; refine T_list ?_; refine kar rfl rfl rfl rfl (by simp only [fits]; omega) ?_; refine T_list ?_; refine kas rfl rfl ?_; refine T_nil ?_; refine T_thenN ?_
        refine T_inv (i + 1) ⟨(by first | omega | (dsimp only; omega)), (by first | omega | (dsimp only; omega))⟩ ⟨rfl, rfl, trivial⟩ perm_rest
      · obtain rfl : i = e.k.length := by omega
        refine T_exit ?_; refine T_thenE ?_; refine T_thenE ?_; refine T_inE ?_; refine T_thenN ?_; refine T_seq ?_; refine T_region ?_; refine T_list ?_; refine kas rfl rfl ?_; refine T_nil ?_; refine T_thenN ?_; refine T_ret ?_
        refine T_close (R := rdR (e.flK e.k.length)) (Ls := rdL p (e.flK e.k.length)) x hx (by repeat (first | with_reducible apply Take.nil | apply Take.cons (by repeat (first | with_reducible apply Pick.here | ((with_reducible refine Pick.rowE ?_); rfl) | ((with_reducible refine Pick.slcE ?_ ?_ ?_) <;> rfl) | ((with_reducible refine Pick.imapE ?_); rfl) | with_reducible apply Pick.there)))) ?_
        refine T_fin [_] _ ⟨rfl, trivial⟩ ⟨rfl, rfl⟩ ?_
        rw [flK_all e hok.len]
        exact perm_rest
def Dsk.waitsTo (d : Dsk) (i : Nat) : List Nat := (List.range i).filter fun i => (d.w.getD i none).isSome
def encN (i : Nat) : Value := .int .i64 (i : Int)
theorem rwaits_ctr (p : Nat) (d : Dsk) : Ctr Tryd.prog 43 [.pointer (some ⟨p, 0, none⟩)] [RD p d] (fun v L => ∃ a c, v = .slice a d.waits.length c ∧ L = [slc 3 1 a d.waits.length c (d.waits.map encN), RD p d]) := by
  refine Ctr.of Tryd.func43 rfl rfl (fun w F => ?_)
  simp only [Tryd.ntmps43, env0, List.cons_append, List.nil_append]
  refine T_open Pick.here ?_
  rintro x hx
  simp only [rdL, List.cons_append, List.nil_append]
  have hfew := hx.ok.few
  refine T_seq ?_; refine T_region ?_; refine T_list ?_; refine kas rfl rfl ?_; refine T_nil ?_; refine T_thenN ?_; refine T_seq ?_; refine T_region ?_; refine T_list ?_; refine kas rfl rfl ?_; refine T_nil ?_; refine T_thenN ?_; refine T_seq ?_; refine T_seq ?_; refine T_region ?_; refine T_list ?_; refine kas rfl rfl ?_; refine T_nil ?_; refine T_thenN ?_; refine T_block ?_
  refine T_nilS 3 1 ?_
  have hfl : ∀ i, (d.waitsTo i).length ≤ i := fun i => by
    have := List.length_filter_le (fun i => (d.w.getD i none).isSome) (List.range i)
    rwa [List.length_range] at this
  refine T_loop (ι := Nat × Option Addr × Nat) (fun y => y.1 ≤ d.k.length) (fun y => [(4, .int .i64 (y.1 : Nat)), (0, .pointer (some ⟨p, 0, none⟩)), (3, .slice y.2.1 (d.waitsTo y.1).length y.2.2)])
    (fun y => slc 3 1 y.2.1 (d.waitsTo y.1).length y.2.2 ((d.waitsTo y.1).map encN) :: rdL p d x ++ F) (fun y => d.k.length - y.1) ?_ ?_
  · exact T_inv (0, none, 0) (Nat.zero_le _) ⟨rfl, rfl, rfl, trivial⟩ perm_rest
  · rintro ⟨i, a, c⟩ hi
    dsimp only at hi ⊢
    simp only [rdL, List.cons_append, List.nil_append]
    have hli := hfl i
    refine T_seq ?_; refine T_seq ?_; refine T_region ?_; refine T_list ?_; refine kmv rfl rfl ?_; refine T_list ?_; refine kmv rfl rfl ?_; refine T_list ?_; refine knc rfl rfl ?_; refine T_list ?_; refine kfd rfl rfl ?_; refine T_list ?_; refine kld rfl rfl (by repeat (first | with_reducible apply Pick.here | with_reducible apply Pick.there)) rfl ?_; refine T_list ?_; refine klen rfl rfl ?_; refine T_list ?_; refine kcmp rfl rfl rfl rfl ?_; refine T_nil ?_; refine T_thenN ?_
    refine T_cond rfl (fun h => ?_) (fun h => ?_) <;> simp only [decide_eq_true_eq, decide_eq_false_iff_not, ne_eq, Decidable.not_not, Bool.not_eq_true', Bool.not_eq_false', Bool.cond_eq_true_distrib, Bool.cond_eq_false_distrib] at h
    · have hj : i < d.k.length := by omega
      refine T_skip ?_; refine T_thenN ?_; refine T_seq ?_; refine T_block ?_; refine T_seq ?_; refine T_region ?_; refine T_list ?_; refine kmv rfl rfl ?_; refine T_list ?_; refine knc rfl rfl ?_; refine T_list ?_; refine kfd rfl rfl ?_; refine T_list ?_; refine kld rfl rfl (by repeat (first | with_reducible apply Pick.here | with_reducible apply Pick.there)) rfl ?_; refine T_list ?_; refine kmv rfl rfl ?_; refine T_list ?_; refine kix1 rfl rfl rfl (by repeat (first | with_reducible apply Pick.here | with_reducible apply Pick.there)) hj ?_; refine T_list ?_; refine kldS rfl rfl (by repeat (first | with_reducible apply Pick.here | with_reducible apply Pick.there)) (hx.getI hj) ?_; refine T_nil ?_; refine T_thenN ?_
      refine T_cond rfl (fun hc => ?_) (fun hc => ?_)
      · have e1 : d.waitsTo (i + 1) = d.waitsTo i ++ [i] := by
          simp only [Dsk.waitsTo, List.range_succ, List.filter_append, List.filter_cons, hc, if_true, List.filter_nil]
        refine T_region ?_; refine T_list ?_; refine kmv rfl rfl ?_; refine T_list ?_; refine kmv rfl rfl ?_
        refine T_list ?_; refine kbs1 rfl rfl (vs := [_]) rfl (by simp [Value.oneCell']) rfl (fun b2 => ?_)
        refine T_list ?_; refine kap rfl rfl rfl (by repeat (first | with_reducible apply Pick.here | with_reducible apply Pick.there)) (by repeat (first | with_reducible apply Pick.here | with_reducible apply Pick.there)) (by simp [Value.oneCell']) (by omega) (by omega) (fun a2 c2 => ?_)
        refine T_list ?_; refine kas rfl rfl ?_; refine T_nil ?_; refine T_inN ?_; refine T_thenN ?_; refine T_region ?_; refine T_list ?_; refine kmv rfl rfl ?_; refine T_list ?_; refine kar rfl rfl rfl rfl (by simp only [fits]; omega) ?_; refine T_list ?_; refine kas rfl rfl ?_; refine T_nil ?_; refine T_thenN ?_
        refine T_inv (i + 1, a2, c2) ⟨(by first | omega | (dsimp only; omega)), (by first | omega | (dsimp only; omega))⟩ ⟨rfl, rfl, ?_, trivial⟩ ?_
        · simp only [e1, List.length_append]; rfl
        · dsimp only
          rw [e1, List.length_append, List.map_append]
          (repeat (first | exact perm_rest | apply perm_take (by repeat (first | with_reducible apply Pick.here | ((with_reducible refine Pick.rowE ?_); rfl) | ((with_reducible refine Pick.slcE ?_ ?_ ?_) <;> rfl) | ((with_reducible refine Pick.imapE ?_); rfl) | with_reducible apply Pick.there)) | apply perm_drop))
      · have e1 : d.waitsTo (i + 1) = d.waitsTo i := by
          simp only [Dsk.waitsTo, List.range_succ, List.filter_append, List.filter_cons, hc, Bool.false_eq_true, if_false, List.filter_nil, List.append_nil]
        refine T_skip ?_; refine T_inN ?_; refine T_thenN ?_; refine T_region ?_; refine T_list ?_; refine kmv rfl rfl ?_; refine T_list ?_; refine kar rfl rfl rfl rfl (by simp only [fits]; omega) ?_; refine T_list ?_; refine kas rfl rfl ?_; refine T_nil ?_; refine T_thenN ?_
        refine T_inv (i + 1, a, c) ⟨(by first | omega | (dsimp only; omega)), (by first | omega | (dsimp only; omega))⟩ ⟨rfl, rfl, ?_, trivial⟩ ?_
        · simp only [e1]; rfl
        · dsimp only
          rw [e1]
          (repeat (first | exact perm_rest | apply perm_take (by repeat (first | with_reducible apply Pick.here | with_reducible apply Pick.there)) | apply perm_drop))
    · obtain rfl : i = d.k.length := by omega
      refine T_exit ?_; refine T_thenE ?_; refine T_thenE ?_; refine T_inE ?_; refine T_thenN ?_; refine T_seq ?_; refine T_region ?_; refine T_list ?_; refine kmv rfl rfl ?_; refine T_list ?_; refine kas rfl rfl ?_; refine T_nil ?_; refine T_thenN ?_; refine T_ret ?_
      rw [show d.waitsTo d.k.length = d.waits from rfl]
      refine T_close (R := rdR d) (Ls := rdL p d) x hx (by repeat (first | with_reducible apply Take.nil | apply Take.cons (by repeat (first | with_reducible apply Pick.here | ((with_reducible refine Pick.rowE ?_); rfl) | ((with_reducible refine Pick.slcE ?_ ?_ ?_) <;> rfl) | ((with_reducible refine Pick.imapE ?_); rfl) | with_reducible apply Pick.there)))) ?_
      refine T_fin [_] _ ⟨rfl, trivial⟩ ⟨a, c, rfl, rfl⟩ ?_
      (repeat (first | exact perm_rest | apply perm_take (by repeat (first | with_reducible apply Pick.here | with_reducible apply Pick.there)) | apply perm_drop))
end Go.Proofs
namespace Go.Proofs
set_option linter.unnecessarySimpa false
open Go Go.Sl
attribute [local irreducible] Still T opO Sl.Inv row slc wpSeq Code.wp wpList Exit.then Exit.inBlock
set_option linter.unusedVariables false
set_option linter.unusedSimpArgs false
set_option maxRecDepth 4000
def aggB (s : Bytes) : Value := .agg (s.map encB).toArray
/-- The map of the sectors that wait. -/
def WOk (w : List (Option Bytes)) (l : List (Int × Value)) : Prop := ∀ i : Int, find l i = if 0 ≤ i ∧ i < w.length then (w.getD i.toNat none).map aggB else none
abbrev pdR (d : Dsk) (x : Option Addr × Nat × Nat × List (Int × Value)) : Prop := d.ok ∧ WOk d.w x.2.2.2
abbrev pdL (p : Nat) (d : Dsk) (x : Option Addr × Nat × Nat × List (Int × Value)) : List SP :=
  [row p 61 [.slice x.1 d.k.length x.2.1, .map (some x.2.2.1), .int .i64 d.left], slc 83 64 x.1 d.k.length x.2.1 (d.k.flatMap fun s => s.map encB), imap x.2.2.1 x.2.2.2]
abbrev PD (p : Nat) (d : Dsk) : SP := sAb (pdR d) (pdL p d)
theorem WOk.new (n : Nat) : WOk (List.replicate n none) [] := by
  intro i
  rw [find_nil]
  split
  · simp [List.getD_eq_getElem?_getD, List.getElem?_replicate]; split <;> rfl
  · rfl
theorem WOk.set {w : List (Option Bytes)} {l : List (Int × Value)} (h : WOk w l) {i : Int} (hi : 0 ≤ i ∧ i < w.length) (s : Bytes) : WOk (w.set i.toNat (some s)) (upd l i (aggB s)) := by
  intro j
  rw [find_upd, h j]
  simp only [List.length_set]
  by_cases hj : j = i
  · subst hj
    rw [if_pos rfl, if_pos hi]
    have : j.toNat < w.length := by omega
    simp [List.getD_eq_getElem?_getD, this]
  · rw [if_neg hj]
    by_cases hr : 0 ≤ j ∧ j < w.length
    · rw [if_pos hr, if_pos hr]
      have : ¬ i.toNat = j.toNat := by omega
      simp [List.getD_eq_getElem?_getD, List.getElem?_set, this]
    · rw [if_neg hr, if_neg hr]
theorem WOk.del {w : List (Option Bytes)} {l : List (Int × Value)} (h : WOk w l) {i : Int} (hi : 0 ≤ i ∧ i < w.length) : WOk (w.set i.toNat none) (del l i) := by
  intro j
  rw [find_del, h j]
  simp only [List.length_set]
  by_cases hj : j = i
  · subst hj
    rw [if_pos rfl, if_pos hi]
    have : j.toNat < w.length := by omega
    simp [List.getD_eq_getElem?_getD, this]
  · rw [if_neg hj]
    by_cases hr : 0 ≤ j ∧ j < w.length
    · rw [if_pos hr, if_pos hr]
      have : ¬ i.toNat = j.toNat := by omega
      simp [List.getD_eq_getElem?_getD, List.getElem?_set, this]
    · rw [if_neg hr, if_neg hr]
theorem flatten_rep {α : Type} (f : α → List Value) (x : α) {z : List Value} (h : z = f x) (n : Nat) : (List.replicate n z).flatten = (List.replicate n x).flatMap f := by
  subst h
  induction n with
  | zero => rfl
  | succ n ih => simp only [List.replicate_succ, List.flatten_cons, List.flatMap_cons, ih]
theorem dnew_ctr (n : Nat) (hn : n ≤ 512) : Ctr Tryd.prog 6 [.int .i64 (n : Nat)] [] (fun v L => ∃ p, v = .pointer (some ⟨p, 0, none⟩) ∧ L = [PD p (Dsk.new n)]) := by
  refine Ctr.of Tryd.func6 rfl rfl (fun w F => ?_)
  simp only [Tryd.ntmps6, env0, List.cons_append, List.nil_append]
  have e : max 0 (min (n : Int) 512) = n := by omega
  refine T_seq ?_; refine T_region ?_; refine T_list ?_; refine kas rfl rfl ?_; refine T_nil ?_; refine T_thenN ?_; refine T_seq ?_; refine T_region ?_; refine T_list ?_; refine kmv rfl rfl ?_; refine T_list ?_; refine kmin rfl rfl rfl ?_; refine T_list ?_; refine kmax rfl rfl rfl ?_
  rw [e]
  refine T_list ?_; refine kmk rfl rfl rfl (by omega) (by omega) (by omega) (by omega) (fun a => ?_)
  rw [Int.toNat_natCast, flatten_rep (fun s : Bytes => s.map encB) (List.replicate 64 0) (by rw [List.map_replicate]; rfl)]
  refine T_list ?_; refine kmm rfl ?_; intro _r; refine T_list ?_; refine kbld rfl (vs := [(0, _), (1, _), (2, _)]) rfl rfl ?_; refine T_list ?_; refine kbx rfl rfl rfl ?_; intro _b; refine T_list ?_; refine kas rfl rfl ?_; refine T_nil ?_; refine T_thenN ?_; refine T_ret ?_
  have hk : (Dsk.new n).k.length = n := by simp [Dsk.new]
  refine T_close (R := pdR (Dsk.new n)) (Ls := pdL _b (Dsk.new n)) (a, n, _r, []) ⟨Dsk.ok.new hn, WOk.new n⟩ (M := F) ?_ ?_
  · simp only [pdL, hk]
    exact (by repeat (first | with_reducible apply Take.nil | apply Take.cons (by repeat (first | with_reducible apply Pick.here | ((with_reducible refine Pick.rowE ?_); rfl) | ((with_reducible refine Pick.slcE ?_ ?_ ?_) <;> rfl) | ((with_reducible refine Pick.imapE ?_); rfl) | with_reducible apply Pick.there))))
  · exact T_fin [_] _ ⟨rfl, trivial⟩ ⟨_, rfl, rfl⟩ perm_rest
theorem dlen_ctr (p : Nat) (d : Dsk) : Ctr Tryd.prog 27 [.pointer (some ⟨p, 0, none⟩)] [PD p d] (fun v L => v = .int .i64 (d.k.length : Nat) ∧ L = [PD p d]) := by
  refine Ctr.of Tryd.func27 rfl rfl (fun w F => ?_)
  simp only [Tryd.ntmps27, env0, List.cons_append, List.nil_append]
  refine T_open Pick.here ?_
  rintro x hx
  simp only [pdL, List.cons_append, List.nil_append]
  refine T_seq ?_; refine T_region ?_; refine T_list ?_; refine kas rfl rfl ?_; refine T_nil ?_; refine T_thenN ?_; refine T_seq ?_; refine T_region ?_; refine T_list ?_; refine kmv rfl rfl ?_; refine T_list ?_; refine knc rfl rfl ?_; refine T_list ?_; refine kfd rfl rfl ?_; refine T_list ?_; refine kld rfl rfl (by repeat (first | with_reducible apply Pick.here | with_reducible apply Pick.there)) rfl ?_; refine T_list ?_; refine klen rfl rfl ?_; refine T_list ?_; refine kas rfl rfl ?_; refine T_nil ?_; refine T_thenN ?_; refine T_ret ?_
  refine T_close (R := pdR d) (Ls := pdL p d) x hx (by repeat (first | with_reducible apply Take.nil | apply Take.cons (by repeat (first | with_reducible apply Pick.here | ((with_reducible refine Pick.rowE ?_); rfl) | ((with_reducible refine Pick.slcE ?_ ?_ ?_) <;> rfl) | ((with_reducible refine Pick.imapE ?_); rfl) | with_reducible apply Pick.there)))) ?_
  exact T_fin [_] _ ⟨rfl, trivial⟩ ⟨rfl, rfl⟩ perm_rest
theorem dthere_ctr (p : Nat) (d : Dsk) (i : Int) : Ctr Tryd.prog 45 [.pointer (some ⟨p, 0, none⟩), .int .i64 i] [PD p d] (fun v L => v = .bool (decide (d.has i)) ∧ L = [PD p d]) := by
  refine Ctr.of Tryd.func45 rfl rfl (fun w F => ?_)
  simp only [Tryd.ntmps45, env0, List.cons_append, List.nil_append]
  refine T_open Pick.here ?_
  rintro x hx
  simp only [pdL, List.cons_append, List.nil_append]
  by_cases h : 0 ≤ i
  · refine T_seq ?_; refine T_region ?_; refine T_list ?_; refine kas rfl rfl ?_; refine T_nil ?_; refine T_thenN ?_; refine T_seq ?_; refine T_region ?_; refine T_list ?_; refine kmv rfl rfl ?_; refine T_list ?_; refine kcmpT rfl rfl rfl rfl (decide_eq_true h) ?_; refine T_list ?_; refine kmv rfl rfl ?_; refine T_guardY rfl rfl rfl ?_; refine T_list ?_; refine kmv rfl rfl ?_; refine T_guardY rfl rfl rfl ?_; refine T_list ?_; refine kmv rfl rfl ?_; refine T_guardY rfl rfl rfl ?_; refine T_list ?_; refine knc rfl rfl ?_; refine T_guardY rfl rfl rfl ?_; refine T_list ?_; refine kfd rfl rfl ?_; refine T_guardY rfl rfl rfl ?_; refine T_list ?_; refine kld rfl rfl (by repeat (first | with_reducible apply Pick.here | with_reducible apply Pick.there)) rfl ?_; refine T_guardY rfl rfl rfl ?_; refine T_list ?_; refine klen rfl rfl ?_; refine T_guardY rfl rfl rfl ?_; refine T_list ?_; refine kcmp rfl rfl rfl rfl ?_; refine T_list ?_; refine kpT rfl rfl rfl ?_; refine T_list ?_; refine kas rfl rfl ?_; refine T_nil ?_; refine T_thenN ?_; refine T_ret ?_
    refine T_close (R := pdR d) (Ls := pdL p d) x hx (by repeat (first | with_reducible apply Take.nil | apply Take.cons (by repeat (first | with_reducible apply Pick.here | ((with_reducible refine Pick.rowE ?_); rfl) | ((with_reducible refine Pick.slcE ?_ ?_ ?_) <;> rfl) | ((with_reducible refine Pick.imapE ?_); rfl) | with_reducible apply Pick.there)))) ?_
    refine T_fin [_] _ ⟨rfl, trivial⟩ ⟨?_, rfl⟩ perm_rest
    simp [resOf, Dsk.has, h]
  · refine T_seq ?_; refine T_region ?_; refine T_list ?_; refine kas rfl rfl ?_; refine T_nil ?_; refine T_thenN ?_; refine T_seq ?_; refine T_region ?_; refine T_list ?_; refine kmv rfl rfl ?_; refine T_list ?_; refine kcmpF rfl rfl rfl rfl (decide_eq_false h) ?_; refine T_list ?_; refine kmv rfl rfl ?_; refine T_guardN rfl rfl rfl rfl ?_; refine T_guardN rfl rfl rfl rfl ?_; refine T_guardN rfl rfl rfl rfl ?_; refine T_guardN rfl rfl rfl rfl ?_; refine T_guardN rfl rfl rfl rfl ?_; refine T_guardN rfl rfl rfl rfl ?_; refine T_guardN rfl rfl rfl rfl ?_; refine T_list ?_; refine kpF rfl rfl rfl ?_; refine T_list ?_; refine kas rfl rfl ?_; refine T_nil ?_; refine T_thenN ?_; refine T_ret ?_
    refine T_close (R := pdR d) (Ls := pdL p d) x hx (by repeat (first | with_reducible apply Take.nil | apply Take.cons (by repeat (first | with_reducible apply Pick.here | ((with_reducible refine Pick.rowE ?_); rfl) | ((with_reducible refine Pick.slcE ?_ ?_ ?_) <;> rfl) | ((with_reducible refine Pick.imapE ?_); rfl) | with_reducible apply Pick.there)))) ?_
    refine T_fin [_] _ ⟨rfl, trivial⟩ ⟨?_, rfl⟩ perm_rest
    simp [resOf, Dsk.has, h]
theorem doff_ctr (p : Nat) (d : Dsk) : Ctr Tryd.prog 56 [.pointer (some ⟨p, 0, none⟩)] [PD p d] (fun v L => v = .bool (decide (d.left = 0)) ∧ L = [PD p (if d.left = 0 then d else d.tick)]) := by
  refine Ctr.of Tryd.func56 rfl rfl (fun w F => ?_)
  simp only [Tryd.ntmps56, env0, List.cons_append, List.nil_append]
  refine T_open Pick.here ?_
  rintro x hx
  have hlo := hx.1.low
  have hhi := hx.1.high
  simp only [pdL, List.cons_append, List.nil_append]
  refine T_seq ?_; refine T_region ?_; refine T_list ?_; refine kas rfl rfl ?_; refine T_nil ?_; refine T_thenN ?_; refine T_seq ?_; refine T_seq ?_; refine T_region ?_; refine T_list ?_; refine kmv rfl rfl ?_; refine T_list ?_; refine knc rfl rfl ?_; refine T_list ?_; refine kfd rfl rfl ?_; refine T_list ?_; refine kld rfl rfl (by repeat (first | with_reducible apply Pick.here | with_reducible apply Pick.there)) rfl ?_; refine T_list ?_; refine kcmp rfl rfl rfl rfl ?_; refine T_nil ?_; refine T_thenN ?_
  refine T_cond rfl (fun h => ?_) (fun h => ?_) <;> simp only [decide_eq_true_eq, decide_eq_false_iff_not, ne_eq, Decidable.not_not, Bool.not_eq_true', Bool.not_eq_false', Bool.cond_eq_true_distrib, Bool.cond_eq_false_distrib] at h
  · refine T_seq ?_; refine T_region ?_; refine T_list ?_; refine kas rfl rfl ?_; refine T_nil ?_; refine T_thenN ?_; refine T_ret ?_; refine T_thenR ?_
    refine T_close (R := pdR d) (Ls := pdL p d) x hx (by repeat (first | with_reducible apply Take.nil | apply Take.cons (by repeat (first | with_reducible apply Pick.here | ((with_reducible refine Pick.rowE ?_); rfl) | ((with_reducible refine Pick.slcE ?_ ?_ ?_) <;> rfl) | ((with_reducible refine Pick.imapE ?_); rfl) | with_reducible apply Pick.there)))) ?_
    refine T_fin [_] _ ⟨rfl, trivial⟩ ⟨?_, rfl⟩ ?_
    · simp [resOf, h]
    · rw [if_pos h]; exact perm_rest
  · refine T_skip ?_; refine T_thenN ?_; refine T_seq ?_; refine T_region ?_; refine T_list ?_; refine kmv rfl rfl ?_; refine T_list ?_; refine kmv rfl rfl ?_; refine T_list ?_; refine knc rfl rfl ?_; refine T_list ?_; refine kfd rfl rfl ?_; refine T_list ?_; refine kld rfl rfl (by repeat (first | with_reducible apply Pick.here | with_reducible apply Pick.there)) rfl ?_; refine T_list ?_; refine kar rfl rfl rfl rfl (by simp only [fits]; omega) ?_; refine T_list ?_; refine kmax rfl rfl rfl ?_; refine T_list ?_; refine knc rfl rfl ?_; refine T_list ?_; refine kfd rfl rfl ?_; refine T_list ?_; refine kst rfl rfl rfl (by repeat (first | with_reducible apply Pick.here | with_reducible apply Pick.there)) rfl ?_; refine T_nil ?_; refine T_thenN ?_; refine T_seq ?_; refine T_region ?_; refine T_list ?_; refine kas rfl rfl ?_; refine T_nil ?_; refine T_thenN ?_; refine T_ret ?_
    refine T_close (R := pdR d.tick) (Ls := pdL p d.tick) x ⟨hx.1.tick, hx.2⟩ (by repeat (first | with_reducible apply Take.nil | apply Take.cons (by repeat (first | with_reducible apply Pick.here | ((with_reducible refine Pick.rowE ?_); rfl) | ((with_reducible refine Pick.slcE ?_ ?_ ?_) <;> rfl) | ((with_reducible refine Pick.imapE ?_); rfl) | with_reducible apply Pick.there)))) ?_
    refine T_fin [_] _ ⟨rfl, trivial⟩ ⟨?_, rfl⟩ ?_
    · simp [resOf, h]
    · rw [if_neg h]; exact perm_rest
end Go.Proofs
namespace Go.Proofs
set_option linter.unnecessarySimpa false
open Go Go.Sl
attribute [local irreducible] Still T opO Sl.Inv row slc wpSeq Code.wp wpList Exit.then Exit.inBlock
set_option linter.unusedVariables false
set_option linter.unusedSimpArgs false
set_option maxRecDepth 4000
theorem darm_ctr (p : Nat) (d : Dsk) (i : Int) : Ctr Tryd.prog 14 [.pointer (some ⟨p, 0, none⟩), .int .i64 i] [PD p d] (fun v L => L = [PD p (d.arm i)]) := by
  refine Ctr.of Tryd.func14 rfl rfl (fun w F => ?_)
  simp only [Tryd.ntmps14, env0, List.cons_append, List.nil_append]
  refine T_open Pick.here ?_
  rintro x hx
  simp only [pdL, List.cons_append, List.nil_append]
  refine T_region ?_; refine T_list ?_; refine kmv rfl rfl ?_; refine T_list ?_; refine kmv rfl rfl ?_; refine T_list ?_; refine kmin rfl rfl rfl ?_; refine T_list ?_; refine kmax rfl rfl rfl ?_; refine T_list ?_; refine knc rfl rfl ?_; refine T_list ?_; refine kfd rfl rfl ?_; refine T_list ?_; refine kst rfl rfl rfl (by repeat (first | with_reducible apply Pick.here | with_reducible apply Pick.there)) rfl ?_; refine T_nil ?_
  refine T_close (R := pdR (d.arm i)) (Ls := pdL p (d.arm i)) x ⟨hx.1.arm i, hx.2⟩ (by repeat (first | with_reducible apply Take.nil | apply Take.cons (by repeat (first | with_reducible apply Pick.here | ((with_reducible refine Pick.rowE ?_); rfl) | ((with_reducible refine Pick.slcE ?_ ?_ ?_) <;> rfl) | ((with_reducible refine Pick.imapE ?_); rfl) | with_reducible apply Pick.there)))) ?_
  exact T_finN [] _ trivial rfl perm_rest
theorem find_some {d : Dsk} {l : List (Int × Value)} (h : WOk d.w l) (hok : d.ok) {i : Int} (hi : d.has i) : find l i = (d.w.getD i.toNat none).map aggB := by
  have := hi; unfold Dsk.has at this
  rw [h i, if_pos (by rw [hok.len]; exact this)]
theorem k64' {d : Dsk} (h : d.ok) : ∀ s ∈ d.k, (s.map encB).length = 64 := fun s hs => by rw [List.length_map]; exact h.k64 s hs
def emp64 : List Value := List.replicate 64 (.int .u8 0)
theorem cells_agg {s : Bytes} : (aggB s).cells = (s.map encB).toArray := rfl
set_option maxHeartbeats 1000000 in
theorem dread_ctr (p : Nat) (d : Dsk) (i : Int) : Ctr Tryd.prog 47 [.pointer (some ⟨p, 0, none⟩), .int .i64 i] [PD p d]
    (fun v L => (¬ d.has i ∧ v = .tuple [.slice none 0 0, .int .i64 6].toArray ∧ L = [PD p d]) ∨
      (d.has i ∧ d.left = 0 ∧ v = .tuple [.slice none 0 0, .int .i64 19].toArray ∧ L = [PD p d]) ∨
      (d.has i ∧ d.left ≠ 0 ∧ ∃ b, v = .tuple [.slice (some ⟨b, 0, none⟩) 64 64, .int .i64 0].toArray ∧ L = [row b 83 ((d.at i.toNat).map encB), PD p d])) := by
  refine Ctr.of Tryd.func47 rfl rfl (fun w F => ?_)
  simp only [Tryd.ntmps47, env0, List.cons_append, List.nil_append]
  refine T_seq ?_; refine T_region ?_; refine T_list ?_; refine kas rfl rfl ?_; refine T_list ?_; refine kas rfl rfl ?_; refine T_nil ?_; refine T_thenN ?_; refine T_seq ?_; refine T_block ?_; refine T_seq ?_; refine T_region ?_; refine T_list ?_; refine kmv rfl rfl ?_; refine T_list ?_; refine kmv rfl rfl ?_
  refine T_list ?_; refine T_call rfl (dthere_ctr p d i) (by repeat (first | with_reducible apply Take.nil | apply Take.cons (by repeat (first | with_reducible apply Pick.here | with_reducible apply Pick.there)))) rfl ?_
  rintro v L' ⟨rfl, rfl⟩
  simp only [List.cons_append, List.nil_append]
  refine T_list ?_; refine knot rfl rfl ?_; refine T_list ?_; refine kas rfl rfl ?_; refine T_nil ?_; refine T_thenN ?_
  refine T_cond rfl (fun h => ?_) (fun h => ?_) <;> simp only [Bool.not_eq_true', Bool.not_eq_false', decide_eq_true_eq, decide_eq_false_iff_not] at h
  · refine T_seq ?_; refine T_region ?_; refine T_list ?_; refine kas rfl rfl ?_; refine T_list ?_; refine kas rfl rfl ?_; refine T_nil ?_; refine T_thenN ?_; refine T_ret ?_; refine T_inR ?_; refine T_thenR ?_
    exact T_fin [_, _] _ ⟨rfl, rfl, trivial⟩ (.inl ⟨h, rfl, rfl⟩) perm_rest
  · refine T_open Pick.here ?_
    rintro x hx
    simp only [pdL, List.cons_append, List.nil_append]
    refine T_seq ?_; refine T_region ?_; refine T_list ?_; refine kmv rfl rfl ?_; refine T_list ?_; refine knc rfl rfl ?_; refine T_list ?_; refine kfd rfl rfl ?_; refine T_list ?_; refine kld rfl rfl (by repeat (first | with_reducible apply Pick.here | with_reducible apply Pick.there)) rfl ?_; refine T_list ?_; refine kcmp rfl rfl rfl rfl ?_; refine T_list ?_; refine kas rfl rfl ?_; refine T_nil ?_; refine T_thenN ?_
    refine T_cond rfl (fun h0 => ?_) (fun h0 => ?_) <;> simp only [decide_eq_true_eq, decide_eq_false_iff_not, ne_eq, Decidable.not_not, Bool.not_eq_true', Bool.not_eq_false', Bool.cond_eq_true_distrib, Bool.cond_eq_false_distrib] at h0
    · refine T_seq ?_; refine T_region ?_; refine T_list ?_; refine kas rfl rfl ?_; refine T_list ?_; refine kas rfl rfl ?_; refine T_nil ?_; refine T_thenN ?_; refine T_ret ?_; refine T_inR ?_; refine T_thenR ?_
      refine T_close (R := pdR d) (Ls := pdL p d) x hx (by repeat (first | with_reducible apply Take.nil | apply Take.cons (by repeat (first | with_reducible apply Pick.here | ((with_reducible refine Pick.rowE ?_); rfl) | ((with_reducible refine Pick.slcE ?_ ?_ ?_) <;> rfl) | ((with_reducible refine Pick.imapE ?_); rfl) | with_reducible apply Pick.there)))) ?_
      exact T_fin [_, _] _ ⟨rfl, rfl, trivial⟩ (.inr (.inl ⟨h, h0, rfl, rfl⟩)) perm_rest
    · have hf := find_some hx.2 hx.1 h
      have hi := h; unfold Dsk.has at hi
      obtain ⟨j, rfl⟩ : ∃ j : Nat, i = j := ⟨i.toNat, by omega⟩
      rw [Int.toNat_natCast] at hf
      have hj : j < d.k.length := by omega
      refine T_skip ?_; refine T_inN ?_; refine T_thenN ?_; refine T_seq ?_; refine T_region ?_; refine T_list ?_; refine kmv rfl rfl ?_; refine T_list ?_; refine knc rfl rfl ?_; refine T_list ?_; refine kfd rfl rfl ?_; refine T_list ?_; refine kld rfl rfl (by repeat (first | with_reducible apply Pick.here | with_reducible apply Pick.there)) rfl ?_; refine T_list ?_; refine kmv rfl rfl ?_
      refine T_list ?_; refine klkO rfl rfl rfl (by repeat (first | with_reducible apply Pick.here | with_reducible apply Pick.there)) (fun z hz => ?_)
      rw [hf]
      cases hw : d.w.getD j none with
      | none =>
        simp only [Option.map_none, Option.getD_none, Option.isSome_none]
        have hat : d.at j = d.k[j] := by
          unfold Dsk.at; rw [hw, Option.getD_none, List.getD_eq_getElem?_getD, List.getElem?_eq_getElem hj]; rfl
        have hlen : (d.k.flatMap fun s => s.map encB).length = d.k.length * 64 := flatMap_len _ 64 _ (k64' hx.1)
        refine T_list ?_; refine kmv rfl rfl ?_; refine T_list ?_; refine kex rfl rfl rfl ?_; refine T_list ?_; refine kex rfl rfl rfl ?_; refine T_list ?_; refine kal rfl ?_; intro _b; refine T_list ?_; refine kstCA rfl rfl hz (by simp [Value.oneCell']) rfl (by repeat (first | with_reducible apply Pick.here | with_reducible apply Pick.there)) rfl ?_; refine T_list ?_; refine kas rfl rfl ?_; refine T_nil ?_; refine T_thenN ?_; refine T_seq ?_; refine T_seq ?_; refine T_region ?_; refine T_list ?_; refine kmv rfl rfl ?_; refine T_list ?_; refine knot rfl rfl ?_; refine T_nil ?_; refine T_thenN ?_
        refine T_cond rfl (fun _ => ?_) (fun h => absurd h (by simp only [decide_eq_true_eq, decide_eq_false_iff_not, ne_eq, Decidable.not_not, Bool.not_eq_true', Bool.not_eq_false', Bool.not_true, Bool.not_false, Bool.false_eq_true, Bool.true_eq_false, not_true_eq_false, not_false_eq_true]; try omega))
        refine T_region ?_; refine T_list ?_; refine kmv rfl rfl ?_; refine T_list ?_; refine knc rfl rfl ?_; refine T_list ?_; refine kfd rfl rfl ?_; refine T_list ?_; refine kld rfl rfl (by repeat (first | with_reducible apply Pick.here | with_reducible apply Pick.there)) rfl ?_; refine T_list ?_; refine kmv rfl rfl ?_
        refine T_list ?_; refine kixN rfl rfl rfl (by repeat (first | with_reducible apply Pick.here | with_reducible apply Pick.there)) hj ?_
        refine T_list ?_; refine kldSA rfl rfl (by repeat (first | with_reducible apply Pick.here | with_reducible apply Pick.there)) (by rw [hlen]; omega) rfl ?_
        rw [flat_get _ 64 _ j hj (k64' hx.1)]
        refine T_list ?_; refine kstCA (k := 64) (vs := d.k[j].map encB) rfl rfl rfl (ones_encB _) (by rw [List.length_map]; exact hx.1.k64 _ (List.getElem_mem hj)) (by repeat (first | with_reducible apply Pick.here | with_reducible apply Pick.there)) rfl ?_
        refine T_nil ?_; refine T_thenN ?_; refine T_seq ?_; refine T_region ?_; refine T_list ?_; refine ksa rfl rfl ?_; refine T_list ?_; refine kas rfl rfl ?_; refine T_list ?_; refine kas rfl rfl ?_; refine T_nil ?_; refine T_thenN ?_; refine T_ret ?_
        refine T_close (R := pdR d) (Ls := pdL p d) x hx (by repeat (first | with_reducible apply Take.nil | apply Take.cons (by repeat (first | with_reducible apply Pick.here | ((with_reducible refine Pick.rowE ?_); rfl) | ((with_reducible refine Pick.slcE ?_ ?_ ?_) <;> rfl) | ((with_reducible refine Pick.imapE ?_); rfl) | with_reducible apply Pick.there)))) ?_
        refine T_fin [_, _] _ ⟨rfl, rfl, trivial⟩ (.inr (.inr ⟨h, h0, _b, rfl, rfl⟩)) ?_
        rw [Int.toNat_natCast, hat]
        (repeat (first | exact perm_rest | apply perm_take (by repeat (first | with_reducible apply Pick.here | with_reducible apply Pick.there)) | apply perm_drop))
      | some s =>
        simp only [Option.map_some, Option.getD_some, Option.isSome_some]
        have hat : d.at j = s := by unfold Dsk.at; rw [hw, Option.getD_some]
        have hs : s.length = 64 := hx.1.w64 s (getD_none_some hw)
        refine T_list ?_; refine kmv rfl rfl ?_; refine T_list ?_; refine kex rfl rfl rfl ?_; refine T_list ?_; refine kex rfl rfl rfl ?_; refine T_list ?_; refine kal rfl ?_; intro _b; refine T_list ?_; refine kstCA (k := 64) (vs := s.map encB) rfl rfl cells_agg (ones_encB _) (by rw [List.length_map]; exact hs) (by repeat (first | with_reducible apply Pick.here | with_reducible apply Pick.there)) rfl ?_; refine T_list ?_; refine kas rfl rfl ?_; refine T_nil ?_; refine T_thenN ?_; refine T_seq ?_; refine T_seq ?_; refine T_region ?_; refine T_list ?_; refine kmv rfl rfl ?_; refine T_list ?_; refine knot rfl rfl ?_; refine T_nil ?_; refine T_thenN ?_
        refine T_cond rfl (fun h => absurd h (by simp only [decide_eq_true_eq, decide_eq_false_iff_not, ne_eq, Decidable.not_not, Bool.not_eq_true', Bool.not_eq_false', Bool.not_true, Bool.not_false, Bool.false_eq_true, Bool.true_eq_false, not_true_eq_false, not_false_eq_true]; try omega)) (fun _ => ?_)
        refine T_skip ?_; refine T_thenN ?_; refine T_seq ?_; refine T_region ?_; refine T_list ?_; refine ksa rfl rfl ?_; refine T_list ?_; refine kas rfl rfl ?_; refine T_list ?_; refine kas rfl rfl ?_; refine T_nil ?_; refine T_thenN ?_; refine T_ret ?_
        refine T_close (R := pdR d) (Ls := pdL p d) x hx (by repeat (first | with_reducible apply Take.nil | apply Take.cons (by repeat (first | with_reducible apply Pick.here | ((with_reducible refine Pick.rowE ?_); rfl) | ((with_reducible refine Pick.slcE ?_ ?_ ?_) <;> rfl) | ((with_reducible refine Pick.imapE ?_); rfl) | with_reducible apply Pick.there)))) ?_
        refine T_fin [_, _] _ ⟨rfl, rfl, trivial⟩ (.inr (.inr ⟨h, h0, _b, rfl, rfl⟩)) ?_
        rw [Int.toNat_natCast, hat]
        (repeat (first | exact perm_rest | apply perm_take (by repeat (first | with_reducible apply Pick.here | with_reducible apply Pick.there)) | apply perm_drop))
theorem pad_splice {b : Bytes} (h : b.length ≤ 64) : splice (List.replicate 64 (Value.int .u8 0)) 0 ((b.map encB).take (min 64 b.length * 1)) = (pad b).map encB := by
  have e : min 64 b.length * 1 = (b.map encB).length := by simp; omega
  rw [e, List.take_length]
  simp only [splice, pad, List.take_zero, List.nil_append, List.map_append, List.map_replicate, List.drop_replicate, List.length_map, Nat.zero_add]
  rfl
set_option maxHeartbeats 1000000 in
theorem dwrite_ctr (p : Nat) (d : Dsk) (i : Int) (A : SP) (a : Option Addr) (m c : Nat) (b : Bytes) (hr : Rd A 1 a m (b.map encB)) : Ctr Tryd.prog 36 [.pointer (some ⟨p, 0, none⟩), .int .i64 i, .slice a m c] [PD p d, A]
    (fun v L => v = .int .i64 (d.write i b).1 ∧ L = [PD p (d.write i b).2, A]) := by
  refine Ctr.of Tryd.func36 rfl rfl (fun w F => ?_)
  simp only [Tryd.ntmps36, env0, List.cons_append, List.nil_append]
  refine T_rdLen hr Pick.here.there (fun hlen => ?_)
  simp only [List.length_map, Nat.mul_one] at hlen
  refine T_seq ?_; refine T_region ?_; refine T_list ?_; refine kas rfl rfl ?_; refine T_nil ?_; refine T_thenN ?_; refine T_seq ?_; refine T_block ?_; refine T_seq ?_; refine T_region ?_; refine T_list ?_; refine kmv rfl rfl ?_
  refine T_list ?_; refine T_call rfl (doff_ctr p d) (by repeat (first | with_reducible apply Take.nil | apply Take.cons (by repeat (first | with_reducible apply Pick.here | with_reducible apply Pick.there)))) rfl ?_
  rintro v L' ⟨rfl, rfl⟩
  simp only [List.cons_append, List.nil_append]
  unfold Dsk.write
  by_cases h0 : d.left = 0
  · rw [if_pos h0, if_pos h0]
    refine T_list ?_; refine kas rfl rfl ?_; refine T_nil ?_; refine T_thenN ?_
    refine T_cond rfl (fun _ => ?_) (fun h => absurd h (by simp only [decide_eq_true_eq, decide_eq_false_iff_not, ne_eq, Decidable.not_not, Bool.not_eq_true', Bool.not_eq_false', Bool.not_true, Bool.not_false, Bool.false_eq_true, Bool.true_eq_false, not_true_eq_false, not_false_eq_true]; try omega))
    refine T_seq ?_; refine T_region ?_; refine T_list ?_; refine kas rfl rfl ?_; refine T_nil ?_; refine T_thenN ?_; refine T_ret ?_; refine T_inR ?_; refine T_thenR ?_
    exact T_fin [_] _ ⟨rfl, trivial⟩ ⟨rfl, rfl⟩ perm_rest
  · rw [if_neg h0, if_neg h0]
    refine T_list ?_; refine kas rfl rfl ?_; refine T_nil ?_; refine T_thenN ?_
    refine T_cond rfl (fun h => absurd h (by simp only [decide_eq_true_eq, decide_eq_false_iff_not, ne_eq, Decidable.not_not, Bool.not_eq_true', Bool.not_eq_false', Bool.not_true, Bool.not_false, Bool.false_eq_true, Bool.true_eq_false, not_true_eq_false, not_false_eq_true]; try omega)) (fun _ => ?_)
    refine T_seq ?_; refine T_region ?_; refine T_list ?_; refine kmv rfl rfl ?_; refine T_list ?_; refine kmv rfl rfl ?_
    refine T_list ?_; refine T_call rfl (dthere_ctr p d.tick i) (by repeat (first | with_reducible apply Take.nil | apply Take.cons (by repeat (first | with_reducible apply Pick.here | with_reducible apply Pick.there)))) rfl ?_
    rintro v L' ⟨rfl, rfl⟩
    simp only [List.cons_append, List.nil_append]
    by_cases hh : d.has i
    · have hh' : d.tick.has i := hh
      rw [if_neg (fun h => h hh)]
      refine T_list ?_; refine knot rfl rfl ?_; refine T_list ?_; refine kas rfl rfl ?_; refine T_nil ?_; refine T_thenN ?_
      refine T_cond rfl (fun h => absurd h (by simp [hh'])) (fun _ => ?_)
      refine T_seq ?_; refine T_region ?_; refine T_list ?_; refine kmv rfl rfl ?_; refine T_list ?_; refine klen rfl rfl ?_; refine T_list ?_; refine kcmp rfl rfl rfl rfl ?_; refine T_list ?_; refine kas rfl rfl ?_; refine T_nil ?_; refine T_thenN ?_
      refine T_cond rfl (fun h => ?_) (fun h => ?_) <;> simp only [decide_eq_true_eq, decide_eq_false_iff_not, ne_eq, Decidable.not_not, Bool.not_eq_true', Bool.not_eq_false', Bool.cond_eq_true_distrib, Bool.cond_eq_false_distrib] at h
      · rw [if_pos (by omega)]
        refine T_seq ?_; refine T_region ?_; refine T_list ?_; refine kas rfl rfl ?_; refine T_nil ?_; refine T_thenN ?_; refine T_ret ?_; refine T_inR ?_; refine T_thenR ?_
        exact T_fin [_] _ ⟨rfl, trivial⟩ ⟨rfl, rfl⟩ perm_rest
      · rw [if_neg (by omega)]
        refine T_skip ?_; refine T_inN ?_; refine T_thenN ?_; refine T_seq ?_; refine T_region ?_; refine T_list ?_; refine kal rfl ?_; intro _b; refine T_nil ?_; refine T_thenN ?_; refine T_seq ?_; refine T_region ?_; refine T_list ?_; refine ksa rfl rfl ?_; refine T_list ?_; refine kmv rfl rfl ?_
        have hb : b.length ≤ 64 := by omega
        refine T_list ?_
        refine T_eff rfl (kcpR hr rfl rfl (by repeat (first | with_reducible apply Pick.here | with_reducible apply Pick.there)) (by repeat (first | with_reducible apply Pick.here | with_reducible apply Pick.there)) (by simp) (ones_encB b)) ?_
        rintro v L' ⟨rfl, rfl⟩
        rw [show min 64 m = min 64 b.length by omega, pad_splice hb]
        refine T_open Pick.here.there.there ?_
        rintro x hx
        simp only [pdL, List.cons_append, List.nil_append]
        refine T_nil ?_; refine T_thenN ?_; refine T_seq ?_
        refine T_draw [6] [(0, true), (1, true), (2, true), (3, true), (4, true), (5, true), (6, false)] mixedT rfl (by kernel_rfl) ?_
        have hpl : (pad b).length = 64 := pad_length hb
        refine d_stillX rfl rfl ?_; refine ⟨_, (S_move rfl), ?_⟩; refine d_stillX rfl rfl ?_; refine ⟨_, (S_nilCheck rfl), ?_⟩; refine d_stillX rfl rfl ?_; refine ⟨_, (S_fieldR rfl), ?_⟩; refine d_stillX rfl rfl ?_; refine ⟨_, (S_load rfl (by repeat (first | with_reducible apply Pick.here | with_reducible apply Pick.there)) rfl), ?_⟩; refine d_stillX rfl rfl ?_; refine ⟨_, (S_move rfl), ?_⟩; refine d_stillX rfl rfl ?_; refine ⟨_, (S_loadAll rfl (by repeat (first | with_reducible apply Pick.here | with_reducible apply Pick.there)) (by rw [List.length_map]; exact hpl)), ?_⟩
        refine T_seqOp rfl ?_; refine kmu rfl rfl rfl (by repeat (first | with_reducible apply Pick.here | with_reducible apply Pick.there)) ?_
        refine T_seqS rfl ?_; refine T_seqNil ?_; refine T_thenN ?_; refine T_seq ?_; refine T_region ?_; refine T_list ?_; refine kas rfl rfl ?_; refine T_nil ?_; refine T_thenN ?_; refine T_ret ?_
        have hi := hh'; unfold Dsk.has at hi
        have hi2 : 0 ≤ i ∧ i < d.tick.w.length := by rw [hx.1.len]; exact hi
        have hw := hx.2.set hi2 (pad b)
        refine T_close (R := pdR (d.tick.put i.toNat b)) (Ls := pdL p (d.tick.put i.toNat b)) (x.1, x.2.1, x.2.2.1, upd x.2.2.2 i (aggB (pad b))) ⟨hx.1.put hb, hw⟩ (by repeat (first | with_reducible apply Take.nil | apply Take.cons (by repeat (first | with_reducible apply Pick.here | ((with_reducible refine Pick.rowE ?_); rfl) | ((with_reducible refine Pick.slcE ?_ ?_ ?_) <;> rfl) | ((with_reducible refine Pick.imapE ?_); rfl) | with_reducible apply Pick.there)))) ?_
        refine T_fin [_] _ ⟨rfl, trivial⟩ ⟨rfl, rfl⟩ ?_
        (repeat (first | exact perm_rest | apply perm_take (by repeat (first | with_reducible apply Pick.here | with_reducible apply Pick.there)) | apply perm_drop))
    · have hh' : ¬ d.tick.has i := hh
      rw [if_pos hh]
      refine T_list ?_; refine knot rfl rfl ?_; refine T_list ?_; refine kas rfl rfl ?_; refine T_nil ?_; refine T_thenN ?_
      refine T_cond rfl (fun _ => ?_) (fun h => absurd h (by simp [hh']))
      refine T_seq ?_; refine T_region ?_; refine T_list ?_; refine kas rfl rfl ?_; refine T_nil ?_; refine T_thenN ?_; refine T_ret ?_; refine T_inR ?_; refine T_thenR ?_
      exact T_fin [_] _ ⟨rfl, trivial⟩ ⟨rfl, rfl⟩ perm_rest
end Go.Proofs
