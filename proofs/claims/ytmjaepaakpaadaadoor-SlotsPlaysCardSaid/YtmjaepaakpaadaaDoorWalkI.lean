/- Reading the slots of a store; the store as data; what a commit does to the disk; the document's model. Part 9 of 13 of the proof of SlotsPlays; no condition. -/
import Derived.Test.YtmjaepaakpaadaaDoorWalkH
import Derived.Test.YtmjaepaakpaadaaDoorWalkG
namespace Go.Proofs
set_option linter.unnecessarySimpa false
open Go Go.Sl
attribute [local irreducible] Still T opO Sl.Inv row slc wpSeq Code.wp wpList Exit.then Exit.inBlock
set_option linter.unusedVariables false
set_option linter.unusedSimpArgs false
set_option maxRecDepth 4000
theorem getD_append_left {α : Type} {l k : List α} {i : Nat} {x : α} (h : i < l.length) : (l ++ k).getD i x = l.getD i x := by
  simp only [List.getD_eq_getElem?_getD, List.getElem?_append_left h]
theorem getD_append_last {α : Type} {l : List α} {i : Nat} {x y : α} (h : l.length = i) : (l ++ [x]).getD i y = x := by
  subst h; simp [List.getD_eq_getElem?_getD]
set_option maxHeartbeats 2000000 in
theorem rnew_ctr (n : Nat) (hn : n ≤ 512) : Ctr Tryd.prog 7 [.int .i64 (n : Nat)] [] (fun v L => ∃ p, v = .pointer (some ⟨p, 0, none⟩) ∧ L = [RD p (Dsk.new n)]) := by
  refine Ctr.of Tryd.func7 rfl rfl (fun w F => ?_)
  simp only [Tryd.ntmps7, env0, List.cons_append, List.nil_append]
  refine T_seq ?_; refine T_region ?_; refine T_list ?_; refine kas rfl rfl ?_; refine T_nil ?_; refine T_thenN ?_; refine T_seq ?_; refine T_region ?_; refine T_list ?_; refine kbld rfl (vs := [(3, _)]) rfl rfl ?_; refine T_list ?_; refine kbx rfl rfl rfl ?_; intro _b; refine T_list ?_; refine kas rfl rfl ?_; refine T_nil ?_; refine T_thenN ?_; refine T_seq ?_; refine T_seq ?_; refine T_region ?_; refine T_list ?_; refine kas rfl rfl ?_; refine T_nil ?_; refine T_thenN ?_; refine T_block ?_
  refine T_slNil ?_
  refine T_nilS 36 1 ?_
  refine T_nilS 36 1 ?_
  refine T_nilS 4 1 ?_
  refine T_close (R := rdR (Dsk.new 0)) (Ls := rdL _b (Dsk.new 0)) ⟨none, 0, none, 0, none, 0, [], [], []⟩ ⟨Dsk.ok.new (by omega), rfl, rfl, (by intro v hv; cases hv), (by intro i hi; cases hi), (by intro i s h; cases h)⟩ (M := F) ?_ ?_
  · simp only [rdL, arena, List.map_nil]
    exact (by repeat (first | with_reducible apply Take.nil | apply Take.cons (by repeat (first | with_reducible apply Pick.here | ((with_reducible refine Pick.rowE ?_); rfl) | ((with_reducible refine Pick.slcE ?_ ?_ ?_) <;> rfl) | ((with_reducible refine Pick.imapE ?_); rfl) | with_reducible apply Pick.there))))
  · refine T_loop (fun i : Nat => i ≤ n) (fun i => [(4, .int .i64 (i : Nat)), (3, .pointer (some ⟨_b, 0, none⟩)), (0, .int .i64 (n : Nat))]) (fun i => RD _b (Dsk.new i) :: F) (fun i => n - i) ?_ ?_
    · exact T_inv 0 (Nat.zero_le _) ⟨rfl, rfl, rfl, trivial⟩ perm_rest
    · intro i hi
      by_cases hin : i < n
      · refine T_open Pick.here ?_
        rintro x hx
        have hlen : (Dsk.new i).k.length = i := by simp [Dsk.new]
        simp only [rdL, List.cons_append, List.nil_append, hlen]
        refine T_seq ?_; refine T_seq ?_; refine T_region ?_; refine T_list ?_; refine kmv rfl rfl ?_; refine T_list ?_; refine kmv rfl rfl ?_; refine T_list ?_; refine kcmpT rfl rfl rfl rfl (by first | (simp only [decide_eq_true_eq, ne_eq]; done) | (simp only [decide_eq_true_eq, ne_eq]; omega)) ?_; refine T_list ?_; refine kmv rfl rfl ?_; refine T_guardY rfl rfl rfl ?_; refine T_list ?_; refine kmv rfl rfl ?_; refine T_guardY rfl rfl rfl ?_; refine T_list ?_; refine kcmpT rfl rfl rfl rfl (by first | (simp only [decide_eq_true_eq, ne_eq]; done) | (simp only [decide_eq_true_eq, ne_eq]; omega)) ?_; refine T_list ?_; refine kpT rfl rfl rfl ?_; refine T_nil ?_; refine T_thenN ?_
        refine T_cond rfl (fun _ => ?_) (fun h => absurd h (by simp only [decide_eq_true_eq, decide_eq_false_iff_not, ne_eq, Decidable.not_not, Bool.not_eq_true', Bool.not_eq_false', Bool.not_true, Bool.not_false, Bool.false_eq_true, Bool.true_eq_false, not_true_eq_false, not_false_eq_true]; try omega))
        refine T_skip ?_; refine T_thenN ?_; refine T_seq ?_; refine T_block ?_; refine T_seq ?_
        refine T_drawR ([row _b 54 [.slice x.aK i x.cK, .slice x.aW i x.cW, .slice x.aI i x.cI, .int .i64 (Dsk.new i).left]]) [10] [(0, true), (1, true), (2, true), (3, true), (4, true), (5, false), (6, false), (7, false), (8, false), (9, true), (10, false)] mixedT rfl (by kernel_rfl) ?_
        refine r_still (by repeat (first | with_reducible apply Take.nil | apply Take.cons (by repeat (first | with_reducible apply Pick.here | with_reducible apply Pick.there)))) rfl rfl ?_; refine ⟨_, (S_move rfl), ?_⟩; refine r_still (by repeat (first | with_reducible apply Take.nil | apply Take.cons (by repeat (first | with_reducible apply Pick.here | with_reducible apply Pick.there)))) rfl rfl ?_; refine ⟨_, (S_move rfl), ?_⟩; refine r_still (by repeat (first | with_reducible apply Take.nil | apply Take.cons (by repeat (first | with_reducible apply Pick.here | with_reducible apply Pick.there)))) rfl rfl ?_; refine ⟨_, (S_nilCheck rfl), ?_⟩; refine r_still (by repeat (first | with_reducible apply Take.nil | apply Take.cons (by repeat (first | with_reducible apply Pick.here | with_reducible apply Pick.there)))) rfl rfl ?_; refine ⟨_, (S_fieldR rfl), ?_⟩; refine r_still (by repeat (first | with_reducible apply Take.nil | apply Take.cons (by repeat (first | with_reducible apply Pick.here | with_reducible apply Pick.there)))) rfl rfl ?_; refine ⟨_, (S_load rfl (by repeat (first | with_reducible apply Pick.here | with_reducible apply Pick.there)) rfl), ?_⟩
        refine T_seqOp rfl ?_; refine kmk (l := 64) (q := 64) rfl rfl rfl (by decide) (by decide) (by decide) (by decide) (fun a1 => ?_)
        rw [show ((64 : Int).toNat) = 64 from rfl, show (List.replicate 64 [Value.int .u8 0]).flatten = (List.replicate 64 (0 : UInt8)).map encB by rw [List.flatten_replicate_singleton, List.map_replicate]; rfl]
        refine r_back (by repeat (first | with_reducible apply Take.nil | apply Take.cons (by repeat (first | with_reducible apply Pick.here | with_reducible apply Pick.there)))) ?_
        refine T_seqOp rfl ?_; refine kbs1 rfl rfl (vs := [_]) rfl (by simp [Value.oneCell']) rfl (fun b1 => ?_)
        refine r_back (by repeat (first | with_reducible apply Take.nil | apply Take.cons (by repeat (first | with_reducible apply Pick.here | with_reducible apply Pick.there)))) ?_
        refine T_seqOp rfl ?_; refine kap rfl rfl rfl (by repeat (first | with_reducible apply Pick.here | with_reducible apply Pick.there)) (by repeat (first | with_reducible apply Pick.here | with_reducible apply Pick.there)) (by simp [Value.oneCell']) (by omega) (by omega) (fun a2 c2 => ?_)
        refine r_back (by repeat (first | with_reducible apply Take.nil | apply Take.cons (by repeat (first | with_reducible apply Pick.here | with_reducible apply Pick.there)))) ?_; refine T_seqOp rfl ?_; refine knc rfl rfl ?_; refine r_back (by repeat (first | with_reducible apply Take.nil | apply Take.cons (by repeat (first | with_reducible apply Pick.here | with_reducible apply Pick.there)))) ?_; refine r_still (by repeat (first | with_reducible apply Take.nil | apply Take.cons (by repeat (first | with_reducible apply Pick.here | with_reducible apply Pick.there)))) rfl rfl ?_; refine ⟨_, (S_fieldR rfl), ?_⟩; refine T_seqOp rfl ?_; refine kst rfl rfl rfl (by repeat (first | with_reducible apply Pick.here | with_reducible apply Pick.there)) rfl ?_; refine T_seqS rfl ?_; refine T_seqNil ?_; refine T_thenN ?_; refine T_seq ?_; refine T_region ?_; refine T_list ?_; refine kmv rfl rfl ?_; refine T_list ?_; refine kmv rfl rfl ?_; refine T_list ?_; refine knc rfl rfl ?_; refine T_list ?_; refine kfd rfl rfl ?_; refine T_list ?_; refine kld rfl rfl (by repeat (first | with_reducible apply Pick.here | with_reducible apply Pick.there)) rfl ?_
        refine T_list ?_; refine kbs1 rfl rfl (vs := [_]) rfl (by simp [Value.oneCell']) rfl (fun b2 => ?_)
        refine T_list ?_; refine kap rfl rfl rfl (by repeat (first | with_reducible apply Pick.here | with_reducible apply Pick.there)) (by repeat (first | with_reducible apply Pick.here | with_reducible apply Pick.there)) (by simp [Value.oneCell']) (by omega) (by omega) (fun a3 c3 => ?_)
        refine T_list ?_; refine knc rfl rfl ?_; refine T_list ?_; refine kfd rfl rfl ?_; refine T_list ?_; refine kst rfl rfl rfl (by repeat (first | with_reducible apply Pick.here | with_reducible apply Pick.there)) rfl ?_; refine T_nil ?_; refine T_thenN ?_; refine T_region ?_; refine T_list ?_; refine kmv rfl rfl ?_; refine T_list ?_; refine kmv rfl rfl ?_; refine T_list ?_; refine knc rfl rfl ?_; refine T_list ?_; refine kfd rfl rfl ?_; refine T_list ?_; refine kld rfl rfl (by repeat (first | with_reducible apply Pick.here | with_reducible apply Pick.there)) rfl ?_
        refine T_list ?_; refine kbs1 rfl rfl (vs := [_]) rfl (by simp [Value.oneCell']) rfl (fun b3 => ?_)
        refine T_list ?_; refine kap rfl rfl rfl (by repeat (first | with_reducible apply Pick.here | with_reducible apply Pick.there)) (by repeat (first | with_reducible apply Pick.here | with_reducible apply Pick.there)) (by simp [Value.oneCell']) (by omega) (by omega) (fun a4 c4 => ?_)
        refine T_list ?_; refine knc rfl rfl ?_; refine T_list ?_; refine kfd rfl rfl ?_; refine T_list ?_; refine kst rfl rfl rfl (by repeat (first | with_reducible apply Pick.here | with_reducible apply Pick.there)) rfl ?_; refine T_nil ?_; refine T_inN ?_; refine T_thenN ?_; refine T_region ?_; refine T_list ?_; refine kmv rfl rfl ?_; refine T_list ?_; refine kar rfl rfl rfl rfl (by simp only [fits]; omega) ?_; refine T_list ?_; refine kas rfl rfl ?_; refine T_nil ?_; refine T_thenN ?_
        refine T_slCons (X := x.ar.map fun x => slc 5 1 x.1 64 x.2.1 (x.2.2.map encB)) (by repeat (first | with_reducible apply Pick.here | with_reducible apply Pick.there)) (A := slc 5 1 a1 64 64 ((List.replicate 64 (0 : UInt8)).map encB)) (by repeat (first | with_reducible apply Pick.here | with_reducible apply Pick.there)) ?_
        rw [show slc 5 1 a1 64 64 ((List.replicate 64 (0 : UInt8)).map encB) :: x.ar.map (fun x => slc 5 1 x.1 64 x.2.1 (x.2.2.map encB)) = ((a1, 64, List.replicate 64 0) :: x.ar).map (fun x => slc 5 1 x.1 64 x.2.1 (x.2.2.map encB)) from rfl]
        have hlen2 : (Dsk.new (i + 1)).k.length = i + 1 := by simp [Dsk.new]
        have hk2 : (Dsk.new (i + 1)).k = (Dsk.new i).k ++ [List.replicate 64 0] := by simp only [Dsk.new]; rw [List.replicate_succ']
        have hw2 : (Dsk.new (i + 1)).w = (Dsk.new i).w ++ [none] := by simp only [Dsk.new]; rw [List.replicate_succ']
        have hlk : x.vK.length = i := by rw [hx.lenK, hlen]
        have hlw : x.vW.length = i := by rw [hx.lenW, hlen]
        refine T_close (R := rdR (Dsk.new (i + 1))) (Ls := rdL _b (Dsk.new (i + 1))) ⟨a2, c2, a3, c3, a4, c4, x.vK ++ [.slice a1 64 64], x.vW ++ [.slice none 0 0], (a1, 64, List.replicate 64 0) :: x.ar⟩ ⟨Dsk.ok.new (by omega), ?_, ?_, ?_, ?_, ?_⟩ (M := slc 4 1 b3 1 1 [Value.bool false] :: slc 36 1 b2 1 1 [Value.slice none 0 0] :: slc 36 1 b1 1 1 [Value.slice a1 64 64] :: F) ?take ?rest
        · simp [hlk, hlen2]
        · simp [hlw, hlen2]
        · intro v hv
          rcases List.mem_append.1 hv with hv | hv
          · exact hx.oneW v hv
          · simp at hv; subst hv; rfl
        · intro j hj
          rw [hlen2] at hj
          rw [hk2]
          by_cases hji : j < i
          · rw [getD_append_left (by rw [hlk]; exact hji), getD_append_left (by rw [hlen]; exact hji)]
            exact (hx.secK j (by rw [hlen]; exact hji)).mono _
          · obtain rfl : j = i := by omega
            rw [getD_append_last hlk, getD_append_last hlen]
            exact ⟨a1, 64, rfl, List.mem_cons_self⟩
        · intro j s hs
          simp only [Dsk.new, List.getD_eq_getElem?_getD, List.getElem?_replicate] at hs
          split at hs <;> cases hs
        case take =>
          simp only [rdL, hlen2, hw2, List.map_append]
          exact (by repeat (first | with_reducible apply Take.nil | apply Take.cons (by repeat (first | with_reducible apply Pick.here | ((with_reducible refine Pick.rowE ?_); rfl) | ((with_reducible refine Pick.slcE ?_ ?_ ?_) <;> rfl) | ((with_reducible refine Pick.imapE ?_); rfl) | with_reducible apply Pick.there))))
        case rest =>
          skip
          refine T_inv (i + 1) ⟨(by first | omega | (dsimp only; omega)), (by first | omega | (dsimp only; omega))⟩ ⟨rfl, rfl, rfl, trivial⟩ ?_
          (repeat (first | exact perm_rest | apply perm_take (by repeat (first | with_reducible apply Pick.here | with_reducible apply Pick.there)) | apply perm_drop))
      · obtain rfl : i = n := by omega
        refine T_seq ?_; refine T_seq ?_; refine T_region ?_; refine T_list ?_; refine kmv rfl rfl ?_; refine T_list ?_; refine kmv rfl rfl ?_; refine T_list ?_; refine kcmpF rfl rfl rfl rfl (by first | (simp only [decide_eq_false_iff_not, ne_eq, not_true_eq_false, not_false_eq_true]; done) | (simp only [decide_eq_false_iff_not, ne_eq]; omega)) ?_; refine T_list ?_; refine kmv rfl rfl ?_; refine T_guardN rfl rfl rfl rfl ?_; refine T_guardN rfl rfl rfl rfl ?_; refine T_list ?_; refine kpF rfl rfl rfl ?_; refine T_nil ?_; refine T_thenN ?_
        refine T_cond rfl (fun h => absurd h (by simp only [decide_eq_true_eq, decide_eq_false_iff_not, ne_eq, Decidable.not_not, Bool.not_eq_true', Bool.not_eq_false', Bool.not_true, Bool.not_false, Bool.false_eq_true, Bool.true_eq_false, not_true_eq_false, not_false_eq_true]; try omega)) (fun _ => ?_)
        refine T_exit ?_; refine T_thenE ?_; refine T_thenE ?_; refine T_inE ?_; refine T_thenN ?_; refine T_seq ?_; refine T_region ?_; refine T_list ?_; refine kmv rfl rfl ?_; refine T_list ?_; refine kas rfl rfl ?_; refine T_nil ?_; refine T_thenN ?_; refine T_ret ?_
        exact T_fin [_] _ ⟨rfl, trivial⟩ ⟨_b, rfl, rfl⟩ perm_rest
end Go.Proofs
namespace Go.Proofs
set_option linter.unnecessarySimpa false
open Go Go.Sl
attribute [local irreducible] Still T opO Sl.Inv row slc wpSeq Code.wp wpList Exit.then Exit.inBlock
set_option linter.unusedVariables false
set_option linter.unusedSimpArgs false
set_option maxRecDepth 4000
def magicB : Bytes := [68, 80, 90, 83]
theorem magicB_length : magicB.length = 4 := rfl
def headA (age : Nat) (has : Bool) (image : Bytes) : Bytes :=
  (((magicB ++ leBytes 8 age) ++ leBytes 1 (if has then 1 else 0)) ++ leBytes 4 image.length) ++ leBytes 4 (if has then crcOf image else 0)
def headB (age : Nat) (has : Bool) (image : Bytes) : Bytes := headA age has image ++ leBytes 4 (crcOf (headA age has image))
theorem headA_length (age : Nat) (has : Bool) (image : Bytes) : (headA age has image).length = 21 := by simp [headA, leBytes_length, magicB_length]
theorem headB_length (age : Nat) (has : Bool) (image : Bytes) : (headB age has image).length = 25 := by simp [headB, headA_length, leBytes_length]
theorem magic_enc : [Value.int .u8 68, .int .u8 80, .int .u8 90, .int .u8 83] = magicB.map encB := rfl
theorem half_ctr (p : Nat) (d : Dsk) (h : 2 ≤ d.k.length) : Ctr Tryd.prog 46 [.pointer (some ⟨p, 0, none⟩)] [PD p d] (fun v L => v = .int .i64 (((d.k.length - 2) / 2 : Nat) : Int) ∧ L = [PD p d]) := by
  refine Ctr.of Tryd.func46 rfl rfl (fun w F => ?_)
  simp only [Tryd.ntmps46, env0, List.cons_append, List.nil_append]
  refine T_know (p := d.ok) (fun w H => by obtain ⟨x, hx, _⟩ := (Pick.here.back H).openAb; exact hx.1) (fun hok => ?_)
  have hfew := hok.few
  refine T_seq ?_; refine T_region ?_; refine T_list ?_; refine kas rfl rfl ?_; refine T_nil ?_; refine T_thenN ?_; refine T_seq ?_; refine T_region ?_; refine T_list ?_; refine kmv rfl rfl ?_
  refine T_list ?_; refine T_call rfl (dlen_ctr p d) (by repeat (first | with_reducible apply Take.nil | apply Take.cons (by repeat (first | with_reducible apply Pick.here | with_reducible apply Pick.there)))) rfl ?_
  rintro v L' ⟨rfl, rfl⟩
  simp only [List.cons_append, List.nil_append]
  refine T_list ?_; refine ksubN rfl rfl (q := 2) rfl (by omega) (by simp only [fits]; omega) ?_; refine T_list ?_; refine kquoN rfl rfl (q := 2) rfl rfl (by simp only [fits]; omega) ?_; refine T_list ?_; refine kas rfl rfl ?_; refine T_nil ?_; refine T_thenN ?_; refine T_ret ?_
  exact T_fin [_] _ ⟨rfl, trivial⟩ ⟨rfl, rfl⟩ perm_rest
theorem from_ctr (p : Nat) (d : Dsk) (h : 2 ≤ d.k.length) (k : Nat) (hk : k ≤ 1) : Ctr Tryd.prog 35 [.pointer (some ⟨p, 0, none⟩), .int .i64 (k : Nat)] [PD p d] (fun v L => v = .int .i64 ((2 + k * ((d.k.length - 2) / 2) : Nat) : Int) ∧ L = [PD p d]) := by
  refine Ctr.of Tryd.func35 rfl rfl (fun w F => ?_)
  simp only [Tryd.ntmps35, env0, List.cons_append, List.nil_append]
  refine T_know (p := d.ok) (fun w H => by obtain ⟨x, hx, _⟩ := (Pick.here.back H).openAb; exact hx.1) (fun hok => ?_)
  have hfew := hok.few
  have hkm : k * ((d.k.length - 2) / 2) ≤ 1 * ((d.k.length - 2) / 2) := Nat.mul_le_mul_right _ hk
  refine T_seq ?_; refine T_region ?_; refine T_list ?_; refine kas rfl rfl ?_; refine T_nil ?_; refine T_thenN ?_; refine T_seq ?_; refine T_region ?_; refine T_list ?_; refine kmv rfl rfl ?_; refine T_list ?_; refine kmv rfl rfl ?_
  refine T_list ?_; refine T_call rfl (half_ctr p d h) (by repeat (first | with_reducible apply Take.nil | apply Take.cons (by repeat (first | with_reducible apply Pick.here | with_reducible apply Pick.there)))) rfl ?_
  rintro v L' ⟨rfl, rfl⟩
  simp only [List.cons_append, List.nil_append]
  refine T_list ?_; refine kmulN rfl rfl rfl (by simp only [fits]; omega) ?_; refine T_list ?_; refine kaddN rfl (p := 2) rfl rfl (by simp only [fits]; omega) ?_; refine T_list ?_; refine kas rfl rfl ?_; refine T_nil ?_; refine T_thenN ?_; refine T_ret ?_
  exact T_fin [_] _ ⟨rfl, trivial⟩ ⟨rfl, rfl⟩ perm_rest
theorem rhalf_ctr (p : Nat) (d : Dsk) (h : 2 ≤ d.k.length) : Ctr Tryd.prog 22 [.pointer (some ⟨p, 0, none⟩)] [RD p d] (fun v L => v = .int .i64 (((d.k.length - 2) / 2 : Nat) : Int) ∧ L = [RD p d]) := by
  refine Ctr.of Tryd.func22 rfl rfl (fun w F => ?_)
  simp only [Tryd.ntmps22, env0, List.cons_append, List.nil_append]
  refine T_open Pick.here ?_
  rintro x hx
  have hfew := hx.ok.few
  simp only [rdL, List.cons_append, List.nil_append]
  refine T_seq ?_; refine T_region ?_; refine T_list ?_; refine kas rfl rfl ?_; refine T_nil ?_; refine T_thenN ?_; refine T_seq ?_; refine T_region ?_; refine T_list ?_; refine kmv rfl rfl ?_; refine T_list ?_; refine knc rfl rfl ?_; refine T_list ?_; refine kfd rfl rfl ?_; refine T_list ?_; refine kld rfl rfl (by repeat (first | with_reducible apply Pick.here | with_reducible apply Pick.there)) rfl ?_; refine T_list ?_; refine klen rfl rfl ?_; refine T_list ?_; refine ksubN rfl rfl (q := 2) rfl (by omega) (by simp only [fits]; omega) ?_; refine T_list ?_; refine kquoN rfl rfl (q := 2) rfl rfl (by simp only [fits]; omega) ?_; refine T_list ?_; refine kas rfl rfl ?_; refine T_nil ?_; refine T_thenN ?_; refine T_ret ?_
  refine T_close (R := rdR d) (Ls := rdL p d) x hx (by repeat (first | with_reducible apply Take.nil | apply Take.cons (by repeat (first | with_reducible apply Pick.here | ((with_reducible refine Pick.rowE ?_); rfl) | ((with_reducible refine Pick.slcE ?_ ?_ ?_) <;> rfl) | ((with_reducible refine Pick.imapE ?_); rfl) | with_reducible apply Pick.there)))) ?_
  exact T_fin [_] _ ⟨rfl, trivial⟩ ⟨rfl, rfl⟩ perm_rest
set_option maxHeartbeats 1000000 in
theorem hput_ctr {tableS : SP} [hT : TableAt tableS] (A : SP) (a : Option Addr) (m c : Nat) (age : Nat) (has : Bool) (image : Bytes) (hr : Rd A 1 a m (image.map encB)) (ha : age ≤ 1099511627777) (hm : m ≤ 100000) :
    Ctr Tryd.prog 52 [.agg [.int .i64 (age : Nat), .bool has, .slice a m c].toArray] [A, tableS] (fun v L => ∃ a' c', v = .slice a' 25 c' ∧ L = [slc 5 1 a' 25 c' ((headB age has image).map encB), A, tableS]) := by
  refine Ctr.of Tryd.func52 rfl rfl (fun w F => ?_)
  simp only [Tryd.ntmps52, env0, List.cons_append, List.nil_append]
  refine T_rdLen hr Pick.here (fun hlen => ?_)
  simp only [List.length_map, Nat.mul_one] at hlen
  have hcr := crcOf_lt image
  refine T_seq ?_; refine T_region ?_; refine T_list ?_; refine kbx rfl rfl rfl ?_; intro _b; refine T_list ?_; refine kas rfl rfl ?_; refine T_nil ?_; refine T_thenN ?_; refine T_seq ?_; refine T_region ?_; refine T_list ?_; refine kas rfl rfl ?_; refine T_list ?_; refine kas rfl rfl ?_; refine T_nil ?_; refine T_thenN ?_; refine T_seq ?_; refine T_seq ?_; refine T_region ?_; refine T_list ?_; refine kfd rfl rfl ?_; refine T_list ?_; refine kld rfl rfl (by repeat (first | with_reducible apply Pick.here | with_reducible apply Pick.there)) rfl ?_; refine T_nil ?_; refine T_thenN ?_
  refine T_cut (ι := Unit) (fun _ => True) (fun _ => [(3, .int .u64 ((if has then 1 else 0 : Nat) : Int)), (4, .int .u64 ((if has then crcOf image else 0 : Nat) : Int)), (1, .pointer (some ⟨_b, 0, none⟩))])
    (fun _ => row _b 63 [.int .i64 (age : Nat), .bool has, .slice a m c] :: A :: tableS :: F) ?_ ?_
  · cases has with
    | true =>
      refine T_condT rfl ?_
      refine T_region ?_; refine T_list ?_; refine kfd rfl rfl ?_; refine T_list ?_; refine kld rfl rfl (by repeat (first | with_reducible apply Pick.here | with_reducible apply Pick.there)) rfl ?_
      refine T_list ?_; refine T_call rfl (crcof_ctr (tableS := tableS) A a m c image hr (by omega)) (by repeat (first | with_reducible apply Take.nil | apply Take.cons (by repeat (first | with_reducible apply Pick.here | with_reducible apply Pick.there)))) rfl ?_
      rintro v L' ⟨rfl, rfl⟩
      simp only [List.cons_append, List.nil_append]
      refine T_list ?_; refine kcv rfl rfl (by simp only [fits]; omega) ?_; refine T_list ?_; refine kas rfl rfl ?_; refine T_list ?_; refine kas rfl rfl ?_; refine T_nil ?_; refine T_thenN ?_
      refine T_inv () trivial ⟨rfl, rfl, rfl, trivial⟩ ?_
      (repeat (first | exact perm_rest | apply perm_take (by repeat (first | with_reducible apply Pick.here | with_reducible apply Pick.there)) | apply perm_drop))
    | false =>
      refine T_condF rfl ?_
      refine T_skip ?_; refine T_thenN ?_
      refine T_inv () trivial ⟨rfl, rfl, rfl, trivial⟩ ?_
      (repeat (first | exact perm_rest | apply perm_take (by repeat (first | with_reducible apply Pick.here | with_reducible apply Pick.there)) | apply perm_drop))
  · intro _ _
    have hflag : (if has then 1 else 0 : Nat) < 18446744073709551616 := by cases has <;> decide
    have hck : (if has then crcOf image else 0 : Nat) < 18446744073709551616 := by cases has <;> simp <;> omega
    refine T_seq ?_; refine T_region ?_
    refine T_list ?_; refine kbs1 rfl rfl (vs := [.int .u8 68, .int .u8 80, .int .u8 90, .int .u8 83]) rfl (by simp [Value.oneCell']) rfl (fun a1 => ?_)
    rw [magic_enc]
    refine T_list ?_; refine kcvM rfl rfl (by repeat (first | with_reducible apply Pick.here | with_reducible apply Pick.there)) (by decide) ?_
    refine T_list ?_; refine kfd rfl rfl ?_; refine T_list ?_; refine kld rfl rfl (by repeat (first | with_reducible apply Pick.here | with_reducible apply Pick.there)) rfl ?_; refine T_list ?_; refine kcv rfl rfl (by simp only [fits]; omega) ?_
    refine T_list ?_; refine T_call rfl (put_ctr a1 4 4 magicB age 8 (by decide) (by omega)) (by repeat (first | with_reducible apply Take.nil | apply Take.cons (by repeat (first | with_reducible apply Pick.here | with_reducible apply Pick.there)))) rfl ?_
    rintro v L' ⟨a2, c2, rfl, rfl⟩
    simp only [List.cons_append, List.nil_append]
    rw [show (held 8).toNat = 8 from rfl]
    refine T_list ?_; refine kmv rfl rfl ?_
    refine T_list ?_; refine T_call rfl (put_ctr a2 (4 + 8) c2 (magicB ++ leBytes 8 age) (if has then 1 else 0) 1 (by decide) hflag) (by repeat (first | with_reducible apply Take.nil | apply Take.cons (by repeat (first | with_reducible apply Pick.here | with_reducible apply Pick.there)))) rfl ?_
    rintro v L' ⟨a3, c3, rfl, rfl⟩
    rw [show (held 1).toNat = 1 from rfl]
    simp only [List.cons_append, List.nil_append]
    refine T_list ?_; refine kas rfl rfl ?_; refine T_nil ?_; refine T_thenN ?_; refine T_seq ?_; refine T_region ?_; refine T_list ?_; refine kmv rfl rfl ?_; refine T_list ?_; refine kfd rfl rfl ?_; refine T_list ?_; refine kld rfl rfl (by repeat (first | with_reducible apply Pick.here | with_reducible apply Pick.there)) rfl ?_; refine T_list ?_; refine klen rfl rfl ?_; refine T_list ?_; refine kcv rfl rfl (by simp only [fits]; omega) ?_
    refine T_list ?_; refine T_call rfl (put_ctr a3 (4 + 8 + 1) c3 ((magicB ++ leBytes 8 age) ++ leBytes 1 (if has then 1 else 0)) m 4 (by decide) (by omega)) (by repeat (first | with_reducible apply Take.nil | apply Take.cons (by repeat (first | with_reducible apply Pick.here | with_reducible apply Pick.there)))) rfl ?_
    rintro v L' ⟨a4, c4, rfl, rfl⟩
    rw [show (held 4).toNat = 4 from rfl]
    simp only [List.cons_append, List.nil_append]
    refine T_list ?_; refine kmv rfl rfl ?_
    refine T_list ?_; refine T_call rfl (put_ctr a4 (4 + 8 + 1 + 4) c4 (((magicB ++ leBytes 8 age) ++ leBytes 1 (if has then 1 else 0)) ++ leBytes 4 m) (if has then crcOf image else 0) 4 (by decide) hck) (by repeat (first | with_reducible apply Take.nil | apply Take.cons (by repeat (first | with_reducible apply Pick.here | with_reducible apply Pick.there)))) rfl ?_
    rintro v L' ⟨a5, c5, rfl, rfl⟩
    rw [show (held 4).toNat = 4 from rfl, show (((magicB ++ leBytes 8 age) ++ leBytes 1 (if has then 1 else 0)) ++ leBytes 4 m) ++ leBytes 4 (if has then crcOf image else 0) = headA age has image by rw [← hlen]; rfl]
    simp only [List.cons_append, List.nil_append]
    refine T_list ?_; refine kas rfl rfl ?_; refine T_nil ?_; refine T_thenN ?_; refine T_seq ?_; refine T_region ?_; refine T_list ?_; refine kmv rfl rfl ?_; refine T_list ?_; refine kmv rfl rfl ?_
    refine T_list ?_; refine T_call rfl (crcof_ctr (tableS := tableS) (slc 5 1 a5 (4 + 8 + 1 + 4 + 4) c5 ((headA age has image).map encB)) a5 (4 + 8 + 1 + 4 + 4) c5 (headA age has image) Rd.slc (by decide)) (by repeat (first | with_reducible apply Take.nil | apply Take.cons (by repeat (first | with_reducible apply Pick.here | with_reducible apply Pick.there)))) rfl ?_
    rintro v L' ⟨rfl, rfl⟩
    simp only [List.cons_append, List.nil_append]
    have hcr2 := crcOf_lt (headA age has image)
    refine T_list ?_; refine kcv rfl rfl (by simp only [fits]; omega) ?_
    refine T_list ?_; refine T_call rfl (put_ctr a5 (4 + 8 + 1 + 4 + 4) c5 (headA age has image) (crcOf (headA age has image)) 4 (by decide) (by omega)) (by repeat (first | with_reducible apply Take.nil | apply Take.cons (by repeat (first | with_reducible apply Pick.here | with_reducible apply Pick.there)))) rfl ?_
    rintro v L' ⟨a6, c6, rfl, rfl⟩
    rw [show (held 4).toNat = 4 from rfl, show headA age has image ++ leBytes 4 (crcOf (headA age has image)) = headB age has image from rfl]
    simp only [List.cons_append, List.nil_append]
    refine T_list ?_; refine kas rfl rfl ?_; refine T_nil ?_; refine T_thenN ?_; refine T_ret ?_
    refine T_fin [_] _ ⟨rfl, trivial⟩ ⟨a6, c6, rfl, rfl⟩ ?_
    (repeat (first | exact perm_rest | apply perm_take (by repeat (first | with_reducible apply Pick.here | ((with_reducible refine Pick.rowE ?_); rfl) | ((with_reducible refine Pick.slcE ?_ ?_ ?_) <;> rfl) | ((with_reducible refine Pick.imapE ?_); rfl) | with_reducible apply Pick.there)) | apply perm_drop))
set_option maxHeartbeats 1000000 in
theorem rhead_ctr (A : SP) (a : Option Addr) (m c : Nat) (age : Nat) (has : Bool) (image : Bytes) (hr : Rd A 1 a m (image.map encB)) (ha : age ≤ 1099511627777) (hm : m ≤ 100000) :
    Ctr Tryd.prog 33 [.int .i64 (age : Nat), .bool has, .slice a m c] [A] (fun v L => ∃ a' c', v = .slice a' 64 c' ∧ L = [slc 5 1 a' 64 c' ((pad (headB age has image)).map encB), A]) := by
  refine Ctr.of Tryd.func33 rfl rfl (fun w F => ?_)
  simp only [Tryd.ntmps33, env0, List.cons_append, List.nil_append]
  refine T_rdLen hr Pick.here (fun hlen => ?_)
  simp only [List.length_map, Nat.mul_one] at hlen
  have hcr := crcOf_lt image
  refine T_seq ?_; refine T_region ?_; refine T_list ?_; refine kas rfl rfl ?_; refine T_nil ?_; refine T_thenN ?_; refine T_seq ?_; refine T_region ?_
  refine T_list ?_; refine kbs1 rfl rfl (vs := [.int .u8 68, .int .u8 80, .int .u8 90, .int .u8 83]) rfl (by simp [Value.oneCell']) rfl (fun a1 => ?_)
  rw [magic_enc]
  refine T_list ?_; refine kcvM rfl rfl (by repeat (first | with_reducible apply Pick.here | with_reducible apply Pick.there)) (by decide) ?_
  refine T_list ?_; refine kmv rfl rfl ?_; refine T_list ?_; refine kcv rfl rfl (by simp only [fits]; omega) ?_
  refine T_list ?_; refine T_call rfl (digits_ctr age 8 (by omega)) (by repeat (first | with_reducible apply Take.nil | apply Take.cons (by repeat (first | with_reducible apply Pick.here | with_reducible apply Pick.there)))) rfl ?_
  rintro v L' ⟨a2, c2, rfl, rfl⟩
  rw [show (held 8).toNat = 8 from rfl]
  simp only [List.cons_append, List.nil_append]
  refine T_list ?_; refine kap rfl rfl rfl (by repeat (first | with_reducible apply Pick.here | with_reducible apply Pick.there)) (by repeat (first | with_reducible apply Pick.here | with_reducible apply Pick.there)) (ones_encB _) (by decide) (by decide) (fun a3 c3 => ?_)
  rw [← List.map_append]
  refine T_list ?_; refine kas rfl rfl ?_; refine T_nil ?_; refine T_thenN ?_; refine T_seq ?_; refine T_region ?_; refine T_list ?_; refine kas rfl rfl ?_; refine T_nil ?_; refine T_thenN ?_; refine T_seq ?_; refine T_region ?_; refine T_list ?_; refine kas rfl rfl ?_; refine T_nil ?_; refine T_thenN ?_; refine T_seq ?_; refine T_seq ?_; refine T_region ?_; refine T_list ?_; refine kmv rfl rfl ?_; refine T_nil ?_; refine T_thenN ?_
  refine T_cut (ι := Unit) (fun _ => True) (fun _ => [(7, .slice a3 (4 + 8) c3), (8, .int .u8 ((if has then 1 else 0 : Nat) : Int)), (9, .int .u32 ((if has then crcOf image else 0 : Nat) : Int)), (2, .slice a m c)])
    (fun _ => slc 5 1 a3 (4 + 8) c3 ((magicB ++ leBytes 8 age).map encB) :: A :: F) ?_ ?_
  · cases has with
    | true =>
      refine T_condT rfl ?_
      refine T_seq ?_; refine T_region ?_; refine T_list ?_; refine kas rfl rfl ?_; refine T_nil ?_; refine T_thenN ?_; refine T_region ?_; refine T_list ?_; refine kmv rfl rfl ?_
      refine T_list ?_; refine T_call rfl (refof_ctr A a m c image hr (by omega)) (by repeat (first | with_reducible apply Take.nil | apply Take.cons (by repeat (first | with_reducible apply Pick.here | with_reducible apply Pick.there)))) rfl ?_
      rintro v L' ⟨rfl, rfl⟩
      simp only [List.cons_append, List.nil_append]
      refine T_list ?_; refine kas rfl rfl ?_; refine T_nil ?_; refine T_thenN ?_
      refine T_inv () trivial ⟨rfl, rfl, rfl, rfl, trivial⟩ ?_
      (repeat (first | exact perm_rest | apply perm_take (by repeat (first | with_reducible apply Pick.here | with_reducible apply Pick.there)) | apply perm_drop))
    | false =>
      refine T_condF rfl ?_
      refine T_skip ?_; refine T_thenN ?_
      refine T_inv () trivial ⟨rfl, rfl, rfl, rfl, trivial⟩ ?_
      (repeat (first | exact perm_rest | apply perm_take (by repeat (first | with_reducible apply Pick.here | with_reducible apply Pick.there)) | apply perm_drop))
  · intro _ _
    have hck : (if has then crcOf image else 0 : Nat) < 4294967296 := by cases has <;> simp <;> omega
    have hflag : Value.int .u8 ((if has then 1 else 0 : Nat) : Int) = encB (UInt8.ofNat (if has then 1 else 0)) := by cases has <;> rfl
    have hfl1 : [UInt8.ofNat (if has then 1 else 0)] = leBytes 1 (if has then 1 else 0) := rfl
    refine T_seq ?_; refine T_region ?_; refine T_list ?_; refine kmv rfl rfl ?_; refine T_list ?_; refine kmv rfl rfl ?_
    refine T_list ?_; refine kbs1 rfl rfl (vs := [.int .u8 ((if has then 1 else 0 : Nat) : Int)]) rfl (by simp [Value.oneCell']) rfl (fun a4 => ?_)
    refine T_list ?_; refine kap rfl rfl rfl (by repeat (first | with_reducible apply Pick.here | with_reducible apply Pick.there)) (by repeat (first | with_reducible apply Pick.here | with_reducible apply Pick.there)) (by simp [Value.oneCell']) (by decide) (by decide) (fun a5 c5 => ?_)
    rw [show (magicB ++ leBytes 8 age).map encB ++ [Value.int .u8 ((if has then 1 else 0 : Nat) : Int)] = ((magicB ++ leBytes 8 age) ++ leBytes 1 (if has then 1 else 0)).map encB by rw [hflag, ← hfl1, List.map_append (l₁ := magicB ++ leBytes 8 age)]; rfl]
    refine T_list ?_; refine kas rfl rfl ?_; refine T_nil ?_; refine T_thenN ?_; refine T_seq ?_; refine T_region ?_; refine T_list ?_; refine kmv rfl rfl ?_; refine T_list ?_; refine kmv rfl rfl ?_; refine T_list ?_; refine klen rfl rfl ?_; refine T_list ?_; refine kcv rfl rfl (by simp only [fits]; omega) ?_
    refine T_list ?_; refine T_call rfl (digits_ctr m 4 (by omega)) (by repeat (first | with_reducible apply Take.nil | apply Take.cons (by repeat (first | with_reducible apply Pick.here | with_reducible apply Pick.there)))) rfl ?_
    rintro v L' ⟨a6, c6, rfl, rfl⟩
    rw [show (held 4).toNat = 4 from rfl]
    simp only [List.cons_append, List.nil_append]
    refine T_list ?_; refine kap rfl rfl rfl (by repeat (first | with_reducible apply Pick.here | with_reducible apply Pick.there)) (by repeat (first | with_reducible apply Pick.here | with_reducible apply Pick.there)) (ones_encB _) (by decide) (by decide) (fun a7 c7 => ?_)
    rw [← List.map_append]
    refine T_list ?_; refine kas rfl rfl ?_; refine T_nil ?_; refine T_thenN ?_; refine T_seq ?_; refine T_region ?_; refine T_list ?_; refine kmv rfl rfl ?_; refine T_list ?_; refine kmv rfl rfl ?_; refine T_list ?_; refine kcv rfl rfl (by simp only [fits]; omega) ?_
    refine T_list ?_; refine T_call rfl (digits_ctr (if has then crcOf image else 0) 4 (by omega)) (by repeat (first | with_reducible apply Take.nil | apply Take.cons (by repeat (first | with_reducible apply Pick.here | with_reducible apply Pick.there)))) rfl ?_
    rintro v L' ⟨a8, c8, rfl, rfl⟩
    rw [show (held 4).toNat = 4 from rfl]
    simp only [List.cons_append, List.nil_append]
    refine T_list ?_; refine kap rfl rfl rfl (by repeat (first | with_reducible apply Pick.here | with_reducible apply Pick.there)) (by repeat (first | with_reducible apply Pick.here | with_reducible apply Pick.there)) (ones_encB _) (by decide) (by decide) (fun a9 c9 => ?_)
    rw [← List.map_append, show (((magicB ++ leBytes 8 age) ++ leBytes 1 (if has then 1 else 0)) ++ leBytes 4 m) ++ leBytes 4 (if has then crcOf image else 0) = headA age has image by rw [← hlen]; rfl]
    have hcr2 := crcOf_lt (headA age has image)
    refine T_list ?_; refine kas rfl rfl ?_; refine T_nil ?_; refine T_thenN ?_; refine T_seq ?_; refine T_region ?_; refine T_list ?_; refine kmv rfl rfl ?_; refine T_list ?_; refine kmv rfl rfl ?_
    refine T_list ?_; refine T_call rfl (refof_ctr (slc 5 1 a9 (4 + 8 + 1 + 4 + 4) c9 ((headA age has image).map encB)) a9 (4 + 8 + 1 + 4 + 4) c9 (headA age has image) Rd.slc (by decide)) (by repeat (first | with_reducible apply Take.nil | apply Take.cons (by repeat (first | with_reducible apply Pick.here | with_reducible apply Pick.there)))) rfl ?_
    rintro v L' ⟨rfl, rfl⟩
    simp only [List.cons_append, List.nil_append]
    refine T_list ?_; refine kcv rfl rfl (by simp only [fits]; omega) ?_
    refine T_list ?_; refine T_call rfl (digits_ctr (crcOf (headA age has image)) 4 (by omega)) (by repeat (first | with_reducible apply Take.nil | apply Take.cons (by repeat (first | with_reducible apply Pick.here | with_reducible apply Pick.there)))) rfl ?_
    rintro v L' ⟨a10, c10, rfl, rfl⟩
    rw [show (held 4).toNat = 4 from rfl]
    simp only [List.cons_append, List.nil_append]
    refine T_list ?_; refine kap rfl rfl rfl (by repeat (first | with_reducible apply Pick.here | with_reducible apply Pick.there)) (by repeat (first | with_reducible apply Pick.here | with_reducible apply Pick.there)) (ones_encB _) (by decide) (by decide) (fun a11 c11 => ?_)
    rw [← List.map_append, show headA age has image ++ leBytes 4 (crcOf (headA age has image)) = headB age has image from rfl]
    refine T_list ?_; refine kas rfl rfl ?_; refine T_nil ?_; refine T_thenN ?_; refine T_seq ?_; refine T_block ?_
    have hhl := headB_length age has image
    generalize headB age has image = hb at hhl ⊢
    refine T_loop (ι := Nat × Option Addr × Nat) (fun y => 25 + y.1 ≤ 64) (fun y => [(7, .slice y.2.1 (25 + y.1) y.2.2)])
      (fun y => slc 5 1 y.2.1 (25 + y.1) y.2.2 ((hb ++ List.replicate y.1 0).map encB) :: A :: F) (fun y => 64 - (25 + y.1)) ?_ ?_
    · refine T_inv (0, a11, c11) (show 25 + 0 ≤ 64 by decide) ⟨rfl, trivial⟩ ?_
      rw [List.replicate_zero, List.append_nil]
      (repeat (first | exact perm_rest | apply perm_take (by repeat (first | with_reducible apply Pick.here | ((with_reducible refine Pick.rowE ?_); rfl) | ((with_reducible refine Pick.slcE ?_ ?_ ?_) <;> rfl) | ((with_reducible refine Pick.imapE ?_); rfl) | with_reducible apply Pick.there)) | apply perm_drop))
    · rintro ⟨q, a1, c1⟩ hq
      dsimp only at hq ⊢
      refine T_seq ?_; refine T_seq ?_; refine T_region ?_; refine T_list ?_; refine kmv rfl rfl ?_; refine T_list ?_; refine klen rfl rfl ?_; refine T_list ?_; refine kcmp rfl rfl rfl rfl ?_; refine T_nil ?_; refine T_thenN ?_
      refine T_cond rfl (fun h => ?_) (fun h => ?_) <;> simp only [decide_eq_true_eq, decide_eq_false_iff_not, ne_eq, Decidable.not_not, Bool.not_eq_true', Bool.not_eq_false', Bool.cond_eq_true_distrib, Bool.cond_eq_false_distrib] at h
      · refine T_skip ?_; refine T_thenN ?_; refine T_block ?_; refine T_region ?_; refine T_list ?_; refine kmv rfl rfl ?_
        refine T_list ?_; refine kbs1 rfl rfl (vs := [.int .u8 0]) rfl (by simp [Value.oneCell']) rfl (fun b2 => ?_)
        refine T_list ?_; refine kap rfl rfl rfl (by repeat (first | with_reducible apply Pick.here | with_reducible apply Pick.there)) (by repeat (first | with_reducible apply Pick.here | with_reducible apply Pick.there)) (by simp [Value.oneCell']) (by omega) (by omega) (fun a2 c2 => ?_)
        refine T_list ?_; refine kas rfl rfl ?_; refine T_nil ?_; refine T_inN ?_; refine T_thenN ?_
        refine T_inv (q + 1, a2, c2) ⟨(by first | omega | (dsimp only; omega)), (by first | omega | (dsimp only; omega))⟩ ⟨rfl, trivial⟩ ?_
        have e1 : (hb ++ List.replicate q 0).map encB ++ [Value.int .u8 0] = (hb ++ List.replicate (q + 1) 0).map encB := by
          rw [List.replicate_succ', ← List.append_assoc, List.map_append (l₁ := hb ++ List.replicate q 0)]; rfl
        rw [e1]
        (repeat (first | exact perm_rest | apply perm_take (by repeat (first | with_reducible apply Pick.here | ((with_reducible refine Pick.rowE ?_); rfl) | ((with_reducible refine Pick.slcE ?_ ?_ ?_) <;> rfl) | ((with_reducible refine Pick.imapE ?_); rfl) | with_reducible apply Pick.there)) | apply perm_drop))
      · obtain rfl : q = 39 := by omega
        have hpad : hb ++ List.replicate 39 0 = pad hb := by rw [pad, hhl]
        rw [hpad]
        refine T_exit ?_; refine T_thenE ?_; refine T_thenE ?_; refine T_inE ?_; refine T_thenN ?_; refine T_seq ?_; refine T_region ?_; refine T_list ?_; refine kmv rfl rfl ?_; refine T_list ?_; refine kas rfl rfl ?_; refine T_nil ?_; refine T_thenN ?_; refine T_ret ?_
        exact T_fin [_] _ ⟨rfl, trivial⟩ ⟨a1, c1, rfl, rfl⟩ perm_rest
end Go.Proofs
namespace Go.Proofs
set_option linter.unnecessarySimpa false
open Go Go.Sl
attribute [local irreducible] Still T opO Sl.Inv row slc wpSeq Code.wp wpList Exit.then Exit.inBlock
set_option linter.unusedVariables false
set_option linter.unusedSimpArgs false
set_option maxRecDepth 4000
def Dsk.half (d : Dsk) : Nat := (d.k.length - 2) / 2
/-- The first sectors of a slot, one behind another. -/
def Dsk.secs (d : Dsk) (k : Nat) : Nat → Bytes
  | 0 => []
  | t + 1 => d.secs k t ++ d.at (2 + k * d.half + t)
def Dsk.slotB (d : Dsk) (k many : Nat) : Bytes := (d.secs k d.half).take many
theorem Dsk.half_le {d : Dsk} {k t : Nat} (h : 4 ≤ d.k.length) (hk : k ≤ 1) (ht : t < d.half) : 2 + k * d.half + t < d.k.length := by
  have : k * d.half ≤ 1 * d.half := Nat.mul_le_mul_right _ hk
  unfold Dsk.half at *; omega
theorem secs_length {d : Dsk} (hok : d.ok) (h : 4 ≤ d.k.length) {k : Nat} (hk : k ≤ 1) : ∀ t, t ≤ d.half → (d.secs k t).length = t * 64
  | 0, _ => by simp [Dsk.secs]
  | t + 1, ht => by
    rw [Dsk.secs, List.length_append, secs_length hok h hk t (by omega), Dsk.at_length hok (Dsk.half_le h hk (by omega))]; omega
theorem secs_take {d : Dsk} {k : Nat} (t : Nat) : ∀ n, t ≤ n → ∃ r, d.secs k n = d.secs k t ++ r
  | 0, h => by obtain rfl : t = 0 := by omega
               exact ⟨[], by simp⟩
  | n + 1, h => by
    by_cases e : t = n + 1
    · subst e; exact ⟨[], by simp⟩
    · obtain ⟨r, hr⟩ := secs_take t n (by omega)
      exact ⟨r ++ d.at (2 + k * d.half + n), by rw [Dsk.secs, hr, List.append_assoc]⟩
theorem slot_take {d : Dsk} (hok : d.ok) (h : 4 ≤ d.k.length) {k : Nat} (hk : k ≤ 1) {t many : Nat} (ht : t ≤ d.half) (hm : many ≤ t * 64) : (d.secs k t).take many = d.slotB k many := by
  obtain ⟨r, hr⟩ := secs_take (d := d) (k := k) t d.half ht
  have hl := secs_length hok h hk t ht
  rw [Dsk.slotB, hr, List.take_append_of_le_length (by omega)]
theorem slotB_length {d : Dsk} (hok : d.ok) (h : 4 ≤ d.k.length) {k : Nat} (hk : k ≤ 1) {many : Nat} (hm : many ≤ d.half * 64) : (d.slotB k many).length = many := by
  rw [Dsk.slotB, List.length_take, secs_length hok h hk _ (Nat.le_refl _)]; omega
theorem if_add0 (a : Option Addr) (c : Nat) : (if c = 0 then a else a.map (·.add (0 * 1))) = a := by
  split
  · rfl
  · cases a <;> simp [Addr.add]
set_option maxHeartbeats 1000000 in
theorem read_ctr (p : Nat) (d : Dsk) (h4 : 4 ≤ d.k.length) (hleft : d.left ≠ 0) (k many : Nat) (hk : k ≤ 1) (hm : many ≤ d.half * 64) :
    Ctr Tryd.prog 51 [.pointer (some ⟨p, 0, none⟩), .int .i64 (k : Nat), .int .i64 (many : Nat)] [PD p d]
    (fun v L => ∃ a c A, v = .tuple [.slice a many c, .int .i64 0].toArray ∧ many ≤ c ∧ Rd A 1 a many ((d.slotB k many).map encB) ∧ L = [A, PD p d]) := by
  refine Ctr.of Tryd.func51 rfl rfl (fun w F => ?_)
  simp only [Tryd.ntmps51, env0, List.cons_append, List.nil_append]
  refine T_know (p := d.ok) (fun w H => by obtain ⟨x, hx, _⟩ := (Pick.here.back H).openAb; exact hx.1) (fun hok => ?_)
  have hfew := hok.few
  have hhalf : d.half ≤ 255 := by unfold Dsk.half; omega
  refine T_seq ?_; refine T_region ?_; refine T_list ?_; refine kas rfl rfl ?_; refine T_list ?_; refine kas rfl rfl ?_; refine T_nil ?_; refine T_thenN ?_; refine T_seq ?_; refine T_region ?_; refine T_list ?_; refine kas rfl rfl ?_; refine T_nil ?_; refine T_thenN ?_; refine T_seq ?_; refine T_seq ?_; refine T_region ?_; refine T_list ?_; refine kmv rfl rfl ?_; refine T_list ?_; refine kmv rfl rfl ?_
  refine T_list ?_; refine T_call rfl (from_ctr p d (by omega) k hk) (by repeat (first | with_reducible apply Take.nil | apply Take.cons (by repeat (first | with_reducible apply Pick.here | with_reducible apply Pick.there)))) rfl ?_
  rintro v L' ⟨rfl, rfl⟩
  simp only [List.cons_append, List.nil_append]
  rw [show (d.k.length - 2) / 2 = d.half from rfl]
  have hkm : k * d.half ≤ 1 * d.half := Nat.mul_le_mul_right _ hk
  generalize hB : 2 + k * d.half = B at *
  refine T_list ?_; refine kas rfl rfl ?_; refine T_nil ?_; refine T_thenN ?_; refine T_block ?_
  refine T_nilS 5 1 ?_
  refine T_loop (ι := Nat × Option Addr × Nat) (fun y => y.1 ≤ d.half ∧ (y.1 = 0 ∨ (y.1 - 1) * 64 < many)) (fun y => [(8, .slice y.2.1 (y.1 * 64) y.2.2), (9, .int .i64 ((B + y.1 : Nat) : Int)), (2, .int .i64 (many : Nat)), (0, .pointer (some ⟨p, 0, none⟩))])
    (fun y => slc 5 1 y.2.1 (y.1 * 64) y.2.2 ((d.secs k y.1).map encB) :: PD p d :: F) (fun y => d.half - y.1) ?_ ?_
  · exact T_inv (0, none, 0) ⟨Nat.zero_le _, .inl rfl⟩ ⟨rfl, rfl, rfl, rfl, trivial⟩ perm_rest
  · rintro ⟨t, a, c⟩ ⟨ht, _⟩
    dsimp only at ht ⊢
    have hl := secs_length hok h4 hk t ht
    refine T_seq ?_; refine T_seq ?_; refine T_region ?_; refine T_list ?_; refine kmv rfl rfl ?_; refine T_list ?_; refine klen rfl rfl ?_; refine T_list ?_; refine kmv rfl rfl ?_; refine T_list ?_; refine kcmp rfl rfl rfl rfl ?_; refine T_nil ?_; refine T_thenN ?_
    refine T_cond rfl (fun h => ?_) (fun h => ?_) <;> simp only [decide_eq_true_eq, decide_eq_false_iff_not, ne_eq, Decidable.not_not, Bool.not_eq_true', Bool.not_eq_false', Bool.cond_eq_true_distrib, Bool.cond_eq_false_distrib] at h
    · have htl : t < d.half := by omega
      have hin : B + t < d.k.length := hB ▸ Dsk.half_le h4 hk htl
      refine T_skip ?_; refine T_thenN ?_; refine T_seq ?_; refine T_block ?_; refine T_seq ?_; refine T_region ?_; refine T_list ?_; refine kmv rfl rfl ?_; refine T_list ?_; refine kmv rfl rfl ?_
      refine T_list ?_; refine T_call rfl (dread_ctr p d ((B + t : Nat) : Int)) (by repeat (first | with_reducible apply Take.nil | apply Take.cons (by repeat (first | with_reducible apply Pick.here | with_reducible apply Pick.there)))) rfl ?_
      rintro v L' (⟨hno, _, _⟩ | ⟨_, h0, _, _⟩ | ⟨_, _, b, rfl, rfl⟩)
      · exact absurd (show d.has _ by unfold Dsk.has; omega) hno
      · exact absurd h0 hleft
      · rw [Int.toNat_natCast]
        have hat : (d.at (B + t)).length = 64 := Dsk.at_length hok hin
        simp only [List.cons_append, List.nil_append]
        refine T_list ?_; refine kmv rfl rfl ?_; refine T_list ?_; refine kex rfl rfl rfl ?_; refine T_list ?_; refine kex rfl rfl rfl ?_; refine T_list ?_; refine kas rfl rfl ?_; refine T_list ?_; refine kas rfl rfl ?_; refine T_nil ?_; refine T_thenN ?_; refine T_seq ?_; refine T_seq ?_; refine T_region ?_; refine T_list ?_; refine kmv rfl rfl ?_; refine T_list ?_; refine kcmp rfl rfl rfl rfl ?_; refine T_nil ?_; refine T_thenN ?_
        refine T_cond rfl (fun h => absurd h (by simp only [decide_eq_true_eq, decide_eq_false_iff_not, ne_eq, Decidable.not_not, Bool.not_eq_true', Bool.not_eq_false', Bool.not_true, Bool.not_false, Bool.false_eq_true, Bool.true_eq_false, not_true_eq_false, not_false_eq_true]; try omega)) (fun _ => ?_)
        refine T_skip ?_; refine T_thenN ?_; refine T_region ?_; refine T_list ?_; refine kmv rfl rfl ?_; refine T_list ?_; refine kmv rfl rfl ?_
        refine T_list ?_; refine kapR (Rd.rowAll (m := 64) (by rw [List.length_map, hat])) rfl rfl rfl (by repeat (first | with_reducible apply Pick.here | with_reducible apply Pick.there)) (by repeat (first | with_reducible apply Pick.here | with_reducible apply Pick.there)) (ones_encB _) (by omega) (by omega) (fun a2 c2 => ?_)
        rw [← List.map_append, show d.secs k t ++ d.at (B + t) = d.secs k (t + 1) by rw [Dsk.secs, hB], show t * 64 + 64 = (t + 1) * 64 by omega]
        refine T_list ?_; refine kas rfl rfl ?_; refine T_nil ?_; refine T_inN ?_; refine T_thenN ?_; refine T_region ?_; refine T_list ?_; refine kmv rfl rfl ?_; refine T_list ?_; refine kaddN rfl rfl (q := 1) rfl (by simp only [fits]; omega) ?_; refine T_list ?_; refine kas rfl rfl ?_; refine T_nil ?_; refine T_thenN ?_
        refine T_inv (t + 1, a2, c2) ⟨⟨(by first | omega | (dsimp only; omega)), (by first | omega | (dsimp only; omega))⟩, (by first | omega | (dsimp only; omega))⟩ ⟨rfl, rfl, rfl, rfl, trivial⟩ ?_
        (repeat (first | exact perm_rest | apply perm_take (by repeat (first | with_reducible apply Pick.here | with_reducible apply Pick.there)) | apply perm_drop))
    · refine T_know (p := t * 64 ≤ c) (fun w H => (Hd.openSlc H).2.1) (fun hcap => ?_)
      refine T_exit ?_; refine T_thenE ?_; refine T_thenE ?_; refine T_inE ?_; refine T_thenN ?_; refine T_seq ?_; refine T_region ?_; refine T_list ?_; refine kmv rfl rfl ?_; refine T_list ?_; refine kmv rfl rfl ?_
      refine T_list ?_; refine ksl (q := many) rfl rfl bnd_none0 (bnd_nat rfl) (Nat.zero_le _) (by omega) ?_
      rw [if_add0]
      refine T_list ?_; refine kas rfl rfl ?_; refine T_list ?_; refine kas rfl rfl ?_; refine T_nil ?_; refine T_thenN ?_; refine T_ret ?_
      have hrd : Rd (slc 5 1 a (t * 64) c ((d.secs k t).map encB)) 1 a many ((d.slotB k many).map encB) := by
        have := Rd.pre (l := d.secs k t) (q := many) (Rd.slc (t := 5) (k := 1) (a := a) (m := t * 64) (c := c)) (by omega)
        rwa [slot_take hok h4 hk ht (by omega)] at this
      refine T_fin [_, _] _ ⟨rfl, rfl, trivial⟩ ⟨a, c, _, rfl, by omega, hrd, rfl⟩ ?_
      (repeat (first | exact perm_rest | apply perm_take (by repeat (first | with_reducible apply Pick.here | with_reducible apply Pick.there)) | apply perm_drop))
end Go.Proofs
namespace Go.Proofs
set_option linter.unnecessarySimpa false
open Go Go.Sl
attribute [local irreducible] Still T opO Sl.Inv row slc wpSeq Code.wp wpList Exit.then Exit.inBlock
set_option linter.unusedVariables false
set_option linter.unusedSimpArgs false
set_option maxRecDepth 4000
set_option maxHeartbeats 1000000 in
theorem slot_ctr (p : Nat) (d : Dsk) (h4 : 4 ≤ d.k.length) (hleft : d.left ≠ 0) (k many : Nat) (hk : k ≤ 1) (hm : many ≤ d.half * 64) :
    Ctr Tryd.prog 31 [.pointer (some ⟨p, 0, none⟩), .int .i64 (k : Nat), .int .i64 (many : Nat)] [RD p d]
    (fun v L => ∃ a c A, v = .slice a many c ∧ Rd A 1 a many ((d.slotB k many).map encB) ∧ L = [A, RD p d]) := by
  refine Ctr.of Tryd.func31 rfl rfl (fun w F => ?_)
  simp only [Tryd.ntmps31, env0, List.cons_append, List.nil_append]
  refine T_know (p := d.ok) (fun w H => by obtain ⟨x, hx, _⟩ := (Pick.here.back H).openAb; exact hx.ok) (fun hok => ?_)
  have hfew := hok.few
  have hhalf : d.half ≤ 255 := by unfold Dsk.half; omega
  have hkm : k * d.half ≤ 1 * d.half := Nat.mul_le_mul_right _ hk
  refine T_seq ?_; refine T_region ?_; refine T_list ?_; refine kas rfl rfl ?_; refine T_nil ?_; refine T_thenN ?_; refine T_seq ?_; refine T_region ?_; refine T_list ?_; refine kas rfl rfl ?_; refine T_nil ?_; refine T_thenN ?_; refine T_seq ?_; refine T_seq ?_; refine T_region ?_; refine T_list ?_; refine kas rfl rfl ?_; refine T_nil ?_; refine T_thenN ?_; refine T_block ?_
  refine T_nilS 5 1 ?_
  refine T_loop (ι := Nat × Option Addr × Nat) (fun y => y.1 ≤ d.half) (fun y => [(7, .slice y.2.1 (y.1 * 64) y.2.2), (8, .int .i64 (y.1 : Nat)), (2, .int .i64 (many : Nat)), (0, .pointer (some ⟨p, 0, none⟩)), (1, .int .i64 (k : Nat))])
    (fun y => slc 5 1 y.2.1 (y.1 * 64) y.2.2 ((d.secs k y.1).map encB) :: RD p d :: F) (fun y => d.half - y.1) ?_ ?_
  · exact T_inv (0, none, 0) (Nat.zero_le _) ⟨rfl, rfl, rfl, rfl, rfl, trivial⟩ perm_rest
  · rintro ⟨t, a, c⟩ ht
    dsimp only at ht ⊢
    have hl := secs_length hok h4 hk t ht
    refine T_seq ?_; refine T_seq ?_; refine T_region ?_; refine T_list ?_; refine kmv rfl rfl ?_; refine T_list ?_; refine kmv rfl rfl ?_
    refine T_list ?_; refine T_call rfl (rhalf_ctr p d (by omega)) (by repeat (first | with_reducible apply Take.nil | apply Take.cons (by repeat (first | with_reducible apply Pick.here | with_reducible apply Pick.there)))) rfl ?_
    rintro v L' ⟨rfl, rfl⟩
    simp only [List.cons_append, List.nil_append]
    rw [show (d.k.length - 2) / 2 = d.half from rfl]
    refine T_list ?_; refine kcmp rfl rfl rfl rfl ?_; refine T_nil ?_; refine T_thenN ?_
    refine T_cond rfl (fun h => ?_) (fun h => ?_) <;> simp only [decide_eq_true_eq, decide_eq_false_iff_not, ne_eq, Decidable.not_not, Bool.not_eq_true', Bool.not_eq_false', Bool.cond_eq_true_distrib, Bool.cond_eq_false_distrib] at h
    · have htl : t < d.half := by omega
      have hin : 2 + k * d.half + t < d.k.length := Dsk.half_le h4 hk htl
      refine T_skip ?_; refine T_thenN ?_; refine T_seq ?_; refine T_block ?_; refine T_seq ?_; refine T_region ?_; refine T_list ?_; refine kmv rfl rfl ?_; refine T_list ?_; refine kmv rfl rfl ?_; refine T_list ?_; refine kmv rfl rfl ?_
      refine T_list ?_; refine T_call rfl (rhalf_ctr p d (by omega)) (by repeat (first | with_reducible apply Take.nil | apply Take.cons (by repeat (first | with_reducible apply Pick.here | with_reducible apply Pick.there)))) rfl ?_
      rintro v L' ⟨rfl, rfl⟩
      simp only [List.cons_append, List.nil_append]
      rw [show (d.k.length - 2) / 2 = d.half from rfl]
      refine T_list ?_; refine kmulN rfl rfl rfl (by simp only [fits]; omega) ?_; refine T_list ?_; refine kaddN rfl (p := 2) rfl rfl (by simp only [fits]; omega) ?_; refine T_list ?_; refine kmv rfl rfl ?_; refine T_list ?_; refine kaddN rfl rfl rfl (by simp only [fits]; omega) ?_
      generalize hB : 2 + k * d.half = B at *
      refine T_list ?_; refine T_call rfl (rread_ctr p d ((B + t : Nat) : Int)) (by repeat (first | with_reducible apply Take.nil | apply Take.cons (by repeat (first | with_reducible apply Pick.here | with_reducible apply Pick.there)))) rfl ?_
      rintro v L' (⟨hno, _, _⟩ | ⟨_, h0, _, _⟩ | ⟨_, _, x, a1, c1, hx, hmem, rfl, rfl⟩)
      · exact absurd (show d.has _ by unfold Dsk.has; omega) hno
      · exact absurd h0 hleft
      · rw [Int.toNat_natCast] at hmem
        have hat : (d.at (B + t)).length = 64 := Dsk.at_length hok hin
        simp only [rdL, List.cons_append, List.nil_append]
        refine T_list ?_; refine kmv rfl rfl ?_; refine T_list ?_; refine kex rfl rfl rfl ?_; refine T_list ?_; refine kex rfl rfl rfl ?_; refine T_list ?_; refine kas rfl rfl ?_; refine T_list ?_; refine kas rfl rfl ?_; refine T_nil ?_; refine T_thenN ?_; refine T_region ?_; refine T_list ?_; refine kmv rfl rfl ?_; refine T_list ?_; refine kmv rfl rfl ?_
        refine T_list ?_; refine kapR (arena_rd hmem) rfl rfl rfl (by repeat (first | with_reducible apply Pick.here | with_reducible apply Pick.there)) (by repeat (first | with_reducible apply Pick.here | with_reducible apply Pick.there)) (ones_encB _) (by omega) (by omega) (fun a2 c2 => ?_)
        rw [← List.map_append, show d.secs k t ++ d.at (B + t) = d.secs k (t + 1) by rw [Dsk.secs, hB], show t * 64 + 64 = (t + 1) * 64 by omega]
        refine T_list ?_; refine kas rfl rfl ?_; refine T_nil ?_; refine T_inN ?_; refine T_thenN ?_; refine T_region ?_; refine T_list ?_; refine kmv rfl rfl ?_; refine T_list ?_; refine kaddN rfl rfl (q := 1) rfl (by simp only [fits]; omega) ?_; refine T_list ?_; refine kas rfl rfl ?_; refine T_nil ?_; refine T_thenN ?_
        refine T_close (R := rdR d) (Ls := rdL p d) x hx (by repeat (first | with_reducible apply Take.nil | apply Take.cons (by repeat (first | with_reducible apply Pick.here | ((with_reducible refine Pick.rowE ?_); rfl) | ((with_reducible refine Pick.slcE ?_ ?_ ?_) <;> rfl) | ((with_reducible refine Pick.imapE ?_); rfl) | with_reducible apply Pick.there)))) ?_
        refine T_inv (t + 1, a2, c2) ⟨(by first | omega | (dsimp only; omega)), (by first | omega | (dsimp only; omega))⟩ ⟨rfl, rfl, rfl, rfl, rfl, trivial⟩ ?_
        (repeat (first | exact perm_rest | apply perm_take (by repeat (first | with_reducible apply Pick.here | with_reducible apply Pick.there)) | apply perm_drop))
    · refine T_know (p := t * 64 ≤ c) (fun w H => (Hd.openSlc (Hd.drop H)).2.1) (fun hcap => ?_)
      refine T_exit ?_; refine T_thenE ?_; refine T_thenE ?_; refine T_inE ?_; refine T_thenN ?_; refine T_seq ?_; refine T_region ?_; refine T_list ?_; refine kmv rfl rfl ?_; refine T_list ?_; refine kmv rfl rfl ?_
      refine T_list ?_; refine ksl (q := many) rfl rfl bnd_none0 (bnd_nat rfl) (Nat.zero_le _) (by omega) ?_
      rw [if_add0]
      refine T_list ?_; refine kas rfl rfl ?_; refine T_nil ?_; refine T_thenN ?_; refine T_ret ?_
      have hrd : Rd (slc 5 1 a (t * 64) c ((d.secs k t).map encB)) 1 a many ((d.slotB k many).map encB) := by
        have := Rd.pre (l := d.secs k t) (q := many) (Rd.slc (t := 5) (k := 1) (a := a) (m := t * 64) (c := c)) (by omega)
        rwa [slot_take hok h4 hk ht (by omega)] at this
      refine T_fin [_] _ ⟨rfl, trivial⟩ ⟨a, c, _, rfl, hrd, rfl⟩ ?_
      (repeat (first | exact perm_rest | apply perm_take (by repeat (first | with_reducible apply Pick.here | with_reducible apply Pick.there)) | apply perm_drop))
end Go.Proofs
namespace Go.Proofs
set_option linter.unusedSimpArgs false
set_option linter.unnecessarySimpa false
open Go Go.Sl
set_option linter.unusedVariables false
/-- What a store's newest head tells. -/
structure Sto where
  age : Nat
  has : Bool
  image : Bytes
def Dsk.hAge (d : Dsk) (k : Nat) : Nat := leNum (((d.at k).drop 4).take 8)
def Dsk.hFlag (d : Dsk) (k : Nat) : Nat := leNum (((d.at k).drop 12).take 1)
def Dsk.hMany (d : Dsk) (k : Nat) : Nat := leNum (((d.at k).drop 13).take 4)
/-- A head that can count. -/
def Dsk.hCan (d : Dsk) (k : Nat) : Prop := 1 ≤ d.hAge k ∧ d.hAge k ≤ 1099511627776 ∧ d.hAge k % 2 = k ∧ d.hMany k ≤ 64 * d.half ∧ (0 < d.hMany k → d.hFlag k = 1)
instance (d : Dsk) (k : Nat) : Decidable (d.hCan k) := by unfold Dsk.hCan; exact inferInstance
/-- What a head's sector tells: nothing, or a store. -/
def Dsk.told (d : Dsk) (k : Nat) : Option Sto :=
  if d.hCan k ∧ d.at k = pad (headB (d.hAge k) (d.hFlag k == 1) (d.slotB k (d.hMany k))) then some ⟨d.hAge k, d.hFlag k == 1, d.slotB k (d.hMany k)⟩ else none
/-- The store that lies on a disk. -/
def Dsk.found (d : Dsk) : Sto :=
  let s0 : Sto := ⟨0, false, []⟩
  let s1 := match d.told 0 with | some s => if s0.age < s.age then s else s0 | none => s0
  match d.told 1 with | some s => if s1.age < s.age then s else s1 | none => s1
abbrev stR (st : Sto) (x : Option Addr × Nat × SP) : Prop := Rd x.2.2 1 x.1 st.image.length (st.image.map encB) ∧ st.age ≤ 1099511627776 ∧ st.image.length ≤ 100000
abbrev psL (s p : Nat) (st : Sto) (x : Option Addr × Nat × SP) : List SP := [row s 65 [.int .i64 (st.age : Nat), .bool st.has, .slice x.1 st.image.length x.2.1, .pointer (some ⟨p, 0, none⟩)], x.2.2]
/-- The program's store. -/
abbrev PS (s p : Nat) (st : Sto) : SP := sAb (stR st) (psL s p st)
abbrev rsL (s p : Nat) (st : Sto) (x : Option Addr × Nat × SP) : List SP := [row s 47 [.pointer (some ⟨p, 0, none⟩), .int .i64 (st.age : Nat), .bool st.has, .slice x.1 st.image.length x.2.1], x.2.2]
/-- The document's store. -/
abbrev RS (s p : Nat) (st : Sto) : SP := sAb (stR st) (rsL s p st)
end Go.Proofs
namespace Go.Proofs
set_option linter.unusedSimpArgs false
set_option linter.unnecessarySimpa false
open Go Go.Sl
set_option linter.unusedVariables false
def chunk (image : Bytes) (i : Nat) : Bytes := (image.drop (64 * i)).take 64
def chunks (image : Bytes) : Nat := (image.length + 63) / 64
def Dsk.writes (base : Nat) (image : Bytes) : Nat → Nat → Dsk → Int × Dsk
  | 0, _, d => (0, d)
  | n + 1, i, d => if (d.write ((base + i : Nat) : Int) (chunk image i)).1 = 0 then Dsk.writes base image n (i + 1) (d.write ((base + i : Nat) : Int) (chunk image i)).2
    else d.write ((base + i : Nat) : Int) (chunk image i)
structure Res where
  e : Int
  d : Dsk
  st : Sto
def Dsk.headed (d : Dsk) (st h : Sto) : Res :=
  if (d.write ((h.age % 2 : Nat) : Int) (pad (headB h.age h.has h.image))).1 = 0 then
    if (d.write ((h.age % 2 : Nat) : Int) (pad (headB h.age h.has h.image))).2.flush.1 = 0 then ⟨0, (d.write ((h.age % 2 : Nat) : Int) (pad (headB h.age h.has h.image))).2.flush.2, h⟩
    else ⟨(d.write ((h.age % 2 : Nat) : Int) (pad (headB h.age h.has h.image))).2.flush.1, (d.write ((h.age % 2 : Nat) : Int) (pad (headB h.age h.has h.image))).2.flush.2, st⟩
  else ⟨(d.write ((h.age % 2 : Nat) : Int) (pad (headB h.age h.has h.image))).1, (d.write ((h.age % 2 : Nat) : Int) (pad (headB h.age h.has h.image))).2, st⟩
def Dsk.body (d : Dsk) (st : Sto) (image : Bytes) : Int × Dsk := d.writes (2 + (st.age + 1) % 2 * d.half) image (chunks image) 0
def Dsk.commit (d : Dsk) (st : Sto) (image : Bytes) : Res :=
  if 64 * d.half < image.length then ⟨22, d, st⟩
  else if st.age = 1099511627776 then ⟨6, d, st⟩
  else if (d.body st image).1 = 0 then
    if (d.body st image).2.flush.1 = 0 then (d.body st image).2.flush.2.headed st ⟨st.age + 1, true, image⟩
    else ⟨(d.body st image).2.flush.1, (d.body st image).2.flush.2, st⟩
  else ⟨(d.body st image).1, (d.body st image).2, st⟩
def Dsk.delete (d : Dsk) (st : Sto) : Res :=
  if st.has = false then ⟨8, d, st⟩
  else if st.age = 1099511627776 then ⟨6, d, st⟩
  else d.headed st ⟨st.age + 1, false, []⟩
structure Like (d e : Dsk) : Prop where
  len : e.k.length = d.k.length
theorem Like.refl (d : Dsk) : Like d d := ⟨rfl⟩
theorem Like.trans {a b c : Dsk} (h : Like a b) (k : Like b c) : Like a c := ⟨k.len.trans h.len⟩
theorem Like.half {d e : Dsk} (h : Like d e) : e.half = d.half := by unfold Dsk.half; rw [h.len]
theorem like_write (d : Dsk) (i : Int) (b : Bytes) : Like d (d.write i b).2 := by
  unfold Dsk.write; split
  · exact .refl _
  · split
    · exact ⟨rfl⟩
    · split <;> exact ⟨rfl⟩
theorem like_flush {d : Dsk} (h : d.ok) : Like d d.flush.2 := by
  unfold Dsk.flush; split
  · exact .refl _
  · exact ⟨by simp [Dsk.flushed, Dsk.tick, h.len]⟩
theorem writes_ok (base : Nat) (image : Bytes) : ∀ (n i : Nat) {d : Dsk}, d.ok → (d.writes base image n i).2.ok ∧ Like d (d.writes base image n i).2
  | 0, _, d, h => ⟨h, .refl _⟩
  | n + 1, i, d, h => by
    rw [Dsk.writes]; split
    · obtain ⟨h1, h2⟩ := writes_ok base image n (i + 1) (h.write _ _)
      exact ⟨h1, (like_write _ _ _).trans h2⟩
    · exact ⟨h.write _ _, like_write _ _ _⟩
theorem body_ok {d : Dsk} (h : d.ok) (st : Sto) (image : Bytes) : (d.body st image).2.ok ∧ Like d (d.body st image).2 := writes_ok _ _ _ _ h
theorem seal_ok {d : Dsk} (h : d.ok) (st hd : Sto) : (d.headed st hd).d.ok ∧ Like d (d.headed st hd).d := by
  have h1 := h.write ((hd.age % 2 : Nat) : Int) (pad (headB hd.age hd.has hd.image))
  have h2 := like_write d ((hd.age % 2 : Nat) : Int) (pad (headB hd.age hd.has hd.image))
  unfold Dsk.headed; split
  · split <;> exact ⟨h1.flush, h2.trans (like_flush h1)⟩
  · exact ⟨h1, h2⟩
theorem seal_st (d : Dsk) (st hd : Sto) : (d.headed st hd).st = st ∨ (d.headed st hd).st = hd := by
  unfold Dsk.headed; split
  · split <;> simp
  · simp
theorem commit_ok {d : Dsk} (h : d.ok) (st : Sto) (image : Bytes) : (d.commit st image).d.ok ∧ Like d (d.commit st image).d := by
  obtain ⟨h1, h2⟩ := body_ok h st image
  unfold Dsk.commit; split
  · exact ⟨h, .refl _⟩
  · split
    · exact ⟨h, .refl _⟩
    · split
      · split
        · obtain ⟨h3, h4⟩ := seal_ok h1.flush st ⟨st.age + 1, true, image⟩
          exact ⟨h3, (h2.trans (like_flush h1)).trans h4⟩
        · exact ⟨h1.flush, h2.trans (like_flush h1)⟩
      · exact ⟨h1, h2⟩
theorem delete_ok {d : Dsk} (h : d.ok) (st : Sto) : (d.delete st).d.ok ∧ Like d (d.delete st).d := by
  unfold Dsk.delete; split
  · exact ⟨h, .refl _⟩
  · split
    · exact ⟨h, .refl _⟩
    · exact seal_ok h _ _
theorem chunk_length (image : Bytes) (i : Nat) : (chunk image i).length = min 64 (image.length - 64 * i) := by simp [chunk]
/-- What a store can be, on a disk. -/
structure Sto.ok (st : Sto) (half : Nat) : Prop where
  age : st.age ≤ 1099511627776
  image : st.image.length ≤ 64 * half
theorem commit_st {d : Dsk} {st : Sto} (h : st.ok d.half) (image : Bytes) : (d.commit st image).st.ok d.half := by
  unfold Dsk.commit; split
  · exact h
  · split
    · exact h
    · split
      · split
        · rcases seal_st (d.body st image).2.flush.2 st ⟨st.age + 1, true, image⟩ with e | e
          · rw [e]; exact h
          · rw [e]; have := h.age; exact ⟨by dsimp only; omega, by dsimp only; omega⟩
        · exact h
      · exact h
theorem delete_st {d : Dsk} {st : Sto} (h : st.ok d.half) : (d.delete st).st.ok d.half := by
  unfold Dsk.delete; split
  · exact h
  · split
    · exact h
    · rcases seal_st d st ⟨st.age + 1, false, []⟩ with e | e
      · rw [e]; exact h
      · rw [e]; have := h.age; exact ⟨by dsimp only; omega, by simp⟩
theorem told_ok {d : Dsk} {k : Nat} {st : Sto} (hok : d.ok) (h4 : 4 ≤ d.k.length) (hk : k ≤ 1) (h : d.told k = some st) : st.ok d.half := by
  unfold Dsk.told at h
  split at h
  · rename_i hc
    obtain ⟨⟨q1, q2, q3, q4, q5⟩, _⟩ := hc
    cases h
    exact ⟨q2, by dsimp only; rw [slotB_length hok h4 hk (by omega)]; exact q4⟩
  · cases h
def better (s0 : Sto) : Option Sto → Sto
  | some s => if s0.age < s.age then s else s0
  | none => s0
theorem better_ok {s0 : Sto} {half : Nat} {o : Option Sto} (h0 : s0.ok half) (h : ∀ s, o = some s → s.ok half) : (better s0 o).ok half := by
  cases o with
  | none => exact h0
  | some s => rw [better]; split
              · exact h s rfl
              · exact h0
theorem found_better (d : Dsk) : d.found = better (better ⟨0, false, []⟩ (d.told 0)) (d.told 1) := by
  unfold Dsk.found better
  rfl
theorem found_ok {d : Dsk} (hok : d.ok) (h4 : 4 ≤ d.k.length) : d.found.ok d.half := by
  rw [found_better]
  exact better_ok (better_ok ⟨by simp, by simp⟩ (fun s h => told_ok hok h4 (by decide) h)) (fun s h => told_ok hok h4 (by decide) h)
end Go.Proofs
namespace Go.Proofs
set_option linter.unnecessarySimpa false
open Go Go.Sl
attribute [local irreducible] Still T opO Sl.Inv row slc wpSeq Code.wp wpList Exit.then Exit.inBlock
set_option linter.unusedVariables false
set_option linter.unusedSimpArgs false
set_option maxRecDepth 4000
theorem rread_x (p : Nat) (d : Dsk) (x : RX) (hx : rdR d x) (j : Nat) (hj : j < d.k.length) (h0 : d.left ≠ 0) : Ctr Tryd.prog 29 [.pointer (some ⟨p, 0, none⟩), .int .i64 (j : Nat)] (rdL p d x)
    (fun v L => ∃ a c, (a, c, d.at j) ∈ x.ar ∧ v = .tuple [.slice a 64 c, .int .i64 0].toArray ∧ L = rdL p d x) := by
  refine Ctr.of Tryd.func29 rfl rfl (fun w F => ?_)
  simp only [Tryd.ntmps29, env0, List.cons_append, List.nil_append, rdL]
  refine T_seq ?_; refine T_region ?_; refine T_list ?_; refine kas rfl rfl ?_; refine T_list ?_; refine kas rfl rfl ?_; refine T_nil ?_; refine T_thenN ?_; refine T_seq ?_; refine T_seq ?_; refine T_region ?_; refine T_list ?_; refine kmv rfl rfl ?_; refine T_list ?_; refine kcmpF rfl rfl rfl rfl (decide_eq_false (show ¬ (j : Int) < 0 by omega)) ?_; refine T_list ?_; refine kmv rfl rfl ?_; refine T_guardY rfl rfl rfl ?_; refine T_list ?_; refine kmv rfl rfl ?_; refine T_guardY rfl rfl rfl ?_; refine T_list ?_; refine kmv rfl rfl ?_; refine T_guardY rfl rfl rfl ?_; refine T_list ?_; refine knc rfl rfl ?_; refine T_guardY rfl rfl rfl ?_; refine T_list ?_; refine kfd rfl rfl ?_; refine T_guardY rfl rfl rfl ?_; refine T_list ?_; refine kld rfl rfl (by repeat (first | with_reducible apply Pick.here | with_reducible apply Pick.there)) rfl ?_; refine T_guardY rfl rfl rfl ?_; refine T_list ?_; refine klen rfl rfl ?_; refine T_guardY rfl rfl rfl ?_; refine T_list ?_; refine kcmp rfl rfl rfl rfl ?_; refine T_list ?_; refine kpF rfl rfl rfl ?_; refine T_nil ?_; refine T_thenN ?_
  refine T_cond rfl (fun hc => absurd hc (by simp; omega)) (fun _ => ?_)
  refine T_skip ?_; refine T_thenN ?_; refine T_seq ?_; refine T_seq ?_; refine T_region ?_; refine T_list ?_; refine kmv rfl rfl ?_; refine T_list ?_; refine knc rfl rfl ?_; refine T_list ?_; refine kfd rfl rfl ?_; refine T_list ?_; refine kld rfl rfl (by repeat (first | with_reducible apply Pick.here | with_reducible apply Pick.there)) rfl ?_; refine T_list ?_; refine kcmpF rfl rfl rfl rfl (decide_eq_false h0) ?_; refine T_nil ?_; refine T_thenN ?_
  refine T_condF rfl ?_
  refine T_skip ?_; refine T_thenN ?_; refine T_seq ?_; refine T_seq ?_; refine T_region ?_; refine T_list ?_; refine kmv rfl rfl ?_; refine T_list ?_; refine knc rfl rfl ?_; refine T_list ?_; refine kfd rfl rfl ?_; refine T_list ?_; refine kld rfl rfl (by repeat (first | with_reducible apply Pick.here | with_reducible apply Pick.there)) rfl ?_; refine T_list ?_; refine kmv rfl rfl ?_; refine T_list ?_; refine kix1 rfl rfl rfl (by repeat (first | with_reducible apply Pick.here | with_reducible apply Pick.there)) hj ?_; refine T_list ?_; refine kldS rfl rfl (by repeat (first | with_reducible apply Pick.here | with_reducible apply Pick.there)) (hx.getI hj) ?_; refine T_nil ?_; refine T_thenN ?_
  refine T_cond rfl (fun hc => ?_) (fun hc => ?_)
  · obtain ⟨s, hs⟩ := Option.isSome_iff_exists.1 hc
    obtain ⟨a, c, e, hm⟩ := hx.secW j s hs
    have hat : d.at j = s := by unfold Dsk.at; rw [hs]; rfl
    refine T_seq ?_; refine T_region ?_; refine T_list ?_; refine kmv rfl rfl ?_; refine T_list ?_; refine knc rfl rfl ?_; refine T_list ?_; refine kfd rfl rfl ?_; refine T_list ?_; refine kld rfl rfl (by repeat (first | with_reducible apply Pick.here | with_reducible apply Pick.there)) rfl ?_; refine T_list ?_; refine kmv rfl rfl ?_; refine T_list ?_; refine kix1 rfl rfl rfl (by repeat (first | with_reducible apply Pick.here | with_reducible apply Pick.there)) hj ?_; refine T_list ?_; refine kldS rfl rfl (by repeat (first | with_reducible apply Pick.here | with_reducible apply Pick.there)) (hx.getW hj) ?_; refine T_list ?_; refine kas rfl rfl ?_; refine T_list ?_; refine kas rfl rfl ?_; refine T_nil ?_; refine T_thenN ?_; refine T_ret ?_; refine T_thenR ?_
    refine T_fin [_, _] _ ⟨rfl, rfl, trivial⟩ ⟨a, c, by rw [hat]; exact hm, by rw [e]; rfl, rfl⟩ ?_
    (repeat (first | exact perm_rest | apply perm_take (by repeat (first | with_reducible apply Pick.here | with_reducible apply Pick.there)) | apply perm_drop))
  · have hs : d.w.getD j none = none := by simpa using hc
    obtain ⟨a, c, e, hm⟩ := hx.secK j hj
    have hat : d.at j = d.k.getD j [] := by unfold Dsk.at; rw [hs]; rfl
    refine T_skip ?_; refine T_thenN ?_; refine T_seq ?_; refine T_region ?_; refine T_list ?_; refine kmv rfl rfl ?_; refine T_list ?_; refine knc rfl rfl ?_; refine T_list ?_; refine kfd rfl rfl ?_; refine T_list ?_; refine kld rfl rfl (by repeat (first | with_reducible apply Pick.here | with_reducible apply Pick.there)) rfl ?_; refine T_list ?_; refine kmv rfl rfl ?_; refine T_list ?_; refine kix1 rfl rfl rfl (by repeat (first | with_reducible apply Pick.here | with_reducible apply Pick.there)) hj ?_; refine T_list ?_; refine kldS rfl rfl (by repeat (first | with_reducible apply Pick.here | with_reducible apply Pick.there)) (hx.getK hj) ?_; refine T_list ?_; refine kas rfl rfl ?_; refine T_list ?_; refine kas rfl rfl ?_; refine T_nil ?_; refine T_thenN ?_; refine T_ret ?_
    refine T_fin [_, _] _ ⟨rfl, rfl, trivial⟩ ⟨a, c, by rw [hat]; exact hm, by rw [e]; rfl, rfl⟩ ?_
    (repeat (first | exact perm_rest | apply perm_take (by repeat (first | with_reducible apply Pick.here | with_reducible apply Pick.there)) | apply perm_drop))
theorem rhalf_x (p : Nat) (d : Dsk) (x : RX) (hx : rdR d x) (h : 2 ≤ d.k.length) : Ctr Tryd.prog 22 [.pointer (some ⟨p, 0, none⟩)] (rdL p d x) (fun v L => v = .int .i64 ((d.half : Nat) : Int) ∧ L = rdL p d x) := by
  refine Ctr.of Tryd.func22 rfl rfl (fun w F => ?_)
  simp only [Tryd.ntmps22, env0, List.cons_append, List.nil_append, rdL]
  have hfew := hx.ok.few
  refine T_seq ?_; refine T_region ?_; refine T_list ?_; refine kas rfl rfl ?_; refine T_nil ?_; refine T_thenN ?_; refine T_seq ?_; refine T_region ?_; refine T_list ?_; refine kmv rfl rfl ?_; refine T_list ?_; refine knc rfl rfl ?_; refine T_list ?_; refine kfd rfl rfl ?_; refine T_list ?_; refine kld rfl rfl (by repeat (first | with_reducible apply Pick.here | with_reducible apply Pick.there)) rfl ?_; refine T_list ?_; refine klen rfl rfl ?_; refine T_list ?_; refine ksubN rfl rfl (q := 2) rfl (by omega) (by simp only [fits]; omega) ?_; refine T_list ?_; refine kquoN rfl rfl (q := 2) rfl rfl (by simp only [fits]; omega) ?_; refine T_list ?_; refine kas rfl rfl ?_; refine T_nil ?_; refine T_thenN ?_; refine T_ret ?_
  exact T_fin [_] _ ⟨rfl, trivial⟩ ⟨rfl, rfl⟩ perm_rest
set_option maxHeartbeats 1000000 in
theorem slot_x (p : Nat) (d : Dsk) (x : RX) (hx : rdR d x) (h4 : 4 ≤ d.k.length) (hleft : d.left ≠ 0) (k many : Nat) (hk : k ≤ 1) (hm : many ≤ d.half * 64) :
    Ctr Tryd.prog 31 [.pointer (some ⟨p, 0, none⟩), .int .i64 (k : Nat), .int .i64 (many : Nat)] (rdL p d x)
    (fun v L => ∃ a c A, v = .slice a many c ∧ Rd A 1 a many ((d.slotB k many).map encB) ∧ L = A :: rdL p d x) := by
  refine Ctr.of Tryd.func31 rfl rfl (fun w F => ?_)
  simp only [Tryd.ntmps31, env0, List.cons_append, List.nil_append, rdL]
  have hok := hx.ok
  have hfew := hok.few
  have hhalf : d.half ≤ 255 := by unfold Dsk.half; omega
  have hkm : k * d.half ≤ 1 * d.half := Nat.mul_le_mul_right _ hk
  refine T_seq ?_; refine T_region ?_; refine T_list ?_; refine kas rfl rfl ?_; refine T_nil ?_; refine T_thenN ?_; refine T_seq ?_; refine T_region ?_; refine T_list ?_; refine kas rfl rfl ?_; refine T_nil ?_; refine T_thenN ?_; refine T_seq ?_; refine T_seq ?_; refine T_region ?_; refine T_list ?_; refine kas rfl rfl ?_; refine T_nil ?_; refine T_thenN ?_; refine T_block ?_
  refine T_nilS 5 1 ?_
  refine T_loop (ι := Nat × Option Addr × Nat) (fun y => y.1 ≤ d.half) (fun y => [(7, .slice y.2.1 (y.1 * 64) y.2.2), (8, .int .i64 (y.1 : Nat)), (2, .int .i64 (many : Nat)), (0, .pointer (some ⟨p, 0, none⟩)), (1, .int .i64 (k : Nat))])
    (fun y => slc 5 1 y.2.1 (y.1 * 64) y.2.2 ((d.secs k y.1).map encB) :: (rdL p d x ++ F)) (fun y => d.half - y.1) ?_ ?_
  · exact T_inv (0, none, 0) (Nat.zero_le _) ⟨rfl, rfl, rfl, rfl, rfl, trivial⟩ perm_rest
  · rintro ⟨t, a, c⟩ ht
    dsimp only at ht ⊢
    simp only [rdL, List.cons_append, List.nil_append]
    have hl := secs_length hok h4 hk t ht
    refine T_seq ?_; refine T_seq ?_; refine T_region ?_; refine T_list ?_; refine kmv rfl rfl ?_; refine T_list ?_; refine kmv rfl rfl ?_
    refine T_list ?_; refine T_call rfl (rhalf_x p d x hx (by omega)) (by repeat (first | with_reducible apply Take.nil | apply Take.cons (by repeat (first | with_reducible apply Pick.here | with_reducible apply Pick.there)))) rfl ?_
    rintro v L' ⟨rfl, rfl⟩
    simp only [rdL, List.cons_append, List.nil_append]
    refine T_list ?_; refine kcmp rfl rfl rfl rfl ?_; refine T_nil ?_; refine T_thenN ?_
    refine T_cond rfl (fun h => ?_) (fun h => ?_) <;> simp only [decide_eq_true_eq, decide_eq_false_iff_not, ne_eq, Decidable.not_not, Bool.not_eq_true', Bool.not_eq_false', Bool.cond_eq_true_distrib, Bool.cond_eq_false_distrib] at h
    · have htl : t < d.half := by omega
      have hin : 2 + k * d.half + t < d.k.length := Dsk.half_le h4 hk htl
      refine T_skip ?_; refine T_thenN ?_; refine T_seq ?_; refine T_block ?_; refine T_seq ?_; refine T_region ?_; refine T_list ?_; refine kmv rfl rfl ?_; refine T_list ?_; refine kmv rfl rfl ?_; refine T_list ?_; refine kmv rfl rfl ?_
      refine T_list ?_; refine T_call rfl (rhalf_x p d x hx (by omega)) (by repeat (first | with_reducible apply Take.nil | apply Take.cons (by repeat (first | with_reducible apply Pick.here | with_reducible apply Pick.there)))) rfl ?_
      rintro v L' ⟨rfl, rfl⟩
      simp only [rdL, List.cons_append, List.nil_append]
      refine T_list ?_; refine kmulN rfl rfl rfl (by simp only [fits]; omega) ?_; refine T_list ?_; refine kaddN rfl (p := 2) rfl rfl (by simp only [fits]; omega) ?_; refine T_list ?_; refine kmv rfl rfl ?_; refine T_list ?_; refine kaddN rfl rfl rfl (by simp only [fits]; omega) ?_
      generalize hB : 2 + k * d.half = B at *
      refine T_list ?_; refine T_call rfl (rread_x p d x hx (B + t) hin hleft) (by repeat (first | with_reducible apply Take.nil | apply Take.cons (by repeat (first | with_reducible apply Pick.here | with_reducible apply Pick.there)))) rfl ?_
      rintro v L' ⟨a1, c1, hmem, rfl, rfl⟩
      · have hat : (d.at (B + t)).length = 64 := Dsk.at_length hok hin
        simp only [rdL, List.cons_append, List.nil_append]
        refine T_list ?_; refine kmv rfl rfl ?_; refine T_list ?_; refine kex rfl rfl rfl ?_; refine T_list ?_; refine kex rfl rfl rfl ?_; refine T_list ?_; refine kas rfl rfl ?_; refine T_list ?_; refine kas rfl rfl ?_; refine T_nil ?_; refine T_thenN ?_; refine T_region ?_; refine T_list ?_; refine kmv rfl rfl ?_; refine T_list ?_; refine kmv rfl rfl ?_
        refine T_list ?_; refine kapR (arena_rd hmem) rfl rfl rfl (by repeat (first | with_reducible apply Pick.here | with_reducible apply Pick.there)) (by repeat (first | with_reducible apply Pick.here | with_reducible apply Pick.there)) (ones_encB _) (by omega) (by omega) (fun a2 c2 => ?_)
        rw [← List.map_append, show d.secs k t ++ d.at (B + t) = d.secs k (t + 1) by rw [Dsk.secs, hB], show t * 64 + 64 = (t + 1) * 64 by omega]
        refine T_list ?_; refine kas rfl rfl ?_; refine T_nil ?_; refine T_inN ?_; refine T_thenN ?_; refine T_region ?_; refine T_list ?_; refine kmv rfl rfl ?_; refine T_list ?_; refine kaddN rfl rfl (q := 1) rfl (by simp only [fits]; omega) ?_; refine T_list ?_; refine kas rfl rfl ?_; refine T_nil ?_; refine T_thenN ?_
        refine T_inv (t + 1, a2, c2) ⟨(by first | omega | (dsimp only; omega)), (by first | omega | (dsimp only; omega))⟩ ⟨rfl, rfl, rfl, rfl, rfl, trivial⟩ ?_
        (repeat (first | exact perm_rest | apply perm_take (by repeat (first | with_reducible apply Pick.here | with_reducible apply Pick.there)) | apply perm_drop))
    · refine T_know (p := t * 64 ≤ c) (fun w H => (Hd.openSlc (Hd.drop (Hd.drop (Hd.drop (Hd.drop (Hd.drop H)))))).2.1) (fun hcap => ?_)
      refine T_exit ?_; refine T_thenE ?_; refine T_thenE ?_; refine T_inE ?_; refine T_thenN ?_; refine T_seq ?_; refine T_region ?_; refine T_list ?_; refine kmv rfl rfl ?_; refine T_list ?_; refine kmv rfl rfl ?_
      refine T_list ?_; refine ksl (q := many) rfl rfl bnd_none0 (bnd_nat rfl) (Nat.zero_le _) (by omega) ?_
      rw [if_add0]
      refine T_list ?_; refine kas rfl rfl ?_; refine T_nil ?_; refine T_thenN ?_; refine T_ret ?_
      have hrd : Rd (slc 5 1 a (t * 64) c ((d.secs k t).map encB)) 1 a many ((d.slotB k many).map encB) := by
        have := Rd.pre (l := d.secs k t) (q := many) (Rd.slc (t := 5) (k := 1) (a := a) (m := t * 64) (c := c)) (by omega)
        rwa [slot_take hok h4 hk ht (by omega)] at this
      refine T_fin [_] _ ⟨rfl, trivial⟩ ⟨a, c, _, rfl, hrd, rfl⟩ ?_
      (repeat (first | exact perm_rest | apply perm_take (by repeat (first | with_reducible apply Pick.here | with_reducible apply Pick.there)) | apply perm_drop))
end Go.Proofs
