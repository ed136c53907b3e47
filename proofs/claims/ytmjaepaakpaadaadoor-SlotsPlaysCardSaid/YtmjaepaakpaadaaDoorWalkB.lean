/- Overwriting, appending, making and slicing; contracts of functions, calls and returns; tests and bits. Part 2 of 13 of the proof of SlotsPlays; no condition. -/
import Derived.Test.YtmjaepaakpaadaaDoorWalkA
import Derived.ScopeJumps
set_option linter.unusedVariables false
set_option linter.unusedSimpArgs false
namespace Go.Sl
set_option linter.unnecessarySimpa false
open Go

/-- A list with some of it overwritten. -/
def splice (l : List Value) (o : Nat) (vs : List Value) : List Value := l.take o ++ vs ++ l.drop (o + vs.length)
theorem splice_length {l : List Value} {o : Nat} {vs : List Value} (h : o + vs.length ≤ l.length) : (splice l o vs).length = l.length := by
  simp [splice]; omega
theorem splice_nil (l : List Value) (o : Nat) : splice l o [] = l := by simp [splice]
theorem splice_all {l vs : List Value} (h : vs.length = l.length) : splice l 0 vs = vs := by simp [splice, h]
theorem splice_one {l : List Value} {o : Nat} {v : Value} (h : o < l.length) : splice l o [v] = l.set o v := by
  apply List.ext_getElem?
  intro j
  simp only [splice, List.getElem?_append, List.getElem?_take, List.length_take, List.length_append, List.length_singleton, List.getElem?_drop, List.getElem?_set]
  have : min o l.length = o := by omega
  simp only [this]
  by_cases h1 : j < o
  · simp [h1, show j < o + 1 by omega, show ¬ o = j by omega]
  · by_cases h2 : j = o
    · subst h2; simp [h]
    · simp [show ¬ j < o + 1 by omega, show ¬ o = j by omega, show o + 1 + (j - (o + 1)) = j by omega]

theorem splice_mid {xs vs : List Value} {j : Nat} (pre post : List Value) (h : j + vs.length ≤ xs.length) :
    splice (pre ++ xs ++ post) (pre.length + j) vs = pre ++ splice xs j vs ++ post := by
  have e1 : pre.length + j + vs.length - pre.length = j + vs.length := by omega
  have e2 : j - xs.length = 0 := by omega
  have e3 : j + vs.length - xs.length = 0 := by omega
  have e4 : pre.length + j + vs.length = pre.length + (j + vs.length) := by omega
  simp only [splice, List.append_assoc, List.take_append, List.drop_append, e4, Nat.add_sub_cancel_left, e2, e3, List.take_zero, List.drop_zero, List.append_nil]
  rw [List.take_of_length_le (by omega), List.drop_of_length_le (by omega)]
  simp
section
variable {P : Program} {n : Nat} {w0 : World} {Q : Exit → Act → World → Prop} {env : Env} {L M : List SP} {ops : Array Oper} {rest : List Oper}
variable {d : Option Nat} {ty : TypeId} {pos : String} {after : Array Edge} {g : Option (Nat × Bool)}

theorem Hd.setCell {w : World} {b : Nat} {t : TypeId} {cs : List Value} (H : Hd w (row b t cs :: L)) {o : Nat} (v : Value) :
    Hd (w.setCell ⟨b, o, none⟩ v) (row b t (cs.set o v) :: L) := by
  obtain ⟨fz, hf, H⟩ := H.openRow
  refine Hd.mkRow (fz := fz) (by simpa using hf) (H.put ?_ ?_)
  · simp only [World.setCell, Array.getElem?_modify, H.get]; simp
  · intro s hs
    simp only [World.setCell, Array.getElem?_modify]
    rw [if_neg (fun e => hs e.symm)]
theorem run_storeCells_row {b o : Nat} {t : TypeId} : ∀ (vs : List Value) (i : Nat) (cs : List Value) (w : World), Hd w (row b t cs :: L) → o + i + vs.length ≤ cs.length → (∀ v ∈ vs, v.oneCell' = true) →
    ∃ w', (storeCells ⟨b, o, none⟩ vs i).run P w = .ok () w' ∧ Hd w' (row b t (splice cs (o + i) vs) :: L) ∧ Keep w w'
  | [], i, cs, w, H, _, _ => ⟨w, rfl, by rw [splice_nil]; exact H, .refl _⟩
  | v :: vs, i, cs, w, H, hl, h1 => by
    have hi : o + i < cs.length := by simp at hl; omega
    have hst : (store ((⟨b, o, none⟩ : Addr).add i) v).run P w = .ok () (w.setCell ⟨b, o + i, none⟩ v) := by
      rw [Addr.mk_add, run_store P w _ v _ (h1 v (by simp)), H.cell (List.getElem?_eq_getElem hi)]
      simp [H.free hi]
    obtain ⟨w', hr, hH, hK⟩ := run_storeCells_row (o := o) vs (i + 1) (cs.set (o + i) v) (w.setCell ⟨b, o + i, none⟩ v) (H.setCell v) (by simp only [List.length_set, List.length_cons] at hl ⊢; omega) (fun x hx => h1 x (by simp [hx]))
    refine ⟨w', ?_, ?_, (show Keep w (w.setCell ⟨b, o + i, none⟩ v) from ⟨rfl, rfl, rfl⟩).trans hK⟩
    · simp only [storeCells, Sem.run_bind, hst, Result.andThen_ok, hr]
    · have e := list_seg_step cs (o + i) v vs (by simp at hl ⊢; omega)
      have e2 : splice (cs.set (o + i) v) (o + (i + 1)) vs = splice cs (o + i) (v :: vs) := by
        simpa [splice, Nat.add_assoc] using e
      rwa [← e2]
/-- Into a slice. -/
theorem run_storeCells_slc {t k : Nat} {a : Option Addr} {m c : Nat} {xs : List Value} {w : World} (H : Hd w (slc t k a m c xs :: L)) (vs : List Value) (j : Nat) (hl : j + vs.length ≤ xs.length)
    (h1 : ∀ v ∈ vs, v.oneCell' = true) (h0 : 0 < vs.length) :
    ∃ w', (storeCells (sAt a j) vs 0).run P w = .ok () w' ∧ Hd w' (slc t k a m c (splice xs j vs) :: L) ∧ Keep w w' := by
  obtain ⟨e1, e2, h3⟩ := H.openSlc
  rcases h3 with ⟨rfl, rfl⟩ | ⟨b, pre, post, rfl, hc, hr⟩
  · have : xs = [] := List.eq_nil_of_length_eq_zero (by rw [e1, Nat.le_zero.1 e2, Nat.zero_mul])
    subst this; simp only [List.length_nil] at hl; omega
  · obtain ⟨w', hrun, hH, hK⟩ := run_storeCells_row (P := P) (o := pre.length + j) vs 0 _ w hr (by simp; omega) h1
    refine ⟨w', ?_, ?_, hK⟩
    · rw [show sAt (some ⟨b, pre.length, none⟩) j = ⟨b, pre.length + j, none⟩ from Addr.mk_add _ _ _]; exact hrun
    · refine Hd.mkSlc (post := post) (by rw [splice_length hl]; exact e1) e2 hc ?_
      have := splice_mid pre post hl
      rwa [Nat.add_zero, this] at hH

theorem O_store {t : TypeId} {x y : Operand} {b o : Nat} {t' : TypeId} {cs : List Value} {v : Value} [ht : SizeTy P t 1] (hx : ev env x = some (.pointer (some ⟨b, o, none⟩))) (hy : ev env y = some v)
    (h1 : v.oneCell' = true) (hp : Pick (row b t' cs) L M) (ho : Nat.blt o cs.length = true) : Sto P n w0 env L ⟨d, .store t x y, ty, pos, after, g⟩ (row b t' (cs.set o v) :: M) :=
  fun a w A => by
    have ho : o < cs.length := by simpa [Nat.blt_eq] using ho
    obtain ⟨w', hr, hH, hK⟩ := run_storeCells_row (P := P) (o := o) [v] 0 cs w (hp.back A.heap) (by simp; omega) (by simpa using h1)
    refine ⟨w', ?_, ?_, hK⟩
    · have hc : v.cells = #[v] := by cases v <;> first | rfl | simp [Value.oneCell'] at h1
      simp [execOp, A.ev hx, A.ev hy, Instr.storeAt, Instr.sureAddr, storeVar, ht.size, hc, hr]
    · rwa [Nat.add_zero, splice_one ho] at hH
theorem O_storeAgg {t k : Nat} {x y : Operand} {b o : Nat} {t' : TypeId} {cs vs : List Value} [ht : SizeTy P t k] (hx : ev env x = some (.pointer (some ⟨b, o, none⟩))) (hy : ev env y = some (.agg vs.toArray))
    (h1 : ∀ v ∈ vs, v.oneCell' = true) (hk : vs.length = k) (hp : Pick (row b t' cs) L M) (ho : o + k ≤ cs.length) :
    Sto P n w0 env L ⟨d, .store t x y, ty, pos, after, g⟩ (row b t' (splice cs o vs) :: M) :=
  fun a w A => by
    obtain ⟨w', hr, hH, hK⟩ := run_storeCells_row (P := P) (o := o) vs 0 cs w (hp.back A.heap) (by omega) h1
    refine ⟨w', ?_, hH, hK⟩
    simp [execOp, A.ev hx, A.ev hy, Instr.storeAt, Instr.sureAddr, storeVar, ht.size, Value.cells, hk, hr]
theorem O_storeAll {t k : Nat} {x y : Operand} {b : Nat} {t' : TypeId} {cs vs : List Value} [ht : SizeTy P t k] (hx : ev env x = some (.pointer (some ⟨b, 0, none⟩))) (hy : ev env y = some (.agg vs.toArray))
    (h1 : ∀ v ∈ vs, v.oneCell' = true) (hk : vs.length = k) (hp : Pick (row b t' cs) L M) (ho : cs.length = k) :
    Sto P n w0 env L ⟨d, .store t x y, ty, pos, after, g⟩ (row b t' vs :: M) := by
  have := O_storeAgg (P := P) (n := n) (w0 := w0) (d := d) (ty := ty) (pos := pos) (after := after) (g := g) (t := t) hx hy h1 hk hp (by omega)
  rwa [splice_all (by omega)] at this
theorem O_storeS {t : TypeId} {x y : Operand} {a : Option Addr} {j : Nat} {t' k m c : Nat} {xs : List Value} {v : Value} [ht : SizeTy P t 1] (hx : ev env x = some (.pointer (some (sAt a j)))) (hy : ev env y = some v)
    (h1 : v.oneCell' = true) (hp : Pick (slc t' k a m c xs) L M) (ho : j < xs.length) : Sto P n w0 env L ⟨d, .store t x y, ty, pos, after, g⟩ (slc t' k a m c (xs.set j v) :: M) :=
  fun a' w A => by
    obtain ⟨w', hr, hH, hK⟩ := run_storeCells_slc (P := P) (hp.back A.heap) [v] j (by simp; omega) (by simpa using h1) (by simp)
    refine ⟨w', ?_, ?_, hK⟩
    · have hc : v.cells = #[v] := by cases v <;> first | rfl | simp [Value.oneCell'] at h1
      simp [execOp, A.ev hx, A.ev hy, Instr.storeAt, Instr.sureAddr, storeVar, ht.size, hc, hr]
    · rwa [splice_one ho] at hH
theorem O_storeSAgg {t k' : Nat} {x y : Operand} {a : Option Addr} {j : Nat} {t' k m c : Nat} {xs vs : List Value} [ht : SizeTy P t k'] (hx : ev env x = some (.pointer (some (sAt a j)))) (hy : ev env y = some (.agg vs.toArray))
    (h1 : ∀ v ∈ vs, v.oneCell' = true) (hk : vs.length = k') (h0 : 0 < k') (hp : Pick (slc t' k a m c xs) L M) (ho : j + k' ≤ xs.length) :
    Sto P n w0 env L ⟨d, .store t x y, ty, pos, after, g⟩ (slc t' k a m c (splice xs j vs) :: M) :=
  fun a' w A => by
    obtain ⟨w', hr, hH, hK⟩ := run_storeCells_slc (P := P) (hp.back A.heap) vs j (by omega) h1 (by omega)
    refine ⟨w', ?_, hH, hK⟩
    simp [execOp, A.ev hx, A.ev hy, Instr.storeAt, Instr.sureAddr, storeVar, ht.size, Value.cells, hk, hr]

/-- The cells of values, one behind another. -/
def flat (vs : List Value) : List Value := vs.flatMap fun v => v.cells.toList
theorem flat_length {k : Nat} : ∀ {vs : List Value}, (∀ v ∈ vs, v.cells.size = k) → (flat vs).length = vs.length * k
  | [], _ => by simp [flat]
  | v :: vs, h => by
    have := flat_length (vs := vs) fun x hx => h x (by simp [hx])
    have h0 := h v (by simp)
    simp only [flat, List.flatMap_cons, List.length_append, List.length_cons, Array.length_toList] at this ⊢
    rw [h0, Nat.succ_mul]; omega
theorem foldl_set (o : Nat) : ∀ (l : List (Value × Nat)) (cs : Array Value), (l.foldl (fun cs (x : Value × Nat) => cs.setIfInBounds (o + x.2) x.1) cs).size = cs.size
  | [], cs => rfl
  | x :: l, cs => by simp [foldl_set o l]
theorem zipIdx_fill (o : Nat) : ∀ (vs : List Value) (j : Nat) (cs : List Value), o + j + vs.length ≤ cs.length →
    (vs.zipIdx j).foldl (fun cs (x : Value × Nat) => cs.setIfInBounds (o + x.2) x.1) cs.toArray = (splice cs (o + j) vs).toArray
  | [], j, cs, _ => by simp [splice]
  | v :: vs, j, cs, h => by
    simp only [List.zipIdx_cons, List.foldl_cons, List.setIfInBounds_toArray]
    rw [zipIdx_fill o vs (j + 1) (cs.set (o + j) v) (by simp only [List.length_set, List.length_cons] at h ⊢; omega)]
    have e := list_seg_step cs (o + j) v vs (by simp at h ⊢; omega)
    have e2 : splice (cs.set (o + j) v) (o + (j + 1)) vs = splice cs (o + j) (v :: vs) := by simpa [splice, Nat.add_assoc] using e
    rw [e2]
theorem fill_step {place : Nat → Option (Nat × Nat)} {cs : List Value} {i o k : Nat} {v : Value} {r : List (Nat × Value)} (hp : place i = some (o, k)) (hk : v.cells.size = k) (ho : o + k ≤ cs.length) :
    Instr.fill place cs.toArray ((i, v) :: r) = Instr.fill place (splice cs o v.cells.toList).toArray r := by
  rw [Instr.fill, hp]
  simp only
  rw [if_neg (by simp [hk]; omega)]
  congr 1
  have := zipIdx_fill o v.cells.toList 0 cs (by simp [hk]; omega)
  rw [Nat.add_zero] at this
  rw [← this, ← Array.toList_zipIdx, Array.foldl_toList]
theorem fill_seq (k : Nat) : ∀ (vs : List Value) (i : Nat) (pre zs : List Value), pre.length = i * k → zs.length = vs.length * k → (∀ v ∈ vs, v.cells.size = k) →
    Instr.fill (fun i => some (i * k, k)) (pre ++ zs).toArray ((vs.zipIdx i).map fun p => (p.2, p.1)) = some (pre ++ flat vs).toArray
  | [], i, pre, zs, _, hz, _ => by
    have : zs = [] := List.eq_nil_of_length_eq_zero (by simpa using hz)
    subst this; simp [Instr.fill, flat]
  | v :: vs, i, pre, zs, hp, hz, hk => by
    have h0 := hk v (by simp)
    simp only [List.length_cons, Nat.succ_mul] at hz
    simp only [List.zipIdx_cons, List.map_cons]
    rw [fill_step (o := i * k) (k := k) rfl h0 (by simp; omega)]
    have e : splice (pre ++ zs) (i * k) v.cells.toList = (pre ++ v.cells.toList) ++ zs.drop k := by
      rw [← hp]
      simp only [splice, List.take_left, List.drop_append, Array.length_toList, h0]
      rw [List.drop_of_length_le (by omega), show pre.length + k - pre.length = k by omega]; simp
    rw [e, fill_seq k vs (i + 1) (pre ++ v.cells.toList) (zs.drop k) (by simp [hp, h0, Nat.succ_mul]) (by simp; omega) (fun x hx => hk x (by simp [hx]))]
    simp [flat]
/-- A slice of what is written out. -/
theorem E_buildSlice {t e k y : Nat} [h : SliceTy P t e k y] {len : Nat} {parts : Array (Nat × Operand)} {vs : List Value}
    (hix : parts.toList.map (·.1) = List.range len) (hvs : parts.toList.map (fun p => ev env p.2) = vs.map some) (hk : ∀ v ∈ vs, v.cells.size = k) (hsmall : Nat.ble (len * k) 16777216 = true) :
    Eff P n w0 env L ⟨d, .buildSlice t len parts, ty, pos, after, g⟩ fun v L' => ∃ a, v = .slice a len len ∧ L' = slc e k a len len (flat vs) :: L :=
  fun a w A => by
    obtain ⟨inf, z, h1, h2, h3, h4, h5⟩ := h.info
    have hlen : vs.length = len := by
      have e1 := congrArg List.length hix
      have e2 := congrArg List.length hvs
      simp at e1 e2; omega
    have hpp : (parts.map fun x => (x.1, a.eval x.2)).toList = (vs.zipIdx 0).map fun p => (p.2, p.1) := by
      simp only [Array.toList_map]
      apply List.ext_getElem?
      intro i
      have hi := congrArg (fun l => l[i]?) hvs
      have hj := congrArg (fun l => l[i]?) hix
      simp only [List.getElem?_map] at hi hj ⊢
      simp only [List.getElem?_zipIdx]
      cases h1 : parts.toList[i]? with
      | none => rw [h1] at hi; cases h2 : vs[i]? <;> simp_all
      | some x =>
        rw [h1] at hi hj
        cases h2 : vs[i]? with
        | none => simp_all
        | some v =>
          rw [h2] at hi
          simp only [Option.map_some, Option.some.injEq] at hi hj ⊢
          have hlt : i < len := by
            have := (List.getElem?_eq_some_iff.1 h2).1; omega
          rw [List.getElem?_range hlt] at hj
          simp only [Option.some.injEq] at hj
          rw [A.ev hi, hj]; simp
    have hsz : (flat vs).length = len * k := by rw [flat_length hk, hlen]
    refine ⟨_, _, { w with heap := w.heap.push (.cells (flat vs).toArray e) }, ?_, ⟨some ⟨w.heap.size, 0, none⟩, rfl, rfl⟩, ?_, ⟨rfl, rfl, rfl⟩⟩
    · have hns : ¬ len * k > 16777216 := by have := Nat.le_of_ble_eq_true hsmall; omega
      have hf : ∀ zs : Array Value, zs.size = len * k → Instr.fill (fun i => some (i * k, k)) zs ((vs.zipIdx 0).map fun p => (p.2, p.1)) = some (flat vs).toArray := by
        intro zs hzs
        have := fill_seq k vs 0 [] zs.toList (by simp) (by simp [hzs, hlen]) hk
        simpa using this
      simp only [execOp, Instr.buildSlice, run_und h.und, Sem.run_bind, Result.andThen_ok, sizeOf, typeInfo, run_program, h1, Sem.run_pure, h2]
      rw [if_neg hns]
      simp only [hpp]
      by_cases h0 : len * k = 0
      · simp [h0, hf, newRow]
      · simp [h0, zeroValue, typeInfo, h1, h4, hf, newRow]
    · have := A.heap.alloc (t := e) (cs := flat vs)
      exact Hd.mkSlc (pre := []) (post := []) hsz (Nat.le_refl _) (by simp) (by simpa using this)

theorem firstCells_slc {t k : Nat} {a : Option Addr} {m c : Nat} {xs : List Value} {w : World} (H : Hd w (slc t k a m c xs :: L)) :
    (Builtin.firstCells k m (.slice a m c)).run P w = .ok xs.toArray w := by
  obtain ⟨e1, e2, h3⟩ := H.openSlc
  rcases h3 with ⟨rfl, rfl⟩ | ⟨b, pre, post, rfl, hc, hr⟩
  · have : xs = [] := List.eq_nil_of_length_eq_zero (by rw [e1, Nat.le_zero.1 e2, Nat.zero_mul])
    subst this; simp [Builtin.firstCells]
  · exact run_firstCells_some (P := P) w k m _ m c xs e1 fun j v hv => by
      obtain ⟨x, hx, _, hc⟩ := H.slcCell hv
      cases hx; exact hc
theorem Hd.drew {w : World} (H : Hd w L) : Hd w.drew L := H.of_heap rfl
theorem Hd.swap {w : World} {A B : SP} (H : Hd w (A :: B :: L)) : Hd w (B :: A :: L) := H.perm (.swap B A L)
theorem run_append_slc {t e k y : Nat} [h : SliceTy P t e k y] {a a2 : Option Addr} {m c m2 c2 t2 : Nat} {xs ys : List Value} {w : World} {tt : TypeId}
    (H : Hd w (slc e k a m c xs :: slc t2 k a2 m2 c2 ys :: L)) (h1 : ∀ v ∈ ys, v.oneCell' = true) (hb : (m + m2) * y ≤ 140737488355328) (hb2 : m + m2 ≤ 9223372036854775807) :
    ∃ a' c' w', (Builtin.append_ #[t, t] tt #[.slice a m c, .slice a2 m2 c2]).run P w = .ok (.slice a' (m + m2) c') w' ∧
      Hd w' (slc e k a' (m + m2) c' (xs ++ ys) :: slc t2 k a2 m2 c2 ys :: L) ∧ Keep w w' := by
  obtain ⟨inf, z, i1, i2, i3, i4, i5⟩ := h.info
  obtain ⟨e1, e2, h3⟩ := H.openSlc
  have f1 := e1
  have f2 : ys.length = m2 * k := H.swap.slcLen
  by_cases hroom : m + m2 ≤ c
  · rcases h3 with ⟨rfl, rfl⟩ | ⟨b, pre, post, rfl, hc, hr⟩
    · obtain rfl : m = 0 := by omega
      obtain rfl : m2 = 0 := by omega
      have hy : ys = [] := List.eq_nil_of_length_eq_zero (by simpa using f2)
      have hx : xs = [] := List.eq_nil_of_length_eq_zero (by simpa using f1)
      subst hy; subst hx
      refine ⟨none, 0, w, ?_, by simpa using H, .refl _⟩
      have := firstCells_slc (P := P) H.swap
      simp [Builtin.append_, run_und h.und, sizeOf, typeInfo, i1, i2, Builtin.lenOf, this]
    · have hf := firstCells_slc (P := P) (hr.swap)
      have hkk : m2 * k ≤ (c - m) * k := Nat.mul_le_mul_right _ (by omega)
      obtain ⟨w', hst, hH, hK⟩ := run_storeCells_row (P := P) (o := pre.length + m * k) ys 0 _ w hr (by simp; omega) h1
      refine ⟨some ⟨b, pre.length, none⟩, c, w', ?_, ?_, hK⟩
      · simp [Builtin.append_, run_und h.und, sizeOf, typeInfo, i1, i2, Builtin.lenOf, hroom, hf, Addr.mk_add, hst]
      · have es : splice (pre ++ xs ++ post) (pre.length + m * k + 0) ys = pre ++ (xs ++ ys) ++ post.drop (m2 * k) := by
          simp only [splice, Nat.add_zero, List.append_assoc]
          rw [show pre ++ (xs ++ post) = (pre ++ xs) ++ post by simp, show pre.length + m * k = (pre ++ xs).length by simp; omega, List.take_left, List.drop_append]
          rw [List.drop_of_length_le (by simp), show (pre ++ xs).length + ys.length - (pre ++ xs).length = m2 * k by omega]
          simp
        rw [es] at hH
        refine Hd.mkSlc (by simp [f1, f2, Nat.add_mul]) hroom ?_ hH
        simp only [List.length_drop]
        rw [show c - (m + m2) = (c - m) - m2 by omega, Nat.sub_mul]; omega
  · have hg : c < m + m2 := by omega
    have hn : ¬ (m + m2 ≤ c) := hroom
    have hfo := firstCells_slc (P := P) (H.drew)
    have hf := firstCells_slc (P := P) (H.swap.drew)
    have h48 := growslice_fits (old := c) (need := m + m2) hg hb
    have h48' : ¬ (281474976710656 < Builtin.nextslicecap (m + m2) c * y) := by omega
    have h63' : ¬ (9223372036854775807 < ((m : Int) + (m2 : Int))) := by omega
    have hge := grownCap_ge w (m + m2) c e
    refine ⟨some ⟨w.heap.size, 0, none⟩, grownCap w (m + m2) c e, (w.drew.alloc (.cells (xs ++ ys ++ (Builtin.zeroCells z.cells (grownCap w (m + m2) c e - (m + m2))).toList).toArray e)), ?_, ?_, ⟨rfl, rfl, rfl⟩⟩
    · simp [Builtin.append_, run_und h.und, sizeOf, typeInfo, zeroValue, i1, i2, i3, i4, Builtin.lenOf, hn, h63', h48', Question.forced, hf, hfo, newRow, grownCap]
      congr 2
      apply Array.ext'
      simp
    · have hd : Hd w.drew (slc t2 k a2 m2 c2 ys :: L) := H.drop.of_heap rfl
      have := hd.alloc (t := e) (cs := xs ++ ys ++ (Builtin.zeroCells z.cells (grownCap w (m + m2) c e - (m + m2))).toList)
      refine Hd.mkSlc (pre := []) (post := (Builtin.zeroCells z.cells (grownCap w (m + m2) c e - (m + m2))).toList) (by simp [f1, f2, Nat.add_mul]) hge ?_ (by rw [List.nil_append]; exact this)
      simp [Builtin.zeroCells, i5]
theorem E_append {t e k y : Nat} [h : SliceTy P t e k y] {x1 x2 : Operand} {a a2 : Option Addr} {m c m2 c2 t2 : Nat} {xs ys : List Value} {M2 : List SP}
    (hx : ev env x1 = some (.slice a m c)) (hy : ev env x2 = some (.slice a2 m2 c2)) (hp : Pick (slc e k a m c xs) L M) (hp2 : Pick (slc t2 k a2 m2 c2 ys) M M2)
    (h1 : ∀ v ∈ ys, v.oneCell' = true) (hb : (m + m2) * y ≤ 140737488355328) (hb2 : m + m2 ≤ 9223372036854775807) :
    Eff P n w0 env L ⟨d, .call ⟨.builtin .append, #[x1, x2], #[t, t]⟩, ty, pos, after, g⟩ fun v L' => ∃ a' c', v = .slice a' (m + m2) c' ∧ L' = slc e k a' (m + m2) c' (xs ++ ys) :: slc t2 k a2 m2 c2 ys :: M2 :=
  fun a' w A => by
    obtain ⟨b, c', w', hr, hH, hK⟩ := run_append_slc (P := P) (t := t) (e := e) (k := k) (y := y) (tt := ty) ((hp.back A.heap).perm (hp2.cons _)) h1 hb hb2
    exact ⟨_, _, w', by simp [execOp, resolve, invoke, builtin, A.ev hx, A.ev hy, hr], ⟨b, c', rfl, rfl⟩, hH, hK⟩
/-- A nil slice is appended. -/
theorem run_append_none {t e k y : Nat} [h : SliceTy P t e k y] {a : Option Addr} {m c c2 : Nat} {xs : List Value} {w : World} {tt : TypeId}
    (H : Hd w (slc e k a m c xs :: L)) : (Builtin.append_ #[t, t] tt #[.slice a m c, .slice none 0 c2]).run P w = .ok (.slice a m c) w := by
  obtain ⟨inf, z, i1, i2, i3, i4, i5⟩ := h.info
  obtain ⟨e1, e2, h3⟩ := H.openSlc
  rcases h3 with ⟨rfl, rfl⟩ | ⟨b, pre, post, rfl, hc, hr⟩
  · obtain rfl : m = 0 := by omega
    simp [Builtin.append_, run_und h.und, sizeOf, typeInfo, i1, i2, Builtin.lenOf, run_firstCells_none]
  · simp [Builtin.append_, run_und h.und, sizeOf, typeInfo, i1, i2, Builtin.lenOf, e2, run_firstCells_none, storeCells]

theorem E_appendNone {t e k y : Nat} [h : SliceTy P t e k y] {x1 x2 : Operand} {a : Option Addr} {m c c2 : Nat} {xs : List Value}
    (hx : ev env x1 = some (.slice a m c)) (hy : ev env x2 = some (.slice none 0 c2)) (hp : Pick (slc e k a m c xs) L M) :
    Still P n w0 env L ⟨d, .call ⟨.builtin .append, #[x1, x2], #[t, t]⟩, ty, pos, after, g⟩ (.slice a m c) :=
  fun a' w A => by
    have := run_append_none (P := P) (t := t) (c2 := c2) (tt := ty) (hp.back A.heap)
    simp [execOp, resolve, invoke, builtin, A.ev hx, A.ev hy, this]
theorem getElem_flatten_replicate (l : List Value) : ∀ (c i : Nat), i < c * l.length → (List.replicate c l).flatten[i]? = l[i % l.length]?
  | 0, i, h => by simp at h
  | c + 1, i, h => by
    simp only [List.replicate_succ, List.flatten_cons]
    by_cases hi : i < l.length
    · rw [List.getElem?_append_left hi, Nat.mod_eq_of_lt hi]
    · rw [List.getElem?_append_right (by omega), getElem_flatten_replicate l c (i - l.length) (by rw [Nat.succ_mul] at h; omega), ← Nat.mod_eq_sub_mod (by omega)]
theorem madeCells_eq (z : Array Value) (c : Nat) : (madeCells z (c * z.size)).toList = (List.replicate c z.toList).flatten := by
  apply List.ext_getElem?
  intro i
  by_cases hi : i < c * z.size
  · rw [getElem_flatten_replicate _ c i (by simpa using hi)]
    have hp : 0 < z.size := by
      rcases Nat.eq_zero_or_pos z.size with h | h
      · rw [h] at hi; simp at hi
      · exact h
    have hm := Nat.mod_lt i hp
    simp [madeCells, hi, hm, getElem!_pos]
  · have h2 : ((List.replicate c z.toList).flatten).length = c * z.size := by simp
    rw [List.getElem?_eq_none (by simp [madeCells]; omega), List.getElem?_eq_none (by omega)]
/-- A slice of k zero values for each element. -/
theorem E_make {t e k y : Nat} [h : SliceTy P t e k y] {zs : List Value} [hz : ZeroTy P e zs] {x1 x2 : Operand} {l c : Int} {k1 k2 : IntKind}
    (hx : ev env x1 = some (.int k1 l)) (hy : ev env x2 = some (.int k2 c)) (h0 : 0 ≤ l) (hmc : l ≤ c) (hb : c * y ≤ 140737488355328) (hb2 : c ≤ 9223372036854775807) :
    Eff P n w0 env L ⟨d, .makeSlice t x1 x2, ty, pos, after, g⟩ fun v L' => ∃ a, v = .slice a l.toNat c.toNat ∧ L' = slc e k a l.toNat c.toNat (List.replicate l.toNat zs).flatten :: L :=
  fun a' w A => by
    obtain ⟨inf, z, i1, i2, i3, i4, i5⟩ := h.info
    obtain ⟨z', hz1, hz2⟩ := hz.zero
    have hzz : z' = z := by
      have := hz1 w
      simp [zeroValue, typeInfo, i1, i4] at this
      exact this.symm
    subst hzz
    have hzl : z'.cells.toList = zs := by rw [hz2]
    have hlz : zs.length = k := by rw [← i5, hz2]; simp
    have hr := run_make (P := P) w t e inf z' h.und i1 i4 k1 k2 l c h0 hmc (by rw [i3, Int.mul_comm]; omega) hb2
    have hm := madeCells_eq z'.cells c.toNat
    rw [i5, hzl] at hm
    refine ⟨_, _, w.alloc (.cells (madeCells z'.cells (c.toNat * inf.size)) e), ?_, ⟨some ⟨w.heap.size, 0, none⟩, rfl, rfl⟩, ?_, ⟨rfl, rfl, rfl⟩⟩
    · simp only [execOp, A.ev hx, A.ev hy, Sem.run_bind, hr, Result.andThen_ok]; rfl
    · have hd := A.heap.alloc (t := e) (cs := (List.replicate c.toNat zs).flatten)
      have hsp : (List.replicate c.toNat zs).flatten = (List.replicate l.toNat zs).flatten ++ (List.replicate (c.toNat - l.toNat) zs).flatten := by
        rw [← List.flatten_append, List.replicate_append_replicate]; congr 2; omega
      refine Hd.mkSlc (pre := []) (post := (List.replicate (c.toNat - l.toNat) zs).flatten) (by simp [hlz]) (by omega) (by simp [hlz]) ?_
      rw [List.nil_append, ← hsp]
      have e1 : (madeCells z'.cells (c.toNat * inf.size)) = ((List.replicate c.toNat zs).flatten).toArray := by
        rw [i2, ← hm]
      rw [e1]
      exact hd

theorem run_bound {w : World} {kk : IntKind} {i : Int} {y : Nat} {code : BoundsCode} (h : 0 ≤ i ∧ i ≤ y) : (Instr.sliceBound (.int kk i) y code).run P w = .ok i.toNat w := by
  simp [Instr.sliceBound, asIntOf, h]

/-- What a slice expression takes: two bounds, each given or not. -/
def bnd (env : Env) : Option Operand → Nat → Option Nat
  | none, m => some m
  | some x, _ => match ev env x with
    | some (.int _ i) => if 0 ≤ i then some i.toNat else none
    | _ => none
theorem run_sliceBounds {env : Env} {a : Act} {w : World} {L : List SP} {n : Nat} {w0 : World} (A : At n w0 env L a w) {lo hi : Option Operand} {l h len cap : Nat} {isS : Bool}
    (hl : bnd env lo 0 = some l) (hh : bnd env hi len = some h) (h1 : l ≤ h) (h2 : h ≤ cap) :
    (Instr.sliceBounds isS len cap (lo.map a.eval) (hi.map a.eval) none).run P w = .ok (l, h, cap) w := by
  have e1 : ∀ y code, h ≤ y → (match hi.map a.eval, (none : Option Value) with
      | some v, some _ => Instr.sliceBound v cap .slice3B
      | some v, none => Instr.sliceBound v y code
      | none, none => (pure len : Sem Nat)
      | none, some _ => stuck "Slice: max without high").run P w = .ok h w := by
    intro y code hy
    cases hi with
    | none => simp only [bnd, Option.some.injEq] at hh; subst hh; simp
    | some x =>
      simp only [bnd] at hh
      split at hh
      · rename_i kk i hx
        split at hh
        · rename_i hi0
          simp only [Option.some.injEq] at hh
          simp only [Option.map_some, A.ev hx]
          rw [run_bound (by omega), hh]
        · cases hh
      · cases hh
  have e2 : (match lo.map a.eval with
      | some v => Instr.sliceBound v h .sliceB
      | none => (pure 0 : Sem Nat)).run P w = .ok l w := by
    cases lo with
    | none => simp only [bnd, Option.some.injEq] at hl; subst hl; simp
    | some x =>
      simp only [bnd] at hl
      split at hl
      · rename_i kk i hx
        split at hl
        · rename_i hi0
          simp only [Option.some.injEq] at hl
          simp only [Option.map_some, A.ev hx]
          rw [run_bound (by omega), hl]
        · cases hl
      · cases hl
  simp only [Instr.sliceBounds, Sem.run_bind, Sem.run_pure, Result.andThen_ok]
  cases isS
  · have := e1 cap .sliceAlen h2
    revert this e2
    cases lo <;> cases hi <;> simp only [Option.map_none, Option.map_some, Sem.run_pure, Sem.run_bind] <;> intro h1 h2 <;> simp_all
  · have := e1 cap .sliceAcap h2
    revert this e2
    cases lo <;> cases hi <;> simp only [Option.map_none, Option.map_some, Sem.run_pure, Sem.run_bind] <;> intro h1 h2 <;> simp_all
/-- A slice of a slice. -/
theorem S_slice {t e k y : Nat} [ht : SliceTy P t e k y] {x : Operand} {lo hi : Option Operand} {a : Option Addr} {m c l h : Nat} (hx : ev env x = some (.slice a m c))
    (hl : bnd env lo 0 = some l) (hh : bnd env hi m = some h) (h1 : l ≤ h) (h2 : h ≤ c) :
    Still P n w0 env L ⟨d, .slice t x lo hi none, ty, pos, after, g⟩ (.slice (if c = l then a else a.map (·.add (l * k))) (h - l) (c - l)) :=
  fun a' w A => by
    obtain ⟨inf, z, i1, i2, i3, i4, i5⟩ := ht.info
    have := run_sliceBounds (P := P) A (isS := true) hl hh h1 h2
    simp [execOp, A.ev hx, Instr.sliceAt, run_und ht.und, Instr.slice, this, sizeOf, typeInfo, i1, i2]
/-- A slice of an array. -/
theorem S_sliceArr {t e k len : Nat} [ht : ArrTy P t len e k] {x : Operand} {lo hi : Option Operand} {p : Addr} {l h : Nat} (hx : ev env x = some (.pointer (some p)))
    (hl : bnd env lo 0 = some l) (hh : bnd env hi len = some h) (h1 : l ≤ h) (h2 : h ≤ len) :
    Still P n w0 env L ⟨d, .slice t x lo hi none, ty, pos, after, g⟩ (.slice (some (if len = l then p else p.add (l * k))) (h - l) (len - l)) :=
  fun a' w A => by
    have := run_sliceBounds (P := P) A (isS := false) (cap := len) hl hh h1 h2
    simp [execOp, A.ev hx, Instr.sliceAt, run_und ht.und, Instr.sureAddr, this, ht.size]
/-- The whole of an array. -/
theorem S_sliceAll {t e k len : Nat} [ht : ArrTy P t len e k] {x : Operand} {p : Addr} (hx : ev env x = some (.pointer (some p))) :
    Still P n w0 env L ⟨d, .slice t x none none none, ty, pos, after, g⟩ (.slice (some p) len len) := by
  have := S_sliceArr (P := P) (n := n) (w0 := w0) (L := L) (d := d) (ty := ty) (pos := pos) (after := after) (g := g) (t := t) (lo := none) (hi := none) (l := 0) (h := len) hx rfl rfl (Nat.zero_le _) (Nat.le_refl _)
  have h2 := ht.two
  simpa [show ¬ len = 0 by omega, Addr.add] using this
/-- A variable as a slice, and back. -/
theorem Hd.rowSlc {w : World} {b t k m : Nat} {cs : List Value} (H : Hd w (row b t cs :: L)) (h : cs.length = m * k) : Hd w (slc t k (some ⟨b, 0, none⟩) m m cs :: L) :=
  Hd.mkSlc (pre := []) (post := []) h (Nat.le_refl _) (by simp) (by simpa using H)
theorem T_rowSlc {X : Act → World → Prop} {b t m : Nat} {cs : List Value} (k : Nat) (hp : Pick (row b t cs) L M) (h : cs.length = m * k)
    (ht : T n w0 X env (slc t k (some ⟨b, 0, none⟩) m m cs :: M)) : T n w0 X env L :=
  T_hd (fun w H => (hp.back H).rowSlc h) ht

theorem E_copy {t e k y : Nat} [h : SliceTy P t e k y] {t2 : TypeId} {x1 x2 : Operand} {a a2 : Option Addr} {m c m2 c2 t' t2' : Nat} {xs ys : List Value} {M2 : List SP}
    (hx : ev env x1 = some (.slice a m c)) (hy : ev env x2 = some (.slice a2 m2 c2)) (hp : Pick (slc t' k a m c xs) L M) (hp2 : Pick (slc t2' k a2 m2 c2 ys) M M2)
    (h1 : ∀ v ∈ ys, v.oneCell' = true) :
    Eff P n w0 env L ⟨d, .call ⟨.builtin .copy, #[x1, x2], #[t, t2]⟩, ty, pos, after, g⟩ fun v L' => v = .int .i64 (min m m2 : Nat) ∧ L' = slc t' k a m c (splice xs 0 (ys.take (min m m2 * k))) :: slc t2' k a2 m2 c2 ys :: M2 :=
  fun a' w A => by
    obtain ⟨inf, z, i1, i2, i3, i4, i5⟩ := h.info
    have H := (hp.back A.heap).perm (hp2.cons _)
    have f1 := H.slcLen
    have f2 := H.swap.slcLen
    have hmin : Nat.min m2 m = min m m2 := Nat.min_comm _ _
    have hle : min m m2 * k ≤ xs.length := by rw [f1]; exact Nat.mul_le_mul_right _ (Nat.min_le_left _ _)
    have hle2 : min m m2 * k ≤ ys.length := by rw [f2]; exact Nat.mul_le_mul_right _ (Nat.min_le_right _ _)
    have hf : (Builtin.firstCells k (min m m2) (.slice a2 m2 c2)).run P w = .ok (ys.take (min m m2 * k)).toArray w := by
      obtain ⟨e1, e2, h3⟩ := H.swap.openSlc
      rcases h3 with ⟨rfl, rfl⟩ | ⟨b, pre, post, rfl, hc, hr⟩
      · have : ys = [] := List.eq_nil_of_length_eq_zero (by rw [e1, Nat.le_zero.1 e2, Nat.zero_mul])
        subst this; simp [Builtin.firstCells]
      · exact run_firstCells_some (P := P) w k (min m m2) _ m2 c2 _ (by simp; omega) fun j v hv => by
          rw [List.getElem?_take] at hv
          split at hv
          · obtain ⟨x, hx, _, hc⟩ := H.swap.slcCell hv
            cases hx; exact hc
          · cases hv
    obtain ⟨e1, e2, h3⟩ := H.openSlc
    rcases h3 with ⟨rfl, rfl⟩ | ⟨b, pre, post, rfl, hc, hr⟩
    · obtain rfl : m = 0 := by omega
      refine ⟨_, _, w, ?_, ⟨rfl, rfl⟩, by simpa [splice_nil] using H, .refl _⟩
      have hf' := hf
      simp only [Nat.zero_min] at hf'
      simp [hf', execOp, resolve, invoke, builtin, A.ev hx, A.ev hy, Builtin.copy_, run_und h.und, Builtin.lenOf, sizeOf, typeInfo, i1, i2, hmin, hf, goInt]
    · obtain ⟨w', hst, hH, hK⟩ := run_storeCells_row (P := P) (o := pre.length) (ys.take (min m m2 * k)) 0 _ w hr (by simp; omega) (fun v hv => h1 v (List.mem_of_mem_take hv))
      refine ⟨_, _, w', ?_, ⟨rfl, rfl⟩, ?_, hK⟩
      · simp [execOp, resolve, invoke, builtin, A.ev hx, A.ev hy, Builtin.copy_, run_und h.und, Builtin.lenOf, sizeOf, typeInfo, i1, i2, hmin, hf, hst, goInt]
      · have := splice_mid (j := 0) (vs := ys.take (min m m2 * k)) (xs := xs) pre post (by simp; omega)
        rw [Nat.add_zero] at hH this
        rw [this] at hH
        exact Hd.mkSlc (by rw [splice_length (by simp; omega)]; exact f1) e2 hc hH
end
end Go.Sl
set_option linter.unusedVariables false
set_option linter.unusedSimpArgs false
namespace Go.Sl
set_option linter.unnecessarySimpa false
open Go
section
variable {P : Program} {n : Nat} {w0 : World} {Q : Exit → Act → World → Prop} {env : Env} {L M : List SP} {ops : Array Oper} {rest : List Oper}
variable {d : Option Nat} {ty : TypeId} {pos : String} {after : Array Edge} {g : Option (Nat × Bool)}

/-- The contract of a function: what it asks of memory, what it gives. -/
def Ctr (P : Program) (f : FuncId) (args : List Value) (Pre : List SP) (Post : Value → List SP → Prop) : Prop :=
  ∀ w F, Hd w (Pre ++ F) → Calls P f args.toArray w fun e w' => ∃ v L, e = .returned v ∧ Post v L ∧ Hd w' (L ++ F) ∧ Keep w w'
class FuncTy (P : Program) (f : FuncId) : Prop where
  enter : ∀ args w, (callFunc f args).run P w = .ok (.enter f args) w
theorem Ctr.mono {f : FuncId} {args : List Value} {Pre : List SP} {Post Post' : Value → List SP → Prop} (h : Ctr P f args Pre Post) (hi : ∀ v L, Post v L → Post' v L) : Ctr P f args Pre Post' :=
  fun w F H => (h w F H).mono fun e w' ⟨v, L, he, hp, hh, hk⟩ => ⟨v, L, he, hi v L hp, hh, hk⟩
/-- With more of memory beside it. -/
theorem Ctr.frame {f : FuncId} {args : List Value} {Pre : List SP} {Post : Value → List SP → Prop} (h : Ctr P f args Pre Post) (R : List SP) :
    Ctr P f args (Pre ++ R) (fun v L => ∃ L0, Post v L0 ∧ L = L0 ++ R) :=
  fun w F H => (h w (R ++ F) (by simpa using H)).mono fun e w' ⟨v, L, he, hp, hh, hk⟩ => ⟨v, L ++ R, he, ⟨L, hp, rfl⟩, by simpa using hh, hk⟩
theorem evs_eval {a : Act} {w : World} (A : At n w0 env L a w) : ∀ {xs : List Operand} {vs : List Value}, xs.map (ev env) = vs.map some → xs.map a.eval = vs
  | [], [], _ => rfl
  | [], v :: vs, h => by simp at h
  | x :: xs, [], h => by simp at h
  | x :: xs, v :: vs, h => by
    simp only [List.map_cons, List.cons.injEq] at h
    simp only [List.map_cons, A.ev h.1, evs_eval A h.2]
theorem T_callAt {K : Act → World → Prop} {o : Oper} {f : FuncId} {args : List Value} {Pre : List SP} {Post : Value → List SP → Prop}
    (hrun : ∀ a w, At n w0 env L a w → (execOp a.eval o).run P w = .ok (.enter f args.toArray) w) (hs : Ctr P f args Pre Post) (ht : Take Pre L M)
    (hd : (match o.dst with | some d => Nat.blt d n | none => true) = true)
    (h : ∀ v L', Post v L' → T n w0 K (match o.dst with | some d => (d, v) :: env | none => env) (L' ++ M)) : T n w0 (opO P o K) env L := by
  intro a w A
  refine .inr (.inr ⟨f, args.toArray, w, hrun a w A, (hs w M (A.heap.perm ht)).mono ?_⟩)
  rintro e w' ⟨v, L', rfl, hp, hh, hk⟩
  refine ⟨v, rfl, ?_⟩
  have := h v L' hp
  cases hdd : o.dst with
  | none => rw [hdd] at this; exact this _ _ (A.puts hh hk)
  | some d => rw [hdd] at this hd; exact this _ _ (A.put (by simpa [Nat.blt_eq] using hd) hh hk)
theorem T_call {K : Act → World → Prop} {d : Nat} {f : FuncId} {xs : Array Operand} {ts : Array TypeId} {args : List Value} {Pre : List SP} {Post : Value → List SP → Prop} [hf : FuncTy P f]
    (hx : xs.toList.map (ev env) = args.map some) (hs : Ctr P f args Pre Post) (ht : Take Pre L M) (hd : Nat.blt d n = true)
    (h : ∀ v L', Post v L' → T n w0 K ((d, v) :: env) (L' ++ M)) : T n w0 (opO P ⟨some d, .call ⟨.value (.func f), xs, ts⟩, ty, pos, after, g⟩ K) env L :=
  T_callAt (f := f) (fun a w A => by
    have := evs_eval A hx
    have e : xs.map a.eval = args.toArray := by rw [← this]; apply Array.ext'; simp
    have e2 : xs.map (fun x => a.eval x) = args.toArray := e
    simp [execOp, resolve, Deferred.ofValue, Act.eval, invoke, e, hf.enter]) hs ht hd h
theorem T_callN {K : Act → World → Prop} {f : FuncId} {xs : Array Operand} {ts : Array TypeId} {args : List Value} {Pre : List SP} {Post : Value → List SP → Prop} [hf : FuncTy P f]
    (hx : xs.toList.map (ev env) = args.map some) (hs : Ctr P f args Pre Post) (ht : Take Pre L M)
    (h : ∀ v L', Post v L' → T n w0 K env (L' ++ M)) : T n w0 (opO P ⟨none, .call ⟨.value (.func f), xs, ts⟩, ty, pos, after, g⟩ K) env L :=
  T_callAt (f := f) (fun a w A => by
    have := evs_eval A hx
    have e : xs.map a.eval = args.toArray := by rw [← this]; apply Array.ext'; simp
    simp [execOp, resolve, Deferred.ofValue, Act.eval, invoke, e, hf.enter]) hs ht rfl h
/-- A function value is called. -/
theorem T_callV {K : Act → World → Prop} {d : Nat} {f : FuncId} {fx : Operand} {cap : List Value} {xs : Array Operand} {ts : Array TypeId} {args : List Value} {Pre : List SP} {Post : Value → List SP → Prop} [hf : FuncTy P f]
    (hfx : ev env fx = some (.func (.func f) #[] cap.toArray)) (hx : xs.toList.map (ev env) = args.map some) (hs : Ctr P f (args ++ cap) Pre Post) (ht : Take Pre L M) (hd : Nat.blt d n = true)
    (h : ∀ v L', Post v L' → T n w0 K ((d, v) :: env) (L' ++ M)) : T n w0 (opO P ⟨some d, .call ⟨.value fx, xs, ts⟩, ty, pos, after, g⟩ K) env L :=
  T_callAt (f := f) (fun a w A => by
    have := evs_eval A hx
    have e : xs.map a.eval = args.toArray := by rw [← this]; apply Array.ext'; simp
    simp [execOp, resolve, Deferred.ofValue, A.ev hfx, invoke, e, hf.enter]) hs ht hd h
theorem T_callVN {K : Act → World → Prop} {f : FuncId} {fx : Operand} {cap : List Value} {xs : Array Operand} {ts : Array TypeId} {args : List Value} {Pre : List SP} {Post : Value → List SP → Prop} [hf : FuncTy P f]
    (hfx : ev env fx = some (.func (.func f) #[] cap.toArray)) (hx : xs.toList.map (ev env) = args.map some) (hs : Ctr P f (args ++ cap) Pre Post) (ht : Take Pre L M)
    (h : ∀ v L', Post v L' → T n w0 K env (L' ++ M)) : T n w0 (opO P ⟨none, .call ⟨.value fx, xs, ts⟩, ty, pos, after, g⟩ K) env L :=
  T_callAt (f := f) (fun a w A => by
    have := evs_eval A hx
    have e : xs.map a.eval = args.toArray := by rw [← this]; apply Array.ext'; simp
    simp [execOp, resolve, Deferred.ofValue, A.ev hfx, invoke, e, hf.enter]) hs ht rfl h

/-- The slots as a function begins. -/
def env0 : Nat → List Value → Env
  | _, [] => []
  | i, v :: vs => (i, v) :: env0 (i + 1) vs
theorem env0_look : ∀ (vs : List Value) (i d : Nat) (v : Value), look (env0 i vs) d = some v → i ≤ d ∧ vs[d - i]? = some v
  | [], i, d, v, h => by cases h
  | u :: vs, i, d, v, h => by
    simp only [env0, look_cons] at h
    by_cases c : i = d
    · subst c; simp at h; subst h; simp
    · rw [if_neg c] at h
      obtain ⟨h1, h2⟩ := env0_look vs (i + 1) d v h
      refine ⟨by omega, ?_⟩
      rw [show d - i = (d - (i + 1)) + 1 by omega]
      simpa using h2
theorem Ctr.of {f : FuncId} {fn : Func} {c : Code} {args : List Value} {Pre : List SP} {Post : Value → List SP → Prop} (hf : P.funcs[f]? = some fn) (hb : fn.body = some c) (hn : Nat.ble args.length fn.ntmps = true)
    (h : ∀ w F, T fn.ntmps w (c.wp P (bodyPost P fn fun e w' => ∃ v L, e = .returned v ∧ Post v L ∧ Hd w' (L ++ F) ∧ Keep w w')) (env0 0 args) (Pre ++ F)) : Ctr P f args Pre Post := by
  intro w F H
  have hn := Nat.le_of_ble_eq_true hn
  refine calls_of_wp hf hb (h w F _ _ ⟨rfl, by simp; omega, ?_, H, .refl _⟩)
  intro d v hd
  obtain ⟨_, h2⟩ := env0_look args 0 d v hd
  have hlt := (List.getElem?_eq_some_iff.1 h2).1
  simp only [Nat.sub_zero] at h2 hlt
  rw [Array.getElem?_append_left (by simpa using hlt)]
  simpa using h2
/-- The results. -/
def resVals (P : Program) (env : Env) (L : List SP) : List ResultVar → List Value → Prop
  | [], [] => True
  | .tmp t :: r, v :: vs => look env t = some v ∧ resVals P env L r vs
  | .cell b t :: r, v :: vs => (∃ p, look env b = some (.pointer (some p)) ∧ ∀ w, Hd w L → (loadVar t p).run P w = .ok v w) ∧ resVals P env L r vs
  | _, _ => False
def resOf : List Value → Value
  | [v] => v
  | vs => .tuple vs.toArray
theorem run_mapM_res {a : Act} {w : World} (A : At n w0 env L a w) {rs : Array ResultVar} {f : ResultVar → Sem Value} {vs : List Value}
    (h1 : ∀ t, f (.tmp t) = pure (a.tmps.getD t undef)) (h2 : ∀ b t, f (.cell b t) = (do loadVar t (← asAddr (a.tmps.getD b undef)))) (h : resVals P env L rs.toList vs) :
    (rs.mapM f).run P w = .ok vs.toArray w := by
  have key : ∀ (rs : List ResultVar) (vs : List Value), resVals P env L rs vs → (rs.mapM f).run P w = .ok vs w := by
    intro rs
    induction rs with
    | nil => intro vs h; cases vs with
      | nil => simp
      | cons v vs => exact h.elim
    | cons r rs ih =>
      intro vs h
      cases vs with
      | nil => cases r <;> exact h.elim
      | cons v vs =>
        cases r with
        | cell b t =>
          obtain ⟨⟨p, hp, hl⟩, h3⟩ := h
          have h4 := A.slots _ _ hp
          simp only [List.mapM_cons, Sem.run_bind, h2, Array.getD_eq_getD_getElem?, h4, Option.getD_some, asAddr, Sem.run_pure, Result.andThen_ok, hl w A.heap, ih vs h3]
        | tmp t =>
          have h4 := A.slots _ _ h.1
          simp only [List.mapM_cons, Sem.run_bind, h1, Sem.run_pure, Result.andThen_ok, ih vs h.2]
          simp [Array.getD_eq_getD_getElem?, h4]
  rw [Array.mapM_eq_mapM_toList]
  simp only [Sem.run_map, key _ _ h, Result.andThen_ok]
theorem run_results {fn : Func} {a : Act} {w : World} (A : At n w0 env L a w) {vs : List Value} (h : resVals P env L fn.results.toList vs) :
    (results fn a.tmps).run P w = .ok (resOf vs) w := by
  unfold results
  rw [Sem.run_bind, run_mapM_res A (fun _ => rfl) (fun _ _ => rfl) h]
  simp only [Result.andThen_ok, Sem.run_pure]
  congr 1
  cases vs with
  | nil => rfl
  | cons v vs => cases vs <;> simp [resOf]
/-- A return. -/
theorem T_post {fn : Func} {Post : Value → List SP → Prop} {F G : List SP} (vs : List Value) (L' : List SP) (hr : resVals P env L fn.results.toList vs) (hp : Post (resOf vs) L') (hL : L.Perm (L' ++ F ++ G)) :
    T n w0 (bodyPost P fn (fun e w' => ∃ v L, e = .returned v ∧ Post v L ∧ Hd w' (L ++ F) ∧ Keep w0 w') .ret) env L :=
  fun a w A => ⟨A.defers, _, run_results A hr, _, L', rfl, hp, (A.heap.perm hL).append_left, A.keep⟩
/-- A return: the results first, then what the contract says of them. -/
theorem T_end {fn : Func} {Post : Value → List SP → Prop} {F : List SP} (vs : List Value) (hr : resVals P env L fn.results.toList vs) (h : ∃ L' G, Post (resOf vs) L' ∧ L.Perm (L' ++ F ++ G)) :
    T n w0 (bodyPost P fn (fun e w' => ∃ v L, e = .returned v ∧ Post v L ∧ Hd w' (L ++ F) ∧ Keep w0 w') .ret) env L := by
  obtain ⟨L', G, hp, hL⟩ := h
  exact T_post vs L' hr hp hL
theorem T_endN {fn : Func} {Post : Value → List SP → Prop} {F : List SP} (vs : List Value) (hr : resVals P env L fn.results.toList vs) (h : ∃ L' G, Post (resOf vs) L' ∧ L.Perm (L' ++ F ++ G)) :
    T n w0 (bodyPost P fn (fun e w' => ∃ v L, e = .returned v ∧ Post v L ∧ Hd w' (L ++ F) ∧ Keep w0 w') .normal) env L := by
  obtain ⟨L', G, hp, hL⟩ := h
  exact fun a w A => ⟨A.defers, _, run_results A hr, _, L', rfl, hp, (A.heap.perm hL).append_left, A.keep⟩
theorem T_postN {fn : Func} {Post : Value → List SP → Prop} {F G : List SP} (vs : List Value) (L' : List SP) (hr : resVals P env L fn.results.toList vs) (hp : Post (resOf vs) L') (hL : L.Perm (L' ++ F ++ G)) :
    T n w0 (bodyPost P fn (fun e w' => ∃ v L, e = .returned v ∧ Post v L ∧ Hd w' (L ++ F) ∧ Keep w0 w') .normal) env L :=
  fun a w A => ⟨A.defers, _, run_results A hr, _, L', rfl, hp, (A.heap.perm hL).append_left, A.keep⟩

theorem T_jumpN {l : Nat} {J : Act → World → Prop} (h : T n w0 (Q .normal) env L) : T n w0 (Exit.jump l J Q .normal) env L := h
theorem T_jumpR {l : Nat} {J : Act → World → Prop} (h : T n w0 (Q .ret) env L) : T n w0 (Exit.jump l J Q .ret) env L := h
theorem T_jumpE {l i : Nat} {J : Act → World → Prop} (h : T n w0 (Q (.exit i)) env L) : T n w0 (Exit.jump l J Q (.exit i)) env L := h
theorem T_jumpG {l : Nat} {J : Act → World → Prop} (h : T n w0 J env L) : T n w0 (Exit.jump l J Q (.goto l)) env L := fun a w A => ⟨rfl, h a w A⟩
theorem T_scope {ι : Type} {c B : Code} (l : Nat) (R : ι → Prop) (E : ι → Env) (H : ι → List SP) (μ : ι → Nat) (hf : findLabel c l = some (.seq .skip B))
    (first : (∀ x, R x → T n w0 (B.wp P (Exit.jump l (Inv n w0 R E H) Q)) (E x) (H x)) → T n w0 (c.wp P (Exit.jump l (Inv n w0 R E H) Q)) env L)
    (pass : ∀ x, R x → T n w0 (B.wp P (Exit.jump l (Inv n w0 (fun y => R y ∧ μ y < μ x) E H) Q)) (E x) (H x)) : T n w0 ((Code.scope c).wp P Q) env L := by
  have weak : ∀ x, R x → T n w0 (B.wp P (Exit.jump l (Inv n w0 R E H) Q)) (E x) (H x) := fun x hx a w A =>
    wp_mono (pass x hx a w A) fun e a' w' hq => by
      cases e <;> first
        | exact hq
        | (obtain ⟨rfl, y, ⟨hy, _⟩, hat⟩ := hq; exact ⟨rfl, y, hy, hat⟩)
  intro a w A
  -- the measure as a state: by induction, as in wp_scope_jumps
  intro b k cs
  have hg : gotoIn l (.inScope c :: k) = some (.code (.seq .skip B) :: .inScope c :: k) := by simp [gotoIn, hf]
  have key : ∀ m a w, (∃ x, R x ∧ μ x = m ∧ At n w0 (E x) (H x) a w) →
      ∃ e a' w', Q e a' w' ∧ Arrives P (lone (b.at a (.code (.seq .skip B) :: .inScope c :: k)) cs w) b k cs e a' w' := by
    intro m
    induction m using Nat.strongRecOn with
    | _ m ih =>
      rintro a w ⟨x, hx, rfl, hat⟩
      have hp : (Code.seq .skip B).wp P (Exit.jump l (Inv n w0 (fun y => R y ∧ μ y < μ x) E H) Q) a w := wp_seq (wp_skip (pass x hx a w hat))
      obtain ⟨e, a₁, w₁, hq, harr⟩ := hp b (.inScope c :: k) cs
      cases e with
      | normal => exact ⟨.normal, a₁, w₁, hq, Steps.trans harr (.one step_inScope)⟩
      | exit id => exact ⟨.exit id, a₁, w₁, hq, fun k' hk => harr k' (by simp [exitTo, hk])⟩
      | goto l' =>
        obtain ⟨rfl, y, ⟨hy, hlt⟩, haty⟩ := hq
        obtain ⟨e₂, a₂, w₂, hq₂, harr₂⟩ := ih (μ y) hlt a₁ w₁ ⟨y, hy, rfl, haty⟩
        exact ⟨e₂, a₂, w₂, hq₂, .of_steps (harr _ hg) harr₂⟩
      | ret => exact ⟨_, a₁, w₁, hq, harr⟩
      | panic ch => exact ⟨_, a₁, w₁, hq, harr⟩
      | outgrown => exact ⟨_, a₁, w₁, hq, harr⟩
  obtain ⟨e, a₁, w₁, hq, harr⟩ := first weak a w A b (.inScope c :: k) cs
  cases e with
  | normal => exact ⟨.normal, a₁, w₁, hq, .head step_scope (Steps.trans harr (.one step_inScope))⟩
  | exit id => exact ⟨.exit id, a₁, w₁, hq, fun k' hk => .head step_scope (harr k' (by simp [exitTo, hk]))⟩
  | goto l' =>
    obtain ⟨rfl, x, hx, hat⟩ := hq
    obtain ⟨e₂, a₂, w₂, hq₂, harr₂⟩ := key _ a₁ w₁ ⟨x, hx, rfl, hat⟩
    exact ⟨e₂, a₂, w₂, hq₂, .of_steps (.head step_scope (harr _ hg)) harr₂⟩
  | ret => exact ⟨_, a₁, w₁, hq, .of_steps (.one step_scope) harr⟩
  | panic ch => exact ⟨_, a₁, w₁, hq, .of_steps (.one step_scope) harr⟩
  | outgrown => exact ⟨_, a₁, w₁, hq, .of_steps (.one step_scope) harr⟩
/-- The label is come to from above. -/
theorem T_atLabel {ι : Type} {B : Code} {l : Nat} {R : ι → Prop} {E : ι → Env} {H : ι → List SP}
    (pass : ∀ x, R x → T n w0 (B.wp P Q) (E x) (H x)) (h : T n w0 (Inv n w0 R E H) env L) : T n w0 ((Code.label l).wp P (Exit.then (B.wp P Q) Q)) env L := by
  intro a w A
  obtain ⟨x, hx, hat⟩ := h a w A
  exact wp_label (pass x hx a w hat)
end
end Go.Sl
set_option linter.unusedVariables false
set_option linter.unusedSimpArgs false
namespace Go.Sl
set_option linter.unnecessarySimpa false
open Go
section
variable {P : Program} {n : Nat} {w0 : World} {Q : Exit → Act → World → Prop} {env : Env} {L M M2 : List SP} {ops : Array Oper} {rest : List Oper}
variable {d : Nat} {ty : TypeId} {pos : String} {after : Array Edge} {g : Option (Nat × Bool)} {K : Act → World → Prop}

theorem kmv {x : Operand} {v : Value} (hd : Nat.blt d n = true) (hx : ev env x = some v) (h : T n w0 K ((d, v) :: env) L) : T n w0 (opO P ⟨some d, .move x, ty, pos, after, g⟩ K) env L :=
  T_still hd (S_move hx) h
theorem kas {x : Operand} {v : Value} (hd : Nat.blt d n = true) (hx : ev env x = some v) (h : T n w0 K ((d, v) :: env) L) : T n w0 (opO P ⟨some d, .assign x, ty, pos, after, g⟩ K) env L :=
  T_still hd (S_assign hx) h
theorem kpT {c x y : Operand} {v : Value} (hd : Nat.blt d n = true) (hc : ev env c = some (.bool true)) (hx : ev env x = some v) (h : T n w0 K ((d, v) :: env) L) :
    T n w0 (opO P ⟨some d, .pick c x y, ty, pos, after, g⟩ K) env L := T_still hd (S_pickT hc hx) h
theorem kpF {c x y : Operand} {v : Value} (hd : Nat.blt d n = true) (hc : ev env c = some (.bool false)) (hy : ev env y = some v) (h : T n w0 K ((d, v) :: env) L) :
    T n w0 (opO P ⟨some d, .pick c x y, ty, pos, after, g⟩ K) env L := T_still hd (S_pickF hc hy) h
theorem kpk {c x y : Operand} {b b1 b2 : Bool} (hd : Nat.blt d n = true) (hc : ev env c = some (.bool b)) (hx : ev env x = some (.bool b1)) (hy : ev env y = some (.bool b2))
    (h : T n w0 K ((d, .bool (bif b then b1 else b2)) :: env) L) : T n w0 (opO P ⟨some d, .pick c x y, ty, pos, after, g⟩ K) env L := T_still hd (S_pick hc hx hy) h
theorem knc {x : Operand} {p : Addr} (hd : Nat.blt d n = true) (hx : ev env x = some (.pointer (some p))) (h : T n w0 K ((d, .pointer (some p)) :: env) L) :
    T n w0 (opO P ⟨some d, .nilCheck x, ty, pos, after, g⟩ K) env L := T_still hd (S_nilCheck hx) h
theorem kncF {x : Operand} {f : FuncId} {fs cs : Array Value} (hd : Nat.blt d n = true) (hx : ev env x = some (.func (.func f) fs cs)) (h : T n w0 K ((d, .func (.func f) fs cs) :: env) L) :
    T n w0 (opO P ⟨some d, .nilCheck x, ty, pos, after, g⟩ K) env L := T_still hd (S_nilCheckF hx) h
theorem kex {x : Operand} {vs : List Value} {i : Nat} {v : Value} (hd : Nat.blt d n = true) (hx : ev env x = some (.tuple vs.toArray)) (hi : vs[i]? = some v) (h : T n w0 K ((d, v) :: env) L) :
    T n w0 (opO P ⟨some d, .extract x i, ty, pos, after, g⟩ K) env L := T_still hd (S_extract hx hi) h
theorem knot {t : TypeId} {x : Operand} {b : Bool} (hd : Nat.blt d n = true) (hx : ev env x = some (.bool b)) (h : T n w0 K ((d, .bool !b) :: env) L) :
    T n w0 (opO P ⟨some d, .unOp .not t x, ty, pos, after, g⟩ K) env L := T_still hd (S_not hx) h
theorem kmf {f : FuncId} {cap : Array Operand} {vs : List Value} (hd : Nat.blt d n = true) (hc : cap.toList.map (ev env) = vs.map some) (h : T n w0 K ((d, .func (.func f) #[] vs.toArray) :: env) L) :
    T n w0 (opO P ⟨some d, .makeFunc (.func f) #[] cap, ty, pos, after, g⟩ K) env L := T_still hd (S_makeFunc hc) h
section
variable {xt yt : TypeId} {x y : Operand} {k k' : IntKind} {a b r : Int} {op : BinOp}
theorem kar (hd : Nat.blt d n = true) (hx : ev env x = some (.int k a)) (hy : ev env y = some (.int k b)) (ho : arith op a b = some r) (hf : fits k r) (h : T n w0 K ((d, .int k r) :: env) L) :
    T n w0 (opO P ⟨some d, .binOp op xt x y yt, ty, pos, after, g⟩ K) env L := T_still hd (S_arithF hx hy ho hf) h
theorem karw (hd : Nat.blt d n = true) (hx : ev env x = some (.int k a)) (hy : ev env y = some (.int k b)) (ho : arith op a b = some r) (h : T n w0 K ((d, .int k (k.wrap r)) :: env) L) :
    T n w0 (opO P ⟨some d, .binOp op xt x y yt, ty, pos, after, g⟩ K) env L := T_still hd (S_arith hx hy ho) h
theorem kcmp {c : Bool} (hd : Nat.blt d n = true) (hx : ev env x = some (.int k a)) (hy : ev env y = some (.int k b)) (ho : cmp op a b = some c) (h : T n w0 K ((d, .bool c) :: env) L) :
    T n w0 (opO P ⟨some d, .binOp op xt x y yt, ty, pos, after, g⟩ K) env L := T_still hd (S_cmp hx hy ho) h
/-- A test that is decided. -/
theorem kcmpT {c : Bool} (hd : Nat.blt d n = true) (hx : ev env x = some (.int k a)) (hy : ev env y = some (.int k b)) (ho : cmp op a b = some c) (hc : c = true) (h : T n w0 K ((d, .bool true) :: env) L) :
    T n w0 (opO P ⟨some d, .binOp op xt x y yt, ty, pos, after, g⟩ K) env L := T_still hd (S_cmp hx hy ho) (by rw [hc]; exact h)
theorem kcmpF {c : Bool} (hd : Nat.blt d n = true) (hx : ev env x = some (.int k a)) (hy : ev env y = some (.int k b)) (ho : cmp op a b = some c) (hc : c = false) (h : T n w0 K ((d, .bool false) :: env) L) :
    T n w0 (opO P ⟨some d, .binOp op xt x y yt, ty, pos, after, g⟩ K) env L := T_still hd (S_cmp hx hy ho) (by rw [hc]; exact h)
theorem kquo (hd : Nat.blt d n = true) (hx : ev env x = some (.int k a)) (hy : ev env y = some (.int k b)) (ha : 0 ≤ a) (hb : 0 < b) (hf : fits k a) (h : T n w0 K ((d, .int k (a / b)) :: env) L) :
    T n w0 (opO P ⟨some d, .binOp .quo xt x y yt, ty, pos, after, g⟩ K) env L := T_still hd (S_quoN hx hy ha hb hf) h
theorem krem (hd : Nat.blt d n = true) (hx : ev env x = some (.int k a)) (hy : ev env y = some (.int k b)) (ha : 0 ≤ a) (hb : 0 < b) (h : T n w0 K ((d, .int k (a % b)) :: env) L) :
    T n w0 (opO P ⟨some d, .binOp .rem xt x y yt, ty, pos, after, g⟩ K) env L := T_still hd (S_remN hx hy ha hb) h
theorem kquoI (hd : Nat.blt d n = true) (hx : ev env x = some (.int k a)) (hy : ev env y = some (.int k b)) (hb : b ≠ 0) (h : T n w0 K ((d, .int k (k.wrap (a.tdiv b))) :: env) L) :
    T n w0 (opO P ⟨some d, .binOp .quo xt x y yt, ty, pos, after, g⟩ K) env L := T_still hd (S_quo hx hy hb) h
theorem kremI (hd : Nat.blt d n = true) (hx : ev env x = some (.int k a)) (hy : ev env y = some (.int k b)) (hb : b ≠ 0) (h : T n w0 K ((d, .int k (a.tmod b)) :: env) L) :
    T n w0 (opO P ⟨some d, .binOp .rem xt x y yt, ty, pos, after, g⟩ K) env L := T_still hd (S_rem hx hy hb) h
theorem kshl (hd : Nat.blt d n = true) (hx : ev env x = some (.int k a)) (hy : ev env y = some (.int k' b)) (hb : 0 ≤ b) (h : T n w0 K ((d, .int k (k.wrap (a * 2 ^ (min b.toNat k.bits)))) :: env) L) :
    T n w0 (opO P ⟨some d, .binOp .shl xt x y yt, ty, pos, after, g⟩ K) env L := T_still hd (S_shl hx hy hb) h
theorem kshr (hd : Nat.blt d n = true) (hx : ev env x = some (.int k a)) (hy : ev env y = some (.int k' b)) (hb : 0 ≤ b) (h : T n w0 K ((d, .int k (a / (2 ^ (min b.toNat k.bits)))) :: env) L) :
    T n w0 (opO P ⟨some d, .binOp .shr xt x y yt, ty, pos, after, g⟩ K) env L := T_still hd (S_shr hx hy hb) h
theorem kbit (hd : Nat.blt d n = true) (hx : ev env x = some (.int k a)) (hy : ev env y = some (.int k b)) (ho : bitsOp k op a b = some r) (h : T n w0 K ((d, .int k r) :: env) L) :
    T n w0 (opO P ⟨some d, .binOp op xt x y yt, ty, pos, after, g⟩ K) env L := T_still hd (S_bits hx hy ho) h
/-- Bits of numbers that are not below 0. -/
theorem wrap_unsigned {k : IntKind} {r : Nat} (hs : k.signed = false) (h : r < 2 ^ k.bits) : k.wrap (r : Int) = r := by
  simp only [IntKind.wrap, hs, Bool.false_and, Bool.false_eq_true, if_false]
  exact Int.emod_eq_of_lt (by omega) (by exact_mod_cast h)
theorem bits_nat {k : IntKind} {a b : Nat} {op : BinOp} {f : Nat → Nat → Nat} (hs : k.signed = false) (ha : a < 2 ^ k.bits) (hb : b < 2 ^ k.bits)
    (ho : (op = .and ∧ f = fun a b => a &&& b) ∨ (op = .or ∧ f = fun a b => a ||| b) ∨ (op = .xor ∧ f = fun a b => a ^^^ b)) : bitsOp k op a b = some ((f a b : Nat) : Int) := by
  have e1 : (BitVec.ofInt k.bits (a : Int)).toNat = a := by simp [Nat.mod_eq_of_lt ha]
  have e2 : (BitVec.ofInt k.bits (b : Int)).toNat = b := by simp [Nat.mod_eq_of_lt hb]
  rcases ho with ⟨rfl, rfl⟩ | ⟨rfl, rfl⟩ | ⟨rfl, rfl⟩
  · simp only [bitsOp, BitVec.toNat_and, e1, e2]; rw [wrap_unsigned hs (Nat.lt_of_le_of_lt Nat.and_le_left ha)]
  · simp only [bitsOp, BitVec.toNat_or, e1, e2]; rw [wrap_unsigned hs (Nat.or_lt_two_pow ha hb)]
  · simp only [bitsOp, BitVec.toNat_xor, e1, e2]; rw [wrap_unsigned hs (Nat.xor_lt_two_pow ha hb)]
theorem kand {p q : Nat} (hd : Nat.blt d n = true) (hx : ev env x = some (.int k (p : Int))) (hy : ev env y = some (.int k (q : Int))) (hs : k.signed = false) (hp : p < 2 ^ k.bits) (hq : q < 2 ^ k.bits)
    (h : T n w0 K ((d, .int k ((p &&& q : Nat) : Int)) :: env) L) : T n w0 (opO P ⟨some d, .binOp .and xt x y yt, ty, pos, after, g⟩ K) env L :=
  T_still hd (S_bits hx hy (bits_nat hs hp hq (.inl ⟨rfl, rfl⟩))) h
theorem kor {p q : Nat} (hd : Nat.blt d n = true) (hx : ev env x = some (.int k (p : Int))) (hy : ev env y = some (.int k (q : Int))) (hs : k.signed = false) (hp : p < 2 ^ k.bits) (hq : q < 2 ^ k.bits)
    (h : T n w0 K ((d, .int k ((p ||| q : Nat) : Int)) :: env) L) : T n w0 (opO P ⟨some d, .binOp .or xt x y yt, ty, pos, after, g⟩ K) env L :=
  T_still hd (S_bits hx hy (bits_nat hs hp hq (.inr (.inl ⟨rfl, rfl⟩)))) h
theorem kxor {p q : Nat} (hd : Nat.blt d n = true) (hx : ev env x = some (.int k (p : Int))) (hy : ev env y = some (.int k (q : Int))) (hs : k.signed = false) (hp : p < 2 ^ k.bits) (hq : q < 2 ^ k.bits)
    (h : T n w0 K ((d, .int k ((p ^^^ q : Nat) : Int)) :: env) L) : T n w0 (opO P ⟨some d, .binOp .xor xt x y yt, ty, pos, after, g⟩ K) env L :=
  T_still hd (S_bits hx hy (bits_nat hs hp hq (.inr (.inr ⟨rfl, rfl⟩)))) h
/-- All bits turned. -/
theorem S_xorAll {t : TypeId} {x : Operand} {k : IntKind} {p : Nat} {dd : Option Nat} (hx : ev env x = some (.int k (p : Int))) (hs : k.signed = false) (hp : p < 2 ^ k.bits) :
    Still P n w0 env L ⟨dd, .unOp .xor t x, ty, pos, after, g⟩ (.int k ((2 ^ k.bits - 1 - p : Nat) : Int)) :=
  fun a w A => by
    have hm : k.max = ((2 ^ k.bits - 1 : Nat) : Int) := by cases k <;> simp [IntKind.signed] at hs <;> rfl
    have h1 : 2 ^ k.bits - 1 < 2 ^ k.bits := by have := Nat.two_pow_pos k.bits; omega
    have := bits_nat (k := k) (a := 2 ^ k.bits - 1) (b := p) hs h1 hp (.inr (.inr ⟨rfl, rfl⟩))
    have hx2 : (2 ^ k.bits - 1) ^^^ p = 2 ^ k.bits - 1 - p := by
      have e := BitVec.toNat_not (x := BitVec.ofNat k.bits p)
      rw [BitVec.toNat_ofNat, Nat.mod_eq_of_lt hp] at e
      rw [← e, ← BitVec.allOnes_xor, BitVec.toNat_xor, BitVec.toNat_allOnes, BitVec.toNat_ofNat, Nat.mod_eq_of_lt hp]
    simp only [bitsOp, Option.some.injEq] at this
    rw [hx2] at this
    simp only [execOp, A.ev hx, Op.unary, hs, Bool.false_eq_true, if_false, hm, Op.intBits, this, Sem.run_bind, Sem.run_pure, Result.andThen_ok]
theorem kxa {t : TypeId} {p : Nat} (hd : Nat.blt d n = true) (hx : ev env x = some (.int k (p : Int))) (hs : k.signed = false) (hp : p < 2 ^ k.bits)
    (h : T n w0 K ((d, .int k ((2 ^ k.bits - 1 - p : Nat) : Int)) :: env) L) : T n w0 (opO P ⟨some d, .unOp .xor t x, ty, pos, after, g⟩ K) env L := T_still hd (S_xorAll hx hs hp) h
/-- Bits moved down, by a constant. -/
theorem kshrN {p q s : Nat} (hd : Nat.blt d n = true) (hx : ev env x = some (.int k (p : Int))) (hy : ev env y = some (.int k' (q : Int))) (hq : 2 ^ (min q k.bits) = s)
    (h : T n w0 K ((d, .int k ((p / s : Nat) : Int)) :: env) L) : T n w0 (opO P ⟨some d, .binOp .shr xt x y yt, ty, pos, after, g⟩ K) env L :=
  kshr hd hx hy (by omega) (by
    rw [Int.toNat_natCast]
    have : ((p : Int) / 2 ^ (min q k.bits)) = ((p / s : Nat) : Int) := by rw [← hq]; norm_cast
    rw [this]; exact h)
theorem keqB {a b : Bool} [hu : UndTy P xt .bool] (hd : Nat.blt d n = true) (hx : ev env x = some (.bool a)) (hy : ev env y = some (.bool b)) (h : T n w0 K ((d, .bool (a == b)) :: env) L) :
    T n w0 (opO P ⟨some d, .binOp .eql xt x y yt, ty, pos, after, g⟩ K) env L := T_still hd (S_eqBool hx hy) h
theorem kneB {a b : Bool} [hu : UndTy P xt .bool] (hd : Nat.blt d n = true) (hx : ev env x = some (.bool a)) (hy : ev env y = some (.bool b)) (h : T n w0 K ((d, .bool (!(a == b))) :: env) L) :
    T n w0 (opO P ⟨some d, .binOp .neq xt x y yt, ty, pos, after, g⟩ K) env L := T_still hd (S_neBool hx hy) h
theorem keqP {e : TypeId} {p : Option Addr} [hu : UndTy P xt (.pointer e)] (hd : Nat.blt d n = true) (hx : ev env x = some (.pointer p)) (hy : ev env y = some (.pointer none)) (h : T n w0 K ((d, .bool p.isNone) :: env) L) :
    T n w0 (opO P ⟨some d, .binOp .eql xt x y yt, ty, pos, after, g⟩ K) env L := T_still hd (S_eqNil (e := e) hx hy) h
theorem kneP {e : TypeId} {p : Option Addr} [hu : UndTy P xt (.pointer e)] (hd : Nat.blt d n = true) (hx : ev env x = some (.pointer p)) (hy : ev env y = some (.pointer none)) (h : T n w0 K ((d, .bool (!p.isNone)) :: env) L) :
    T n w0 (opO P ⟨some d, .binOp .neq xt x y yt, ty, pos, after, g⟩ K) env L := T_still hd (S_neNil (e := e) hx hy) h
theorem keqS {a b : ByteArray} (hd : Nat.blt d n = true) (hx : ev env x = some (.string a)) (hy : ev env y = some (.string b)) (h : T n w0 K ((d, .bool (a == b)) :: env) L) :
    T n w0 (opO P ⟨some d, .binOp .eql xt x y yt, ty, pos, after, g⟩ K) env L := T_still hd (S_eqStr hx hy) h
theorem kneS {a b : ByteArray} (hd : Nat.blt d n = true) (hx : ev env x = some (.string a)) (hy : ev env y = some (.string b)) (h : T n w0 K ((d, .bool (!(a == b))) :: env) L) :
    T n w0 (opO P ⟨some d, .binOp .neq xt x y yt, ty, pos, after, g⟩ K) env L := T_still hd (S_neStr hx hy) h
theorem kcv {src dst : TypeId} [hu : UndTy P dst (.int k)] [hu' : UndTy P src (.int k')] (hd : Nat.blt d n = true) (hx : ev env x = some (.int k' a)) (hf : fits k a) (h : T n w0 K ((d, .int k a) :: env) L) :
    T n w0 (opO P ⟨some d, .convert src dst x, ty, pos, after, g⟩ K) env L := T_still hd (S_convF hx hf) h
theorem kcvw {src dst : TypeId} [hu : UndTy P dst (.int k)] [hu' : UndTy P src (.int k')] (hd : Nat.blt d n = true) (hx : ev env x = some (.int k' a)) (h : T n w0 K ((d, .int k (k.wrap a)) :: env) L) :
    T n w0 (opO P ⟨some d, .convert src dst x, ty, pos, after, g⟩ K) env L := T_still hd (S_conv hx) h
theorem kmin {ts : Array TypeId} (hd : Nat.blt d n = true) (hx : ev env x = some (.int k a)) (hy : ev env y = some (.int k b)) (h : T n w0 K ((d, .int k (min a b)) :: env) L) :
    T n w0 (opO P ⟨some d, .call ⟨.builtin .min, #[x, y], ts⟩, ty, pos, after, g⟩ K) env L := T_still hd (S_min2 hx hy) h
theorem kmax {ts : Array TypeId} (hd : Nat.blt d n = true) (hx : ev env x = some (.int k a)) (hy : ev env y = some (.int k b)) (h : T n w0 K ((d, .int k (max a b)) :: env) L) :
    T n w0 (opO P ⟨some d, .call ⟨.builtin .max, #[x, y], ts⟩, ty, pos, after, g⟩ K) env L := T_still hd (S_max2 hx hy) h
end
section
variable {t t' e k y : Nat} {x i z : Operand} {a : Option Addr} {m c b o j : Nat} {cs xs : List Value} {v : Value}
theorem klen [hs : SliceTy P t e k y] (hd : Nat.blt d n = true) (hx : ev env x = some (.slice a m c)) (h : T n w0 K ((d, .int .i64 m) :: env) L) :
    T n w0 (opO P ⟨some d, .call ⟨.builtin .len, #[x], #[t]⟩, ty, pos, after, g⟩ K) env L := T_still hd (S_lenSlice hx) h
theorem klenS {s : ByteArray} [hs : UndTy P t .string] (hd : Nat.blt d n = true) (hx : ev env x = some (.string s)) (h : T n w0 K ((d, .int .i64 s.size) :: env) L) :
    T n w0 (opO P ⟨some d, .call ⟨.builtin .len, #[x], #[t]⟩, ty, pos, after, g⟩ K) env L := T_still hd (S_lenStr hx) h
theorem kld [ht : CellTy P t] (hd : Nat.blt d n = true) (hx : ev env x = some (.pointer (some ⟨b, o, none⟩))) (hp : Pick (row b t' cs) L M) (hv : cs[o]? = some v) (h : T n w0 K ((d, v) :: env) L) :
    T n w0 (opO P ⟨some d, .load t x, ty, pos, after, g⟩ K) env L := T_still hd (S_load hx hp hv) h
/-- Of a slice whose cells are told by a function. -/
theorem kldM {α : Type} {f : α → Value} {l : List α} [ht : CellTy P t] (hd : Nat.blt d n = true) (hx : ev env x = some (.pointer (some (sAt a j)))) (hp : Pick (slc t' k a m c (l.map f)) L M) (hj : j < l.length)
    (h : T n w0 K ((d, f l[j]) :: env) L) : T n w0 (opO P ⟨some d, .load t x, ty, pos, after, g⟩ K) env L :=
  T_still hd (S_loadS hx hp (by simp [hj])) h
theorem kldS [ht : CellTy P t] (hd : Nat.blt d n = true) (hx : ev env x = some (.pointer (some (sAt a j)))) (hp : Pick (slc t' k a m c xs) L M) (hv : xs[j]? = some v) (h : T n w0 K ((d, v) :: env) L) :
    T n w0 (opO P ⟨some d, .load t x, ty, pos, after, g⟩ K) env L := T_still hd (S_loadS hx hp hv) h
theorem kldA [ht : AggTy P t k] (hd : Nat.blt d n = true) (hx : ev env x = some (.pointer (some ⟨b, 0, none⟩))) (hp : Pick (row b t' cs) L M) (hk : cs.length = k) (h : T n w0 K ((d, .agg cs.toArray) :: env) L) :
    T n w0 (opO P ⟨some d, .load t x, ty, pos, after, g⟩ K) env L := T_still hd (S_loadAll hx hp hk) h
theorem kldP [ht : AggTy P t k] (hd : Nat.blt d n = true) (hx : ev env x = some (.pointer (some ⟨b, o, none⟩))) (hp : Pick (row b t' cs) L M) (hk : o + k ≤ cs.length) (h : T n w0 K ((d, .agg ((cs.drop o).take k).toArray) :: env) L) :
    T n w0 (opO P ⟨some d, .load t x, ty, pos, after, g⟩ K) env L := T_still hd (S_loadAgg hx hp hk) h
theorem kldSA {k' : Nat} [ht : AggTy P t k'] (hd : Nat.blt d n = true) (hx : ev env x = some (.pointer (some (sAt a j)))) (hp : Pick (slc t' k a m c xs) L M) (hk : j + k' ≤ xs.length) (h0 : Nat.blt 0 k' = true)
    (h : T n w0 K ((d, .agg ((xs.drop j).take k').toArray) :: env) L) : T n w0 (opO P ⟨some d, .load t x, ty, pos, after, g⟩ K) env L :=
  T_still hd (S_loadSAgg hx hp hk (by simpa [Nat.blt_eq] using h0)) h
theorem kfd {s f off ft : Nat} [hf : FieldTy P s f off ft] (hd : Nat.blt d n = true) (hx : ev env x = some (.pointer (some ⟨b, o, none⟩))) (h : T n w0 K ((d, .pointer (some ⟨b, o + off, none⟩)) :: env) L) :
    T n w0 (opO P ⟨some d, .fieldAddr s x f, ty, pos, after, g⟩ K) env L := T_still hd (S_fieldR hx) h
theorem kfdS {s f off ft : Nat} [hf : FieldTy P s f off ft] (hd : Nat.blt d n = true) (hx : ev env x = some (.pointer (some (sAt a j)))) (hp : Pick (slc t' k a m c xs) L M) (h : T n w0 K ((d, .pointer (some (sAt a (j + off)))) :: env) L) :
    T n w0 (opO P ⟨some d, .fieldAddr s x f, ty, pos, after, g⟩ K) env L := T_still hd (S_fieldS hx hp) h
theorem kix {k' : Nat} {kk : IntKind} {q : Int} [hs : SliceTy P t e k y] (hd : Nat.blt d n = true) (hx : ev env x = some (.slice a m c)) (hj : ev env i = some (.int kk q)) (hp : Pick (slc t' k' a m c xs) L M) (hi : 0 ≤ q ∧ q < m)
    (h : T n w0 K ((d, .pointer (some (sAt a (q.toNat * k)))) :: env) L) : T n w0 (opO P ⟨some d, .indexAddr t x i, ty, pos, after, g⟩ K) env L :=
  T_still hd (S_index (y := y) (e := e) hx hj hp hi) h
/-- Elements of one cell, at a natural number. -/
theorem kix1 {k' : Nat} {kk : IntKind} {q : Nat} [hs : SliceTy P t e 1 y] (hd : Nat.blt d n = true) (hx : ev env x = some (.slice a m c)) (hj : ev env i = some (.int kk (q : Int))) (hp : Pick (slc t' k' a m c xs) L M) (hi : q < m)
    (h : T n w0 K ((d, .pointer (some (sAt a q))) :: env) L) : T n w0 (opO P ⟨some d, .indexAddr t x i, ty, pos, after, g⟩ K) env L :=
  kix (y := y) (e := e) hd hx hj hp (by omega) (by rw [Int.toNat_natCast, Nat.mul_one]; exact h)
theorem kixN {k' : Nat} {kk : IntKind} {q : Nat} [hs : SliceTy P t e k y] (hd : Nat.blt d n = true) (hx : ev env x = some (.slice a m c)) (hj : ev env i = some (.int kk (q : Int))) (hp : Pick (slc t' k' a m c xs) L M) (hi : q < m)
    (h : T n w0 K ((d, .pointer (some (sAt a (q * k)))) :: env) L) : T n w0 (opO P ⟨some d, .indexAddr t x i, ty, pos, after, g⟩ K) env L :=
  kix (y := y) (e := e) hd hx hj hp (by omega) (by rw [Int.toNat_natCast]; exact h)
theorem kiaR {len : Nat} {kk : IntKind} {q : Int} [ht : ArrTy P t len e k] (hd : Nat.blt d n = true) (hx : ev env x = some (.pointer (some ⟨b, o, none⟩))) (hj : ev env i = some (.int kk q)) (hi : 0 ≤ q ∧ q < len)
    (h : T n w0 K ((d, .pointer (some ⟨b, o + q.toNat * k, none⟩)) :: env) L) : T n w0 (opO P ⟨some d, .indexAddr t x i, ty, pos, after, g⟩ K) env L :=
  T_still hd (S_indexArrR (e := e) hx hj hi) h
theorem kiaS {k' len l : Nat} {kk : IntKind} {q : Int} [ht : ArrTy P t len e k] (hd : Nat.blt d n = true) (hx : ev env x = some (.pointer (some (sAt a l)))) (hj : ev env i = some (.int kk q)) (hi : 0 ≤ q ∧ q < len) (hp : Pick (slc t' k' a m c xs) L M)
    (h : T n w0 K ((d, .pointer (some (sAt a (l + q.toNat * k)))) :: env) L) : T n w0 (opO P ⟨some d, .indexAddr t x i, ty, pos, after, g⟩ K) env L :=
  T_still hd (S_indexArrS (e := e) hx hj hi hp) h
theorem kst [ht : SizeTy P t 1] (hx : ev env x = some (.pointer (some ⟨b, o, none⟩))) (hz : ev env z = some v) (h1 : v.oneCell' = true) (hp : Pick (row b t' cs) L M) (ho : Nat.blt o cs.length = true)
    (h : T n w0 K env (row b t' (cs.set o v) :: M)) : T n w0 (opO P ⟨none, .store t x z, ty, pos, after, g⟩ K) env L := T_sto (O_store hx hz h1 hp ho) h
theorem kstS [ht : SizeTy P t 1] (hx : ev env x = some (.pointer (some (sAt a j)))) (hz : ev env z = some v) (h1 : v.oneCell' = true) (hp : Pick (slc t' k a m c xs) L M) (ho : j < xs.length)
    (h : T n w0 K env (slc t' k a m c (xs.set j v) :: M)) : T n w0 (opO P ⟨none, .store t x z, ty, pos, after, g⟩ K) env L := T_sto (O_storeS hx hz h1 hp ho) h
theorem kstA {vs : List Value} [ht : SizeTy P t k] (hx : ev env x = some (.pointer (some ⟨b, 0, none⟩))) (hz : ev env z = some (.agg vs.toArray)) (h1 : ∀ v ∈ vs, v.oneCell' = true) (hk : vs.length = k) (hp : Pick (row b t' cs) L M) (ho : cs.length = k)
    (h : T n w0 K env (row b t' vs :: M)) : T n w0 (opO P ⟨none, .store t x z, ty, pos, after, g⟩ K) env L := T_sto (O_storeAll hx hz h1 hk hp ho) h
theorem kstSA {k' : Nat} {vs : List Value} [ht : SizeTy P t k'] (hx : ev env x = some (.pointer (some (sAt a j)))) (hz : ev env z = some (.agg vs.toArray)) (h1 : ∀ v ∈ vs, v.oneCell' = true) (hk : vs.length = k') (h0 : 0 < k')
    (hp : Pick (slc t' k a m c xs) L M) (ho : j + k' ≤ xs.length) (h : T n w0 K env (slc t' k a m c (splice xs j vs) :: M)) : T n w0 (opO P ⟨none, .store t x z, ty, pos, after, g⟩ K) env L :=
  T_sto (O_storeSAgg hx hz h1 hk h0 hp ho) h
theorem kal {zs : List Value} [hz : ZeroTy P t zs] (hd : Nat.blt d n = true) (h : ∀ b, T n w0 K ((d, .pointer (some ⟨b, 0, none⟩)) :: env) (row b t zs :: L)) :
    T n w0 (opO P ⟨some d, .alloc t, ty, pos, after, g⟩ K) env L := T_eff hd E_alloc (by rintro v L' ⟨b, rfl, rfl⟩; exact h b)
theorem kbx {zs : List Value} (hd : Nat.blt d n = true) (hx : ev env x = some v) (hc : v.cells = zs.toArray) (h : ∀ b, T n w0 K ((d, .pointer (some ⟨b, 0, none⟩)) :: env) (row b t zs :: L)) :
    T n w0 (opO P ⟨some d, .box t x, ty, pos, after, g⟩ K) env L := T_eff hd (E_box hx hc) (by rintro v L' ⟨b, rfl, rfl⟩; exact h b)
theorem kbs {len : Nat} {parts : Array (Nat × Operand)} {vs : List Value} [hs : SliceTy P t e k y] (hd : Nat.blt d n = true)
    (hix : parts.toList.map (·.1) = List.range len) (hvs : parts.toList.map (fun p => ev env p.2) = vs.map some) (hk : ∀ v ∈ vs, v.cells.size = k) (hsmall : Nat.ble (len * k) 16777216 = true)
    (h : ∀ a, T n w0 K ((d, .slice a len len) :: env) (slc e k a len len (flat vs) :: L)) : T n w0 (opO P ⟨some d, .buildSlice t len parts, ty, pos, after, g⟩ K) env L :=
  T_eff hd (E_buildSlice hix hvs hk hsmall) (by rintro v L' ⟨a, rfl, rfl⟩; exact h a)
theorem flat_one : ∀ {vs : List Value}, (∀ v ∈ vs, v.oneCell' = true) → flat vs = vs
  | [], _ => rfl
  | v :: vs, h => by
    have h0 := h v (by simp)
    have hc : v.cells = #[v] := by cases v <;> first | rfl | simp [Value.oneCell'] at h0
    have := flat_one (vs := vs) fun x hx => h x (by simp [hx])
    simp only [flat, List.flatMap_cons, hc] at this ⊢
    rw [this]; rfl
theorem cells_one {vs : List Value} (h : ∀ v ∈ vs, v.oneCell' = true) : ∀ v ∈ vs, v.cells.size = 1 := fun v hv => by
  have h0 := h v hv
  cases v <;> first | rfl | simp [Value.oneCell'] at h0
theorem kbs1 {len : Nat} {parts : Array (Nat × Operand)} {vs : List Value} [hs : SliceTy P t e 1 y] (hd : Nat.blt d n = true)
    (hix : parts.toList.map (·.1) = List.range len) (hvs : parts.toList.map (fun p => ev env p.2) = vs.map some) (hk : ∀ v ∈ vs, v.oneCell' = true) (hsmall : Nat.ble (len * 1) 16777216 = true)
    (h : ∀ a, T n w0 K ((d, .slice a len len) :: env) (slc e 1 a len len vs :: L)) : T n w0 (opO P ⟨some d, .buildSlice t len parts, ty, pos, after, g⟩ K) env L :=
  kbs (y := y) hd hix hvs (cells_one hk) hsmall (fun a => by rw [flat_one hk]; exact h a)
theorem kap {x2 : Operand} {a2 : Option Addr} {m2 c2 t2 : Nat} {ys : List Value} [hs : SliceTy P t e k y] (hd : Nat.blt d n = true)
    (hx : ev env x = some (.slice a m c)) (hy : ev env x2 = some (.slice a2 m2 c2)) (hp : Pick (slc e k a m c xs) L M) (hp2 : Pick (slc t2 k a2 m2 c2 ys) M M2)
    (h1 : ∀ v ∈ ys, v.oneCell' = true) (hb : (m + m2) * y ≤ 140737488355328) (hb2 : m + m2 ≤ 9223372036854775807)
    (h : ∀ a' c', T n w0 K ((d, .slice a' (m + m2) c') :: env) (slc e k a' (m + m2) c' (xs ++ ys) :: slc t2 k a2 m2 c2 ys :: M2)) :
    T n w0 (opO P ⟨some d, .call ⟨.builtin .append, #[x, x2], #[t, t]⟩, ty, pos, after, g⟩ K) env L :=
  T_eff hd (E_append (y := y) hx hy hp hp2 h1 hb hb2) (by rintro v L' ⟨a', c', rfl, rfl⟩; exact h a' c')
theorem kmk {zs : List Value} {x2 : Operand} {l q : Int} {k1 k2 : IntKind} [hs : SliceTy P t e k y] [hz : ZeroTy P e zs] (hd : Nat.blt d n = true)
    (hx : ev env x = some (.int k1 l)) (hy : ev env x2 = some (.int k2 q)) (h0 : 0 ≤ l) (hmc : l ≤ q) (hb : q * y ≤ 140737488355328) (hb2 : q ≤ 9223372036854775807)
    (h : ∀ a, T n w0 K ((d, .slice a l.toNat q.toNat) :: env) (slc e k a l.toNat q.toNat (List.replicate l.toNat zs).flatten :: L)) : T n w0 (opO P ⟨some d, .makeSlice t x x2, ty, pos, after, g⟩ K) env L :=
  T_eff hd (E_make (y := y) hx hy h0 hmc hb hb2) (by rintro v L' ⟨a, rfl, rfl⟩; exact h a)
theorem ksl {lo hi : Option Operand} {l q : Nat} [hs : SliceTy P t e k y] (hd : Nat.blt d n = true) (hx : ev env x = some (.slice a m c))
    (hl : bnd env lo 0 = some l) (hh : bnd env hi m = some q) (h1 : l ≤ q) (h2 : q ≤ c)
    (h : T n w0 K ((d, .slice (if c = l then a else a.map (·.add (l * k))) (q - l) (c - l)) :: env) L) : T n w0 (opO P ⟨some d, .slice t x lo hi none, ty, pos, after, g⟩ K) env L :=
  T_still hd (S_slice (y := y) (e := e) hx hl hh h1 h2) h
theorem ksa {len : Nat} {p : Addr} [ht : ArrTy P t len e k] (hd : Nat.blt d n = true) (hx : ev env x = some (.pointer (some p))) (h : T n w0 K ((d, .slice (some p) len len) :: env) L) :
    T n w0 (opO P ⟨some d, .slice t x none none none, ty, pos, after, g⟩ K) env L := T_still hd (S_sliceAll hx) h
end
end
end Go.Sl
