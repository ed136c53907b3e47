/- Maps with int keys and ranging over them; parts of slices, copying; texts and bytes, struct types; numbers as bytes. Part 3 of 13 of the proof of SlotsPlays; no condition. -/
import Derived.Test.YtmjaepaakpaadaaDoorWalkB
import Derived.Laws.IdiomRangeMap
import Derived.Lib.ConvBytes
set_option linter.unusedVariables false
set_option linter.unusedSimpArgs false
namespace Go.Sl
set_option linter.unnecessarySimpa false
open Go

/-- The entries of a map whose keys are ints, and what it holds, in the order of coming. -/
structure Ents (es : List MapEntry) (clock : Nat) (l : List (Int × Value)) : Prop where
  keys : es.map (·.key) = l.map fun p => .int .i64 p.1
  vals : es.map (·.val) = l.map (·.2)
  nodup : (l.map (·.1)).Nodup
  borns : (es.map (·.born)).Nodup
  clock : ∀ e ∈ es, e.born < clock
def imap (r : Nat) (l : List (Int × Value)) : SP := sEx fun x : List MapEntry × Nat => fun h => Ents x.1 x.2 l ∧ pts r (.map x.1.toArray x.2) h
/-- A map that is being ranged over: the keys that were told, the last one first. -/
def imapIt (r b : Nat) (l : List (Int × Value)) (S : List Int) : SP := sEx fun x : List MapEntry × Nat × List Nat => fun h =>
  (Ents x.1 x.2.1 l ∧ (∀ e ∈ x.1, ∀ k, e.key = .int .i64 k → (e.born ∈ x.2.2 ↔ k ∈ S)) ∧ (∀ k ∈ S, k ∈ l.map (·.1)) ∧
    (∀ k ∈ S.head?, ∃ e ∈ x.1, e.key = .int .i64 k ∧ x.2.2.getLast? = some e.born)) ∧
  sep (pts r (.map x.1.toArray x.2.1)) (pts b (.mapIter (some r) x.2.1 x.2.2.toArray x.2.1)) h

theorem Hd.conj {w : World} {p : Prop} {A : SP} {L : List SP} (H : Hd w ((fun h => p ∧ A h) :: L)) : p ∧ Hd w (A :: L) := by
  refine ⟨?_, H.imp fun _ h => h.2⟩
  obtain ⟨h, hw, x, y, hd, rfl, hx, hy⟩ := H
  exact hx.1
theorem Hd.mkConj {w : World} {p : Prop} {A : SP} {L : List SP} (hp : p) (H : Hd w (A :: L)) : Hd w ((fun h => p ∧ A h) :: L) := H.imp fun _ h => ⟨hp, h⟩
theorem Hd.sep2 {w : World} {A B : SP} {L : List SP} : Hd w (sep A B :: L) ↔ Hd w (A :: B :: L) := by
  unfold Hd; simp only [sl, sep_assoc]
theorem Hd.openImap {w : World} {r : Nat} {l : List (Int × Value)} {L : List SP} (H : Hd w (imap r l :: L)) : ∃ es c, Ents es c l ∧ Hd w (pts r (.map es.toArray c) :: L) := by
  obtain ⟨⟨es, c⟩, H⟩ := H.ex
  obtain ⟨h1, H⟩ := H.conj
  exact ⟨es, c, h1, H⟩
theorem Hd.mkImap {w : World} {r : Nat} {l : List (Int × Value)} {L : List SP} {es : List MapEntry} {c : Nat} (h : Ents es c l) (H : Hd w (pts r (.map es.toArray c) :: L)) : Hd w (imap r l :: L) :=
  Hd.mkEx (es, c) (H.mkConj h)
theorem Ents.length {es : List MapEntry} {c : Nat} {l : List (Int × Value)} (h : Ents es c l) : es.length = l.length := by
  have := congrArg List.length h.keys; simpa using this
theorem Ents.get {es : List MapEntry} {c : Nat} {l : List (Int × Value)} (h : Ents es c l) {i : Nat} {e : MapEntry} (he : es[i]? = some e) : ∃ p, l[i]? = some p ∧ e.key = .int .i64 p.1 ∧ e.val = p.2 := by
  have h1 := congrArg (fun x => x[i]?) h.keys
  have h2 := congrArg (fun x => x[i]?) h.vals
  simp only [List.getElem?_map, he, Option.map_some] at h1 h2
  cases hl : l[i]? with
  | none => simp [hl] at h1
  | some p => simp [hl] at h1 h2; exact ⟨p, rfl, h1, h2⟩

/-- What a key finds. -/
def find (l : List (Int × Value)) (k : Int) : Option Value := (l.find? (·.1 == k)).map (·.2)
def upd (l : List (Int × Value)) (k : Int) (v : Value) : List (Int × Value) := if l.any (·.1 == k) then l.map (fun p => if p.1 = k then (k, v) else p) else l ++ [(k, v)]
def del (l : List (Int × Value)) (k : Int) : List (Int × Value) := l.filter (·.1 != k)

theorem findNow_ents (k : Int) : ∀ (es : List MapEntry) (l : List (Int × Value)) (i : Nat), es.map (·.key) = l.map (fun p => Value.int .i64 p.1) → es.map (·.val) = l.map (·.2) →
    Instr.findNow (.int .i64) (.int .i64 k) es i = some ((l.findIdx? (·.1 == k)).bind fun j => (l[j]?).map fun p => (i + j, p.2))
  | [], [], i, _, _ => by simp [Instr.findNow]
  | [], p :: l, i, h, _ => by simp at h
  | e :: es, [], i, h, _ => by simp at h
  | e :: es, p :: l, i, h1, h2 => by
    simp only [List.map_cons, List.cons.injEq] at h1 h2
    have ih := findNow_ents k es l (i + 1) h1.2 h2.2
    simp only [Instr.findNow, h1.1, Instr.sameNow, if_true]
    by_cases hk : k = p.1
    · subst hk
      simp [List.findIdx?_cons, h2.1]
    · have hb : (k == p.1) = false := by simp [hk]
      have hb2 : (p.1 == k) = false := by simp; exact fun h => hk h.symm
      rw [hb]
      simp only [ih, List.findIdx?_cons, hb2, Bool.false_eq_true, if_false]
      cases l.findIdx? (·.1 == k) with
      | none => simp
      | some j => simp [Nat.add_assoc, Nat.add_comm 1 j]
theorem find_idx (l : List (Int × Value)) (k : Int) : find l k = (l.findIdx? (·.1 == k)).bind fun j => (l[j]?).map (·.2) := by
  induction l with
  | nil => simp [find]
  | cons p l ih =>
    simp only [find, List.find?_cons, List.findIdx?_cons] at ih ⊢
    cases h : (p.1 == k) with
    | true => simp
    | false =>
      simp only [ih, Bool.false_eq_true, if_false]
      cases l.findIdx? (·.1 == k) <;> simp
theorem checkKey_int {P : Program} {kt : TypeId} (h : P.underlying kt = some (.int .i64)) (emp : Bool) (k : Int) (w : World) : (Instr.checkKey emp 10000 kt (.int .i64 k)).run P w = .ok () w := by
  rw [show (10000 : Nat) = 9999 + 1 from rfl, Instr.checkKey]
  simp [run_und h]
theorem run_getMap {P : Program} {w : World} {r : Nat} {es : Array MapEntry} {c : Nat} (h : w.heap[r]? = some (.map es c)) : (getObj r).run P w = .ok (.map es c) w := by
  simp [getObj, Sem.run, h]
theorem run_setMap {P : Program} {w : World} {r : Nat} {es es' : Array MapEntry} {c c' : Nat} (h : w.heap[r]? = some (.map es c)) :
    (setObj r (.map es' c')).run P w = .ok () { w with heap := w.heap.setIfInBounds r (.map es' c') } := by
  simp [setObj, Sem.run, h]
theorem Hd.setObj {w : World} {r : Nat} {o o' : Obj} {L : List SP} (H : Hd w (pts r o :: L)) : Hd { w with heap := w.heap.setIfInBounds r o' } (pts r o' :: L) := by
  have hlt : r < w.heap.size := (Array.getElem?_eq_some_iff.1 H.get).1
  refine H.put ?_ (fun s hs => ?_)
  · simp [hlt]
  · simp only [Array.getElem?_setIfInBounds]; rw [if_neg (fun e => hs e.symm)]

section
variable {P : Program} {n : Nat} {w0 : World} {Q : Exit → Act → World → Prop} {env : Env} {L M M2 : List SP} {ops : Array Oper} {rest : List Oper}
variable {d : Option Nat} {ty : TypeId} {pos : String} {after : Array Edge} {g : Option (Nat × Bool)} {K : Act → World → Prop}

theorem run_findKey {kt : TypeId} (hk : P.underlying kt = some (.int .i64)) {es : List MapEntry} {c : Nat} {l : List (Int × Value)} (he : Ents es c l) (k : Int) (w : World) :
    (Instr.findKey kt (.int .i64 k) es).run P w = .ok ((l.findIdx? (·.1 == k)).bind fun j => (l[j]?).map fun p => (j, p.2)) w := by
  have := findNow_ents k es l 0 he.keys he.vals
  simp only [Nat.zero_add] at this
  simp [Instr.findKey, run_und hk, this]
/-- What a look-up gives: a value, or the zero value. -/
theorem run_lookup {t e : TypeId} {zs : List Value} [h : MapTy P t e zs] {r : Nat} {l : List (Int × Value)} {w : World} (H : Hd w (imap r l :: L)) (k : Int) (ok : Bool) :
    ∃ z, z.cells = zs.toArray ∧ (Instr.lookup t (.map (some r)) (.int .i64 k) ok).run P w = .ok (if ok then .tuple #[(find l k).getD z, .bool (find l k).isSome] else (find l k).getD z) w := by
  obtain ⟨kt, hm, hk⟩ := h.und
  obtain ⟨z, hz, hc⟩ := h.zero
  obtain ⟨es, c, he, H⟩ := H.openImap
  have hg := H.get
  refine ⟨z, hc, ?_⟩
  simp only [Instr.lookup, run_und hm, Sem.run_bind, Result.andThen_ok, run_getMap hg, Sem.run_pure, checkKey_int hk, List.toList_toArray, run_findKey hk he, find_idx]
  cases hf : (l.findIdx? (·.1 == k)) with
  | none => cases ok <;> simp [hz]
  | some j =>
    have hj : j < l.length := by
      have := List.findIdx?_eq_some_iff_getElem.1 hf; exact this.1
    cases ok <;> simp [hj]
/-- Stores into a map. -/
theorem any_findIdx {l : List (Int × Value)} {k : Int} : (l.findIdx? (·.1 == k)).isSome = l.any (·.1 == k) := by
  rw [List.findIdx?_isSome]
theorem modify_vals {es : List MapEntry} {l : List (Int × Value)} {j : Nat} {k : Int} {v : Value} (h : es.map (·.val) = l.map (·.2)) :
    (es.modify j fun e => { e with key := .int .i64 k, val := v }).map (·.val) = (l.set j (k, v)).map (·.2) := by
  apply List.ext_getElem?
  intro i
  have h1 := congrArg (fun x => x[i]?) h
  simp only [List.getElem?_map, List.getElem?_modify, List.getElem?_set] at h1 ⊢
  by_cases hi : j = i
  · subst hi
    have hlen := congrArg List.length h
    simp at hlen
    by_cases hj : j < l.length
    · simp [hj, hlen ▸ hj]
    · simp [hj, List.getElem?_eq_none (show es.length ≤ j by omega)]
  · simp [hi, h1]
theorem modify_keys {es : List MapEntry} {l : List (Int × Value)} {j : Nat} {k : Int} {v : Value} (h : es.map (·.key) = l.map fun p => .int .i64 p.1) :
    (es.modify j fun e => { e with key := .int .i64 k, val := v }).map (·.key) = (l.set j (k, v)).map fun p => .int .i64 p.1 := by
  apply List.ext_getElem?
  intro i
  have h1 := congrArg (fun x => x[i]?) h
  simp only [List.getElem?_map, List.getElem?_modify, List.getElem?_set] at h1 ⊢
  by_cases hi : j = i
  · subst hi
    have hlen := congrArg List.length h
    simp at hlen
    by_cases hj : j < l.length
    · simp [hj, hlen ▸ hj]
    · simp [hj, List.getElem?_eq_none (show es.length ≤ j by omega)]
  · simp [hi, h1]
theorem upd_found {l : List (Int × Value)} {k : Int} {v : Value} {j : Nat} (hn : (l.map (·.1)).Nodup) (hf : l.findIdx? (·.1 == k) = some j) : upd l k v = l.set j (k, v) ∧ (l.map (·.1))[j]? = some k := by
  obtain ⟨hj, hk, _⟩ := List.findIdx?_eq_some_iff_getElem.1 hf
  have hk : l[j].1 = k := by simpa using hk
  have hany : l.any (·.1 == k) = true := List.any_eq_true.2 ⟨l[j], List.getElem_mem hj, by simp [hk]⟩
  refine ⟨?_, by simp [hj, hk]⟩
  unfold upd
  rw [if_pos hany]
  apply List.ext_getElem?
  intro i
  simp only [List.getElem?_map, List.getElem?_set]
  by_cases hi : j = i
  · subst hi; simp [hj, hk]
  · simp only [hi, if_false]
    cases hl : l[i]? with
    | none => rfl
    | some p =>
      have hne : p.1 ≠ k := by
        intro he
        have h1 : (l.map (·.1))[i]? = some k := by simp [hl, he]
        have h2 : (l.map (·.1))[j]? = some k := by simp [hj, hk]
        exact hi ((List.getElem?_inj (by simpa using hj) hn).1 (h2.trans h1.symm))
      simp [hne]
theorem upd_new {l : List (Int × Value)} {k : Int} {v : Value} (hf : l.findIdx? (·.1 == k) = none) : upd l k v = l ++ [(k, v)] ∧ k ∉ l.map (·.1) := by
  have hno : ∀ p ∈ l, p.1 ≠ k := by
    intro p hp he
    have := List.findIdx?_eq_none_iff.1 hf p hp
    simp [he] at this
  refine ⟨?_, ?_⟩
  · unfold upd
    rw [if_neg]
    rw [List.any_eq_true]
    rintro ⟨p, hp, hk⟩
    exact hno p hp (by simpa using hk)
  · intro hm
    obtain ⟨p, hp, hk⟩ := List.mem_map.1 hm
    exact hno p hp hk
theorem set_keys {l : List (Int × Value)} {j : Nat} {k : Int} {v : Value} (h : (l.map (·.1))[j]? = some k) : (l.set j (k, v)).map (·.1) = l.map (·.1) := by
  apply List.ext_getElem?
  intro i
  simp only [List.getElem?_map, List.getElem?_set] at h ⊢
  by_cases hi : j = i
  · subst hi
    have hj : j < l.length := by
      rcases Nat.lt_or_ge j l.length with h' | h'
      · exact h'
      · simp [List.getElem?_eq_none h'] at h
    simp [hj] at h ⊢; exact h.symm
  · simp [hi]
theorem run_update {t e : TypeId} {zs : List Value} [h : MapTy P t e zs] {r : Nat} {l : List (Int × Value)} {w : World} (H : Hd w (imap r l :: L)) (k : Int) (v : Value) :
    ∃ w', (Instr.mapUpdate t (.map (some r)) (.int .i64 k) v).run P w = .ok () w' ∧ Hd w' (imap r (upd l k v) :: L) ∧ Keep w w' := by
  obtain ⟨kt, hm, hk⟩ := h.und
  obtain ⟨es, c, he, H⟩ := H.openImap
  have hg := H.get
  simp only [Instr.mapUpdate, run_und hm, Sem.run_bind, Result.andThen_ok, run_getMap hg, checkKey_int hk, List.toList_toArray, run_findKey hk he]
  cases hf : (l.findIdx? (·.1 == k)) with
  | none =>
    obtain ⟨hu, hnk⟩ := upd_new (v := v) hf
    refine ⟨{ w with heap := w.heap.setIfInBounds r (.map (es ++ [({ key := .int .i64 k, val := v, born := c } : MapEntry)]).toArray (c + 1)) }, ?_, ?_, ?_⟩
    rotate_left
    · refine Hd.mkImap (es := es ++ [({ key := .int .i64 k, val := v, born := c } : MapEntry)]) (c := c + 1) ?_ (H.setObj (o' := .map (es ++ [({ key := .int .i64 k, val := v, born := c } : MapEntry)]).toArray (c + 1)))
      rw [hu]
      refine ⟨by simp [he.keys], by simp [he.vals], ?_, ?_, ?_⟩
      · rw [List.map_append, List.nodup_append]
        refine ⟨he.nodup, by simp, ?_⟩
        intro a ha b hb hab
        simp at hb; subst hb; subst hab; exact hnk ha
      · rw [List.map_append, List.nodup_append]
        refine ⟨he.borns, by simp, ?_⟩
        intro a ha b hb hab
        simp at hb; subst hb; subst hab
        obtain ⟨x, hx, hxb⟩ := List.mem_map.1 ha
        have := he.clock x hx
        omega
      · intro x hx
        rcases List.mem_append.1 hx with hx | hx
        · have := he.clock x hx; omega
        · simp at hx; subst hx; simp
    · exact ⟨rfl, rfl, rfl⟩
    · simp only [Option.bind_none]
      rw [run_setMap hg]
      simp
  | some j =>
    obtain ⟨hu, hjk⟩ := upd_found (v := v) he.nodup hf
    have hj : j < l.length := (List.findIdx?_eq_some_iff_getElem.1 hf).1
    have hje : j < es.length := by rw [he.length]; exact hj
    obtain ⟨p, hp, hpk, hpv⟩ := he.get (List.getElem?_eq_getElem hje)
    have hkk : p.1 = k := by
      have : (l.map (·.1))[j]? = some p.1 := by simp [hp]
      rw [this] at hjk; simpa using hjk
    have hkey : ((es.toArray[j]?).map (·.key)).getD (.int .i64 k) = .int .i64 k := by simp [hje, hpk, hkk]
    refine ⟨{ w with heap := w.heap.setIfInBounds r (.map (es.modify j fun e => { e with key := .int .i64 k, val := v }).toArray c) }, ?_, ?_, ?_⟩
    rotate_left
    · refine Hd.mkImap (es := es.modify j fun e => { e with key := .int .i64 k, val := v }) (c := c) ?_ (H.setObj (o' := .map (es.modify j fun e => { e with key := .int .i64 k, val := v }).toArray c))
      rw [hu]
      refine ⟨modify_keys he.keys, modify_vals he.vals, by rw [set_keys hjk]; exact he.nodup, ?_, ?_⟩
      · have : (es.modify j fun e => { e with key := .int .i64 k, val := v }).map (·.born) = es.map (·.born) := by
          apply List.ext_getElem?
          intro i
          simp only [List.getElem?_map, List.getElem?_modify]
          by_cases hi : j = i <;> simp [hi]
          cases es[i]? <;> rfl
        rw [this]; exact he.borns
      · intro x hx
        obtain ⟨i, hi⟩ := List.getElem?_of_mem hx
        simp only [List.getElem?_modify] at hi
        by_cases hij : j = i
        · subst hij; simp [hje] at hi; subst hi; show es[j].born < c; exact he.clock es[j] (List.getElem_mem hje)
        · simp [hij] at hi; exact he.clock x (List.mem_of_getElem? hi)
    · exact ⟨rfl, rfl, rfl⟩
    · have hsb : Instr.sameBits 10000 (.int .i64 k) (.int .i64 k) = true := by simp [Instr.sameBits]
      simp only [Option.bind_some, hp, Option.map_some, Sem.run_bind, hkey, Instr.keyThatStays, hsb, if_true, Sem.run_pure, Result.andThen_ok]
      rw [run_setMap hg]
      simp
theorem del_found {l : List (Int × Value)} {k : Int} {j : Nat} (hn : (l.map (·.1)).Nodup) (hf : l.findIdx? (·.1 == k) = some j) : del l k = l.eraseIdx j := by
  induction l generalizing j with
  | nil => simp at hf
  | cons p l ih =>
    simp only [List.findIdx?_cons] at hf
    simp only [List.map_cons, List.nodup_cons] at hn
    by_cases hp : p.1 = k
    · have : (p.1 == k) = true := by simp [hp]
      rw [this] at hf
      simp at hf; subst hf
      simp only [List.eraseIdx_cons_zero, del, List.filter_cons, hp, bne_self_eq_false, Bool.false_eq_true, if_false]
      apply List.filter_eq_self.2
      intro q hq
      have : q.1 ≠ p.1 := fun e => hn.1 (e ▸ List.mem_map.2 ⟨q, hq, rfl⟩)
      simp [← hp, this]
    · have : (p.1 == k) = false := by simp [hp]
      rw [this] at hf
      simp only [Bool.false_eq_true, if_false, Option.map_eq_some_iff] at hf
      obtain ⟨i, hi, rfl⟩ := hf
      simp only [List.eraseIdx_cons_succ, del, List.filter_cons]
      have hb : (p.1 != k) = true := by simp [hp]
      rw [hb]
      simp only [if_true]
      congr 1
      exact ih hn.2 hi
theorem eraseIdx_map' {α β : Type} (f : α → β) : ∀ (l : List α) (j : Nat), (l.eraseIdx j).map f = (l.map f).eraseIdx j
  | [], j => by simp
  | a :: l, 0 => by simp
  | a :: l, j + 1 => by simp [eraseIdx_map' f l j]
theorem del_none {l : List (Int × Value)} {k : Int} (hf : l.findIdx? (·.1 == k) = none) : del l k = l := by
  apply List.filter_eq_self.2
  intro p hp
  have := List.findIdx?_eq_none_iff.1 hf p hp
  simpa using this
theorem run_delete {t e : TypeId} {zs : List Value} [h : MapTy P t e zs] {t2 tt : TypeId} {r : Nat} {l : List (Int × Value)} {w : World} (H : Hd w (imap r l :: L)) (k : Int) :
    ∃ w', (Builtin.delete_ #[t, t2] tt #[.map (some r), .int .i64 k]).run P w = .ok (.tuple #[]) w' ∧ Hd w' (imap r (del l k) :: L) ∧ Keep w w' := by
  obtain ⟨kt, hm, hk⟩ := h.und
  obtain ⟨es, c, he, H⟩ := H.openImap
  have hg := H.get
  cases hf : (l.findIdx? (·.1 == k)) with
  | none =>
    refine ⟨{ w with heap := w.heap.setIfInBounds r (.map es.toArray c) }, ?_, ?_, ⟨rfl, rfl, rfl⟩⟩
    · simp [Builtin.delete_, run_und hm, run_getMap hg, checkKey_int hk, run_findKey hk he, hf, run_setMap hg]
    · rw [del_none hf]; exact Hd.mkImap he H.setObj
  | some j =>
    have hj : j < l.length := (List.findIdx?_eq_some_iff_getElem.1 hf).1
    have hje : j < es.length := by rw [he.length]; exact hj
    refine ⟨{ w with heap := w.heap.setIfInBounds r (.map (es.eraseIdx j).toArray c) }, ?_, ?_, ⟨rfl, rfl, rfl⟩⟩
    · simp [Builtin.delete_, run_und hm, run_getMap hg, checkKey_int hk, run_findKey hk he, hf, run_setMap hg, hj, hje]
    · rw [del_found he.nodup hf]
      refine Hd.mkImap (es := es.eraseIdx j) ⟨?_, ?_, ?_, ?_, ?_⟩ H.setObj
      · rw [eraseIdx_map', eraseIdx_map', he.keys]
      · rw [eraseIdx_map', eraseIdx_map', he.vals]
      · rw [eraseIdx_map']; exact he.nodup.sublist (List.eraseIdx_sublist _ _)
      · rw [eraseIdx_map']; exact he.borns.sublist (List.eraseIdx_sublist _ _)
      · intro x hx; exact he.clock x ((List.eraseIdx_sublist _ _).mem hx)
theorem run_clearMap {t e : TypeId} {zs : List Value} [h : MapTy P t e zs] {tt : TypeId} {r : Nat} {l : List (Int × Value)} {w : World} (H : Hd w (imap r l :: L)) :
    ∃ w', (Builtin.clear_ #[t] tt #[.map (some r)]).run P w = .ok (.tuple #[]) w' ∧ Hd w' (imap r [] :: L) ∧ Keep w w' := by
  obtain ⟨kt, hm, hk⟩ := h.und
  obtain ⟨es, c, he, H⟩ := H.openImap
  have hg := H.get
  refine ⟨{ w with heap := w.heap.setIfInBounds r (.map #[] c) }, ?_, ?_, ⟨rfl, rfl, rfl⟩⟩
  · simp [Builtin.clear_, run_und hm, run_getMap hg, run_setMap hg]
  · exact Hd.mkImap (es := []) (c := c) ⟨rfl, rfl, by simp, by simp, by simp⟩ H.setObj
theorem run_lenMap {t e : TypeId} {zs : List Value} [h : MapTy P t e zs] {tt : TypeId} {r : Nat} {l : List (Int × Value)} {w : World} (H : Hd w (imap r l :: L)) :
    (Builtin.len_ #[t] tt #[.map (some r)]).run P w = .ok (.int .i64 l.length) w := by
  obtain ⟨kt, hm, hk⟩ := h.und
  obtain ⟨es, c, he, H⟩ := H.openImap
  simp [Builtin.len_, run_und hm, run_getMap H.get, goInt, he.length]

theorem Hd.openIt {w : World} {r b : Nat} {l : List (Int × Value)} {S : List Int} (H : Hd w (imapIt r b l S :: L)) :
    ∃ (es : List MapEntry) (c : Nat) (sb : List Nat), Ents es c l ∧ (∀ e ∈ es, ∀ k, e.key = .int .i64 k → (e.born ∈ sb ↔ k ∈ S)) ∧ (∀ k ∈ S, k ∈ l.map (·.1)) ∧ (∀ k ∈ S.head?, ∃ e ∈ es, e.key = .int .i64 k ∧ sb.getLast? = some e.born) ∧
      Hd w (pts r (.map es.toArray c) :: pts b (.mapIter (some r) c sb.toArray c) :: L) := by
  obtain ⟨⟨es, c, sb⟩, H⟩ := H.ex
  obtain ⟨⟨h1, h2, h3, h4⟩, H⟩ := H.conj
  exact ⟨es, c, sb, h1, h2, h3, h4, Hd.sep2.1 H⟩
theorem Hd.mkIt {w : World} {r b : Nat} {l : List (Int × Value)} {S : List Int} {es : List MapEntry} {c : Nat} {sb : List Nat} (h1 : Ents es c l) (h2 : ∀ e ∈ es, ∀ k, e.key = .int .i64 k → (e.born ∈ sb ↔ k ∈ S)) (h3 : ∀ k ∈ S, k ∈ l.map (·.1))
    (h4 : ∀ k ∈ S.head?, ∃ e ∈ es, e.key = .int .i64 k ∧ sb.getLast? = some e.born) (H : Hd w (pts r (.map es.toArray c) :: pts b (.mapIter (some r) c sb.toArray c) :: L)) : Hd w (imapIt r b l S :: L) :=
  Hd.mkEx (es, c, sb) (Hd.mkConj ⟨h1, h2, h3, h4⟩ (Hd.sep2.2 H))
/-- The loop is over. -/
theorem Hd.endIt {w : World} {r b : Nat} {l : List (Int × Value)} {S : List Int} (H : Hd w (imapIt r b l S :: L)) : Hd w (imap r l :: L) := by
  obtain ⟨es, c, sb, h1, h2, h3, h4, H⟩ := H.openIt
  exact Hd.mkImap h1 ((H.perm (.swap _ _ _)).drop)
theorem E_rangeMap {t e : TypeId} {zs : List Value} [h : MapTy P t e zs] {x : Operand} {r : Nat} {l : List (Int × Value)} (hx : ev env x = some (.map (some r))) (hp : Pick (imap r l) L M) :
    Eff P n w0 env L ⟨d, .range t x, ty, pos, after, g⟩ fun v L' => ∃ b, v = .pointer (some ⟨b, 0, none⟩) ∧ L' = imapIt r b l [] :: M :=
  fun a w A => by
    obtain ⟨kt, hm, hk⟩ := h.und
    obtain ⟨es, c, he, H⟩ := (hp.back A.heap).openImap
    refine ⟨_, _, w.alloc (.mapIter (some r) c #[] c), ?_, ⟨w.heap.size, rfl, rfl⟩, ?_, ⟨rfl, rfl, rfl⟩⟩
    · simp [execOp, A.ev hx, Instr.range, run_und hm, run_getMap H.get]
    · refine Hd.mkIt (sb := []) he (by simp) (by simp) (by simp) ?_
      refine (H.new (r := w.heap.size) (o := .mapIter (some r) c #[] c) (by simp) (by show (w.heap.push _)[w.heap.size]? = _; simp) (fun s hs => ?_)).perm (.swap _ _ _)
      show (w.heap.push _)[s]? = _
      rw [Array.getElem?_push, if_neg hs]
/-- One more entry comes out, or none is left. -/
theorem run_nextIt {r b : Nat} {l : List (Int × Value)} {S : List Int} {w : World} {tt : TypeId} (H : Hd w (imapIt r b l S :: L)) :
    ∃ w', Keep w w' ∧ (((∀ p ∈ l, p.1 ∈ S) ∧ (Instr.next (.pointer (some ⟨b, 0, none⟩)) false tt).run P w = .ok (.tuple #[.bool false]) w' ∧ Hd w' (imapIt r b l S :: L)) ∨
      ∃ k v, (k, v) ∈ l ∧ k ∉ S ∧ (Instr.next (.pointer (some ⟨b, 0, none⟩)) false tt).run P w = .ok (.tuple #[.bool true, .int .i64 k, v]) w' ∧ Hd w' (imapIt r b l (k :: S) :: L)) := by
  obtain ⟨es, c, sb, h1, h2, h3, h4, H⟩ := H.openIt
  have hg := H.get
  have hgi : w.heap[b]? = some (.mapIter (some r) c sb.toArray c) := (H.perm (.swap _ _ _)).get
  have hgi2 : (getObj b).run P w = .ok (.mapIter (some r) c sb.toArray c) w := by simp [getObj, Sem.run, hgi]
  have hno : (!sb.toArray.isEmpty && !es.toArray.isEmpty && es.toArray.all (fun e => decide (e.born ≥ c))) = false := by
    cases es with
    | nil => simp
    | cons x es =>
      have := h1.clock x (by simp)
      simp
      intro _ h; omega
  let lf := es.filter fun e => !sb.contains e.born
  have hlf : (es.toArray.filter fun e => !sb.toArray.contains e.born) = lf.toArray := by simp [lf]
  have hold : lf.toArray.filter (fun x => decide (x.born < c)) = lf.toArray := by
    rw [Array.filter_eq_self]
    intro x hx
    have hx2 : x ∈ lf := by simpa using hx
    have := h1.clock x ((List.mem_filter.1 hx2).1)
    simpa using this
  have hnew : lf.toArray.filter (fun x => decide (x.born ≥ c)) = #[] := by
    rw [Array.filter_eq_empty_iff]
    intro x hx
    have hx2 : x ∈ lf := by simpa using hx
    have := h1.clock x ((List.mem_filter.1 hx2).1)
    simp; omega
  by_cases hl : lf = []
  · refine ⟨w, .refl _, .inl ⟨?_, ?_, Hd.mkIt h1 h2 h3 h4 H⟩⟩
    · intro p hp
      obtain ⟨i, hi⟩ := List.getElem?_of_mem hp
      have hie : i < es.length := by rw [h1.length]; exact (List.getElem?_eq_some_iff.1 hi).1
      obtain ⟨q, hq, hqk, _⟩ := h1.get (List.getElem?_eq_getElem hie)
      rw [hi] at hq; cases hq
      have hm : es[i] ∈ es := List.getElem_mem hie
      refine (h2 _ hm p.1 hqk).1 ?_
      have := List.filter_eq_nil_iff.1 hl _ hm
      simpa using this
    · simp only [Instr.next, Sem.run_bind, hgi2, Result.andThen_ok, run_getMap hg, hno, Bool.false_eq_true, if_false, hlf, hold, hnew]
      simp [hl, choose, Sem.run, Question.forced]
  · have hne : lf.toArray.isEmpty = false := by simp [hl]
    have hlen : 0 < lf.length := List.length_pos_iff.2 hl
    have hch : ∃ (j : Nat) (w1 : World), j < lf.length ∧ w1.heap = w.heap ∧ Keep w w1 ∧ (choose (Question.mapNext lf.length)).run P w = .ok j w1 := by
      by_cases hf : lf.length ≤ 1
      · exact ⟨0, w, by omega, rfl, .refl _, by simp [choose, Sem.run, Question.forced, hf]⟩
      · exact ⟨_, { w with drawn := w.drawn + 1 }, Nat.mod_lt _ (by omega), rfl, ⟨rfl, rfl, rfl⟩, by
          simp only [choose, Sem.run, Question.forced, decide_eq_true_eq, hf, if_false, Question.cut]; rfl⟩
    obtain ⟨j, w1, hj, hwh, hwk, hrun⟩ := hch
    have hmem : lf[j] ∈ lf := List.getElem_mem hj
    have hmes := (List.mem_filter.1 hmem).1
    have hnb : lf[j].born ∉ sb := by have := (List.mem_filter.1 hmem).2; simpa using this
    obtain ⟨i, hi⟩ := List.getElem?_of_mem hmes
    obtain ⟨p, hp, hpk, hpv⟩ := h1.get hi
    have H1 := H.of_heap hwh
    refine ⟨{ w1 with heap := w1.heap.setIfInBounds b (.mapIter (some r) c (sb ++ [lf[j].born]).toArray c) }, hwk.trans ⟨rfl, rfl, rfl⟩, .inr ⟨p.1, p.2, List.mem_of_getElem? hp, ?_, ?_, ?_⟩⟩
    · intro hS
      exact hnb ((h2 _ hmes _ hpk).2 hS)
    · have hset : (setObj b (.mapIter (some r) c (sb.toArray.push lf[j].born) c)).run P w1 = .ok () { w1 with heap := w1.heap.setIfInBounds b (.mapIter (some r) c (sb ++ [lf[j].born]).toArray c) } := by
        have hgi1 : w1.heap[b]? = some (.mapIter (some r) c sb.toArray c) := by rw [hwh]; exact hgi
        simp [setObj, Sem.run, hgi1]
      simp only [Instr.next, Sem.run_bind, hgi2, Result.andThen_ok, run_getMap hg, hno, Bool.false_eq_true, if_false, hlf, hold, hnew, hne, Array.append_empty, Array.empty_append]
      simp only [Array.size_map, Sem.run_bind, Result.andThen_ok, List.size_toArray, hrun,
        Array.getElem?_map, List.getElem?_toArray, List.getElem?_eq_getElem hj, Option.map_some, hset, Sem.run_pure, hpk, hpv]
    · refine Hd.mkIt (es := es) (c := c) (sb := sb ++ [lf[j].born]) h1 ?_ ?_ ?_ ?_
      · intro e he k hk
        rw [List.mem_append, List.mem_singleton, List.mem_cons, h2 e he k hk]
        have hiff : e.born = lf[j].born ↔ k = p.1 := by
          constructor
          · intro hb
            obtain ⟨i', hi'⟩ := List.getElem?_of_mem he
            have e1 : (es.map (·.born))[i']? = some e.born := by simp [hi']
            have e2 : (es.map (·.born))[i]? = some lf[j].born := by simp [hi]
            have hlt : i' < (es.map (·.born)).length := by simpa using (List.getElem?_eq_some_iff.1 hi').1
            have := (List.getElem?_inj hlt h1.borns).1 (e1.trans ((congrArg some hb).trans e2.symm))
            subst this
            rw [hi] at hi'; cases hi'
            rw [hpk] at hk; cases hk; rfl
          · rintro rfl
            obtain ⟨i', hi'⟩ := List.getElem?_of_mem he
            obtain ⟨q, hq, hqk, _⟩ := h1.get hi'
            rw [hk] at hqk
            have hqk' : p.1 = q.1 := by simpa using hqk
            have e1 : (l.map (·.1))[i']? = some p.1 := by simp [hq, hqk']
            have e2 : (l.map (·.1))[i]? = some p.1 := by simp [hp]
            have hlt : i' < (l.map (·.1)).length := by simpa using (List.getElem?_eq_some_iff.1 hq).1
            have := (List.getElem?_inj hlt h1.nodup).1 (e1.trans e2.symm)
            subst this
            rw [hi] at hi'; cases hi'; rfl
        rw [hiff]; exact or_comm
      · intro k hk
        rcases List.mem_cons.1 hk with rfl | hk
        · exact List.mem_map.2 ⟨p, List.mem_of_getElem? hp, rfl⟩
        · exact h3 k hk
      · intro k hk
        simp at hk; subst hk
        exact ⟨lf[j], hmes, hpk, by simp⟩
      · have := ((H1.perm (.swap _ _ _)).setObj (o' := .mapIter (some r) c (sb ++ [lf[j].born]).toArray c))
        exact this.perm (.swap _ _ _)
theorem run_entryIt {r b : Nat} {l : List (Int × Value)} {S : List Int} {k : Int} {v : Value} {w : World} (H : Hd w (imapIt r b l (k :: S) :: L)) (hv : (k, v) ∈ l) :
    (Instr.entry (.pointer (some ⟨b, 0, none⟩))).run P w = .ok (.tuple #[.int .i64 k, v]) w := by
  obtain ⟨es, c, sb, h1, h2, h3, h4, H⟩ := H.openIt
  have hg := H.get
  have hgi : w.heap[b]? = some (.mapIter (some r) c sb.toArray c) := (H.perm (.swap _ _ _)).get
  have hgi2 : (getObj b).run P w = .ok (.mapIter (some r) c sb.toArray c) w := by simp [getObj, Sem.run, hgi]
  obtain ⟨e, he, hek, hlast⟩ := h4 k (by simp)
  have hb : sb.toArray.back? = some e.born := by simp [hlast]
  have hf : es.toArray.find? (·.born == e.born) = some e := by rw [← Array.find?_toList]; exact find_born e es h1.borns he
  have hval : e.val = v := by
    obtain ⟨i, hi⟩ := List.getElem?_of_mem he
    obtain ⟨p, hp, hpk, hpv⟩ := h1.get hi
    rw [hek] at hpk
    obtain ⟨i', hi'⟩ := List.getElem?_of_mem hv
    have e1 : (l.map (·.1))[i']? = some k := by simp [hi']
    have e2 : (l.map (·.1))[i]? = some k := by simp [hp]; cases hpk; rfl
    have hlt : i' < (l.map (·.1)).length := by simpa using (List.getElem?_eq_some_iff.1 hi').1
    have := (List.getElem?_inj hlt h1.nodup).1 (e1.trans e2.symm)
    subst this
    rw [hp] at hi'; cases hi'; exact hpv
  simp only [Instr.entry, Sem.run_bind, hgi2, Result.andThen_ok, hb, run_getMap hg, bne_self_eq_false, Bool.false_eq_true, if_false, hf, Sem.run_pure, hek, hval]
end
end Go.Sl
set_option linter.unusedVariables false
set_option linter.unusedSimpArgs false
namespace Go.Sl
set_option linter.unnecessarySimpa false
open Go

/-- A holds, at a, m elements of k cells each, whose cells are xs. -/
def Rd (A : SP) (k : Nat) (a : Option Addr) (m : Nat) (xs : List Value) : Prop := ∀ h, A h → xs.length = m * k ∧
  (0 < xs.length → ∃ b o cs t fz, a = some ⟨b, o, none⟩ ∧ h b = some (.cells cs t fz) ∧ (cs.toList.drop o).take xs.length = xs)
theorem Rd.row {b : Nat} {t : TypeId} {cs xs : List Value} {o m k : Nat} (hl : xs.length = m * k) (hx : (cs.drop o).take (m * k) = xs) : Rd (row b t cs) k (some ⟨b, o, none⟩) m xs := by
  rintro h ⟨fz, hf, rfl⟩
  exact ⟨hl, fun _ => ⟨b, o, cs.toArray, t, fz, rfl, by simp [PH.one], by simpa [hl] using hx⟩⟩
theorem Rd.rowAll {b : Nat} {t : TypeId} {cs : List Value} {m k : Nat} (hl : cs.length = m * k) : Rd (Sl.row b t cs) k (some ⟨b, 0, none⟩) m cs := Rd.row hl (by simp [← hl])
theorem Rd.slc {t k : Nat} {a : Option Addr} {m c : Nat} {xs : List Value} : Rd (slc t k a m c xs) k a m xs := by
  rintro h ⟨h1, h2, h3⟩
  refine ⟨h1, fun hp => ?_⟩
  rcases h3 with ⟨rfl, rfl, rfl⟩ | ⟨b, pre, post, rfl, hc, fz, hf, rfl⟩
  · obtain rfl : m = 0 := by omega
    simp at h1; rw [h1] at hp; exact absurd hp (by decide)
  · exact ⟨b, _, (pre ++ xs ++ post).toArray, t, fz, rfl, by simp [PH.one], by simp [List.drop_append]⟩
theorem Rd.nil {A : SP} {k : Nat} {a : Option Addr} : Rd A k a 0 [] := fun h _ => ⟨by simp, fun h => absurd h (by simp)⟩
theorem Rd.mem {A : SP} {k : Nat} {a : Option Addr} {m : Nat} {xs : List Value} : ∀ {l : List SP}, A ∈ l → Rd A k a m xs → Rd (sl l) k a m xs
  | B :: l, hm, hr => by
    rintro h ⟨x, y, hd, rfl, hx, hy⟩
    rcases List.mem_cons.1 hm with rfl | hm
    · obtain ⟨h1, h2⟩ := hr x hx
      refine ⟨h1, fun hp => ?_⟩
      obtain ⟨b, o, cs, t, fz, e1, e2, e3⟩ := h2 hp
      exact ⟨b, o, cs, t, fz, e1, by simp [PH.union, e2], e3⟩
    · obtain ⟨h1, h2⟩ := Rd.mem hm hr y hy
      refine ⟨h1, fun hp => ?_⟩
      obtain ⟨b, o, cs, t, fz, e1, e2, e3⟩ := h2 hp
      refine ⟨b, o, cs, t, fz, e1, ?_, e3⟩
      rcases hd b with h | h
      · simp [PH.union, h, e2]
      · simp [h] at e2
theorem Rd.sepL {A B : SP} {k : Nat} {a : Option Addr} {m : Nat} {xs : List Value} (hr : Rd A k a m xs) : Rd (sep A B) k a m xs := by
  rintro h ⟨x, y, hd, rfl, hx, hy⟩
  obtain ⟨h1, h2⟩ := hr x hx
  refine ⟨h1, fun hp => ?_⟩
  obtain ⟨b, o, cs, t, fz, e1, e2, e3⟩ := h2 hp
  exact ⟨b, o, cs, t, fz, e1, by simp [PH.union, e2], e3⟩
theorem Rd.sepR {A B : SP} {k : Nat} {a : Option Addr} {m : Nat} {xs : List Value} (hr : Rd B k a m xs) : Rd (sep A B) k a m xs := by
  rw [sep_comm]; exact hr.sepL
/-- A part of it, as a slice expression gives it. -/
theorem Rd.part {A : SP} {k : Nat} {a : Option Addr} {m c l q : Nat} {xs : List Value} (hr : Rd A k a m xs) (h1 : l ≤ q) (h2 : q ≤ m) (hc : q ≤ c) :
    Rd A k (if c = l then a else a.map (·.add (l * k))) (q - l) ((xs.drop (l * k)).take ((q - l) * k)) := by
  intro h hA
  obtain ⟨e1, e2⟩ := hr h hA
  have hqk : q * k ≤ m * k := Nat.mul_le_mul_right _ h2
  have hlk : l * k ≤ q * k := Nat.mul_le_mul_right _ h1
  have hlen : ((xs.drop (l * k)).take ((q - l) * k)).length = (q - l) * k := by
    simp only [List.length_take, List.length_drop, e1, Nat.sub_mul]; omega
  refine ⟨hlen, fun hp => ?_⟩
  have hpos : 0 < xs.length := by
    rw [hlen] at hp; rw [e1]
    have : 0 < q - l ∧ 0 < k := by
      constructor <;> (apply Nat.pos_of_ne_zero; intro h0; rw [h0] at hp; simp at hp)
    exact Nat.mul_pos (by omega) this.2
  obtain ⟨b, o, cs, t, fz, rfl, f2, f3⟩ := e2 hpos
  have hne : ¬ c = l := by
    intro h0
    have : q - l = 0 := by omega
    rw [hlen, this] at hp; simp at hp
  refine ⟨b, o + l * k, cs, t, fz, by rw [if_neg hne]; simp [Addr.mk_add], f2, ?_⟩
  rw [hlen, ← f3, List.drop_take, List.take_take, ← List.drop_drop]
  congr 1
  rw [e1, Nat.sub_mul]; omega
theorem Rd.full {A : SP} {k : Nat} {a : Option Addr} {m : Nat} {xs : List Value} (hr : Rd A k a m xs) {p : Option Addr} {q : Nat} {ys : List Value} (e1 : a = p) (e2 : m = q) (e3 : xs = ys) : Rd A k p q ys := by
  subst e1; subst e2; subst e3; exact hr

section
variable {P : Program} {n : Nat} {w0 : World} {Q : Exit → Act → World → Prop} {env : Env} {L M M2 : List SP} {ops : Array Oper} {rest : List Oper}
variable {A : SP} {ty : TypeId} {pos : String} {after : Array Edge} {g : Option (Nat × Bool)} {K : Act → World → Prop}

theorem Hd.rd {w : World} {k : Nat} {a : Option Addr} {m : Nat} {xs : List Value} (H : Hd w (A :: L)) (hr : Rd A k a m xs) : xs.length = m * k ∧
    (0 < xs.length → ∃ b o cs t fz, a = some ⟨b, o, none⟩ ∧ w.heap[b]? = some (.cells cs t fz) ∧ (cs.toList.drop o).take xs.length = xs) := by
  obtain ⟨h, hw, x, y, hd, rfl, hx, hy⟩ := H
  obtain ⟨h1, h2⟩ := hr x hx
  refine ⟨h1, fun hp => ?_⟩
  obtain ⟨b, o, cs, t, fz, e1, e2, e3⟩ := h2 hp
  exact ⟨b, o, cs, t, fz, e1, hw b _ (by simp [PH.union, e2]), e3⟩
theorem Hd.rdCell {w : World} {k : Nat} {a : Option Addr} {m : Nat} {xs : List Value} (H : Hd w (A :: L)) (hr : Rd A k a m xs) {j : Nat} {v : Value} (hv : xs[j]? = some v) :
    ∃ x, a = some x ∧ x.spot = none ∧ w.cell? (x.add j) = some v := by
  obtain ⟨h1, h2⟩ := H.rd hr
  have hj := (List.getElem?_eq_some_iff.1 hv).1
  obtain ⟨b, o, cs, t, fz, rfl, e2, e3⟩ := h2 (by omega)
  refine ⟨_, rfl, rfl, ?_⟩
  rw [Addr.mk_add]
  simp only [World.cell?, e2]
  have : ((cs.toList.drop o).take xs.length)[j]? = some v := by rw [e3]; exact hv
  rw [List.getElem?_take, if_pos hj, List.getElem?_drop] at this
  simpa using this
theorem run_firstCells_rd {w : World} {k : Nat} {a : Option Addr} {m c : Nat} {xs : List Value} (H : Hd w (A :: L)) (hr : Rd A k a m xs) (q : Nat) (hq : q ≤ m) :
    (Builtin.firstCells k q (.slice a m c)).run P w = .ok (xs.take (q * k)).toArray w := by
  obtain ⟨h1, h2⟩ := H.rd hr
  cases a with
  | none =>
    have : xs = [] := by
      rcases Nat.eq_zero_or_pos xs.length with h | h
      · exact List.eq_nil_of_length_eq_zero h
      · obtain ⟨b, o, cs, t, fz, e, _⟩ := h2 h; cases e
    subst this; simp [Builtin.firstCells]
  | some p =>
    have hqk : q * k ≤ m * k := Nat.mul_le_mul_right _ hq
    exact run_firstCells_some (P := P) w k q p m c (xs.take (q * k)) (by simp; omega) fun j v hv => by
      rw [List.getElem?_take] at hv
      split at hv
      · obtain ⟨x, hx, _, hc⟩ := H.rdCell hr hv
        cases hx; exact hc
      · cases hv
theorem kixR {d : Nat} {t e k y : Nat} [hs : SliceTy P t e k y] {x i : Operand} {a : Option Addr} {m c : Nat} {xs : List Value} {kk : IntKind} {q : Nat}
    (hr : Rd A k a m xs) (hp : Pick A L M) (hd : Nat.blt d n = true) (hx : ev env x = some (.slice a m c)) (hj : ev env i = some (.int kk (q : Int))) (hi : q < m)
    (h : T n w0 K ((d, .pointer (some (sAt a (q * k)))) :: env) L) : T n w0 (opO P ⟨some d, .indexAddr t x i, ty, pos, after, g⟩ K) env L :=
  T_still hd (fun a' w A' => by
    obtain ⟨h1, h2⟩ := (hp.back A'.heap).rd hr
    have hk := hs.pos
    have : 0 < xs.length := by rw [h1]; exact Nat.mul_pos (by omega) hk
    obtain ⟨b, o, cs, t', fz, rfl, _, _⟩ := h2 this
    have := run_indexAt (P := P) (t := t) (w := w) (x := ⟨b, o, none⟩) (m := m) (c := c) (kk := kk) (i := (q : Int)) (by omega)
    simp [execOp, A'.ev hx, A'.ev hj, this, sAt]) h
theorem kixR1 {d : Nat} {t e y : Nat} [hs : SliceTy P t e 1 y] {x i : Operand} {a : Option Addr} {m c : Nat} {xs : List Value} {kk : IntKind} {q : Nat}
    (hr : Rd A 1 a m xs) (hp : Pick A L M) (hd : Nat.blt d n = true) (hx : ev env x = some (.slice a m c)) (hj : ev env i = some (.int kk (q : Int))) (hi : q < m)
    (h : T n w0 K ((d, .pointer (some (sAt a q))) :: env) L) : T n w0 (opO P ⟨some d, .indexAddr t x i, ty, pos, after, g⟩ K) env L :=
  kixR (e := e) (y := y) hr hp hd hx hj hi (by rw [Nat.mul_one]; exact h)
theorem kldR {d t k : Nat} [ht : CellTy P t] {x : Operand} {a : Option Addr} {m j : Nat} {xs : List Value} {v : Value}
    (hr : Rd A k a m xs) (hp : Pick A L M) (hd : Nat.blt d n = true) (hx : ev env x = some (.pointer (some (sAt a j)))) (hv : xs[j]? = some v) (h : T n w0 K ((d, v) :: env) L) :
    T n w0 (opO P ⟨some d, .load t x, ty, pos, after, g⟩ K) env L :=
  T_still hd (fun a' w A' => by
    obtain ⟨y, rfl, hs, hc⟩ := (hp.back A'.heap).rdCell hr hv
    simp only [sAt, Option.getD_some] at hx
    simp [execOp, A'.ev hx, Instr.loadAt, Instr.sureAddr, loadVar, ht.agg, hc]) h
theorem kldRM {α : Type} {f : α → Value} {l : List α} {d t k : Nat} [ht : CellTy P t] {x : Operand} {a : Option Addr} {m j : Nat}
    (hr : Rd A k a m (l.map f)) (hp : Pick A L M) (hd : Nat.blt d n = true) (hx : ev env x = some (.pointer (some (sAt a j)))) (hj : j < l.length) (h : T n w0 K ((d, f l[j]) :: env) L) :
    T n w0 (opO P ⟨some d, .load t x, ty, pos, after, g⟩ K) env L := kldR hr hp hd hx (by simp [hj]) h
/-- What memory says of the length. -/
theorem T_rdLen {X : Act → World → Prop} {k : Nat} {a : Option Addr} {m : Nat} {xs : List Value} (hr : Rd A k a m xs) (hp : Pick A L M) (h : xs.length = m * k → T n w0 X env L) : T n w0 X env L :=
  T_know (fun w H => ((hp.back H).rd hr).1) h

theorem run_append_rd {t e k y : Nat} [h : SliceTy P t e k y] {a a2 : Option Addr} {m c m2 c2 : Nat} {xs ys : List Value} {w : World} {tt : TypeId}
    (H : Hd w (slc e k a m c xs :: A :: L)) (hr : Rd A k a2 m2 ys) (h1 : ∀ v ∈ ys, v.oneCell' = true) (hb : (m + m2) * y ≤ 140737488355328) (hb2 : m + m2 ≤ 9223372036854775807) :
    ∃ a' c' w', (Builtin.append_ #[t, t] tt #[.slice a m c, .slice a2 m2 c2]).run P w = .ok (.slice a' (m + m2) c') w' ∧
      Hd w' (slc e k a' (m + m2) c' (xs ++ ys) :: A :: L) ∧ Keep w w' := by
  obtain ⟨inf, z, i1, i2, i3, i4, i5⟩ := h.info
  obtain ⟨e1, e2, h3⟩ := H.openSlc
  have f1 := e1
  have f2 : ys.length = m2 * k := (H.swap.rd hr).1
  by_cases hroom : m + m2 ≤ c
  · rcases h3 with ⟨rfl, rfl⟩ | ⟨b, pre, post, rfl, hc, hr'⟩
    · obtain rfl : m = 0 := by omega
      obtain rfl : m2 = 0 := by omega
      have hy : ys = [] := List.eq_nil_of_length_eq_zero (by simpa using f2)
      have hx : xs = [] := List.eq_nil_of_length_eq_zero (by simpa using f1)
      subst hy; subst hx
      refine ⟨none, 0, w, ?_, by simpa using H, .refl _⟩
      have := run_firstCells_rd (P := P) (c := c2) H.swap hr 0 (Nat.le_refl _)
      simp [Builtin.append_, run_und h.und, sizeOf, typeInfo, i1, i2, Builtin.lenOf, this]
    · have hf := run_firstCells_rd (P := P) (c := c2) (hr'.swap) hr m2 (Nat.le_refl _)
      rw [← f2, List.take_length] at hf
      have hkk : m2 * k ≤ (c - m) * k := Nat.mul_le_mul_right _ (by omega)
      obtain ⟨w', hst, hH, hK⟩ := run_storeCells_row (P := P) (o := pre.length + m * k) ys 0 _ w hr' (by simp; omega) h1
      refine ⟨some ⟨b, pre.length, none⟩, c, w', ?_, ?_, hK⟩
      · simp [Builtin.append_, run_und h.und, sizeOf, typeInfo, i1, i2, Builtin.lenOf, hroom, hf, Addr.mk_add, hst]
      · have es : splice (pre ++ xs ++ post) (pre.length + m * k + 0) ys = pre ++ (xs ++ ys) ++ post.drop (m2 * k) := by
          simp only [splice, Nat.add_zero, List.append_assoc]
          rw [show pre ++ (xs ++ post) = (pre ++ xs) ++ post by simp, show pre.length + m * k = (pre ++ xs).length by simp; omega, List.take_left, List.drop_append]
          rw [List.drop_of_length_le (by simp), show (pre ++ xs).length + ys.length - (pre ++ xs).length = m2 * k by omega]
          simp
        rw [es] at hH
        refine Hd.mkSlc (by simp [f1, f2, Nat.add_mul]) hroom ?_ hH
        simp only [List.length_drop]
        rw [show c - (m + m2) = (c - m) - m2 by omega, Nat.sub_mul]; omega
  · have hg : c < m + m2 := by omega
    have hn : ¬ (m + m2 ≤ c) := hroom
    have hfo := firstCells_slc (P := P) (H.drew)
    have hf := run_firstCells_rd (P := P) (c := c2) (H.swap.drew) hr m2 (Nat.le_refl _)
    rw [← f2, List.take_length] at hf
    have h48 := growslice_fits (old := c) (need := m + m2) hg hb
    have h48' : ¬ (281474976710656 < Builtin.nextslicecap (m + m2) c * y) := by omega
    have h63' : ¬ (9223372036854775807 < ((m : Int) + (m2 : Int))) := by omega
    have hge := grownCap_ge w (m + m2) c e
    refine ⟨some ⟨w.heap.size, 0, none⟩, grownCap w (m + m2) c e, (w.drew.alloc (.cells (xs ++ ys ++ (Builtin.zeroCells z.cells (grownCap w (m + m2) c e - (m + m2))).toList).toArray e)), ?_, ?_, ⟨rfl, rfl, rfl⟩⟩
    · simp [Builtin.append_, run_und h.und, sizeOf, typeInfo, zeroValue, i1, i2, i3, i4, Builtin.lenOf, hn, h63', h48', Question.forced, hf, hfo, newRow, grownCap]
      congr 2
      apply Array.ext'
      simp
    · have hd : Hd w.drew (A :: L) := H.drop.of_heap rfl
      have := hd.alloc (t := e) (cs := xs ++ ys ++ (Builtin.zeroCells z.cells (grownCap w (m + m2) c e - (m + m2))).toList)
      refine Hd.mkSlc (pre := []) (post := (Builtin.zeroCells z.cells (grownCap w (m + m2) c e - (m + m2))).toList) (by simp [f1, f2, Nat.add_mul]) hge ?_ (by rw [List.nil_append]; exact this)
      simp [Builtin.zeroCells, i5]
theorem kapR {d t e k y : Nat} {x x2 : Operand} {a a2 : Option Addr} {m c m2 c2 : Nat} {xs ys : List Value} [hs : SliceTy P t e k y]
    (hr : Rd A k a2 m2 ys) (hd : Nat.blt d n = true)
    (hx : ev env x = some (.slice a m c)) (hy : ev env x2 = some (.slice a2 m2 c2)) (hp : Pick (slc e k a m c xs) L M) (hp2 : Pick A M M2)
    (h1 : ∀ v ∈ ys, v.oneCell' = true) (hb : (m + m2) * y ≤ 140737488355328) (hb2 : m + m2 ≤ 9223372036854775807)
    (h : ∀ a' c', T n w0 K ((d, .slice a' (m + m2) c') :: env) (slc e k a' (m + m2) c' (xs ++ ys) :: A :: M2)) :
    T n w0 (opO P ⟨some d, .call ⟨.builtin .append, #[x, x2], #[t, t]⟩, ty, pos, after, g⟩ K) env L :=
  T_eff (R := fun v L' => ∃ a' c', v = .slice a' (m + m2) c' ∧ L' = slc e k a' (m + m2) c' (xs ++ ys) :: A :: M2) hd (fun a' w A' => by
    obtain ⟨b, c', w', hrun, hH, hK⟩ := run_append_rd (P := P) (t := t) (e := e) (k := k) (y := y) (tt := ty) (c2 := c2) ((hp.back A'.heap).perm (hp2.cons _)) hr h1 hb hb2
    exact ⟨_, _, w', by simp [execOp, resolve, invoke, builtin, A'.ev hx, A'.ev hy, hrun], ⟨b, c', rfl, rfl⟩, hH, hK⟩)
    (by rintro v L' ⟨a', c', rfl, rfl⟩; exact h a' c')
/-- Appending nothing. -/
theorem kapN {d t e k y : Nat} {x x2 : Operand} {a : Option Addr} {m c c2 : Nat} {xs : List Value} [hs : SliceTy P t e k y] (hd : Nat.blt d n = true)
    (hx : ev env x = some (.slice a m c)) (hy : ev env x2 = some (.slice none 0 c2)) (hp : Pick (slc e k a m c xs) L M) (h : T n w0 K ((d, .slice a m c) :: env) L) :
    T n w0 (opO P ⟨some d, .call ⟨.builtin .append, #[x, x2], #[t, t]⟩, ty, pos, after, g⟩ K) env L := T_still hd (E_appendNone (y := y) (e := e) hx hy hp) h
/-- Copying what is only read over a row. -/
theorem kcpR {t e k y : Nat} [h : SliceTy P t e k y] {dd : Option Nat} {t2 : TypeId} {x1 x2 : Operand} {a2 : Option Addr} {b o m c m2 c2 t' : Nat} {cs ys : List Value}
    (hr : Rd A k a2 m2 ys) (hx : ev env x1 = some (.slice (some ⟨b, o, none⟩) m c)) (hy : ev env x2 = some (.slice a2 m2 c2)) (hp : Pick (row b t' cs) L M) (hp2 : Pick A M M2) (ho : o + m * k ≤ cs.length)
    (h1 : ∀ v ∈ ys, v.oneCell' = true) :
    Eff P n w0 env L ⟨dd, .call ⟨.builtin .copy, #[x1, x2], #[t, t2]⟩, ty, pos, after, g⟩ fun v L' => v = .int .i64 (min m m2 : Nat) ∧ L' = row b t' (splice cs o (ys.take (min m m2 * k))) :: A :: M2 :=
  fun a' w A' => by
    obtain ⟨inf, z, i1, i2, i3, i4, i5⟩ := h.info
    have H := (hp.back A'.heap).perm (hp2.cons _)
    have hmin : Nat.min m2 m = min m m2 := Nat.min_comm _ _
    have f2 := (H.swap.rd hr).1
    have hf := run_firstCells_rd (P := P) (c := c2) H.swap hr (min m m2) (Nat.min_le_right _ _)
    have hle : min m m2 * k ≤ m * k := Nat.mul_le_mul_right _ (Nat.min_le_left _ _)
    obtain ⟨w', hst, hH, hK⟩ := run_storeCells_row (P := P) (o := o) (ys.take (min m m2 * k)) 0 _ w H (by simp; omega) (fun v hv => h1 v (List.mem_of_mem_take hv))
    refine ⟨_, _, w', ?_, ⟨rfl, rfl⟩, hH, hK⟩
    simp [execOp, resolve, invoke, builtin, A'.ev hx, A'.ev hy, Builtin.copy_, run_und h.und, Builtin.lenOf, sizeOf, typeInfo, i1, i2, hmin, hf, hst, goInt]

def encB (b : UInt8) : Value := .int .u8 (b.toNat : Int)
theorem encB_one (b : UInt8) : (encB b).oneCell' = true := rfl
theorem ones_map {α : Type} {f : α → Value} (h : ∀ x, (f x).oneCell' = true) (l : List α) : ∀ v ∈ l.map f, v.oneCell' = true := by
  intro v hv; obtain ⟨x, _, rfl⟩ := List.mem_map.1 hv; exact h x
theorem ones_encB (l : List UInt8) : ∀ v ∈ l.map encB, v.oneCell' = true := ones_map encB_one l
theorem forIn_bytes (l : List UInt8) (s : ByteArray) (w : World) :
    (forIn (m := Sem) (l.map encB).toArray s fun c r => (match c with
      | .int .u8 n => (do pure PUnit.unit; pure (ForInStep.yield (r.push (UInt8.ofNat n.toNat))) : Sem (ForInStep ByteArray))
      | _ => stuck "bytesToString: byte expected")).run P w = .ok ⟨s.data ++ l.toArray⟩ w := by
  rw [← Array.forIn_toList]
  induction l generalizing s with
  | nil => simp
  | cons b l ih =>
    have ih := ih (s.push b)
    simp only [List.toList_toArray, List.map_cons, List.forIn_cons, Sem.run_bind] at ih ⊢
    simp only [encB, Sem.run_pure, Sem.run_bind, Result.andThen_ok, Int.toNat_natCast, UInt8.ofNat_toNat]
    rw [ih]
    congr 1
    simp [ByteArray.push]
end
end Go.Sl
set_option linter.unusedVariables false
set_option linter.unusedSimpArgs false
namespace Go.Sl
set_option linter.unnecessarySimpa false
open Go

section
variable {P : Program} {n : Nat} {w0 : World} {Q : Exit → Act → World → Prop} {env : Env} {L M M2 : List SP} {ops : Array Oper} {rest : List Oper}
variable {A : SP} {ty : TypeId} {pos : String} {after : Array Edge} {g : Option (Nat × Bool)} {K : Act → World → Prop}

theorem loadCells_rd {w : World} {k : Nat} {p : Addr} {m : Nat} {xs : List Value} (H : Hd w (A :: L)) (hr : Rd A k (some p) m xs) : (loadCells p xs.length).run P w = .ok xs.toArray w :=
  run_loadCells_list (P := P) w p xs fun j v hv => by
    obtain ⟨x, hx, _, hc⟩ := H.rdCell hr hv
    cases hx; exact hc
theorem bytes_push (s : ByteArray) (b : UInt8) (l : List UInt8) : (s.push b).data ++ l.toArray = s.data ++ (b :: l).toArray := by simp [ByteArray.push]
theorem run_bytesToString {w : World} {a : Option Addr} {m c : Nat} {l : List UInt8} (H : Hd w (A :: L)) (hr : Rd A 1 a m (l.map encB)) :
    (Conv.bytesToString (.slice a m c)).run P w = .ok (.string ⟨l.toArray⟩) w := by
  obtain ⟨h1, h2⟩ := H.rd hr
  simp only [List.length_map, Nat.mul_one] at h1 h2
  cases a with
  | none =>
    have : l = [] := by
      rcases Nat.eq_zero_or_pos l.length with h | h
      · exact List.eq_nil_of_length_eq_zero h
      · obtain ⟨b, o, cs, t, fz, e, _⟩ := h2 h; cases e
    subst this; simp [Conv.bytesToString]; rfl
  | some p =>
    have hl := loadCells_rd (P := P) H hr
    rw [List.length_map, h1] at hl
    have key : ∀ (l : List UInt8) (s : ByteArray), (forIn (m := Sem) (l.map encB) s fun c r => (match c with
      | .int .u8 n => (do pure PUnit.unit; pure (ForInStep.yield (r.push (UInt8.ofNat n.toNat))) : Sem (ForInStep ByteArray))
      | _ => stuck "bytesToString: byte expected")).run P w = .ok ⟨s.data ++ l.toArray⟩ w := by
      intro l
      induction l with
      | nil => intro s; simp
      | cons b l ih =>
        intro s
        simp only [List.map_cons, List.forIn_cons, Sem.run_bind, encB, Sem.run_pure, Result.andThen_ok, Int.toNat_natCast, UInt8.ofNat_toNat]
        have := ih (s.push b)
        try simp only [encB] at this
        rw [this, bytes_push]
    have := key l .empty
    simp only [Conv.bytesToString, Sem.run_bind, hl, Result.andThen_ok]
    rw [← Array.forIn_toList, List.toList_toArray]
    have e0 : (ByteArray.empty.data ++ l.toArray) = l.toArray := by
      show #[] ++ l.toArray = l.toArray
      simp
    rw [e0] at this
    have goal := congrArg (fun r => Result.andThen r fun s w => Result.ok (Value.string s) w) this
    simp only [Result.andThen_ok] at goal
    first
      | exact goal
      | (simp only [Sem.run_bind, Sem.run_pure]; exact goal)
/-- Bytes as a text. -/
theorem kcvS {d src dst e : TypeId} {x : Operand} {a : Option Addr} {m c : Nat} {l : List UInt8} [hu : UndTy P dst .string] [hs : SliceTy P src e 1 1] [he : UndTy P e (.int .u8)]
    (hr : Rd A 1 a m (l.map encB)) (hp : Pick A L M) (hd : Nat.blt d n = true) (hx : ev env x = some (.slice a m c)) (h : T n w0 K ((d, .string ⟨l.toArray⟩) :: env) L) :
    T n w0 (opO P ⟨some d, .convert src dst x, ty, pos, after, g⟩ K) env L :=
  T_still hd (fun a' w A' => by
    have := run_bytesToString (P := P) (c := c) (hp.back A'.heap) hr
    simp [execOp, A'.ev hx, convert, run_und hs.und, run_und hu.und, run_und he.und, this]) h
/-- A text as bytes. -/
theorem kcvB {d src dst e : TypeId} {x : Operand} {s : ByteArray} [hu : UndTy P src .string] [hs : SliceTy P dst e 1 1] [he : UndTy P e (.int .u8)]
    (hd : Nat.blt d n = true) (hx : ev env x = some (.string s)) (h : ∀ a c, T n w0 K ((d, .slice a s.size c) :: env) (slc e 1 a s.size c (s.data.toList.map encB) :: L)) :
    T n w0 (opO P ⟨some d, .convert src dst x, ty, pos, after, g⟩ K) env L :=
  T_eff (R := fun v L' => ∃ a c, v = .slice a s.size c ∧ L' = slc e 1 a s.size c (s.data.toList.map encB) :: L) hd (fun a' w A' => by
    refine ⟨_, _, Lib.bytesWorld w e s, ?_, ⟨some ⟨w.heap.size, 0, none⟩, grownCap w s.size 0 e, rfl, rfl⟩, ?_, ⟨rfl, rfl, rfl⟩⟩
    · simp [execOp, A'.ev hx, Lib.run_convert_string_bytes (P := P) w src dst e s hu.und hs.und he.und]
    · have hge := grownCap_ge w s.size 0 e
      have hsz : (s.data.toList.map encB).length = s.size := by rw [List.length_map]; rfl
      have hcells : (Lib.bytesCells w e s) = ([] ++ s.data.toList.map encB ++ List.replicate (grownCap w s.size 0 e - s.size) (Value.int .u8 0)).toArray := by
        apply Array.ext'
        simp [Lib.bytesCells, encB]
      have hn : Hd (Lib.bytesWorld w e s) (pts w.heap.size (.cells (Lib.bytesCells w e s) e ((Lib.bytesCells w e s).size, (Lib.bytesCells w e s).size + 1)) :: L) := by
        refine A'.heap.new (by simp) (Lib.bytesWorld_at_new w e s) (fun r hr => ?_)
        rcases Nat.lt_or_ge r w.heap.size with h | h
        · exact Lib.bytesWorld_at_old w e s r h
        · rw [Array.getElem?_eq_none (by rw [Lib.bytesWorld_size]; omega), Array.getElem?_eq_none h]
      rw [hcells] at hn
      exact Hd.mkSlc (by simpa using hsz) hge (by simp) (hn.mkRow (.inr (by simp))))
    (by rintro v L' ⟨a, c, rfl, rfl⟩; exact h a c)
theorem run_eqSl (w : World) {t e : TypeId} (a : Option Addr) (m c : Nat) (h : P.underlying t = some (.slice e)) : (Op.equal t (.slice a m c) (.slice none 0 0)).run P w = .ok a.isNone w := by
  have h : ∀ d : Nat, (Op.equalIn (d + 1) t (.slice a m c) (.slice none 0 0)).run P w = .ok a.isNone w := fun d => by
    cases a <;> simp [Op.equalIn, run_underlying h]
  exact h 9999
/-- Is a slice nil? -/
theorem keqSl {d xt yt e k y : TypeId} {x z : Operand} {a : Option Addr} {m c : Nat} [hs : SliceTy P xt e k y] (hd : Nat.blt d n = true) (hx : ev env x = some (.slice a m c)) (hz : ev env z = some (.slice none 0 0))
    (h : T n w0 K ((d, .bool a.isNone) :: env) L) : T n w0 (opO P ⟨some d, .binOp .eql xt x z yt, ty, pos, after, g⟩ K) env L :=
  T_still hd (S_bin hx hz eqGuard_slice (fun w => by
    simp only [binOp]; simp [run_eqSl w a m c hs.und])) h
theorem kneSl {d xt yt e k y : TypeId} {x z : Operand} {a : Option Addr} {m c : Nat} [hs : SliceTy P xt e k y] (hd : Nat.blt d n = true) (hx : ev env x = some (.slice a m c)) (hz : ev env z = some (.slice none 0 0))
    (h : T n w0 K ((d, .bool (!a.isNone)) :: env) L) : T n w0 (opO P ⟨some d, .binOp .neq xt x z yt, ty, pos, after, g⟩ K) env L :=
  T_still hd (S_bin hx hz eqGuard_slice (fun w => by
    simp only [binOp]; simp [run_eqSl w a m c hs.und])) h
/-- A slice with room told: s[:h:m]. -/
theorem ksl3 {d t e k y : TypeId} {x hi mx : Operand} {a : Option Addr} {m c q r : Nat} {k1 k2 : IntKind} [hs : SliceTy P t e k y] (hd : Nat.blt d n = true) (hx : ev env x = some (.slice a m c))
    (hh : ev env hi = some (.int k1 (q : Int))) (hm : ev env mx = some (.int k2 (r : Int))) (h1 : q ≤ r) (h2 : r ≤ c) (h : T n w0 K ((d, .slice a q r) :: env) L) :
    T n w0 (opO P ⟨some d, .slice t x none (some hi) (some mx), ty, pos, after, g⟩ K) env L :=
  T_still hd (fun a' w A' => by
    obtain ⟨inf, z, i1, i2, i3, i4, i5⟩ := hs.info
    have b1 := run_bound (P := P) (w := w) (kk := k2) (i := (r : Int)) (y := c) (code := .slice3Acap) (by omega)
    have b2 := run_bound (P := P) (w := w) (kk := k1) (i := (q : Int)) (y := r) (code := .slice3B) (by omega)
    rw [Int.toNat_natCast] at b1 b2
    simp [execOp, A'.ev hx, A'.ev hh, A'.ev hm, Instr.sliceAt, run_und hs.und, Instr.slice, Instr.sliceBounds, b1, b2, sizeOf, typeInfo, i1, i2]
    try (intro _; cases a <;> simp [Addr.add])) h
/-- A store of what has given cells. -/
theorem kstC {t k : Nat} {x z : Operand} {b o : Nat} {t' : TypeId} {cs vs : List Value} {v : Value} [ht : SizeTy P t k] (hx : ev env x = some (.pointer (some ⟨b, o, none⟩))) (hz : ev env z = some v)
    (hc : v.cells = vs.toArray) (h1 : ∀ v ∈ vs, v.oneCell' = true) (hk : vs.length = k) (hp : Pick (row b t' cs) L M) (ho : o + k ≤ cs.length) (h : T n w0 K env (row b t' (splice cs o vs) :: M)) :
    T n w0 (opO P ⟨none, .store t x z, ty, pos, after, g⟩ K) env L :=
  T_sto (fun a w A' => by
    obtain ⟨w', hr, hH, hK⟩ := run_storeCells_row (P := P) (o := o) vs 0 cs w (hp.back A'.heap) (by omega) h1
    refine ⟨w', ?_, hH, hK⟩
    simp [execOp, A'.ev hx, A'.ev hz, Instr.storeAt, Instr.sureAddr, storeVar, ht.size, hc, hk, hr]) h
/-- All of a variable. -/
theorem kstCA {t k : Nat} {x z : Operand} {b : Nat} {t' : TypeId} {cs vs : List Value} {v : Value} [ht : SizeTy P t k] (hx : ev env x = some (.pointer (some ⟨b, 0, none⟩))) (hz : ev env z = some v)
    (hc : v.cells = vs.toArray) (h1 : ∀ v ∈ vs, v.oneCell' = true) (hk : vs.length = k) (hp : Pick (row b t' cs) L M) (ho : cs.length = k) (h : T n w0 K env (row b t' vs :: M)) :
    T n w0 (opO P ⟨none, .store t x z, ty, pos, after, g⟩ K) env L :=
  kstC hx hz hc h1 hk hp (by omega) (by rw [splice_all (by omega)]; exact h)
theorem kstSC {t k' : Nat} {x z : Operand} {a : Option Addr} {j : Nat} {t' k m c : Nat} {xs vs : List Value} {v : Value} [ht : SizeTy P t k'] (hx : ev env x = some (.pointer (some (sAt a j)))) (hz : ev env z = some v)
    (hc : v.cells = vs.toArray) (h1 : ∀ v ∈ vs, v.oneCell' = true) (hk : vs.length = k') (h0 : 0 < k') (hp : Pick (slc t' k a m c xs) L M) (ho : j + k' ≤ xs.length) (h : T n w0 K env (slc t' k a m c (splice xs j vs) :: M)) :
    T n w0 (opO P ⟨none, .store t x z, ty, pos, after, g⟩ K) env L :=
  T_sto (fun a' w A' => by
    obtain ⟨w', hr, hH, hK⟩ := run_storeCells_slc (P := P) (hp.back A'.heap) vs j (by omega) h1 (by omega)
    refine ⟨w', ?_, hH, hK⟩
    simp [execOp, A'.ev hx, A'.ev hz, Instr.storeAt, Instr.sureAddr, storeVar, ht.size, hc, hk, hr]) h

/-- A struct type: where its fields lie, and how many cells each has; the cells of its zero. -/
class StructTy (P : Program) (t : TypeId) (offs : outParam (List (Nat × Nat))) (zs : outParam (List Value)) : Prop where
  und : ∃ fs, P.underlying t = some (.struct fs) ∧ ∀ w, (fs.mapM fun f => do pure (f.offset, ← sizeOf f.type) : Sem (Array (Nat × Nat))).run P w = .ok offs.toArray w
  zero : ∃ z, (∀ w, (zeroValue t).run P w = .ok z w) ∧ z.cells = zs.toArray
def fillL (offs : List (Nat × Nat)) : List Value → List (Nat × Value) → Option (List Value)
  | cs, [] => some cs
  | cs, (i, v) :: r => match offs[i]? with
    | none => none
    | some (o, k) => if v.cells.size = k ∧ o + k ≤ cs.length then fillL offs (splice cs o v.cells.toList) r else none
theorem fill_fillL {offs : List (Nat × Nat)} : ∀ {vs : List (Nat × Value)} {cs r : List Value}, fillL offs cs vs = some r → Instr.fill (fun i => offs.toArray[i]?) cs.toArray vs = some r.toArray
  | [], cs, r, h => by simp only [fillL, Option.some.injEq] at h; subst h; rfl
  | (i, v) :: vs, cs, r, h => by
    simp only [fillL] at h
    split at h
    · cases h
    · rename_i o k ho
      split at h
      · rename_i hc
        rw [fill_step (o := o) (k := k) (by simpa using ho) hc.1 hc.2]
        exact fill_fillL h
      · cases h
theorem kbld {d t : TypeId} {offs : List (Nat × Nat)} {zs cs : List Value} [hs : StructTy P t offs zs] {parts : Array (Nat × Operand)} {vs : List (Nat × Value)} (hd : Nat.blt d n = true)
    (hvs : parts.toList.map (fun p => (p.1, ev env p.2)) = vs.map (fun p => (p.1, some p.2))) (hf : fillL offs zs vs = some cs) (h : T n w0 K ((d, .agg cs.toArray) :: env) L) :
    T n w0 (opO P ⟨some d, .build t parts, ty, pos, after, g⟩ K) env L :=
  T_still hd (fun a w A' => by
    obtain ⟨fs, h1, h2⟩ := hs.und
    obtain ⟨z, h3, h4⟩ := hs.zero
    have hpp : (parts.map fun x => (x.1, a.eval x.2)).toList = vs := by
      simp only [Array.toList_map]
      apply List.ext_getElem?
      intro i
      have hi := congrArg (fun l => l[i]?) hvs
      simp only [List.getElem?_map] at hi ⊢
      cases h1 : parts.toList[i]? with
      | none => rw [h1] at hi; cases h2 : vs[i]? <;> simp_all
      | some x =>
        rw [h1] at hi
        cases h2 : vs[i]? with
        | none => simp_all
        | some v =>
          rw [h2] at hi
          simp only [Option.map_some, Option.some.injEq, Prod.mk.injEq] at hi ⊢
          rw [A'.ev hi.2, hi.1]
    have hf' := fill_fillL hf
    have h2' := h2 w
    simp only [execOp, Instr.build, Sem.run_bind, h3, Result.andThen_ok, run_und h1, h4, hpp]
    rw [h2']
    simp only [Result.andThen_ok, hf', Sem.run_pure]) h

theorem kmm {d t e : TypeId} {zs : List Value} [hm : MapTy P t e zs] (hd : Nat.blt d n = true) (h : ∀ r, T n w0 K ((d, .map (some r)) :: env) (imap r [] :: L)) :
    T n w0 (opO P ⟨some d, .makeMap t none, ty, pos, after, g⟩ K) env L :=
  T_eff (R := fun v L' => ∃ r, v = .map (some r) ∧ L' = imap r [] :: L) hd (fun a w A' => by
    refine ⟨_, _, w.alloc (.map #[] 0), ?_, ⟨w.heap.size, rfl, rfl⟩, ?_, ⟨rfl, rfl, rfl⟩⟩
    · simp [execOp, Instr.makeMap]
    · refine Hd.mkImap (es := []) (c := 0) ⟨rfl, rfl, by simp, by simp, by simp⟩ ?_
      refine A'.heap.new (by simp) (by show (w.heap.push _)[w.heap.size]? = _; simp) (fun s hs => ?_)
      show (w.heap.push _)[s]? = _
      rw [Array.getElem?_push, if_neg hs])
    (by rintro v L' ⟨r, rfl, rfl⟩; exact h r)
theorem klk {d t e : TypeId} {zs : List Value} [hm : MapTy P t e zs] {x i : Operand} {r : Nat} {l : List (Int × Value)} {k : Int} (hd : Nat.blt d n = true) (hx : ev env x = some (.map (some r))) (hi : ev env i = some (.int .i64 k))
    (hp : Pick (imap r l) L M) (h : ∀ z, z.cells = zs.toArray → T n w0 K ((d, (find l k).getD z) :: env) L) : T n w0 (opO P ⟨some d, .lookup t x i false, ty, pos, after, g⟩ K) env L :=
  T_eff (R := fun v L' => (∃ z, z.cells = zs.toArray ∧ v = (find l k).getD z) ∧ L' = L) hd (fun a w A' => by
    obtain ⟨z, hz, hr⟩ := run_lookup (P := P) (t := t) (e := e) (zs := zs) (hp.back A'.heap) k false
    exact ⟨_, _, w, by simp [execOp, A'.ev hx, A'.ev hi, hr], ⟨⟨z, hz, rfl⟩, rfl⟩, A'.heap, .refl _⟩)
    (by rintro v L' ⟨⟨z, hz, rfl⟩, rfl⟩; exact h z hz)
theorem klkO {d t e : TypeId} {zs : List Value} [hm : MapTy P t e zs] {x i : Operand} {r : Nat} {l : List (Int × Value)} {k : Int} (hd : Nat.blt d n = true) (hx : ev env x = some (.map (some r))) (hi : ev env i = some (.int .i64 k))
    (hp : Pick (imap r l) L M) (h : ∀ z, z.cells = zs.toArray → T n w0 K ((d, .tuple [(find l k).getD z, .bool (find l k).isSome].toArray) :: env) L) : T n w0 (opO P ⟨some d, .lookup t x i true, ty, pos, after, g⟩ K) env L :=
  T_eff (R := fun v L' => (∃ z, z.cells = zs.toArray ∧ v = .tuple [(find l k).getD z, .bool (find l k).isSome].toArray) ∧ L' = L) hd (fun a w A' => by
    obtain ⟨z, hz, hr⟩ := run_lookup (P := P) (t := t) (e := e) (zs := zs) (hp.back A'.heap) k true
    exact ⟨_, _, w, by simp [execOp, A'.ev hx, A'.ev hi, hr], ⟨⟨z, hz, rfl⟩, rfl⟩, A'.heap, .refl _⟩)
    (by rintro v L' ⟨⟨z, hz, rfl⟩, rfl⟩; exact h z hz)
theorem kmu {t e : TypeId} {zs : List Value} [hm : MapTy P t e zs] {x i z : Operand} {r : Nat} {l : List (Int × Value)} {k : Int} {v : Value} (hx : ev env x = some (.map (some r))) (hi : ev env i = some (.int .i64 k)) (hz : ev env z = some v)
    (hp : Pick (imap r l) L M) (h : T n w0 K env (imap r (upd l k v) :: M)) : T n w0 (opO P ⟨none, .mapUpdate t x i z, ty, pos, after, g⟩ K) env L :=
  T_sto (fun a w A' => by
    obtain ⟨w', hr, hH, hK⟩ := run_update (P := P) (t := t) (e := e) (zs := zs) (hp.back A'.heap) k v
    exact ⟨w', by simp [execOp, A'.ev hx, A'.ev hi, A'.ev hz, hr], hH, hK⟩) h
theorem kdl {t t2 e : TypeId} {zs : List Value} [hm : MapTy P t e zs] {x i : Operand} {r : Nat} {l : List (Int × Value)} {k : Int} (hx : ev env x = some (.map (some r))) (hi : ev env i = some (.int .i64 k))
    (hp : Pick (imap r l) L M) (h : T n w0 K env (imap r (del l k) :: M)) : T n w0 (opO P ⟨none, .call ⟨.builtin .delete, #[x, i], #[t, t2]⟩, ty, pos, after, g⟩ K) env L :=
  T_effN (R := fun v L' => L' = imap r (del l k) :: M) (fun a w A' => by
    obtain ⟨w', hr, hH, hK⟩ := run_delete (P := P) (t := t) (e := e) (zs := zs) (t2 := t2) (tt := ty) (hp.back A'.heap) k
    exact ⟨.tuple #[], _, w', by simp [execOp, resolve, invoke, builtin, A'.ev hx, A'.ev hi, hr], rfl, hH, hK⟩) (by rintro v L' rfl; exact h)
theorem kclr {t e : TypeId} {zs : List Value} [hm : MapTy P t e zs] {x : Operand} {r : Nat} {l : List (Int × Value)} (hx : ev env x = some (.map (some r)))
    (hp : Pick (imap r l) L M) (h : T n w0 K env (imap r [] :: M)) : T n w0 (opO P ⟨none, .call ⟨.builtin .clear, #[x], #[t]⟩, ty, pos, after, g⟩ K) env L :=
  T_effN (R := fun v L' => L' = imap r [] :: M) (fun a w A' => by
    obtain ⟨w', hr, hH, hK⟩ := run_clearMap (P := P) (t := t) (e := e) (zs := zs) (tt := ty) (hp.back A'.heap)
    exact ⟨.tuple #[], _, w', by simp [execOp, resolve, invoke, builtin, A'.ev hx, hr], rfl, hH, hK⟩) (by rintro v L' rfl; exact h)
theorem klenM {d t e : TypeId} {zs : List Value} [hm : MapTy P t e zs] {x : Operand} {r : Nat} {l : List (Int × Value)} (hd : Nat.blt d n = true) (hx : ev env x = some (.map (some r)))
    (hp : Pick (imap r l) L M) (h : T n w0 K ((d, .int .i64 l.length) :: env) L) : T n w0 (opO P ⟨some d, .call ⟨.builtin .len, #[x], #[t]⟩, ty, pos, after, g⟩ K) env L :=
  T_still hd (fun a w A' => by
    have := run_lenMap (P := P) (t := t) (e := e) (zs := zs) (tt := ty) (hp.back A'.heap)
    simp [execOp, resolve, invoke, builtin, A'.ev hx, this]) h
theorem krg {d t e : TypeId} {zs : List Value} [hm : MapTy P t e zs] {x : Operand} {r : Nat} {l : List (Int × Value)} (hd : Nat.blt d n = true) (hx : ev env x = some (.map (some r)))
    (hp : Pick (imap r l) L M) (h : ∀ b, T n w0 K ((d, .pointer (some ⟨b, 0, none⟩)) :: env) (imapIt r b l [] :: M)) : T n w0 (opO P ⟨some d, .range t x, ty, pos, after, g⟩ K) env L :=
  T_eff hd (E_rangeMap (t := t) (e := e) (zs := zs) hx hp) (by rintro v L' ⟨b, rfl, rfl⟩; exact h b)
/-- One more, or none. -/
theorem knx {d : Nat} {x : Operand} {r b : Nat} {l : List (Int × Value)} {S : List Int} (hd : Nat.blt d n = true) (hx : ev env x = some (.pointer (some ⟨b, 0, none⟩))) (hp : Pick (imapIt r b l S) L M)
    (h0 : (∀ p ∈ l, p.1 ∈ S) → T n w0 K ((d, .tuple [.bool false].toArray) :: env) (imapIt r b l S :: M))
    (h1 : ∀ k v, (k, v) ∈ l → k ∉ S → T n w0 K ((d, .tuple [.bool true, .int .i64 k, v].toArray) :: env) (imapIt r b l (k :: S) :: M)) :
    T n w0 (opO P ⟨some d, .next x false, ty, pos, after, g⟩ K) env L :=
  T_eff (R := fun v L' => ((∀ p ∈ l, p.1 ∈ S) ∧ v = .tuple [.bool false].toArray ∧ L' = imapIt r b l S :: M) ∨ ∃ k u, (k, u) ∈ l ∧ k ∉ S ∧ v = .tuple [.bool true, .int .i64 k, u].toArray ∧ L' = imapIt r b l (k :: S) :: M) hd
    (fun a w A' => by
      obtain ⟨w', hK, h⟩ := run_nextIt (P := P) (tt := ty) (hp.back A'.heap)
      rcases h with ⟨e1, e2, e3⟩ | ⟨k, u, e1, e2, e3, e4⟩
      · exact ⟨_, _, w', by simp [execOp, A'.ev hx, e2], .inl ⟨e1, rfl, rfl⟩, e3, hK⟩
      · exact ⟨_, _, w', by simp [execOp, A'.ev hx, e3], .inr ⟨k, u, e1, e2, rfl, rfl⟩, e4, hK⟩)
    (by
      rintro v L' (⟨e1, rfl, rfl⟩ | ⟨k, u, e1, e2, rfl, rfl⟩)
      · exact h0 e1
      · exact h1 k u e1 e2)
theorem kent {d : Nat} {x : Operand} {r b : Nat} {l : List (Int × Value)} {S : List Int} {k : Int} {v : Value} (hd : Nat.blt d n = true) (hx : ev env x = some (.pointer (some ⟨b, 0, none⟩))) (hp : Pick (imapIt r b l (k :: S)) L M)
    (hv : (k, v) ∈ l) (h : T n w0 K ((d, .tuple [.int .i64 k, v].toArray) :: env) L) : T n w0 (opO P ⟨some d, .entry x, ty, pos, after, g⟩ K) env L :=
  T_still hd (fun a w A' => by
    have := run_entryIt (P := P) (hp.back A'.heap) hv
    simp [execOp, A'.ev hx, this]) h
theorem T_endIt {X : Act → World → Prop} {r b : Nat} {l : List (Int × Value)} {S : List Int} (hp : Pick (imapIt r b l S) L M) (h : T n w0 X env (imap r l :: M)) : T n w0 X env L :=
  T_hd (fun w H => (hp.back H).endIt) h
end
end Go.Sl
set_option linter.unusedVariables false
set_option linter.unusedSimpArgs false
namespace Go.Sl
set_option linter.unnecessarySimpa false
open Go
section
variable {P : Program} {n : Nat} {w0 : World} {Q : Exit → Act → World → Prop} {env : Env} {L M M2 : List SP} {ops : Array Oper} {rest : List Oper}
variable {A : SP} {ty : TypeId} {pos : String} {after : Array Edge} {g : Option (Nat × Bool)} {K : Act → World → Prop}

theorem T_draw {i : Nat} {l : List Oper} (S : List Nat) (ord : List (Nat × Bool)) (hm : P.follows .mixedOrders = true)
    (hlen : Nat.beq ord.length l.length = true) (hok : (Region.noSelect l.toArray && okSeq l.toArray S ord (Array.replicate l.length false)) = true)
    (h : T n w0 (wpSeq P l.toArray (fun w => Hd w L ∧ Keep w0 w) S (Q .normal) ord) env L) : T n w0 ((Code.region i l.toArray true).wp P Q) env L :=
  T_regionD L S ord hm (by simpa using hlen) hok h
theorem d_still {S : List Nat} {N : Act → World → Prop} {i d : Nat} {op : Op} {ty : TypeId} {pos : String} {after : Array Edge} {r : List (Nat × Bool)} {v : Value}
    (hi : ops[i]? = some ⟨some d, op, ty, pos, after, none⟩) (hd : Nat.blt d n = true) (hr : Still P n w0 env L ⟨some d, op, ty, pos, after, none⟩ v)
    (h : T n w0 (wpSeq P ops (fun w => Hd w L ∧ Keep w0 w) S N r) ((d, v) :: env) L) : T n w0 (wpSeq P ops (fun w => Hd w L ∧ Keep w0 w) S N ((i, true) :: r)) env L :=
  T_seqStill (M := []) hi hd (by simp) hr h
theorem d_stillX {S : List Nat} {N : Act → World → Prop} {i d : Nat} {op : Op} {ty : TypeId} {pos : String} {after : Array Edge} {r : List (Nat × Bool)}
    (hi : ops[i]? = some ⟨some d, op, ty, pos, after, none⟩) (hd : Nat.blt d n = true) (h : ∃ v, Still P n w0 env L ⟨some d, op, ty, pos, after, none⟩ v ∧ T n w0 (wpSeq P ops (fun w => Hd w L ∧ Keep w0 w) S N r) ((d, v) :: env) L) :
    T n w0 (wpSeq P ops (fun w => Hd w L ∧ Keep w0 w) S N ((i, true) :: r)) env L := by
  obtain ⟨v, h1, h2⟩ := h
  exact d_still hi hd h1 h2
/-- What memory that is read ends with, where more came. -/
theorem d_back {i : Nat} {S : List Nat} {R : List SP} {X : Act → World → Prop} (hL : ∃ G, L.Perm (R ++ G)) (h : T n w0 X env L) : T n w0 (fun a' w' => (S.contains i = true ∨ (Hd w' R ∧ Keep w0 w')) ∧ X a' w') env L := by
  obtain ⟨G, hL⟩ := hL
  exact T_seqC hL h

section
variable {d : Nat} {xt yt : TypeId} {x y : Operand} {k : IntKind}
theorem S_remNN {p q : Nat} {dd : Option Nat} (hx : ev env x = some (.int k (p : Int))) (hy : ev env y = some (.int k (q : Int))) (hq : Nat.blt 0 q = true) :
    Still P n w0 env L ⟨dd, .binOp .rem xt x y yt, ty, pos, after, g⟩ (.int k ((p % q : Nat) : Int)) := by
  have hq : 0 < q := by simpa [Nat.blt_eq] using hq
  have := S_remN (P := P) (n := n) (w0 := w0) (L := L) (d := dd) (ty := ty) (pos := pos) (after := after) (g := g) (xt := xt) (yt := yt) hx hy (by omega) (by omega)
  rwa [← Int.natCast_emod] at this
theorem S_quoNN {p q : Nat} {dd : Option Nat} (hx : ev env x = some (.int k (p : Int))) (hy : ev env y = some (.int k (q : Int))) (hq : Nat.blt 0 q = true) (hf : fits k p) :
    Still P n w0 env L ⟨dd, .binOp .quo xt x y yt, ty, pos, after, g⟩ (.int k ((p / q : Nat) : Int)) := by
  have hq : 0 < q := by simpa [Nat.blt_eq] using hq
  have := S_quoN (P := P) (n := n) (w0 := w0) (L := L) (d := dd) (ty := ty) (pos := pos) (after := after) (g := g) (xt := xt) (yt := yt) hx hy (by omega) (by omega) hf
  rwa [← Int.natCast_ediv] at this
theorem kremN {p q : Nat} (hd : Nat.blt d n = true) (hx : ev env x = some (.int k (p : Int))) (hy : ev env y = some (.int k (q : Int))) (hq : Nat.blt 0 q = true) (h : T n w0 K ((d, .int k ((p % q : Nat) : Int)) :: env) L) :
    T n w0 (opO P ⟨some d, .binOp .rem xt x y yt, ty, pos, after, g⟩ K) env L := T_still hd (S_remNN hx hy hq) h
theorem kquoN {p q : Nat} (hd : Nat.blt d n = true) (hx : ev env x = some (.int k (p : Int))) (hy : ev env y = some (.int k (q : Int))) (hq : Nat.blt 0 q = true) (hf : fits k p) (h : T n w0 K ((d, .int k ((p / q : Nat) : Int)) :: env) L) :
    T n w0 (opO P ⟨some d, .binOp .quo xt x y yt, ty, pos, after, g⟩ K) env L := T_still hd (S_quoNN hx hy hq hf) h
/-- Sums of natural numbers. -/
theorem S_addNN {p q : Nat} {dd : Option Nat} (hx : ev env x = some (.int k (p : Int))) (hy : ev env y = some (.int k (q : Int))) (hf : fits k ((p + q : Nat) : Int)) :
    Still P n w0 env L ⟨dd, .binOp .add xt x y yt, ty, pos, after, g⟩ (.int k ((p + q : Nat) : Int)) := S_arithF hx hy (by simp [arith]) hf
theorem S_mulNN {p q : Nat} {dd : Option Nat} (hx : ev env x = some (.int k (p : Int))) (hy : ev env y = some (.int k (q : Int))) (hf : fits k ((p * q : Nat) : Int)) :
    Still P n w0 env L ⟨dd, .binOp .mul xt x y yt, ty, pos, after, g⟩ (.int k ((p * q : Nat) : Int)) := S_arithF hx hy (by simp [arith]) hf
theorem kaddN {p q : Nat} (hd : Nat.blt d n = true) (hx : ev env x = some (.int k (p : Int))) (hy : ev env y = some (.int k (q : Int))) (hf : fits k ((p + q : Nat) : Int)) (h : T n w0 K ((d, .int k ((p + q : Nat) : Int)) :: env) L) :
    T n w0 (opO P ⟨some d, .binOp .add xt x y yt, ty, pos, after, g⟩ K) env L := T_still hd (S_addNN hx hy hf) h
theorem kmulN {p q : Nat} (hd : Nat.blt d n = true) (hx : ev env x = some (.int k (p : Int))) (hy : ev env y = some (.int k (q : Int))) (hf : fits k ((p * q : Nat) : Int)) (h : T n w0 K ((d, .int k ((p * q : Nat) : Int)) :: env) L) :
    T n w0 (opO P ⟨some d, .binOp .mul xt x y yt, ty, pos, after, g⟩ K) env L := T_still hd (S_mulNN hx hy hf) h
theorem ksubN {p q : Nat} (hd : Nat.blt d n = true) (hx : ev env x = some (.int k (p : Int))) (hy : ev env y = some (.int k (q : Int))) (hq : q ≤ p) (hf : fits k ((p - q : Nat) : Int)) (h : T n w0 K ((d, .int k ((p - q : Nat) : Int)) :: env) L) :
    T n w0 (opO P ⟨some d, .binOp .sub xt x y yt, ty, pos, after, g⟩ K) env L := T_still hd (S_arithF hx hy (r := ((p - q : Nat) : Int)) (by simp only [arith, Option.some.injEq]; omega) hf) h
/-- To the left by a constant. -/
theorem kshlN {p s : Nat} {k' : IntKind} {q : Nat} (hd : Nat.blt d n = true) (hx : ev env x = some (.int k (p : Int))) (hy : ev env y = some (.int k' (q : Int))) (hs : 2 ^ (min q k.bits) = s) (hf : fits k ((p * s : Nat) : Int))
    (h : T n w0 K ((d, .int k ((p * s : Nat) : Int)) :: env) L) : T n w0 (opO P ⟨some d, .binOp .shl xt x y yt, ty, pos, after, g⟩ K) env L :=
  kshl hd hx hy (by omega) (by
    rw [Int.toNat_natCast]
    have : ((p : Int) * 2 ^ (min q k.bits)) = ((p * s : Nat) : Int) := by rw [← hs]; norm_cast
    rw [this, wrap_fits hf]; exact h)
end
section
variable {dd : Option Nat} {t t' e k y : Nat} {x i z : Operand} {a : Option Addr} {m c b o j : Nat} {cs xs : List Value} {v : Value}
theorem S_ldM {α : Type} {f : α → Value} {l : List α} [ht : CellTy P t] (hx : ev env x = some (.pointer (some (sAt a j)))) (hp : Pick (slc t' k a m c (l.map f)) L M) (hj : j < l.length) :
    Still P n w0 env L ⟨dd, .load t x, ty, pos, after, g⟩ (f l[j]) := S_loadS hx hp (by simp [hj])
theorem S_ix {k' : Nat} {kk : IntKind} {q : Nat} [hs : SliceTy P t e k y] (hx : ev env x = some (.slice a m c)) (hj : ev env i = some (.int kk (q : Int))) (hp : Pick (slc t' k' a m c xs) L M) (hi : q < m) :
    Still P n w0 env L ⟨dd, .indexAddr t x i, ty, pos, after, g⟩ (.pointer (some (sAt a (q * k)))) := by
  have := S_index (P := P) (n := n) (w0 := w0) (d := dd) (ty := ty) (pos := pos) (after := after) (g := g) (t := t) (e := e) (k := k) (y := y) hx hj hp (by omega)
  rwa [Int.toNat_natCast] at this
theorem S_ix1 {k' : Nat} {kk : IntKind} {q : Nat} [hs : SliceTy P t e 1 y] (hx : ev env x = some (.slice a m c)) (hj : ev env i = some (.int kk (q : Int))) (hp : Pick (slc t' k' a m c xs) L M) (hi : q < m) :
    Still P n w0 env L ⟨dd, .indexAddr t x i, ty, pos, after, g⟩ (.pointer (some (sAt a q))) := by
  have := S_ix (P := P) (n := n) (w0 := w0) (dd := dd) (ty := ty) (pos := pos) (after := after) (g := g) (t := t) (e := e) (k := 1) (y := y) hx hj hp hi
  rwa [Nat.mul_one] at this
theorem S_ixR {kk : IntKind} {q : Nat} [hs : SliceTy P t e k y] (hr : Rd A k a m xs) (hp : Pick A L M) (hx : ev env x = some (.slice a m c)) (hj : ev env i = some (.int kk (q : Int))) (hi : q < m) :
    Still P n w0 env L ⟨dd, .indexAddr t x i, ty, pos, after, g⟩ (.pointer (some (sAt a (q * k)))) :=
  fun a' w A' => by
    obtain ⟨h1, h2⟩ := (hp.back A'.heap).rd hr
    have hk := hs.pos
    have : 0 < xs.length := by rw [h1]; exact Nat.mul_pos (by omega) hk
    obtain ⟨b, o, cs, t', fz, rfl, _, _⟩ := h2 this
    have := run_indexAt (P := P) (t := t) (w := w) (x := ⟨b, o, none⟩) (m := m) (c := c) (kk := kk) (i := (q : Int)) (by omega)
    simp [execOp, A'.ev hx, A'.ev hj, this, sAt]
theorem S_ixR1 {kk : IntKind} {q : Nat} [hs : SliceTy P t e 1 y] (hr : Rd A 1 a m xs) (hp : Pick A L M) (hx : ev env x = some (.slice a m c)) (hj : ev env i = some (.int kk (q : Int))) (hi : q < m) :
    Still P n w0 env L ⟨dd, .indexAddr t x i, ty, pos, after, g⟩ (.pointer (some (sAt a q))) := by
  have := S_ixR (P := P) (n := n) (w0 := w0) (dd := dd) (ty := ty) (pos := pos) (after := after) (g := g) (t := t) (e := e) (k := 1) (y := y) hr hp hx hj hi
  rwa [Nat.mul_one] at this
theorem S_ldR [ht : CellTy P t] (hr : Rd A k a m xs) (hp : Pick A L M) (hx : ev env x = some (.pointer (some (sAt a j)))) (hv : xs[j]? = some v) :
    Still P n w0 env L ⟨dd, .load t x, ty, pos, after, g⟩ v :=
  fun a' w A' => by
    obtain ⟨y, rfl, hs, hc⟩ := (hp.back A'.heap).rdCell hr hv
    simp only [sAt, Option.getD_some] at hx
    simp [execOp, A'.ev hx, Instr.loadAt, Instr.sureAddr, loadVar, ht.agg, hc]
theorem S_ldRM {α : Type} {f : α → Value} {l : List α} [ht : CellTy P t] (hr : Rd A k a m (l.map f)) (hp : Pick A L M) (hx : ev env x = some (.pointer (some (sAt a j)))) (hj : j < l.length) :
    Still P n w0 env L ⟨dd, .load t x, ty, pos, after, g⟩ (f l[j]) := S_ldR hr hp hx (by simp [hj])
theorem S_sl {lo hi : Option Operand} {l q : Nat} [hs : SliceTy P t e k y] (hx : ev env x = some (.slice a m c)) (hl : bnd env lo 0 = some l) (hh : bnd env hi m = some q) (h1 : l ≤ q) (h2 : q ≤ c) :
    Still P n w0 env L ⟨dd, .slice t x lo hi none, ty, pos, after, g⟩ (.slice (if c = l then a else a.map (·.add (l * k))) (q - l) (c - l)) := S_slice (e := e) (y := y) hx hl hh h1 h2
end
theorem T_rdNone {X : Act → World → Prop} {k : Nat} {m : Nat} {xs : List Value} (hr : Rd A k none m xs) (hp : Pick A L M) (h : xs = [] → T n w0 X env L) : T n w0 X env L :=
  T_know (fun w H => by
    obtain ⟨h1, h2⟩ := (hp.back H).rd hr
    rcases Nat.eq_zero_or_pos xs.length with h | h
    · exact List.eq_nil_of_length_eq_zero h
    · obtain ⟨b, o, cs, t, fz, e, _⟩ := h2 h; cases e) h
/-- A return. -/
theorem T_fin {fn : Func} {Post : Value → List SP → Prop} {F : List SP} (vs : List Value) (L' : List SP) (hr : resVals P env L fn.results.toList vs) (hp : Post (resOf vs) L') (hL : ∃ G, L.Perm ((L' ++ F) ++ G)) :
    T n w0 (bodyPost P fn (fun e w' => ∃ v L, e = .returned v ∧ Post v L ∧ Hd w' (L ++ F) ∧ Keep w0 w') .ret) env L := by
  obtain ⟨G, hL⟩ := hL
  exact T_post vs L' hr hp hL
theorem T_finN {fn : Func} {Post : Value → List SP → Prop} {F : List SP} (vs : List Value) (L' : List SP) (hr : resVals P env L fn.results.toList vs) (hp : Post (resOf vs) L') (hL : ∃ G, L.Perm ((L' ++ F) ++ G)) :
    T n w0 (bodyPost P fn (fun e w' => ∃ v L, e = .returned v ∧ Post v L ∧ Hd w' (L ++ F) ∧ Keep w0 w') .normal) env L := by
  obtain ⟨G, hL⟩ := hL
  exact T_postN vs L' hr hp hL
theorem kia1 {d t e len b o : Nat} {x i : Operand} {kk : IntKind} {q : Nat} [ht : ArrTy P t len e 1] (hd : Nat.blt d n = true) (hx : ev env x = some (.pointer (some ⟨b, o, none⟩))) (hj : ev env i = some (.int kk (q : Int))) (hi : q < len)
    (h : T n w0 K ((d, .pointer (some ⟨b, o + q, none⟩)) :: env) L) : T n w0 (opO P ⟨some d, .indexAddr t x i, ty, pos, after, g⟩ K) env L :=
  kiaR (e := e) hd hx hj (by omega) (by rw [Int.toNat_natCast, Nat.mul_one]; exact h)
theorem bnd_nat {x : Operand} {k : IntKind} {q m : Nat} (h : ev env x = some (.int k (q : Int))) : bnd env (some x) m = some q := by
  simp [bnd, h]
theorem bnd_none {m : Nat} : bnd env none m = some m := rfl
/-- A nil slice holds nothing. -/
theorem T_nilS {X : Act → World → Prop} (t k : Nat) (h : T n w0 X env (slc t k none 0 0 [] :: L)) : T n w0 X env L := T_hd (fun w H => H.nilSlc) h
end
end Go.Sl
