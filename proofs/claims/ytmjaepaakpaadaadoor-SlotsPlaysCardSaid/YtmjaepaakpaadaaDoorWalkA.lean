/- Assertions about memory as a list of what lies there, and the state at a point of a walk; rules of the walk: operations, regions that draw their order, joins and loops; cells, permutations of assertions, integer operations; slices, variables and fields. Part 1 of 13 of the proof of SlotsPlays; no condition. -/
import Derived.Shelf.SlIterI.Nil
import Derived.Shelf.SortM.Plain
import Derived.Shelf.SortM.SortNone
import Derived.Test.YtmjaepaakpaadaaDoorProg
import Derived.WalkKit
import Derived.StillTail
import Derived.Deep.Quiet
namespace Go.Proofs
set_option linter.unusedVariables false
set_option linter.unusedSimpArgs false
set_option linter.unnecessarySimpa false
open Go.Shelf
def Tryd.keysA_ren : Go.Shelf.Ren := ⟨fun | 7 => 59 | 10 => 68 | n => n, fun | 23 => 59 | 26 => 3 | 3 => 83 | 28 => 98 | 0 => 0 | 27 => 97 | 33 => 85 | 4 => 4 | n => n, fun | n => n⟩
theorem Tryd.keysA : Go.Proofs.SlLaysZI.n7 Tryd.prog Tryd.keysA_ren := {
  mixed := by kernel_rfl
  f7 := ⟨Tryd.f59.name, by decide, Tryd.func59.trans (congrArg some (by kernel_rfl))⟩
  f10 := ⟨Tryd.f68.name, by decide, Tryd.func68.trans (congrArg some (by kernel_rfl))⟩
  t0 := Tryd.underlying0
  a0 := Tryd.isAgg0
  z0 := Tryd.sizeOf0
  v0 := Tryd.zeroValue0
  t4 := Tryd.underlying4
  a4 := Tryd.isAgg4
  z4 := Tryd.sizeOf4
  v4 := Tryd.zeroValue4
  t23 := Tryd.underlying59
  a23 := Tryd.isAgg59
  z23 := Tryd.sizeOf59
  v23 := Tryd.zeroValue59
  t26 := Tryd.underlying3
  a26 := Tryd.isAgg3
  z26 := Tryd.sizeOf3
  v26 := Tryd.zeroValue3
  t27 := Tryd.underlying97
  a27 := Tryd.isAgg97
  z27 := Tryd.sizeOf97
  v27 := Tryd.zeroValue97
  t28 := Tryd.underlying98
  a28 := Tryd.isAgg98
  z28 := Tryd.sizeOf98
  v28 := Tryd.zeroValue98
  t33 := Tryd.underlying85
  a33 := Tryd.isAgg85
  z33 := Tryd.sizeOf85
  v33 := Tryd.zeroValue85 }
def Tryd.sortedA_ren : Go.Shelf.Ren := ⟨fun | 6 => 58 | 8 => 66 | 9 => 67 | 11 => 71 | 13 => 73 | 12 => 72 | 23 => 84 | 24 => 85 | 14 => 75 | 15 => 76 | 16 => 77 | 17 => 78 | 18 => 79 | 19 => 80 | 20 => 81 | 21 => 82 | 22 => 83 | 25 => 86 | 26 => 87 | 27 => 88 | 28 => 89 | 29 => 90 | 30 => 91 | 31 => 92 | n => n, fun | 26 => 3 | 28 => 98 | 24 => 80 | 0 => 0 | 3 => 3 | 37 => 104 | 48 => 94 | 50 => 70 | 4 => 4 | 40 => 115 | 39 => 114 | 45 => 120 | 5 => 5 | 9 => 9 | 51 => 125 | 55 => 129 | 57 => 131 | 58 => 132 | 33 => 85 | n => n, fun | n => n⟩
theorem Tryd.sortedA : Go.Proofs.SlLaysZI.n6 Tryd.prog Tryd.sortedA_ren := {
  mixed := by kernel_rfl
  f6 := ⟨Tryd.f58.name, by decide, Tryd.func58.trans (congrArg some (by kernel_rfl))⟩
  f8 := ⟨Tryd.f66.name, by decide, Tryd.func66.trans (congrArg some (by kernel_rfl))⟩
  f11 := ⟨Tryd.f71.name, by decide, Tryd.func71.trans (congrArg some (by kernel_rfl))⟩
  t0 := Tryd.underlying0
  a0 := Tryd.isAgg0
  z0 := Tryd.sizeOf0
  v0 := Tryd.zeroValue0
  t24 := Tryd.underlying80
  a24 := Tryd.isAgg80
  z24 := Tryd.sizeOf80
  v24 := Tryd.zeroValue80
  t26 := Tryd.underlying3
  a26 := Tryd.isAgg3
  z26 := Tryd.sizeOf3
  v26 := Tryd.zeroValue3
  t28 := Tryd.underlying98
  a28 := Tryd.isAgg98
  z28 := Tryd.sizeOf98
  v28 := Tryd.zeroValue98
  i26 := by kernel_rfl }
def Tryd.sortA_ren : Go.Shelf.Ren := ⟨fun | 5 => 67 | 8 => 73 | 7 => 72 | 19 => 84 | 20 => 85 | 10 => 75 | 11 => 76 | 12 => 77 | 13 => 78 | 14 => 79 | 15 => 80 | 16 => 81 | 17 => 82 | 18 => 83 | 30 => 86 | 31 => 87 | 32 => 88 | 33 => 89 | 34 => 90 | 35 => 91 | 40 => 92 | n => n, fun | 23 => 80 | 25 => 3 | 3 => 3 | 32 => 104 | 22 => 80 | 0 => 0 | 44 => 94 | 46 => 70 | 4 => 4 | 36 => 115 | 35 => 114 | 41 => 120 | 5 => 5 | 9 => 9 | 53 => 125 | 57 => 129 | 63 => 131 | 64 => 132 | n => n, fun | n => n⟩
theorem Tryd.sortA : Go.Proofs.SlLaysM.n5 Tryd.prog Tryd.sortA_ren := {
  mixed := by kernel_rfl
  f5 := ⟨Tryd.f67.name, by decide, Tryd.func67.trans (congrArg some (by kernel_rfl))⟩
  f7 := ⟨Tryd.f72.name, by decide, Tryd.func72.trans (congrArg some (by kernel_rfl))⟩
  f8 := Tryd.func73.trans (congrArg some (by kernel_rfl))
  f10 := ⟨Tryd.f75.name, by decide, Tryd.func75.trans (congrArg some (by kernel_rfl))⟩
  f11 := ⟨Tryd.f76.name, by decide, Tryd.func76.trans (congrArg some (by kernel_rfl))⟩
  f12 := ⟨Tryd.f77.name, by decide, Tryd.func77.trans (congrArg some (by kernel_rfl))⟩
  f13 := ⟨Tryd.f78.name, by decide, Tryd.func78.trans (congrArg some (by kernel_rfl))⟩
  f14 := ⟨Tryd.f79.name, by decide, Tryd.func79.trans (congrArg some (by kernel_rfl))⟩
  f15 := ⟨Tryd.f80.name, by decide, Tryd.func80.trans (congrArg some (by kernel_rfl))⟩
  f16 := ⟨Tryd.f81.name, by decide, Tryd.func81.trans (congrArg some (by kernel_rfl))⟩
  f17 := ⟨Tryd.f82.name, by decide, Tryd.func82.trans (congrArg some (by kernel_rfl))⟩
  f18 := ⟨Tryd.f83.name, by decide, Tryd.func83.trans (congrArg some (by kernel_rfl))⟩
  f19 := Tryd.func84.trans (congrArg some (by kernel_rfl))
  f20 := Tryd.func85.trans (congrArg some (by kernel_rfl))
  f30 := ⟨Tryd.f86.name, by decide, Tryd.func86.trans (congrArg some (by kernel_rfl))⟩
  f31 := Tryd.func87.trans (congrArg some (by kernel_rfl))
  f32 := Tryd.func88.trans (congrArg some (by kernel_rfl))
  f33 := ⟨Tryd.f89.name, by decide, Tryd.func89.trans (congrArg some (by kernel_rfl))⟩
  f34 := ⟨Tryd.f90.name, by decide, Tryd.func90.trans (congrArg some (by kernel_rfl))⟩
  f35 := ⟨Tryd.f91.name, by decide, Tryd.func91.trans (congrArg some (by kernel_rfl))⟩
  f40 := ⟨Tryd.f92.name, by decide, Tryd.func92.trans (congrArg some (by kernel_rfl))⟩
  t0 := Tryd.underlying0
  a0 := Tryd.isAgg0
  z0 := Tryd.sizeOf0
  v0 := Tryd.zeroValue0
  t3 := Tryd.underlying3
  a3 := Tryd.isAgg3
  z3 := Tryd.sizeOf3
  v3 := Tryd.zeroValue3
  t4 := Tryd.underlying4
  a4 := Tryd.isAgg4
  z4 := Tryd.sizeOf4
  v4 := Tryd.zeroValue4
  t5 := Tryd.underlying5
  a5 := Tryd.isAgg5
  z5 := Tryd.sizeOf5
  v5 := Tryd.zeroValue5
  t9 := Tryd.underlying9
  a9 := Tryd.isAgg9
  z9 := Tryd.sizeOf9
  v9 := Tryd.zeroValue9
  t22 := Tryd.underlying80
  a22 := Tryd.isAgg80
  z22 := Tryd.sizeOf80
  v22 := Tryd.zeroValue80
  t23 := Tryd.underlying80
  a23 := Tryd.isAgg80
  z23 := Tryd.sizeOf80
  v23 := Tryd.zeroValue80
  t25 := Tryd.underlying3
  a25 := Tryd.isAgg3
  z25 := Tryd.sizeOf3
  v25 := Tryd.zeroValue3
  t32 := Tryd.underlying104
  a32 := Tryd.isAgg104
  z32 := Tryd.sizeOf104
  v32 := Tryd.zeroValue104
  t35 := Tryd.underlying114
  a35 := Tryd.isAgg114
  z35 := Tryd.sizeOf114
  v35 := Tryd.zeroValue114
  t36 := Tryd.underlying115
  a36 := Tryd.isAgg115
  z36 := Tryd.sizeOf115
  v36 := Tryd.zeroValue115
  t41 := Tryd.underlying120
  a41 := Tryd.isAgg120
  z41 := Tryd.sizeOf120
  v41 := Tryd.zeroValue120
  t44 := Tryd.underlying94
  a44 := Tryd.isAgg94
  z44 := Tryd.sizeOf94
  v44 := Tryd.zeroValue94
  t46 := Tryd.underlying70
  a46 := Tryd.isAgg70
  z46 := Tryd.sizeOf70
  v46 := Tryd.zeroValue70
  t53 := Tryd.underlying125
  a53 := Tryd.isAgg125
  z53 := Tryd.sizeOf125
  v53 := Tryd.zeroValue125
  t57 := Tryd.underlying129
  a57 := Tryd.isAgg129
  z57 := Tryd.sizeOf129
  v57 := Tryd.zeroValue129
  t63 := Tryd.underlying131
  a63 := Tryd.isAgg131
  z63 := Tryd.sizeOf131
  v63 := Tryd.zeroValue131
  t64 := Tryd.underlying132
  a64 := Tryd.isAgg132
  z64 := Tryd.sizeOf132
  v64 := Tryd.zeroValue132 }
end Go.Proofs
namespace Go.Sl
set_option linter.unusedVariables false
set_option linter.unusedSimpArgs false
set_option linter.unnecessarySimpa false
open Go

abbrev PH := Nat → Option Obj
def PH.emp : PH := fun _ => none
def PH.union (a b : PH) : PH := fun r => match a r with | some o => some o | none => b r
def PH.disj (a b : PH) : Prop := ∀ r, a r = none ∨ b r = none
def PH.one (r : Nat) (o : Obj) : PH := fun s => if s = r then some o else none
abbrev SP := PH → Prop
def sEmp : SP := fun h => h = PH.emp
def sep (A B : SP) : SP := fun h => ∃ a b, PH.disj a b ∧ h = PH.union a b ∧ A a ∧ B b
def pts (r : Nat) (o : Obj) : SP := fun h => h = PH.one r o
def sl : List SP → SP
  | [] => sEmp
  | A :: L => sep A (sl L)

theorem PH.union_emp (a : PH) : PH.union a PH.emp = a := by
  funext r; simp only [PH.union, PH.emp]; split <;> simp_all
theorem PH.emp_union (a : PH) : PH.union PH.emp a = a := by
  funext r; simp [PH.union, PH.emp]
theorem PH.disj_comm {a b : PH} (h : PH.disj a b) : PH.disj b a := fun r => (h r).symm
theorem PH.disj_emp (a : PH) : PH.disj a PH.emp := fun _ => .inr rfl
theorem PH.union_comm {a b : PH} (h : PH.disj a b) : PH.union a b = PH.union b a := by
  funext r; simp only [PH.union]
  cases ha : a r <;> cases hb : b r <;> simp
  rcases h r with h | h <;> simp_all
theorem PH.union_assoc (a b c : PH) : PH.union (PH.union a b) c = PH.union a (PH.union b c) := by
  funext r; simp only [PH.union]; cases a r <;> simp
theorem PH.disj_union {a b c : PH} : PH.disj a (PH.union b c) ↔ PH.disj a b ∧ PH.disj a c := by
  constructor
  · intro h; constructor <;> intro r <;> rcases h r with h | h <;> simp_all [PH.union]
    · split at h <;> simp_all
    · split at h <;> simp_all
  · rintro ⟨h1, h2⟩ r
    rcases h1 r with h | h
    · exact .inl h
    · rcases h2 r with h' | h'
      · exact .inl h'
      · exact .inr (by simp [PH.union, h, h'])

theorem sep_comm (A B : SP) : sep A B = sep B A := by
  funext h; apply propext
  constructor <;> (rintro ⟨a, b, hd, rfl, ha, hb⟩; exact ⟨b, a, PH.disj_comm hd, PH.union_comm hd, hb, ha⟩)
theorem sep_emp (A : SP) : sep A sEmp = A := by
  funext h; apply propext
  constructor
  · rintro ⟨a, b, hd, rfl, ha, rfl⟩; rw [PH.union_emp]; exact ha
  · intro ha; exact ⟨h, PH.emp, PH.disj_emp _, (PH.union_emp _).symm, ha, rfl⟩
theorem sep_assoc (A B C : SP) : sep (sep A B) C = sep A (sep B C) := by
  funext h; apply propext
  constructor
  · rintro ⟨_, c, hd, rfl, ⟨a, b, hd', rfl, ha, hb⟩, hc⟩
    have hd2 := PH.disj_union.1 (PH.disj_comm hd)
    exact ⟨a, PH.union b c, PH.disj_union.2 ⟨hd', PH.disj_comm hd2.1⟩, PH.union_assoc _ _ _, ha, b, c, PH.disj_comm hd2.2, rfl, hb, hc⟩
  · rintro ⟨a, _, hd, rfl, ha, b, c, hd', rfl, hb, hc⟩
    have hd2 := PH.disj_union.1 hd
    exact ⟨PH.union a b, c, PH.disj_comm (PH.disj_union.2 ⟨PH.disj_comm hd2.2, PH.disj_comm hd'⟩), (PH.union_assoc _ _ _).symm, ⟨a, b, hd2.1, rfl, ha, hb⟩, hc⟩
theorem sep_left_comm (A B C : SP) : sep A (sep B C) = sep B (sep A C) := by
  rw [← sep_assoc, sep_comm A B, sep_assoc]
theorem sl_append (L M : List SP) : sl (L ++ M) = sep (sl L) (sl M) := by
  induction L with
  | nil => simp only [List.nil_append, sl]; rw [sep_comm, sep_emp]
  | cons A L ih => simp only [List.cons_append, sl, ih, sep_assoc]
theorem sl_perm {L M : List SP} (h : L.Perm M) : sl L = sl M := by
  induction h with
  | nil => rfl
  | cons A _ ih => simp only [sl, ih]
  | swap A B L => simp only [sl]; exact sep_left_comm _ _ _
  | trans _ _ i1 i2 => exact i1.trans i2

/-- The world holds what the list says, and perhaps more. -/
def Hd (w : World) (L : List SP) : Prop := ∃ h, (∀ r o, h r = some o → w.heap[r]? = some o) ∧ sl L h

theorem Hd.perm {w : World} {L M : List SP} (h : L.Perm M) (H : Hd w L) : Hd w M := by
  unfold Hd at *; rw [← sl_perm h]; exact H
theorem Hd.drop {w : World} {A : SP} {L : List SP} (H : Hd w (A :: L)) : Hd w L := by
  obtain ⟨h, hw, a, b, hd, rfl, ha, hb⟩ := H
  refine ⟨b, fun r o hr => hw r o ?_, hb⟩
  rcases hd r with h | h
  · simp [PH.union, h, hr]
  · simp [hr] at h
theorem Hd.append_left {w : World} {L M : List SP} (H : Hd w (L ++ M)) : Hd w L := by
  have H2 : Hd w (M ++ L) := H.perm List.perm_append_comm
  clear H
  induction M with
  | nil => exact H2
  | cons A M ih => exact ih H2.drop
theorem Hd.append_right {w : World} {L M : List SP} (H : Hd w (L ++ M)) : Hd w M := by
  induction L with
  | nil => exact H
  | cons A L ih => exact ih H.drop
theorem Hd.get {w : World} {r : Nat} {o : Obj} {L : List SP} (H : Hd w (pts r o :: L)) : w.heap[r]? = some o := by
  obtain ⟨h, hw, a, b, hd, rfl, rfl, hb⟩ := H
  exact hw r o (by simp [PH.union, PH.one])
theorem Hd.of_heap {w w' : World} {L : List SP} (e : w'.heap = w.heap) (H : Hd w L) : Hd w' L := by
  obtain ⟨h, hw, hs⟩ := H; exact ⟨h, fun r o hr => e ▸ hw r o hr, hs⟩
theorem Hd.put {w w' : World} {r : Nat} {o o' : Obj} {L : List SP} (H : Hd w (pts r o :: L)) (hr : w'.heap[r]? = some o')
    (hk : ∀ s, s ≠ r → w'.heap[s]? = w.heap[s]?) : Hd w' (pts r o' :: L) := by
  obtain ⟨h, hw, a, b, hd, rfl, rfl, hb⟩ := H
  refine ⟨PH.union (PH.one r o') b, ?_, PH.one r o', b, ?_, rfl, rfl, hb⟩
  · intro s q hs
    by_cases e : s = r
    · subst e; simp [PH.union, PH.one] at hs; subst hs; exact hr
    · rw [hk s e]; apply hw; simpa [PH.union, PH.one, e] using hs
  · intro s
    by_cases e : s = r
    · subst e; right; rcases hd s with h | h
      · simp [PH.one] at h
      · exact h
    · left; simp [PH.one, e]
theorem Hd.new {w w' : World} {r : Nat} {o : Obj} {L : List SP} (H : Hd w L) (h0 : w.heap[r]? = none) (hr : w'.heap[r]? = some o)
    (hk : ∀ s, s ≠ r → w'.heap[s]? = w.heap[s]?) : Hd w' (pts r o :: L) := by
  obtain ⟨h, hw, hs⟩ := H
  refine ⟨PH.union (PH.one r o) h, ?_, PH.one r o, h, ?_, rfl, rfl, hs⟩
  · intro s q hs'
    by_cases e : s = r
    · subst e; simp [PH.union, PH.one] at hs'; subst hs'; exact hr
    · rw [hk s e]; apply hw; simpa [PH.union, PH.one, e] using hs'
  · intro s
    by_cases e : s = r
    · subst e; right
      cases hh : h s with
      | none => rfl
      | some q => exact absurd (hw s q hh) (by simp [h0])
    · left; simp [PH.one, e]
/-- Weakening of the head. -/
theorem Hd.imp {w : World} {A B : SP} {L : List SP} (hi : ∀ h, A h → B h) (H : Hd w (A :: L)) : Hd w (B :: L) := by
  obtain ⟨h, hw, a, b, hd, rfl, ha, hb⟩ := H
  exact ⟨_, hw, a, b, hd, rfl, hi _ ha, hb⟩
/-- An existential assertion. -/
def sEx {α : Type} (A : α → SP) : SP := fun h => ∃ x, A x h
/-- A pure fact. -/
def sPure (p : Prop) : SP := fun h => p ∧ h = PH.emp
theorem Hd.ex {α : Type} {w : World} {A : α → SP} {L : List SP} (H : Hd w (sEx A :: L)) : ∃ x, Hd w (A x :: L) := by
  obtain ⟨h, hw, a, b, hd, rfl, ⟨x, ha⟩, hb⟩ := H
  exact ⟨x, _, hw, a, b, hd, rfl, ha, hb⟩
theorem Hd.mkEx {α : Type} {w : World} {A : α → SP} {L : List SP} (x : α) (H : Hd w (A x :: L)) : Hd w (sEx A :: L) :=
  H.imp fun _ h => ⟨x, h⟩
theorem Hd.pure {p : Prop} {w : World} {L : List SP} (H : Hd w (sPure p :: L)) : p ∧ Hd w L := by
  refine ⟨?_, H.drop⟩
  obtain ⟨h, hw, a, b, hd, rfl, ⟨hp, _⟩, hb⟩ := H
  exact hp
theorem Hd.mkPure {p : Prop} {w : World} {L : List SP} (hp : p) (H : Hd w L) : Hd w (sPure p :: L) := by
  obtain ⟨h, hw, hs⟩ := H
  exact ⟨h, hw, PH.emp, h, PH.disj_comm (PH.disj_emp _), (PH.emp_union _).symm, ⟨hp, rfl⟩, hs⟩
theorem Hd.emp {w : World} : Hd w [] := ⟨PH.emp, fun r o h => by simp [PH.emp] at h, rfl⟩
/-- A list of assertions as one. -/
theorem Hd.unsl {w : World} {M L : List SP} (H : Hd w (sl M :: L)) : Hd w (M ++ L) := by
  obtain ⟨h, hw, hs⟩ := H; exact ⟨h, hw, by rw [sl_append]; exact hs⟩
theorem Hd.mksl {w : World} {M L : List SP} (H : Hd w (M ++ L)) : Hd w (sl M :: L) := by
  obtain ⟨h, hw, hs⟩ := H; exact ⟨h, hw, by rw [sl_append] at hs; exact hs⟩

/-- What no walk turns. -/
structure Keep (w w' : World) : Prop where
  os : w'.os = w.os
  tape : w'.tape = w.tape
  output : w'.output = w.output
theorem Keep.refl (w : World) : Keep w w := ⟨rfl, rfl, rfl⟩
theorem Keep.trans {a b c : World} (h : Keep a b) (k : Keep b c) : Keep a c := ⟨k.os.trans h.os, k.tape.trans h.tape, k.output.trans h.output⟩

/-- Slots: the latest first. -/
abbrev Env := List (Nat × Value)
def look : Env → Nat → Option Value
  | [], _ => none
  | (d, v) :: r, i => bif Nat.beq d i then some v else look r i
theorem look_cons (d : Nat) (v : Value) (r : Env) (i : Nat) : look ((d, v) :: r) i = if d = i then some v else look r i := by
  simp only [look]
  by_cases h : d = i
  · subst h; simp
  · have : Nat.beq d i = false := by
      cases hb : Nat.beq d i with
      | false => rfl
      | true => exact absurd (Nat.eq_of_beq_eq_true hb) h
    simp [h, this]
def ev (env : Env) : Operand → Option Value
  | .tmp t => look env t
  | .const v => some v
  | .global g => some (.pointer (some ⟨g, 0, none⟩))
  | .func f => some (.func (.func f) #[] #[])

/-- The state at a point of a walk. -/
structure At (n : Nat) (w0 : World) (env : Env) (L : List SP) (a : Act) (w : World) : Prop where
  defers : a.defers = []
  size : a.tmps.size = n
  slots : ∀ d v, look env d = some v → a.tmps[d]? = some v
  heap : Hd w L
  keep : Keep w0 w
def T (n : Nat) (w0 : World) (X : Act → World → Prop) (env : Env) (L : List SP) : Prop := ∀ a w, At n w0 env L a w → X a w

theorem At.ev {n : Nat} {w0 : World} {env : Env} {L : List SP} {a : Act} {w : World} (h : At n w0 env L a w) {x : Operand} {v : Value}
    (hv : ev env x = some v) : a.eval x = v := by
  cases x with
  | tmp t => simp only [Sl.ev] at hv; have := h.slots _ _ hv; simp [Act.eval, Array.getD_eq_getD_getElem?, this]
  | const v => simp only [Sl.ev, Option.some.injEq] at hv; exact hv
  | global g => simp only [Sl.ev, Option.some.injEq] at hv; exact hv
  | func f => simp only [Sl.ev, Option.some.injEq] at hv; exact hv
theorem At.put {n : Nat} {w0 : World} {env : Env} {L L' : List SP} {a : Act} {w w' : World} (h : At n w0 env L a w) {d : Nat} {v : Value}
    (hd : d < n) (hh : Hd w' L') (hk : Keep w w') : At n w0 ((d, v) :: env) L' (a.put (some d) v) w' where
  defers := h.defers
  size := by simp [Act.put, h.size]
  slots := by
    intro e u hu
    simp only [look_cons] at hu
    by_cases c : d = e
    · subst c; simp at hu; subst hu; simp [Act.put, h.size, hd]
    · rw [if_neg c] at hu; have := h.slots _ _ hu; simp [Act.put, c, this]
  heap := hh
  keep := h.keep.trans hk
theorem At.puts {n : Nat} {w0 : World} {env : Env} {L L' : List SP} {a : Act} {w w' : World} (h : At n w0 env L a w) {v : Value}
    (hh : Hd w' L') (hk : Keep w w') : At n w0 env L' (a.put none v) w' where
  defers := h.defers
  size := h.size
  slots := h.slots
  heap := hh
  keep := h.keep.trans hk

end Go.Sl
set_option linter.unusedVariables false
namespace Go.Sl
set_option linter.unusedSimpArgs false
set_option linter.unnecessarySimpa false
open Go
section
variable {P : Program} {n : Nat} {w0 : World} {Q : Exit → Act → World → Prop} {env : Env} {L : List SP} {ops : Array Oper} {rest : List Oper}

theorem T.mono {X Y : Act → World → Prop} (hi : ∀ a w, X a w → Y a w) (h : T n w0 X env L) : T n w0 Y env L := fun a w H => hi a w (h a w H)
theorem T_perm {X : Act → World → Prop} {L' : List SP} (hp : L.Perm L') (h : T n w0 X env L') : T n w0 X env L :=
  fun a w H => h a w ⟨H.defers, H.size, H.slots, H.heap.perm hp, H.keep⟩
theorem T_drop {X : Act → World → Prop} {A : SP} (h : T n w0 X env L) : T n w0 X env (A :: L) :=
  fun a w H => h a w ⟨H.defers, H.size, H.slots, H.heap.drop, H.keep⟩
theorem T_imp {X : Act → World → Prop} {A B : SP} (hi : ∀ h, A h → B h) (h : T n w0 X env (B :: L)) : T n w0 X env (A :: L) :=
  fun a w H => h a w ⟨H.defers, H.size, H.slots, H.heap.imp hi, H.keep⟩
theorem T_ex {α : Type} {X : Act → World → Prop} {A : α → SP} (h : ∀ x, T n w0 X env (A x :: L)) : T n w0 X env (sEx A :: L) := by
  intro a w H; obtain ⟨x, hx⟩ := H.heap.ex; exact h x a w ⟨H.defers, H.size, H.slots, hx, H.keep⟩
theorem T_pure {X : Act → World → Prop} {p : Prop} (h : p → T n w0 X env L) : T n w0 X env (sPure p :: L) := by
  intro a w H; obtain ⟨hp, hx⟩ := H.heap.pure; exact h hp a w ⟨H.defers, H.size, H.slots, hx, H.keep⟩
theorem T_unsl {X : Act → World → Prop} {M : List SP} (h : T n w0 X env (M ++ L)) : T n w0 X env (sl M :: L) :=
  fun a w H => h a w ⟨H.defers, H.size, H.slots, H.heap.unsl, H.keep⟩
theorem T_hd {X : Act → World → Prop} {L' : List SP} (hi : ∀ w, Hd w L → Hd w L') (h : T n w0 X env L') : T n w0 X env L :=
  fun a w H => h a w ⟨H.defers, H.size, H.slots, hi w H.heap, H.keep⟩
/-- A fact that memory bears. -/
theorem T_know {X : Act → World → Prop} {p : Prop} (hi : ∀ w, Hd w L → p) (h : p → T n w0 X env L) : T n w0 X env L :=
  fun a w H => h (hi w H.heap) a w H

theorem T_seq {x y : Code} (h : T n w0 (x.wp P (Exit.then (y.wp P Q) Q)) env L) : T n w0 ((Code.seq x y).wp P Q) env L :=
  fun a w H => wp_seq (h a w H)
theorem T_skip (h : T n w0 (Q .normal) env L) : T n w0 (Code.skip.wp P Q) env L := fun a w H => wp_skip (h a w H)
theorem T_label {l : Nat} (h : T n w0 (Q .normal) env L) : T n w0 ((Code.label l).wp P Q) env L := fun a w H => wp_label (h a w H)
theorem T_exit {i : Nat} (h : T n w0 (Q (.exit i)) env L) : T n w0 ((Code.exit i).wp P Q) env L := fun a w H => wp_exit (h a w H)
theorem T_goto {l : Nat} (h : T n w0 (Q (.goto l)) env L) : T n w0 ((Code.goto l).wp P Q) env L := fun a w H => wp_goto (h a w H)
theorem T_ret (h : T n w0 (Q .ret) env L) : T n w0 (Code.ret.wp P Q) env L := fun a w H => wp_ret (h a w H)
theorem T_block {i : Nat} {c : Code} (h : T n w0 (c.wp P (Exit.inBlock i Q)) env L) : T n w0 ((Code.block i c).wp P Q) env L :=
  fun a w H => wp_block (h a w H)
theorem T_cond {c : Operand} {x y : Code} {b : Bool} (hc : ev env c = some (.bool b)) (ht : b = true → T n w0 (x.wp P Q) env L)
    (hf : b = false → T n w0 (y.wp P Q) env L) : T n w0 ((Code.cond c x y).wp P Q) env L :=
  fun a w H => wp_cond_split (H.ev hc) (fun h => ht h a w H) (fun h => hf h a w H)
theorem T_condT {c : Operand} {x y : Code} (hc : ev env c = some (.bool true)) (ht : T n w0 (x.wp P Q) env L) : T n w0 ((Code.cond c x y).wp P Q) env L :=
  T_cond hc (fun _ => ht) (fun h => by cases h)
theorem T_condF {c : Operand} {x y : Code} (hc : ev env c = some (.bool false)) (hf : T n w0 (y.wp P Q) env L) : T n w0 ((Code.cond c x y).wp P Q) env L :=
  T_cond hc (fun h => by cases h) (fun _ => hf)
theorem T_region {i : Nat} {l : List Oper} (h : T n w0 (wpList P l.toArray Q l) env L) : T n w0 ((Code.region i l.toArray false).wp P Q) env L :=
  fun a w H => wp_region_lit (h a w H)
theorem T_nil (h : T n w0 (Q .normal) env L) : T n w0 (wpList P ops Q []) env L := fun a w H => wpList_nil (h a w H)
theorem T_thenN {N : Act → World → Prop} (h : T n w0 N env L) : T n w0 (Exit.then N Q .normal) env L := h
theorem T_thenE {N : Act → World → Prop} {i : Nat} (h : T n w0 (Q (.exit i)) env L) : T n w0 (Exit.then N Q (.exit i)) env L := h
theorem T_thenG {N : Act → World → Prop} {i : Nat} (h : T n w0 (Q (.goto i)) env L) : T n w0 (Exit.then N Q (.goto i)) env L := h
theorem T_thenR {N : Act → World → Prop} (h : T n w0 (Q .ret) env L) : T n w0 (Exit.then N Q .ret) env L := h
theorem T_inN {i : Nat} (h : T n w0 (Q .normal) env L) : T n w0 (Exit.inBlock i Q .normal) env L := h
theorem T_inR {i : Nat} (h : T n w0 (Q .ret) env L) : T n w0 (Exit.inBlock i Q .ret) env L := h
theorem T_inG {i l : Nat} (h : T n w0 (Q (.goto l)) env L) : T n w0 (Exit.inBlock i Q (.goto l)) env L := h
theorem T_inE {i : Nat} (h : T n w0 (Q .normal) env L) : T n w0 (Exit.inBlock i Q (.exit i)) env L := by
  intro a w H; simp only [Exit.inBlock, if_true]; exact h a w H
theorem T_inE' {i j : Nat} (hne : Nat.beq j i = false) (h : T n w0 (Q (.exit j)) env L) : T n w0 (Exit.inBlock i Q (.exit j)) env L := by
  have hne : j ≠ i := fun e => by subst e; simp at hne
  intro a w H; simp only [Exit.inBlock, hne, if_false]; exact h a w H

def SubE : Env → Env → Prop
  | [], _ => True
  | (d, v) :: r, env => look env d = some v ∧ SubE r env
theorem SubE.slots {E env : Env} (h : SubE E env) : ∀ d v, look E d = some v → look env d = some v := by
  induction E with
  | nil => intro d v h; cases h
  | cons p E ih =>
    obtain ⟨d0, v0⟩ := p
    intro d v hd
    simp only [look_cons] at hd
    by_cases c : d0 = d
    · subst c; simp at hd; subst hd; exact h.1
    · rw [if_neg c] at hd; exact ih h.2 d v hd
theorem T_sub {X : Act → World → Prop} {E : Env} (hs : SubE E env) (h : T n w0 X E L) : T n w0 X env L :=
  fun a w H => h a w ⟨H.defers, H.size, fun d v hd => H.slots d v (hs.slots d v hd), H.heap, H.keep⟩
/-- The invariant of a loop: letters of a kind, what slots and memory hold by them, what is known of them. -/
def Inv {ι : Type} (n : Nat) (w0 : World) (R : ι → Prop) (E : ι → Env) (H : ι → List SP) (a : Act) (w : World) : Prop :=
  ∃ x, R x ∧ At n w0 (E x) (H x) a w
theorem T_inv {ι : Type} {R : ι → Prop} {E : ι → Env} {H : ι → List SP} (x : ι) (hR : R x) (hE : SubE (E x) env) (hH : ∃ G, L.Perm (H x ++ G)) :
    T n w0 (Inv n w0 R E H) env L := by
  obtain ⟨G, hH⟩ := hH
  exact fun a w A => ⟨x, hR, A.defers, A.size, fun d v hd => A.slots d v (hE.slots d v hd), (A.heap.perm hH).append_left, A.keep⟩
theorem perm_drop {A : SP} {M N : List SP} (k : ∃ G, M.Perm (N ++ G)) : ∃ G, (A :: M).Perm (N ++ G) := by
  obtain ⟨G, k⟩ := k
  exact ⟨A :: G, (k.cons A).trans List.perm_middle.symm⟩
theorem perm_rest {L : List SP} : ∃ G, L.Perm (L ++ G) := ⟨[], by simp⟩
theorem perm_none {L : List SP} : ∃ G, L.Perm ([] ++ G) := ⟨L, by simp⟩
theorem T_loop {ι : Type} (R : ι → Prop) (E : ι → Env) (H : ι → List SP) (μ : ι → Nat) {c : Code}
    (h0 : T n w0 (Inv n w0 R E H) env L)
    (hr : ∀ x, R x → T n w0 (c.wp P (Exit.then (Inv n w0 (fun y => R y ∧ μ y < μ x) E H) Q)) (E x) (H x)) : T n w0 ((Code.loop c).wp P Q) env L := by
  intro a w A
  -- the invariant with the measure as a letter: by induction on the measure
  have key : ∀ m : Nat, ∀ a w, (∃ x, R x ∧ μ x = m ∧ At n w0 (E x) (H x) a w) → ∀ (b : Frame) (k : List Item) (cs : List Frame),
      ∃ e a' w', Q e a' w' ∧ Arrives P (lone (b.at a (.code c :: .inLoop c :: k)) cs w) b k cs e a' w' := by
    intro m
    induction m using Nat.strongRecOn with
    | _ m ih =>
      rintro a w ⟨x, hx, rfl, hat⟩ b k cs
      obtain ⟨e, a₁, w₁, hq, harr⟩ := hr x hx a w hat b (.inLoop c :: k) cs
      cases e with
      | normal =>
        obtain ⟨y, ⟨hy, hlt⟩, haty⟩ := hq
        obtain ⟨e₂, a₂, w₂, hq₂, harr₂⟩ := ih (μ y) hlt a₁ w₁ ⟨y, hy, rfl, haty⟩ b k cs
        exact ⟨e₂, a₂, w₂, hq₂, .of_steps (Steps.trans harr (.one step_inLoop)) harr₂⟩
      | exit id => exact ⟨_, a₁, w₁, hq, .pass (x := .inLoop c) rfl (fun _ _ => .inl (by simp)) harr⟩
      | goto l => exact ⟨_, a₁, w₁, hq, .pass (x := .inLoop c) rfl (fun _ _ => .inl (by simp)) harr⟩
      | ret => exact ⟨_, a₁, w₁, hq, .pass (x := .inLoop c) rfl (fun _ _ => .inl (by simp)) harr⟩
      | panic ch => exact ⟨_, a₁, w₁, hq, .pass (x := .inLoop c) rfl (fun _ _ => .inl (by simp)) harr⟩
      | outgrown => exact ⟨_, a₁, w₁, hq, .pass (x := .inLoop c) rfl (fun _ _ => .inl (by simp)) harr⟩
  obtain ⟨x, hx, hat⟩ := h0 a w A
  intro b k cs
  obtain ⟨e, a', w', hq, harr⟩ := key (μ x) a w ⟨x, hx, rfl, hat⟩ b k cs
  exact ⟨e, a', w', hq, .of_steps (.one step_loop) harr⟩
/-- Where ways meet again: one statement for what stands behind. -/
theorem T_cut {ι : Type} (R : ι → Prop) (E : ι → Env) (H : ι → List SP) {c : Code} {N : Act → World → Prop}
    (h1 : T n w0 (c.wp P (Exit.then (Inv n w0 R E H) Q)) env L) (h2 : ∀ x, R x → T n w0 N (E x) (H x)) :
    T n w0 (c.wp P (Exit.then N Q)) env L :=
  fun a w A => wp_mono (h1 a w A) fun e a' w' hq => by
    cases e <;> first
      | exact hq
      | (obtain ⟨x, hx, hat⟩ := hq; exact h2 x hx a' w' hat)

/-- One operation, without a guard, that goes through. -/
def opO (P : Program) (o : Oper) (K : Act → World → Prop) (a : Act) (w : World) : Prop :=
  (∃ v w', (execOp a.eval o).run P w = .ok (.value v) w' ∧ K (a.put o.dst v) w') ∨
  (∃ w', (execOp a.eval o).run P w = .ok .skip w' ∧ K (a.put o.dst undef) w') ∨
  (∃ f args w', (execOp a.eval o).run P w = .ok (.enter f args) w' ∧ Calls P f args w' fun e w'' => ∃ v, e = .returned v ∧ K (a.put o.dst v) w'')
theorem opO.mono {o : Oper} {K K' : Act → World → Prop} {a : Act} {w : World} (hk : ∀ a w, K a w → K' a w) (h : opO P o K a w) : opO P o K' a w := by
  rcases h with ⟨v, w', h1, h2⟩ | ⟨w', h1, h2⟩ | ⟨f, args, w', h1, h2⟩
  · exact .inl ⟨v, w', h1, hk _ _ h2⟩
  · exact .inr (.inl ⟨w', h1, hk _ _ h2⟩)
  · exact .inr (.inr ⟨f, args, w', h1, h2.mono fun e w'' ⟨v, he, hv⟩ => ⟨v, he, hk _ _ hv⟩⟩)
theorem opO.wp {o : Oper} {K : Act → World → Prop} {a : Act} {w : World} (h : opO P o K a w) : o.wp P a w K Q := by
  rcases h with ⟨v, w', h1, h2⟩ | ⟨w', h1, h2⟩ | ⟨f, args, w', h1, h2⟩
  · simp only [Oper.wp, h1, Oper.upon]; exact h2
  · simp only [Oper.wp, h1, Oper.upon]; exact h2
  · simp only [Oper.wp, h1, Oper.upon]
    refine h2.mono ?_
    rintro e w'' ⟨v, rfl, hv⟩
    exact hv
theorem T_list {d : Option Nat} {op : Op} {ty : TypeId} {pos : String} {after : Array Edge}
    (h : T n w0 (opO P ⟨d, op, ty, pos, after, none⟩ (wpList P ops Q rest)) env L) : T n w0 (wpList P ops Q (⟨d, op, ty, pos, after, none⟩ :: rest)) env L := by
  intro a w A
  unfold wpList
  rw [if_pos (by simp [Region.wanted])]
  exact .inl (h a w A).wp
/-- A guarded operation. -/
theorem T_guard {d : Option Nat} {op : Op} {ty : TypeId} {pos : String} {after : Array Edge} {j dj : Nat} {want b : Bool}
    (hj : (ops[j]?).bind (·.dst) = some dj) (hb : look env dj = some (.bool b))
    (hd : (match d with | some d => Nat.blt d n | none => true) = true)
    (hy : b = want → T n w0 (wpList P ops Q (⟨d, op, ty, pos, after, none⟩ :: rest)) env L)
    (hn : b = !want → T n w0 (wpList P ops Q rest) (match d with | some d => (d, undef) :: env | none => env) L) :
    T n w0 (wpList P ops Q (⟨d, op, ty, pos, after, some (j, want)⟩ :: rest)) env L := by
  intro a w A
  have hyl : yielded ops a.tmps j = some b := by
    simp only [yielded, hj, Option.bind_some]
    rw [A.slots _ _ hb]
  unfold wpList
  by_cases c : b = want
  · have := hy c a w A
    unfold wpList at this
    rw [if_pos (by simp [Region.wanted])] at this
    rw [if_pos (by simp [Region.wanted, hyl, c])]
    exact this
  · rw [if_neg (by simp [Region.wanted, hyl, c])]
    have := hn (by cases b <;> cases want <;> simp_all)
    cases d with
    | none => exact this _ _ (A.puts A.heap (.refl _))
    | some d => exact this _ _ (A.put (by simpa [Nat.blt_eq] using hd) A.heap (.refl _))

/-- An operation that gives a value and leaves memory as it is. -/
def Still (P : Program) (n : Nat) (w0 : World) (env : Env) (L : List SP) (o : Oper) (v : Value) : Prop :=
  ∀ a w, At n w0 env L a w → (execOp a.eval o).run P w = .ok (.value v) w
theorem T_still {K : Act → World → Prop} {d : Nat} {op : Op} {ty : TypeId} {pos : String} {after : Array Edge} {g : Option (Nat × Bool)} {v : Value} (hd : Nat.blt d n = true)
    (hr : Still P n w0 env L ⟨some d, op, ty, pos, after, g⟩ v) (h : T n w0 K ((d, v) :: env) L) : T n w0 (opO P ⟨some d, op, ty, pos, after, g⟩ K) env L :=
  fun a w A => .inl ⟨v, w, hr a w A, h _ _ (A.put (by simpa [Nat.blt_eq] using hd) A.heap (.refl _))⟩
/-- An operation that gives a value, and turns memory. -/
def Eff (P : Program) (n : Nat) (w0 : World) (env : Env) (L : List SP) (o : Oper) (R : Value → List SP → Prop) : Prop :=
  ∀ a w, At n w0 env L a w → ∃ v L' w', (execOp a.eval o).run P w = .ok (.value v) w' ∧ R v L' ∧ Hd w' L' ∧ Keep w w'
theorem T_eff {K : Act → World → Prop} {d : Nat} {op : Op} {ty : TypeId} {pos : String} {after : Array Edge} {g : Option (Nat × Bool)} {R : Value → List SP → Prop} (hd : Nat.blt d n = true)
    (hr : Eff P n w0 env L ⟨some d, op, ty, pos, after, g⟩ R) (h : ∀ v L', R v L' → T n w0 K ((d, v) :: env) L') : T n w0 (opO P ⟨some d, op, ty, pos, after, g⟩ K) env L :=
  fun a w A => by
    obtain ⟨v, L', w', hrun, hR, hH, hK⟩ := hr a w A
    exact .inl ⟨v, w', hrun, h v L' hR _ _ (A.put (by simpa [Nat.blt_eq] using hd) hH hK)⟩
/-- As an expression's statement: the value goes nowhere. -/
theorem T_effN {K : Act → World → Prop} {op : Op} {ty : TypeId} {pos : String} {after : Array Edge} {g : Option (Nat × Bool)} {R : Value → List SP → Prop}
    (hr : Eff P n w0 env L ⟨none, op, ty, pos, after, g⟩ R) (h : ∀ v L', R v L' → T n w0 K env L') : T n w0 (opO P ⟨none, op, ty, pos, after, g⟩ K) env L :=
  fun a w A => by
    obtain ⟨v, L', w', hrun, hR, hH, hK⟩ := hr a w A
    exact .inl ⟨v, w', hrun, h v L' hR _ _ (A.puts hH hK)⟩
/-- An operation without a value that turns memory. -/
def Sto (P : Program) (n : Nat) (w0 : World) (env : Env) (L : List SP) (o : Oper) (L' : List SP) : Prop :=
  ∀ a w, At n w0 env L a w → ∃ w', (execOp a.eval o).run P w = .ok .skip w' ∧ Hd w' L' ∧ Keep w w'
theorem T_sto {K : Act → World → Prop} {op : Op} {ty : TypeId} {pos : String} {after : Array Edge} {g : Option (Nat × Bool)} {L' : List SP}
    (hr : Sto P n w0 env L ⟨none, op, ty, pos, after, g⟩ L') (h : T n w0 K env L') : T n w0 (opO P ⟨none, op, ty, pos, after, g⟩ K) env L :=
  fun a w A => by
    obtain ⟨w', hrun, hH, hK⟩ := hr a w A
    exact .inr (.inl ⟨w', hrun, h _ _ (A.puts hH hK)⟩)

def opE (P : Program) (ops : Array Oper) (i : Nat) (K : Act → World → Prop) (a : Act) (w : World) : Prop :=
  match ops[i]? with
  | none => False
  | some o => if Region.wanted o (yielded ops a.tmps) then opO P o K a w else K (a.put o.dst undef) w
theorem opE.mono {i : Nat} {K K' : Act → World → Prop} {a : Act} {w : World} (hk : ∀ a w, K a w → K' a w) (h : opE P ops i K a w) : opE P ops i K' a w := by
  unfold opE at *
  split at h
  · exact h
  · split at h
    · rename_i hw; rw [if_pos hw]; exact opO.mono hk h
    · rename_i hw; rw [if_neg hw]; exact hk _ _ h
theorem opE.wpOp {i : Nat} {K : Act → World → Prop} {a : Act} {w : World} (h : opE P ops i K a w) : wpOp P ops Q i K a w := by
  unfold opE at h
  unfold Go.wpOp
  split at h
  · exact h.elim
  · rename_i o ho
    simp only [ho]
    split at h
    · rename_i hw; rw [if_pos hw]; exact .inl (opO.wp h)
    · rename_i hw; rw [if_neg hw]; exact h
def anyC (P : Program) (ops : Array Oper) (C : World → Prop) (S : List Nat) (N : Act → World → Prop) : Nat → Array Bool → Act → World → Prop
  | 0, listed, a, w => Region.ready .any ops listed = [] ∧ N a w
  | fuel + 1, listed, a, w => (Region.ready .any ops listed = [] → N a w) ∧
    ∀ i ∈ Region.ready .any ops listed, opE P ops i (fun a' w' => (S.contains i = true ∨ C w') ∧ anyC P ops C S N fuel (listed.setIfInBounds i true) a' w') a w
theorem wpAny_of_anyC {C : World → Prop} {S : List Nat} : ∀ (fuel : Nat) (listed : Array Bool) (a : Act) (w : World), anyC P ops C S (Q .normal) fuel listed a w → wpAny P .any ops Q fuel listed a w := by
  intro fuel
  induction fuel with
  | zero => intro listed a w h; exact h
  | succ fuel ih =>
    intro listed a w h
    exact ⟨h.1, fun i hi => opE.wpOp ((h.2 i hi).mono fun a' w' hh => ih _ _ _ hh.2)⟩
/-- In every world of the class the operation gives this value, and turns nothing. -/
def YieldsC (P : Program) (ops : Array Oper) (C : World → Prop) (o : Oper) (v : Value) (a : Act) : Prop :=
  (Region.wanted o (yielded ops a.tmps) = true ∧ ∀ w, C w → (execOp a.eval o).run P w = .ok (.value v) w) ∨ (Region.wanted o (yielded ops a.tmps) = false ∧ v = undef)
theorem YieldsC.opE {C : World → Prop} {i : Nat} {o : Oper} {v : Value} {a : Act} {w : World} (hi : ops[i]? = some o) (hy : YieldsC P ops C o v a) (hC : C w)
    {K : Act → World → Prop} (h : K (a.put o.dst v) w) : opE P ops i K a w := by
  unfold Sl.opE
  simp only [hi]
  rcases hy with ⟨hw, hr⟩ | ⟨hw, rfl⟩
  · rw [if_pos hw]; exact .inl ⟨v, w, hr w hC, h⟩
  · rw [if_neg (by simp [hw])]; exact h
theorem opE_put {C : World → Prop} {j : Nat} {oi oj : Oper} {v : Value} (hj : ops[j]? = some oj) (hap : oi.apart ops oj = true)
    (hsi : ∀ cs b, oi.op ≠ .select cs b) (hsj : ∀ cs b, oj.op ≠ .select cs b) {K : Act → World → Prop} {a : Act} {w : World}
    (hy : YieldsC P ops C oi v a) (h : opE P ops j K (a.put oi.dst v) w) :
    opE P ops j (fun a' w' => YieldsC P ops C oi v a' ∧ K (a'.put oi.dst v) w') a w := by
  obtain ⟨h1, h2, h3⟩ := Oper.apart_spec hap
  have keep : ∀ u, YieldsC P ops C oi v (a.put oj.dst u) := fun u => by
    unfold YieldsC at *
    rw [wanted_put oi a oj.dst u h3, execOp_put oi hsi a oj.dst u h3]
    exact hy
  unfold opE at *
  simp only [hj] at *
  rw [wanted_put oj a oi.dst v h1] at h
  split
  · rename_i hw
    rw [if_pos hw] at h
    unfold opO at *
    rw [execOp_put oj hsj a oi.dst v h1] at h
    rcases h with ⟨u, w', hr, hk⟩ | ⟨w', hr, hk⟩ | ⟨f, args, w', hr, hk⟩
    · exact .inl ⟨u, w', hr, keep u, by rw [← Act.put_comm a v u h2]; exact hk⟩
    · exact .inr (.inl ⟨w', hr, keep undef, by rw [← Act.put_comm a v undef h2]; exact hk⟩)
    · refine .inr (.inr ⟨f, args, w', hr, hk.mono ?_⟩)
      rintro e w'' ⟨u, rfl, hu⟩
      exact ⟨u, rfl, keep u, by rw [← Act.put_comm a v u h2]; exact hu⟩
  · rename_i hw
    rw [if_neg hw] at h
    exact ⟨keep _, by rw [← Act.put_comm a v undef h2]; exact h⟩
theorem ready_waits {i j : Nat} {listed : Array Bool} (hr : i ∈ Region.ready .any ops listed) (hj : j ∈ Region.ready .any ops listed) :
    ∀ oj, ops[j]? = some oj → ∀ e ∈ oj.after, Region.binds .any e = true → e.on ≠ i := by
  intro oj hoj e he hb heq
  obtain ⟨_, oj', hoj', hall⟩ := mem_ready.1 hj
  rw [hoj] at hoj'; cases hoj'
  have h1 := hall e he hb
  have h0 := (mem_ready.1 hr).1
  rw [heq] at h1
  rcases Nat.lt_or_ge i listed.size with h' | h'
  · simp [h'] at h0 h1; rw [h0] at h1; cases h1
  · simp [Array.getElem?_eq_none h'] at h1
theorem anyC_first {C : World → Prop} {S : List Nat} {N : Act → World → Prop} {i : Nat} {oi : Oper} {v : Value} (hi : ops[i]? = some oi)
    (hsel : ∀ (j : Nat) (o : Oper) cs b, ops[j]? = some o → o.op ≠ .select cs b) (hS : S.all (fun j => Region.waitsFor .any ops j i) = true) :
    ∀ (fuel : Nat) (listed : Array Bool) (a : Act) (w : World),
      (∀ j oj, ops[j]? = some oj → j ≠ i → listed.getD j true = false → (∀ e ∈ oj.after, Region.binds .any e = true → e.on ≠ i) → oi.apart ops oj = true) →
      i ∈ Region.ready .any ops listed → YieldsC P ops C oi v a → C w →
      anyC P ops C S N fuel (listed.setIfInBounds i true) (a.put oi.dst v) w → (∀ w, C w → S.contains i = true ∨ C w) → anyC P ops C S N (fuel + 1) listed a w := by
  intro fuel
  induction fuel with
  | zero =>
    intro listed a w _ hr hy hC H hcc
    refine ⟨fun h => (by rw [h] at hr; cases hr), fun j hj => ?_⟩
    by_cases hji : j = i
    · subst hji; exact hy.opE hi hC ⟨hcc _ hC, H⟩
    · have := ready_mono hj hji
      rw [H.1] at this
      cases this
  | succ fuel ih =>
    intro listed a w hfree hr hy hC H hcc
    refine ⟨fun h => (by rw [h] at hr; cases hr), fun j hj => ?_⟩
    by_cases hji : j = i
    · subst hji; exact hy.opE hi hC ⟨hcc _ hC, H⟩
    · have h1 := H.2 j (ready_mono hj hji)
      obtain ⟨hjun, oj, hoj, hall⟩ := mem_ready.1 hj
      have hnot := ready_waits hr hj oj hoj
      have hjS : S.contains j = false := by
        cases hc : S.contains j with
        | false => rfl
        | true =>
          have hm : j ∈ S := by simpa using hc
          have := (List.all_eq_true.1 hS) j hm
          obtain ⟨oj', hoj', e, he, hb, hon⟩ := Region.waitsFor_spec this
          rw [hoj] at hoj'; cases hoj'
          exact absurd hon (hnot e he hb)
      have h2 := opE_put hoj (hfree j oj hoj hji hjun hnot) (fun cs b => hsel i oi cs b hi) (fun cs b => hsel j oj cs b hoj) hy h1
      have hfree' : ∀ k ok, ops[k]? = some ok → k ≠ i → (listed.setIfInBounds j true).getD k true = false →
          (∀ e ∈ ok.after, Region.binds .any e = true → e.on ≠ i) → oi.apart ops ok = true := fun k ok hk hki hun hno => by
        refine hfree k ok hk hki ?_ hno
        by_cases hjk : j = k
        · subst hjk; exact hjun
        · rw [getD_set_ne true hjk] at hun; exact hun
      refine opE.mono (fun a' w' h3 => ?_) h2
      obtain ⟨hy', hCS, hany⟩ := h3
      have hC' : C w' := by rcases hCS with h | h; (rw [hjS] at h; cases h); exact h
      refine ⟨.inr hC', ih (listed.setIfInBounds j true) a' w' hfree' (ready_mono hr (Ne.symm hji)) hy' hC' ?_ hcc⟩
      rw [Array.setIfInBounds_comm _ _ hji]
      exact hany
/-- The region in one order: each operation with a mark: it may be taken ahead of all others that may come now. -/
def wpSeq (P : Program) (ops : Array Oper) (C : World → Prop) (S : List Nat) (N : Act → World → Prop) : List (Nat × Bool) → Act → World → Prop
  | [], a, w => N a w
  | (i, true) :: r, a, w => ∃ o v, ops[i]? = some o ∧ YieldsC P ops C o v a ∧ C w ∧ wpSeq P ops C S N r (a.put o.dst v) w
  | (i, false) :: r, a, w => opE P ops i (fun a' w' => (S.contains i = true ∨ C w') ∧ wpSeq P ops C S N r a' w') a w
def okSeq (ops : Array Oper) (S : List Nat) : List (Nat × Bool) → Array Bool → Bool
  | [], listed => (Region.ready .any ops listed).isEmpty
  | (i, true) :: r, listed => (Region.ready .any ops listed).contains i && Region.free .any ops listed i && S.all (fun j => Region.waitsFor .any ops j i) && okSeq ops S r (listed.setIfInBounds i true)
  | (i, false) :: r, listed => Region.ready .any ops listed == [i] && okSeq ops S r (listed.setIfInBounds i true)
theorem anyC_of_seq {C : World → Prop} {S : List Nat} {N : Act → World → Prop} (hs : Region.noSelect ops = true) : ∀ (l : List (Nat × Bool)) (listed : Array Bool) (a : Act) (w : World),
    okSeq ops S l listed = true → wpSeq P ops C S N l a w → anyC P ops C S N l.length listed a w
  | [], _, _, _, hB, h => ⟨by simpa [okSeq] using hB, h⟩
  | (i, true) :: r, listed, a, w, hB, h => by
    simp only [okSeq, Bool.and_eq_true] at hB
    obtain ⟨⟨⟨hr, hf⟩, hS⟩, hB'⟩ := hB
    obtain ⟨o, v, ho, hy, hC, hrest⟩ := h
    exact anyC_first ho (Region.noSelect_spec hs) hS r.length listed a w (Region.free_spec ho hf) (by simpa using hr) hy hC (anyC_of_seq hs r _ _ _ hB' hrest) (fun _ h => .inr h)
  | (i, false) :: r, listed, a, w, hB, h => by
    simp only [okSeq, Bool.and_eq_true, beq_iff_eq] at hB
    obtain ⟨hr, hB'⟩ := hB
    refine ⟨fun e => (by rw [e] at hr; cases hr), fun j hj => ?_⟩
    rw [hr] at hj
    obtain rfl : j = i := by simpa using hj
    exact opE.mono (fun a' w' hh => ⟨hh.1, anyC_of_seq hs r _ _ _ hB' hh.2⟩) h
/-- A region that draws its order, by one order. R: what of memory is only read, till no more is taken ahead. -/
theorem T_regionD {i : Nat} {l : List Oper} (R : List SP) (S : List Nat) (ord : List (Nat × Bool)) (hm : P.follows .mixedOrders = true)
    (hlen : ord.length = l.length) (hok : (Region.noSelect l.toArray && okSeq l.toArray S ord (Array.replicate l.length false)) = true)
    (h : T n w0 (wpSeq P l.toArray (fun w => Hd w R ∧ Keep w0 w) S (Q .normal) ord) env L) : T n w0 ((Code.region i l.toArray true).wp P Q) env L := by
  intro a w A
  simp only [Bool.and_eq_true] at hok
  refine wp_region_any hm ?_
  have := wpAny_of_anyC (Q := Q) _ _ _ _ (anyC_of_seq (P := P) (C := fun w => Hd w R ∧ Keep w0 w) (N := Q .normal) hok.1 ord (Array.replicate l.length false) a { w with drawn := w.drawn + 1 } hok.2
    (h _ _ ⟨A.defers, A.size, A.slots, A.heap.of_heap rfl, A.keep.trans ⟨rfl, rfl, rfl⟩⟩))
  rw [hlen] at this
  simpa using this
theorem T_seqNil {C : World → Prop} {S : List Nat} {N : Act → World → Prop} (h : T n w0 N env L) : T n w0 (wpSeq P ops C S N []) env L := h
theorem T_seqStill {R M : List SP} {S : List Nat} {N : Act → World → Prop} {i d : Nat} {op : Op} {ty : TypeId} {pos : String} {after : Array Edge} {r : List (Nat × Bool)} {v : Value}
    (hi : ops[i]? = some ⟨some d, op, ty, pos, after, none⟩) (hd : Nat.blt d n = true) (hL : L.Perm (R ++ M)) (hr : Still P n w0 env R ⟨some d, op, ty, pos, after, none⟩ v)
    (h : T n w0 (wpSeq P ops (fun w => Hd w R ∧ Keep w0 w) S N r) ((d, v) :: env) L) : T n w0 (wpSeq P ops (fun w => Hd w R ∧ Keep w0 w) S N ((i, true) :: r)) env L :=
  fun a w A => ⟨_, v, hi, .inl ⟨by simp [Region.wanted], fun w' hw' => hr a w' ⟨A.defers, A.size, A.slots, hw'.1, hw'.2⟩⟩, ⟨(A.heap.perm hL).append_left, A.keep⟩,
    h _ _ (A.put (by simpa [Nat.blt_eq] using hd) A.heap (.refl _))⟩
theorem T_seqOp {C : World → Prop} {S : List Nat} {N : Act → World → Prop} {i : Nat} {d : Option Nat} {op : Op} {ty : TypeId} {pos : String} {after : Array Edge} {r : List (Nat × Bool)}
    (hi : ops[i]? = some ⟨d, op, ty, pos, after, none⟩)
    (h : T n w0 (opO P ⟨d, op, ty, pos, after, none⟩ (fun a' w' => (S.contains i = true ∨ C w') ∧ wpSeq P ops C S N r a' w')) env L) : T n w0 (wpSeq P ops C S N ((i, false) :: r)) env L := by
  intro a w A
  show opE _ _ _ _ _ _
  unfold opE
  simp only [hi]
  rw [if_pos (by simp [Region.wanted])]
  exact h a w A
theorem T_seqS {C : World → Prop} {S : List Nat} {i : Nat} {X : Act → World → Prop} (hS : S.contains i = true) (h : T n w0 X env L) : T n w0 (fun a' w' => (S.contains i = true ∨ C w') ∧ X a' w') env L :=
  fun a w A => ⟨.inl hS, h a w A⟩
theorem T_seqC {R M : List SP} {S : List Nat} {i : Nat} {X : Act → World → Prop} (hL : L.Perm (R ++ M)) (h : T n w0 X env L) : T n w0 (fun a' w' => (S.contains i = true ∨ (Hd w' R ∧ Keep w0 w')) ∧ X a' w') env L :=
  fun a w A => ⟨.inr ⟨(A.heap.perm hL).append_left, A.keep⟩, h a w A⟩
/-- A guarded operation in such a region. -/
theorem T_seqGuard {R M : List SP} {S : List Nat} {N : Act → World → Prop} {i : Nat} {d : Option Nat} {op : Op} {ty : TypeId} {pos : String} {after : Array Edge} {j dj : Nat} {want b : Bool} {r : List (Nat × Bool)}
    (hi : ops[i]? = some ⟨d, op, ty, pos, after, some (j, want)⟩) (hj : (ops[j]?).bind (·.dst) = some dj) (hb : look env dj = some (.bool b))
    (hd : (match d with | some d => Nat.blt d n | none => true) = true) (hL : L.Perm (R ++ M))
    (hy : b = want → T n w0 (opO P ⟨d, op, ty, pos, after, some (j, want)⟩ (fun a' w' => (S.contains i = true ∨ (Hd w' R ∧ Keep w0 w')) ∧ wpSeq P ops (fun w => Hd w R ∧ Keep w0 w) S N r a' w')) env L)
    (hn : b = !want → T n w0 (wpSeq P ops (fun w => Hd w R ∧ Keep w0 w) S N r) (match d with | some d => (d, undef) :: env | none => env) L) :
    T n w0 (wpSeq P ops (fun w => Hd w R ∧ Keep w0 w) S N ((i, false) :: r)) env L := by
  intro a w A
  have hyl : yielded ops a.tmps j = some b := by
    simp only [yielded, hj, Option.bind_some]
    rw [A.slots _ _ hb]
  show opE _ _ _ _ _ _
  unfold opE
  simp only [hi]
  by_cases c : b = want
  · rw [if_pos (by simp [Region.wanted, hyl, c])]
    exact hy c a w A
  · rw [if_neg (by simp [Region.wanted, hyl, c])]
    refine ⟨.inr ⟨(A.heap.perm hL).append_left, A.keep⟩, ?_⟩
    have := hn (by cases b <;> cases want <;> simp_all)
    cases d with
    | none => exact this _ _ (A.puts A.heap (.refl _))
    | some d => exact this _ _ (A.put (by simpa [Nat.blt_eq] using hd) A.heap (.refl _))
end
end Go.Sl
set_option linter.unusedVariables false
set_option linter.unusedSimpArgs false
namespace Go.Sl
set_option linter.unnecessarySimpa false
open Go

class CellTy (P : Program) (t : TypeId) : Prop where
  agg : ∀ w, (isAgg t).run P w = .ok false w
  size : ∀ w, (sizeOf t).run P w = .ok 1 w
class AggTy (P : Program) (t : TypeId) (k : outParam Nat) : Prop where
  agg : ∀ w, (isAgg t).run P w = .ok true w
  size : ∀ w, (sizeOf t).run P w = .ok k w
class SizeTy (P : Program) (t : TypeId) (k : outParam Nat) : Prop where
  size : ∀ w, (sizeOf t).run P w = .ok k w
/-- The cells of the zero value. -/
class ZeroTy (P : Program) (t : TypeId) (zs : outParam (List Value)) : Prop where
  zero : ∃ z, (∀ w, (zeroValue t).run P w = .ok z w) ∧ z.cells = zs.toArray
class UndTy (P : Program) (t : TypeId) (d : outParam TypeDesc) : Prop where
  und : P.underlying t = some d
/-- Field f of struct type s: its offset and its type. -/
class FieldTy (P : Program) (s : TypeId) (f : Nat) (off : outParam Nat) (ft : outParam TypeId) : Prop where
  field : ∃ fs fd, P.underlying s = some (.struct fs) ∧ fs[f]? = some fd ∧ fd.offset = off ∧ fd.type = ft
  pos : ∃ k, 0 < k ∧ ∀ w, (sizeOf ft).run P w = .ok k w
/-- A slice type: its element's type, its cells, its bytes. -/
class SliceTy (P : Program) (t : TypeId) (e : outParam TypeId) (k : outParam Nat) (bytes : outParam Nat) : Prop where
  und : P.underlying t = some (.slice e)
  info : ∃ i z, P.info? e = some i ∧ i.size = k ∧ i.bytes = bytes ∧ i.zero = some z ∧ z.cells.size = k
  pos : 0 < k
class ArrTy (P : Program) (t : TypeId) (len : outParam Nat) (e : outParam TypeId) (k : outParam Nat) : Prop where
  und : P.underlying t = some (.array len e)
  size : ∀ w, (sizeOf e).run P w = .ok k w
  two : 2 ≤ len
class MapTy (P : Program) (t : TypeId) (e : outParam TypeId) (zs : outParam (List Value)) : Prop where
  und : ∃ kt, P.underlying t = some (.map kt e) ∧ P.underlying kt = some (.int .i64)
  zero : ∃ z, (∀ w, (zeroValue e).run P w = .ok z w) ∧ z.cells = zs.toArray

theorem run_und {P : Program} {t : TypeId} {d : TypeDesc} (h : P.underlying t = some d) (w : World) : (underlying t).run P w = .ok d w := by
  simp [underlying, h]

/-- A block of cells, each of which may be written. -/
def row (b : Nat) (t : TypeId) (cs : List Value) : SP := sEx fun fz : Nat × Nat => fun h => (fz = (0, 0) ∨ cs.length ≤ fz.1) ∧ pts b (.cells cs.toArray t fz) h
/-- One of the assertions, and the others. -/
def Pick (A : SP) (L M : List SP) : Prop := L.Perm (A :: M)
theorem Pick.here {A : SP} {L : List SP} : Pick A (A :: L) L := List.Perm.refl _
theorem Pick.there {A B : SP} {L M : List SP} (h : Pick A L M) : Pick A (B :: L) (B :: M) := (h.cons B).trans (.swap A B M)
theorem Pick.back {A : SP} {L M : List SP} (h : Pick A L M) {w : World} (H : Hd w L) : Hd w (A :: M) := H.perm h
/-- Some of them, and the others. -/
def Take (Pre L M : List SP) : Prop := L.Perm (Pre ++ M)
theorem Take.nil {L : List SP} : Take [] L L := List.Perm.refl _
theorem Take.cons {A : SP} {Pre L M N : List SP} (h : Pick A L M) (k : Take Pre M N) : Take (A :: Pre) L N := List.Perm.trans h (List.Perm.cons A k)
theorem Take.all {L : List SP} {M : List SP} (h : L = M) : Take L M [] := by subst h; unfold Take; simp

/-- A permutation of assertions, by taking one after the other; what is left may go. -/
theorem perm_take {A : SP} {L M N : List SP} (h : Pick A L M) (k : ∃ G, M.Perm (N ++ G)) : ∃ G, L.Perm (A :: N ++ G) := by
  obtain ⟨G, k⟩ := k
  exact ⟨G, List.Perm.trans h (k.cons A)⟩

section
variable {P : Program} {n : Nat} {w0 : World} {Q : Exit → Act → World → Prop} {env : Env} {L M : List SP} {ops : Array Oper} {rest : List Oper}
variable {d : Option Nat} {ty : TypeId} {pos : String} {after : Array Edge} {g : Option (Nat × Bool)}

theorem Hd.openRow {w : World} {b : Nat} {t : TypeId} {cs : List Value} (H : Hd w (row b t cs :: L)) :
    ∃ fz, (fz = (0, 0) ∨ cs.length ≤ fz.1) ∧ Hd w (pts b (.cells cs.toArray t fz) :: L) := by
  obtain ⟨fz, H⟩ := H.ex
  refine ⟨fz, ?_, H.imp fun _ h => h.2⟩
  obtain ⟨h, hw, x, y, hd, rfl, hx, hy⟩ := H
  exact hx.1
theorem Hd.mkRow {w : World} {b : Nat} {t : TypeId} {cs : List Value} {fz : Nat × Nat} (hf : fz = (0, 0) ∨ cs.length ≤ fz.1)
    (H : Hd w (pts b (.cells cs.toArray t fz) :: L)) : Hd w (Sl.row b t cs :: L) := H.imp fun _ h => ⟨fz, hf, h⟩
theorem Hd.cell {w : World} {b : Nat} {t : TypeId} {cs : List Value} (H : Hd w (Sl.row b t cs :: L)) {o : Nat} {v : Value} (hv : cs[o]? = some v) :
    w.cell? ⟨b, o, none⟩ = some v := by
  obtain ⟨fz, hf, H⟩ := H.openRow
  simp only [World.cell?, H.get]; simpa using hv
theorem Hd.free {w : World} {b : Nat} {t : TypeId} {cs : List Value} (H : Hd w (Sl.row b t cs :: L)) {o : Nat} (ho : o < cs.length) : w.frozen? ⟨b, o, none⟩ = false := by
  obtain ⟨fz, hf, H⟩ := H.openRow
  simp only [World.frozen?, H.get]
  rcases hf with rfl | hf
  · simp
  · simp; omega

theorem S_move {x : Operand} {v : Value} (hx : ev env x = some v) : Still P n w0 env L ⟨d, .move x, ty, pos, after, g⟩ v :=
  fun a w A => by simp [execOp, A.ev hx]
theorem S_assign {x : Operand} {v : Value} (hx : ev env x = some v) : Still P n w0 env L ⟨d, .assign x, ty, pos, after, g⟩ v :=
  fun a w A => by simp [execOp, A.ev hx]
theorem S_pickT {c x y : Operand} {v : Value} (hc : ev env c = some (.bool true)) (hx : ev env x = some v) : Still P n w0 env L ⟨d, .pick c x y, ty, pos, after, g⟩ v :=
  fun a w A => by simp [execOp, A.ev hc, A.ev hx, asBool]
theorem S_pickF {c x y : Operand} {v : Value} (hc : ev env c = some (.bool false)) (hy : ev env y = some v) : Still P n w0 env L ⟨d, .pick c x y, ty, pos, after, g⟩ v :=
  fun a w A => by simp [execOp, A.ev hc, A.ev hy, asBool]
theorem S_pick {c x y : Operand} {b b1 b2 : Bool} (hc : ev env c = some (.bool b)) (hx : ev env x = some (.bool b1)) (hy : ev env y = some (.bool b2)) :
    Still P n w0 env L ⟨d, .pick c x y, ty, pos, after, g⟩ (.bool (bif b then b1 else b2)) :=
  fun a w A => by cases b <;> simp [execOp, A.ev hc, A.ev hx, A.ev hy, asBool]
theorem S_nilCheck {x : Operand} {p : Addr} (hx : ev env x = some (.pointer (some p))) : Still P n w0 env L ⟨d, .nilCheck x, ty, pos, after, g⟩ (.pointer (some p)) :=
  fun a w A => by simp [execOp, A.ev hx]
theorem S_nilCheckF {x : Operand} {f : FuncId} {fs cs : Array Value} (hx : ev env x = some (.func (.func f) fs cs)) :
    Still P n w0 env L ⟨d, .nilCheck x, ty, pos, after, g⟩ (.func (.func f) fs cs) :=
  fun a w A => by simp [execOp, A.ev hx]
theorem S_extract {x : Operand} {vs : List Value} {i : Nat} {v : Value} (hx : ev env x = some (.tuple vs.toArray)) (hi : vs[i]? = some v) :
    Still P n w0 env L ⟨d, .extract x i, ty, pos, after, g⟩ v :=
  fun a w A => by simp [execOp, A.ev hx, Instr.extract, hi]
theorem S_not {t : TypeId} {x : Operand} {b : Bool} (hx : ev env x = some (.bool b)) : Still P n w0 env L ⟨d, .unOp .not t x, ty, pos, after, g⟩ (.bool !b) :=
  fun a w A => by simp [execOp, A.ev hx, Op.unary]
theorem S_makeFunc {f : FuncId} {cap : Array Operand} {vs : List Value} (hc : cap.toList.map (ev env) = vs.map some) :
    Still P n w0 env L ⟨d, .makeFunc (.func f) #[] cap, ty, pos, after, g⟩ (.func (.func f) #[] vs.toArray) :=
  fun a w A => by
    have : cap.map a.eval = vs.toArray := by
      apply Array.ext'
      simp only [Array.toList_map]
      apply List.ext_getElem?
      intro i
      have hi := congrArg (fun l => l[i]?) hc
      simp only [List.getElem?_map] at hi ⊢
      cases h1 : cap.toList[i]? with
      | none => rw [h1] at hi; cases h2 : vs[i]? <;> simp_all
      | some x => rw [h1] at hi; cases h2 : vs[i]? with
        | none => simp_all
        | some v => rw [h2] at hi; simp at hi; simp [A.ev hi]
    simp [execOp, Instr.makeFunc, this]

theorem eqGuard_int {op : BinOp} {t : TypeId} {x y : Operand} {k k' : IntKind} {a b : Int} (w : World) : (eqGuard op t x y (.int k a) (.int k' b)).run P w = .ok () w := by
  unfold eqGuard; cases op <;> simp
theorem eqGuard_bool {op : BinOp} {t : TypeId} {x y : Operand} {a b : Bool} (w : World) : (eqGuard op t x y (.bool a) (.bool b)).run P w = .ok () w := by
  unfold eqGuard; cases op <;> simp
theorem eqGuard_string {op : BinOp} {t : TypeId} {x y : Operand} {a b : ByteArray} (w : World) : (eqGuard op t x y (.string a) (.string b)).run P w = .ok () w := by
  unfold eqGuard; cases op <;> simp
theorem eqGuard_pointer {op : BinOp} {t : TypeId} {x y : Operand} {a b : Option Addr} (w : World) : (eqGuard op t x y (.pointer a) (.pointer b)).run P w = .ok () w := by
  unfold eqGuard; cases op <;> simp
theorem eqGuard_slice {op : BinOp} {t : TypeId} {x y : Operand} {a b : Option Addr} {l c l' c' : Nat} (w : World) : (eqGuard op t x y (.slice a l c) (.slice b l' c')).run P w = .ok () w := by
  unfold eqGuard; cases op <;> simp
/-- A pure operation of two values, by its run. -/
theorem S_bin {op : BinOp} {xt yt : TypeId} {x y : Operand} {u v r : Value} (hx : ev env x = some u) (hy : ev env y = some v)
    (hg : ∀ w, (eqGuard op xt x y u v).run P w = .ok () w) (hr : ∀ w, (binOp op xt u v).run P w = .ok r w) :
    Still P n w0 env L ⟨d, .binOp op xt x y yt, ty, pos, after, g⟩ r :=
  fun a w A => by simp [execOp, A.ev hx, A.ev hy, hg, hr]

/-- Arithmetic on integers, as it stands. -/
def arith : BinOp → Int → Int → Option Int
  | .add, a, b => some (a + b)
  | .sub, a, b => some (a - b)
  | .mul, a, b => some (a * b)
  | _, _, _ => none
theorem S_arith {op : BinOp} {xt yt : TypeId} {x y : Operand} {k : IntKind} {a b r : Int} (hx : ev env x = some (.int k a)) (hy : ev env y = some (.int k b))
    (ho : arith op a b = some r) : Still P n w0 env L ⟨d, .binOp op xt x y yt, ty, pos, after, g⟩ (.int k (k.wrap r)) :=
  S_bin hx hy eqGuard_int (fun w => by cases op <;> simp [arith] at ho <;> subst ho <;> cases k <;> simp [binOp, Op.intArith])
/-- Is a number one of a kind? -/
def fits : IntKind → Int → Prop
  | .i64, r => -9223372036854775808 ≤ r ∧ r ≤ 9223372036854775807
  | .u64, r => 0 ≤ r ∧ r < 18446744073709551616
  | .u32, r => 0 ≤ r ∧ r < 4294967296
  | .u8, r => 0 ≤ r ∧ r < 256
  | .i32, r => -2147483648 ≤ r ∧ r ≤ 2147483647
  | .u16, r => 0 ≤ r ∧ r < 65536
  | .i16, r => -32768 ≤ r ∧ r ≤ 32767
  | .i8, r => -128 ≤ r ∧ r ≤ 127
theorem wrap_fits {k : IntKind} {r : Int} (h : fits k r) : k.wrap r = r := by
  cases k <;> simp only [fits] at h <;> simp only [IntKind.wrap] <;> simp [IntKind.bits, IntKind.signed] <;> omega
theorem S_arithF {op : BinOp} {xt yt : TypeId} {x y : Operand} {k : IntKind} {a b r : Int} (hx : ev env x = some (.int k a)) (hy : ev env y = some (.int k b))
    (ho : arith op a b = some r) (hf : fits k r) : Still P n w0 env L ⟨d, .binOp op xt x y yt, ty, pos, after, g⟩ (.int k r) := by
  have := S_arith (P := P) (n := n) (w0 := w0) (L := L) (d := d) (ty := ty) (pos := pos) (after := after) (g := g) (xt := xt) (yt := yt) hx hy ho
  rwa [wrap_fits hf] at this
/-- Tests of integers. -/
def cmp : BinOp → Int → Int → Option Bool
  | .eql, a, b => some (decide (a = b))
  | .neq, a, b => some (decide (a ≠ b))
  | .lss, a, b => some (decide (a < b))
  | .leq, a, b => some (decide (a ≤ b))
  | .gtr, a, b => some (decide (b < a))
  | .geq, a, b => some (decide (b ≤ a))
  | _, _, _ => none
theorem S_cmp {op : BinOp} {xt yt : TypeId} {x y : Operand} {k : IntKind} {a b : Int} {r : Bool} (hx : ev env x = some (.int k a)) (hy : ev env y = some (.int k b))
    (ho : cmp op a b = some r) : Still P n w0 env L ⟨d, .binOp op xt x y yt, ty, pos, after, g⟩ (.bool r) :=
  S_bin hx hy eqGuard_int (fun w => by
    cases op <;> simp only [cmp, Option.some.injEq, reduceCtorEq] at ho <;> subst ho <;> simp [binOp, Op.intCmp] <;> rfl)
theorem S_quo {xt yt : TypeId} {x y : Operand} {k : IntKind} {a b : Int} (hx : ev env x = some (.int k a)) (hy : ev env y = some (.int k b))
    (hb : b ≠ 0) : Still P n w0 env L ⟨d, .binOp .quo xt x y yt, ty, pos, after, g⟩ (.int k (k.wrap (a.tdiv b))) :=
  S_bin hx hy eqGuard_int (fun w => by cases k <;> simp [binOp, Op.intDiv, hb])
theorem S_rem {xt yt : TypeId} {x y : Operand} {k : IntKind} {a b : Int} (hx : ev env x = some (.int k a)) (hy : ev env y = some (.int k b))
    (hb : b ≠ 0) : Still P n w0 env L ⟨d, .binOp .rem xt x y yt, ty, pos, after, g⟩ (.int k (a.tmod b)) :=
  S_bin hx hy eqGuard_int (fun w => by cases k <;> simp [binOp, Op.intDiv, hb])
/-- Division of what is not below 0. -/
theorem S_quoN {xt yt : TypeId} {x y : Operand} {k : IntKind} {a b : Int} (hx : ev env x = some (.int k a)) (hy : ev env y = some (.int k b))
    (ha : 0 ≤ a) (hb : 0 < b) (hf : fits k a) : Still P n w0 env L ⟨d, .binOp .quo xt x y yt, ty, pos, after, g⟩ (.int k (a / b)) := by
  have h := S_quo (P := P) (n := n) (w0 := w0) (L := L) (d := d) (ty := ty) (pos := pos) (after := after) (g := g) (xt := xt) (yt := yt) hx hy (by omega)
  rw [Int.tdiv_eq_ediv_of_nonneg ha, wrap_fits] at h
  · exact h
  · have h1 : 0 ≤ a / b := Int.ediv_nonneg ha (by omega)
    have h2 : a / b ≤ a := Int.ediv_le_self _ ha
    cases k <;> simp only [fits] at * <;> omega
theorem S_remN {xt yt : TypeId} {x y : Operand} {k : IntKind} {a b : Int} (hx : ev env x = some (.int k a)) (hy : ev env y = some (.int k b))
    (ha : 0 ≤ a) (hb : 0 < b) : Still P n w0 env L ⟨d, .binOp .rem xt x y yt, ty, pos, after, g⟩ (.int k (a % b)) := by
  have h := S_rem (P := P) (n := n) (w0 := w0) (L := L) (d := d) (ty := ty) (pos := pos) (after := after) (g := g) (xt := xt) (yt := yt) hx hy (by omega)
  rwa [Int.tmod_eq_emod_of_nonneg ha] at h
theorem S_shl {xt yt : TypeId} {x y : Operand} {k k' : IntKind} {a b : Int} (hx : ev env x = some (.int k a)) (hy : ev env y = some (.int k' b))
    (hb : 0 ≤ b) : Still P n w0 env L ⟨d, .binOp .shl xt x y yt, ty, pos, after, g⟩ (.int k (k.wrap (a * 2 ^ (min b.toNat k.bits)))) :=
  S_bin hx hy eqGuard_int (fun w => by cases k <;> simp [binOp, Op.shift, show ¬ b < 0 by omega])
theorem S_shr {xt yt : TypeId} {x y : Operand} {k k' : IntKind} {a b : Int} (hx : ev env x = some (.int k a)) (hy : ev env y = some (.int k' b))
    (hb : 0 ≤ b) : Still P n w0 env L ⟨d, .binOp .shr xt x y yt, ty, pos, after, g⟩ (.int k (a / (2 ^ (min b.toNat k.bits)))) :=
  S_bin hx hy eqGuard_int (fun w => by
    cases k <;> simp [binOp, Op.shift, show ¬ b < 0 by omega] <;> rw [Int.fdiv_eq_ediv_of_nonneg] <;> exact Int.pow_nonneg (by omega))
/-- Bits of integers. -/
def bitsOp (k : IntKind) : BinOp → Int → Int → Option Int
  | .and, a, b => some (k.wrap (BitVec.ofInt k.bits a &&& BitVec.ofInt k.bits b).toNat)
  | .or, a, b => some (k.wrap (BitVec.ofInt k.bits a ||| BitVec.ofInt k.bits b).toNat)
  | .xor, a, b => some (k.wrap (BitVec.ofInt k.bits a ^^^ BitVec.ofInt k.bits b).toNat)
  | .andNot, a, b => some (k.wrap (BitVec.ofInt k.bits a &&& ~~~ BitVec.ofInt k.bits b).toNat)
  | _, _, _ => none
theorem S_bits {op : BinOp} {xt yt : TypeId} {x y : Operand} {k : IntKind} {a b r : Int} (hx : ev env x = some (.int k a)) (hy : ev env y = some (.int k b))
    (ho : bitsOp k op a b = some r) : Still P n w0 env L ⟨d, .binOp op xt x y yt, ty, pos, after, g⟩ (.int k r) :=
  S_bin hx hy eqGuard_int (fun w => by
    cases op <;> simp only [bitsOp, Option.some.injEq, reduceCtorEq] at ho <;> subst ho <;> simp only [binOp, Op.intBits] <;> simp)
theorem S_eqBool {xt yt : TypeId} {x y : Operand} {a b : Bool} [h : UndTy P xt .bool] (hx : ev env x = some (.bool a)) (hy : ev env y = some (.bool b)) :
    Still P n w0 env L ⟨d, .binOp .eql xt x y yt, ty, pos, after, g⟩ (.bool (a == b)) :=
  S_bin hx hy eqGuard_bool (fun w => run_eql_bool w xt a b h.und)
theorem S_neBool {xt yt : TypeId} {x y : Operand} {a b : Bool} [h : UndTy P xt .bool] (hx : ev env x = some (.bool a)) (hy : ev env y = some (.bool b)) :
    Still P n w0 env L ⟨d, .binOp .neq xt x y yt, ty, pos, after, g⟩ (.bool (!(a == b))) :=
  S_bin hx hy eqGuard_bool (fun w => run_neq_bool w xt a b h.und)
theorem S_eqNil {xt yt e : TypeId} {x y : Operand} {p : Option Addr} [h : UndTy P xt (.pointer e)] (hx : ev env x = some (.pointer p)) (hy : ev env y = some (.pointer none)) :
    Still P n w0 env L ⟨d, .binOp .eql xt x y yt, ty, pos, after, g⟩ (.bool p.isNone) :=
  S_bin hx hy eqGuard_pointer (fun w => run_eql_pointer_nil w xt p (by simp [Program.pointee, h.und]))
theorem S_neNil {xt yt e : TypeId} {x y : Operand} {p : Option Addr} [h : UndTy P xt (.pointer e)] (hx : ev env x = some (.pointer p)) (hy : ev env y = some (.pointer none)) :
    Still P n w0 env L ⟨d, .binOp .neq xt x y yt, ty, pos, after, g⟩ (.bool (!p.isNone)) :=
  S_bin hx hy eqGuard_pointer (fun w => run_neq_pointer_nil w xt p (by simp [Program.pointee, h.und]))
theorem S_eqStr {xt yt : TypeId} {x y : Operand} {a b : ByteArray} (hx : ev env x = some (.string a)) (hy : ev env y = some (.string b)) :
    Still P n w0 env L ⟨d, .binOp .eql xt x y yt, ty, pos, after, g⟩ (.bool (a == b)) :=
  S_bin hx hy eqGuard_string (fun w => by rw [binOp_string_eql, beq_toListBytes]; rfl)
theorem S_neStr {xt yt : TypeId} {x y : Operand} {a b : ByteArray} (hx : ev env x = some (.string a)) (hy : ev env y = some (.string b)) :
    Still P n w0 env L ⟨d, .binOp .neq xt x y yt, ty, pos, after, g⟩ (.bool (!(a == b))) :=
  S_bin hx hy eqGuard_string (fun w => by simp [binOp, Op.stringOp, beq_toListBytes]; try rfl)
/-- Conversions between kinds of integers. -/
theorem S_conv {src dst : TypeId} {x : Operand} {k k' : IntKind} {a : Int} [h : UndTy P dst (.int k)] [h' : UndTy P src (.int k')] (hx : ev env x = some (.int k' a)) :
    Still P n w0 env L ⟨d, .convert src dst x, ty, pos, after, g⟩ (.int k (k.wrap a)) :=
  fun a w A => by simp [execOp, A.ev hx, convert, run_und h.und, run_und h'.und, Conv.intToInt]
theorem S_convF {src dst : TypeId} {x : Operand} {k k' : IntKind} {a : Int} [h : UndTy P dst (.int k)] [h' : UndTy P src (.int k')] (hx : ev env x = some (.int k' a)) (hf : fits k a) :
    Still P n w0 env L ⟨d, .convert src dst x, ty, pos, after, g⟩ (.int k a) := by
  have := S_conv (P := P) (n := n) (w0 := w0) (L := L) (d := d) (ty := ty) (pos := pos) (after := after) (g := g) (src := src) (dst := dst) (k := k) hx
  rwa [wrap_fits hf] at this

theorem S_lenSlice {t e : TypeId} {x : Operand} {a : Option Addr} {m c k y : Nat} [h : SliceTy P t e k y] (hx : ev env x = some (.slice a m c)) :
    Still P n w0 env L ⟨d, .call ⟨.builtin .len, #[x], #[t]⟩, ty, pos, after, g⟩ (.int .i64 m) :=
  fun a w A => by simp [execOp, resolve, invoke, builtin, A.ev hx, Builtin.len_, run_und h.und, goInt]
theorem S_lenStr {t : TypeId} {x : Operand} {s : ByteArray} [h : UndTy P t .string] (hx : ev env x = some (.string s)) :
    Still P n w0 env L ⟨d, .call ⟨.builtin .len, #[x], #[t]⟩, ty, pos, after, g⟩ (.int .i64 s.size) :=
  fun a w A => by simp [execOp, resolve, invoke, builtin, A.ev hx, Builtin.len_, run_und h.und, goInt]
theorem S_capSlice {t e : TypeId} {x : Operand} {a : Option Addr} {m c k y : Nat} [h : SliceTy P t e k y] (hx : ev env x = some (.slice a m c)) :
    Still P n w0 env L ⟨d, .call ⟨.builtin .cap, #[x], #[t]⟩, ty, pos, after, g⟩ (.int .i64 c) :=
  fun a w A => by simp [execOp, resolve, invoke, builtin, A.ev hx, Builtin.cap_, run_und h.und, goInt]
theorem S_min2 {ts : Array TypeId} {x y : Operand} {k : IntKind} {a b : Int} (hx : ev env x = some (.int k a)) (hy : ev env y = some (.int k b)) :
    Still P n w0 env L ⟨d, .call ⟨.builtin .min, #[x, y], ts⟩, ty, pos, after, g⟩ (.int k (min a b)) :=
  fun a' w A => by
    simp [execOp, resolve, invoke, builtin, A.ev hx, A.ev hy, Builtin.min_, Builtin.min2]
    omega
theorem S_max2 {ts : Array TypeId} {x y : Operand} {k : IntKind} {a b : Int} (hx : ev env x = some (.int k a)) (hy : ev env y = some (.int k b)) :
    Still P n w0 env L ⟨d, .call ⟨.builtin .max, #[x, y], ts⟩, ty, pos, after, g⟩ (.int k (max a b)) :=
  fun a' w A => by
    simp [execOp, resolve, invoke, builtin, A.ev hx, A.ev hy, Builtin.max_, Builtin.max2]
    omega
end
end Go.Sl
set_option linter.unusedVariables false
set_option linter.unusedSimpArgs false
namespace Go.Sl
set_option linter.unnecessarySimpa false
open Go

/-- A slice: its elements' type, how many cells an element has; where it lies, its length, its room; the cells of its elements. -/
def slc (t : TypeId) (k : Nat) (a : Option Addr) (m c : Nat) (xs : List Value) : SP := fun h =>
  xs.length = m * k ∧ m ≤ c ∧
  ((a = none ∧ c = 0 ∧ h = PH.emp) ∨ ∃ b pre post, a = some ⟨b, pre.length, none⟩ ∧ (c - m) * k ≤ post.length ∧ row b t (pre ++ xs ++ post) h)
/-- The place of a cell of a slice. -/
def sAt (a : Option Addr) (j : Nat) : Addr := (a.getD default).add j

theorem Addr.add_add (a : Addr) (i j : Nat) (h : a.spot = none) : (a.add i).add j = a.add (i + j) := by
  unfold Addr.add
  by_cases hi : i = 0
  · subst hi; simp
  · by_cases hj : j = 0
    · subst hj; simp [hi]
    · simp [hi, hj, Nat.add_assoc]
theorem Addr.mk_add (b o j : Nat) : (⟨b, o, none⟩ : Addr).add j = ⟨b, o + j, none⟩ := by
  unfold Addr.add; split <;> simp_all

section
variable {P : Program} {n : Nat} {w0 : World} {Q : Exit → Act → World → Prop} {env : Env} {L M : List SP} {ops : Array Oper} {rest : List Oper}
variable {d : Option Nat} {ty : TypeId} {pos : String} {after : Array Edge} {g : Option (Nat × Bool)}

/-- A slice opened. -/
theorem Hd.openSlc {w : World} {t k : Nat} {a : Option Addr} {m c : Nat} {xs : List Value} (H : Hd w (slc t k a m c xs :: L)) :
    xs.length = m * k ∧ m ≤ c ∧ ((a = none ∧ c = 0) ∨ ∃ b pre post, a = some ⟨b, pre.length, none⟩ ∧ (c - m) * k ≤ post.length ∧ Hd w (row b t (pre ++ xs ++ post) :: L)) := by
  obtain ⟨h, hw, x, y, hd, rfl, ⟨h1, h2, h3⟩, hy⟩ := H
  refine ⟨h1, h2, ?_⟩
  rcases h3 with ⟨rfl, rfl, rfl⟩ | ⟨b, pre, post, rfl, hc, hr⟩
  · exact .inl ⟨rfl, rfl⟩
  · exact .inr ⟨b, pre, post, rfl, hc, _, hw, x, y, hd, rfl, hr, hy⟩
theorem Hd.mkSlc {w : World} {t k b m c : Nat} {xs pre post : List Value} (h1 : xs.length = m * k) (h2 : m ≤ c) (h3 : (c - m) * k ≤ post.length)
    (H : Hd w (row b t (pre ++ xs ++ post) :: L)) : Hd w (Sl.slc t k (some ⟨b, pre.length, none⟩) m c xs :: L) :=
  H.imp fun h hr => ⟨h1, h2, .inr ⟨b, pre, post, rfl, h3, hr⟩⟩
theorem Hd.nilSlc {w : World} {t k : Nat} (H : Hd w L) : Hd w (Sl.slc t k none 0 0 [] :: L) := by
  obtain ⟨h, hw, hs⟩ := H
  exact ⟨h, hw, PH.emp, h, PH.disj_comm (PH.disj_emp _), (PH.emp_union _).symm, ⟨by simp, Nat.le_refl _, .inl ⟨rfl, rfl, rfl⟩⟩, hs⟩
theorem Hd.slcLen {w : World} {t k : Nat} {a : Option Addr} {m c : Nat} {xs : List Value} (H : Hd w (Sl.slc t k a m c xs :: L)) : xs.length = m * k := H.openSlc.1
theorem Hd.slcCell {w : World} {t k : Nat} {a : Option Addr} {m c : Nat} {xs : List Value} (H : Hd w (Sl.slc t k a m c xs :: L)) {j : Nat} {v : Value} (hv : xs[j]? = some v) :
    ∃ x, a = some x ∧ x.spot = none ∧ w.cell? (x.add j) = some v := by
  obtain ⟨h1, h2, h3⟩ := H.openSlc
  rcases h3 with ⟨rfl, rfl⟩ | ⟨b, pre, post, rfl, hc, hr⟩
  · have : xs = [] := List.eq_nil_of_length_eq_zero (by rw [h1, Nat.le_zero.1 h2, Nat.zero_mul])
    subst this; simp at hv
  · refine ⟨_, rfl, rfl, ?_⟩
    rw [Addr.mk_add]
    refine hr.cell ?_
    rw [List.append_assoc, List.getElem?_append_right (by omega), Nat.add_sub_cancel_left, List.getElem?_append_left]
    · exact hv
    · exact (List.getElem?_eq_some_iff.1 hv).1

theorem loadCells_row {w : World} {b : Nat} {t : TypeId} {cs : List Value} (H : Hd w (row b t cs :: L)) (o k : Nat) (hk : o + k ≤ cs.length) :
    (loadCells ⟨b, o, none⟩ k).run P w = .ok ((cs.drop o).take k).toArray w := by
  have := run_loadCells_list (P := P) w ⟨b, o, none⟩ ((cs.drop o).take k) (fun j v hv => by
    rw [Addr.mk_add]
    refine H.cell ?_
    rw [List.getElem?_take] at hv
    split at hv
    · simpa using hv
    · cases hv)
  rwa [show ((cs.drop o).take k).length = k by simp; omega] at this
theorem loadCells_slc {w : World} {t k0 : Nat} {a : Option Addr} {m c : Nat} {xs : List Value} (H : Hd w (Sl.slc t k0 a m c xs :: L)) (j k : Nat) (hk : j + k ≤ xs.length) (h0 : 0 < k) :
    (loadCells (sAt a j) k).run P w = .ok ((xs.drop j).take k).toArray w := by
  obtain ⟨h1, h2, h3⟩ := H.openSlc
  rcases h3 with ⟨rfl, rfl⟩ | ⟨b, pre, post, rfl, hc, hr⟩
  · have : xs = [] := List.eq_nil_of_length_eq_zero (by rw [h1, Nat.le_zero.1 h2, Nat.zero_mul])
    subst this; simp at hk; omega
  · have := loadCells_row (P := P) hr (pre.length + j) k (by simp; omega)
    rw [show sAt (some ⟨b, pre.length, none⟩) j = ⟨b, pre.length + j, none⟩ from Addr.mk_add _ _ _, this]
    rw [List.append_assoc, ← List.drop_drop, List.drop_append_of_le_length (Nat.le_refl _)]
    simp only [List.drop_length, List.nil_append]
    rw [List.drop_append_of_le_length (by omega), List.take_append_of_le_length (by simp; omega)]

theorem S_load {t : TypeId} {x : Operand} {b o : Nat} {t' : TypeId} {cs : List Value} {v : Value} [ht : CellTy P t] (hx : ev env x = some (.pointer (some ⟨b, o, none⟩)))
    (hp : Pick (row b t' cs) L M) (hv : cs[o]? = some v) : Still P n w0 env L ⟨d, .load t x, ty, pos, after, g⟩ v :=
  fun a w A => by
    have hc := (hp.back A.heap).cell hv
    simp [execOp, A.ev hx, Instr.loadAt, Instr.sureAddr, loadVar, ht.agg, hc]
theorem S_loadAgg {t : TypeId} {x : Operand} {b o k : Nat} {t' : TypeId} {cs : List Value} [ht : AggTy P t k] (hx : ev env x = some (.pointer (some ⟨b, o, none⟩)))
    (hp : Pick (row b t' cs) L M) (hk : o + k ≤ cs.length) : Still P n w0 env L ⟨d, .load t x, ty, pos, after, g⟩ (.agg ((cs.drop o).take k).toArray) :=
  fun a w A => by
    have hc := loadCells_row (P := P) (hp.back A.heap) o k hk
    simp [execOp, A.ev hx, Instr.loadAt, Instr.sureAddr, loadVar, ht.agg, ht.size, hc]
/-- A whole variable. -/
theorem S_loadAll {t : TypeId} {x : Operand} {b k : Nat} {t' : TypeId} {cs : List Value} [ht : AggTy P t k] (hx : ev env x = some (.pointer (some ⟨b, 0, none⟩)))
    (hp : Pick (row b t' cs) L M) (hk : cs.length = k) : Still P n w0 env L ⟨d, .load t x, ty, pos, after, g⟩ (.agg cs.toArray) := by
  have := S_loadAgg (P := P) (n := n) (w0 := w0) (d := d) (ty := ty) (pos := pos) (after := after) (g := g) (t := t) hx hp (by omega)
  rwa [List.drop_zero, ← hk, List.take_length] at this
theorem S_loadS {t : TypeId} {x : Operand} {j k : Nat} {t' : TypeId} {a : Option Addr} {m c : Nat} {xs : List Value} {v : Value} [ht : CellTy P t] (hx : ev env x = some (.pointer (some (sAt a j))))
    (hp : Pick (slc t' k a m c xs) L M) (hv : xs[j]? = some v) : Still P n w0 env L ⟨d, .load t x, ty, pos, after, g⟩ v :=
  fun a' w A => by
    obtain ⟨y, rfl, hs, hc⟩ := (hp.back A.heap).slcCell hv
    simp only [sAt, Option.getD_some] at hx
    simp [execOp, A.ev hx, Instr.loadAt, Instr.sureAddr, loadVar, ht.agg, hc]
theorem S_loadSAgg {t : TypeId} {x : Operand} {j k k' : Nat} {t' : TypeId} {a : Option Addr} {m c : Nat} {xs : List Value} [ht : AggTy P t k'] (hx : ev env x = some (.pointer (some (sAt a j))))
    (hp : Pick (slc t' k a m c xs) L M) (hk : j + k' ≤ xs.length) (h0 : 0 < k') : Still P n w0 env L ⟨d, .load t x, ty, pos, after, g⟩ (.agg ((xs.drop j).take k').toArray) :=
  fun a' w A => by
    have hc := loadCells_slc (P := P) (hp.back A.heap) j k' hk h0
    simp [execOp, A.ev hx, Instr.loadAt, Instr.sureAddr, loadVar, ht.agg, ht.size, hc]

theorem S_field {s f off ft : Nat} {x : Operand} {p : Addr} [h : FieldTy P s f off ft] (hx : ev env x = some (.pointer (some p))) :
    Still P n w0 env L ⟨d, .fieldAddr s x f, ty, pos, after, g⟩ (.pointer (some (p.add off))) :=
  fun a w A => by
    obtain ⟨fs, fd, h1, h2, h3, h4⟩ := h.field
    obtain ⟨k, hk, hs⟩ := h.pos
    simp [execOp, A.ev hx, Instr.fieldAt, run_und h1, h2, Instr.sureAddr, fieldPlace, h4, hs, show ¬ k = 0 by omega, h3]
theorem S_field0 {s f ft : Nat} {x : Operand} {p : Addr} [h : FieldTy P s f 0 ft] (hx : ev env x = some (.pointer (some p))) :
    Still P n w0 env L ⟨d, .fieldAddr s x f, ty, pos, after, g⟩ (.pointer (some p)) := by
  have := S_field (P := P) (n := n) (w0 := w0) (L := L) (d := d) (ty := ty) (pos := pos) (after := after) (g := g) (s := s) (f := f) hx
  simpa [Addr.add] using this
theorem S_fieldR {s f off ft : Nat} {x : Operand} {b o : Nat} [h : FieldTy P s f off ft] (hx : ev env x = some (.pointer (some ⟨b, o, none⟩))) :
    Still P n w0 env L ⟨d, .fieldAddr s x f, ty, pos, after, g⟩ (.pointer (some ⟨b, o + off, none⟩)) := by
  have := S_field (P := P) (n := n) (w0 := w0) (L := L) (d := d) (ty := ty) (pos := pos) (after := after) (g := g) (s := s) (f := f) hx
  rwa [Addr.mk_add] at this
theorem run_indexAt {t e k y : Nat} [h : SliceTy P t e k y] {w : World} {x : Addr} {m c : Nat} {kk : IntKind} {i : Int} (hi : 0 ≤ i ∧ i < m) :
    (Instr.indexAt t (.slice (some x) m c) (.int kk i)).run P w = .ok (.pointer (some (x.add (i.toNat * k)))) w := by
  obtain ⟨inf, z, h1, h2, h3, h4, h5⟩ := h.info
  simp [Instr.indexAt, asIntOf, run_und h.und, hi, sizeOf, typeInfo, h1, h2]
theorem S_index {t e k y : Nat} [h : SliceTy P t e k y] {x i : Operand} {a : Option Addr} {m c : Nat} {xs : List Value} {t' k' : Nat} {kk : IntKind} {j : Int}
    (hx : ev env x = some (.slice a m c)) (hj : ev env i = some (.int kk j)) (hp : Pick (slc t' k' a m c xs) L M) (hi : 0 ≤ j ∧ j < m) :
    Still P n w0 env L ⟨d, .indexAddr t x i, ty, pos, after, g⟩ (.pointer (some (sAt a (j.toNat * k)))) :=
  fun a' w A => by
    obtain ⟨h1, h2, h3⟩ := (hp.back A.heap).openSlc
    rcases h3 with ⟨rfl, rfl⟩ | ⟨b, pre, post, rfl, hc, hr⟩
    · omega
    · simp [execOp, A.ev hx, A.ev hj, run_indexAt (P := P) (t := t) hi, sAt]
/-- Of an array, at a row. -/
theorem S_indexArr {t len e k : Nat} [h : ArrTy P t len e k] {x i : Operand} {p : Addr} {kk : IntKind} {j : Int}
    (hx : ev env x = some (.pointer (some p))) (hj : ev env i = some (.int kk j)) (hi : 0 ≤ j ∧ j < len) :
    Still P n w0 env L ⟨d, .indexAddr t x i, ty, pos, after, g⟩ (.pointer (some (p.add (j.toNat * k)))) :=
  fun a' w A => by
    simp [execOp, A.ev hx, A.ev hj, Instr.indexAt, asIntOf, run_und h.und, Instr.sureAddr, hi, h.size]
theorem S_indexArrR {t len e k : Nat} [h : ArrTy P t len e k] {x i : Operand} {b o : Nat} {kk : IntKind} {j : Int}
    (hx : ev env x = some (.pointer (some ⟨b, o, none⟩))) (hj : ev env i = some (.int kk j)) (hi : 0 ≤ j ∧ j < len) :
    Still P n w0 env L ⟨d, .indexAddr t x i, ty, pos, after, g⟩ (.pointer (some ⟨b, o + j.toNat * k, none⟩)) := by
  have := S_indexArr (P := P) (n := n) (w0 := w0) (L := L) (d := d) (ty := ty) (pos := pos) (after := after) (g := g) (t := t) hx hj hi
  rwa [Addr.mk_add] at this
theorem sAt_add {a : Option Addr} {i j : Nat} (h : (a.getD default).spot = none) : (sAt a i).add j = sAt a (i + j) := Addr.add_add _ _ _ h
/-- A field, or an element of an array, behind a place of a slice. -/
theorem Hd.slcSpot {w : World} {t k : Nat} {a : Option Addr} {m c : Nat} {xs : List Value} (H : Hd w (Sl.slc t k a m c xs :: L)) : (a.getD default).spot = none := by
  obtain ⟨h1, h2, h3⟩ := H.openSlc
  rcases h3 with ⟨rfl, rfl⟩ | ⟨b, pre, post, rfl, hc, hr⟩ <;> rfl
theorem S_fieldS {s f off ft : Nat} {x : Operand} {a : Option Addr} {j : Nat} {t' k' m c : Nat} {xs : List Value} [h : FieldTy P s f off ft] (hx : ev env x = some (.pointer (some (sAt a j))))
    (hp : Pick (slc t' k' a m c xs) L M) : Still P n w0 env L ⟨d, .fieldAddr s x f, ty, pos, after, g⟩ (.pointer (some (sAt a (j + off)))) :=
  fun a' w A => by
    have := S_field (P := P) (n := n) (w0 := w0) (L := L) (d := d) (ty := ty) (pos := pos) (after := after) (g := g) (s := s) (f := f) hx a' w A
    rwa [sAt_add (hp.back A.heap).slcSpot] at this
theorem S_indexArrS {t len e k : Nat} [h : ArrTy P t len e k] {x i : Operand} {a : Option Addr} {l : Nat} {t' k' m c : Nat} {xs : List Value} {kk : IntKind} {j : Int}
    (hx : ev env x = some (.pointer (some (sAt a l)))) (hj : ev env i = some (.int kk j)) (hi : 0 ≤ j ∧ j < len) (hp : Pick (slc t' k' a m c xs) L M) :
    Still P n w0 env L ⟨d, .indexAddr t x i, ty, pos, after, g⟩ (.pointer (some (sAt a (l + j.toNat * k)))) :=
  fun a' w A => by
    have := S_indexArr (P := P) (n := n) (w0 := w0) (L := L) (d := d) (ty := ty) (pos := pos) (after := after) (g := g) (t := t) hx hj hi a' w A
    rwa [sAt_add (hp.back A.heap).slcSpot] at this

theorem Hd.alloc {w : World} {t : TypeId} {cs : List Value} (H : Hd w L) : Hd { w with heap := w.heap.push (.cells cs.toArray t) } (row w.heap.size t cs :: L) :=
  (H.new (r := w.heap.size) (o := .cells cs.toArray t (0, 0)) (by simp) (by simp) (fun s hs => by
    simp only [Array.getElem?_push]
    rw [if_neg hs])).mkRow (.inl rfl)
theorem E_alloc {t : TypeId} {zs : List Value} [h : ZeroTy P t zs] :
    Eff P n w0 env L ⟨d, .alloc t, ty, pos, after, g⟩ fun v L' => ∃ b, v = .pointer (some ⟨b, 0, none⟩) ∧ L' = row b t zs :: L :=
  fun a w A => by
    obtain ⟨z, hz, hc⟩ := h.zero
    refine ⟨_, _, { w with heap := w.heap.push (.cells zs.toArray t) }, ?_, ⟨w.heap.size, rfl, rfl⟩, A.heap.alloc, ⟨rfl, rfl, rfl⟩⟩
    simp [execOp, Instr.alloc, hz, newVar, newRow, hc]
theorem E_box {t : TypeId} {x : Operand} {v : Value} {zs : List Value} (hx : ev env x = some v) (hc : v.cells = zs.toArray) :
    Eff P n w0 env L ⟨d, .box t x, ty, pos, after, g⟩ fun v L' => ∃ b, v = .pointer (some ⟨b, 0, none⟩) ∧ L' = row b t zs :: L :=
  fun a w A => by
    refine ⟨_, _, { w with heap := w.heap.push (.cells zs.toArray t) }, ?_, ⟨w.heap.size, rfl, rfl⟩, A.heap.alloc, ⟨rfl, rfl, rfl⟩⟩
    simp [execOp, Instr.box, A.ev hx, newVar, newRow, hc]
end
end Go.Sl
