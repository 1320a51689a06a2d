/- Contracts of functions and laws of this seat, each for every input that it names: lemmas of the proof. -/
import Derived.Test.YtcinpbgpbehndaaDo
import Derived.Test.YtcinpbgpbehndaaJa
import Derived.Lib.Strings
set_option linter.unusedSimpArgs false
set_option linter.unusedVariables false
set_option linter.unusedSimpArgs false
set_option linter.unusedVariables false
namespace Go.Proofs.Ytcinpbgpbehndaa
open Go.PL
open Go.RowKit
theorem Join_pure (l : List Str) (sep : Str) (hN : l.length ≤ 140737488355328) (hlen : (Lib.join l sep).length ≤ 140737488355328) : PL.Pure Try.prog 91 [strs l, .str sep] (.str (Lib.join l sep)) := by
  refine ⟨⟨_, Try.func91, by decide, rfl⟩, rfl, fun w S vs hst hl hr => ?_⟩
  match vs, hl with
  | [v0, v1], _ =>
    have r0 : Rep S v0 (.sl .no (l.map .str)) := hr 0 (by simp)
    have r1 : Rep S v1 (.str sep) := hr 1 (by simp)
    have e1 : v1 = .string ⟨⟨sep⟩⟩ := by cases r1; rfl
    subst e1
    have fin : ∀ (e : Ending) (w' : World), e = .returned (.string ⟨(Lib.join l sep).toArray⟩) ∧ Below w.heap.size w w' → ∃ v S', e = .returned v ∧ Rep S' v (.str (Lib.join l sep)) ∧ (∀ b o v, S' b o = some v → w'.cell? ⟨b, o, none⟩ = some v) ∧ SLe S S' ∧ (∀ b o, b < w.heap.size → S' b o = S b o) ∧ Below w.heap.size w w' := by
      rintro e w' ⟨rfl, hb⟩
      refine ⟨_, S, rfl, .str _, fun b o v h => ?_, SLe.refl S, fun _ _ _ => rfl, hb⟩
      have h1 := hst b o v h
      rw [hb.cell (p := ⟨b, o, none⟩) (cell_lt h1)]
      exact h1
    generalize he : l.map PV.str = es at r0
    cases r0 with
    | sl0 a cap =>
      have hl0 : l = [] := by simpa using he
      subst hl0
      exact (Try.strings_Join_none a cap ⟨⟨sep⟩⟩ w).mono fun e w' ⟨h1, h2⟩ => fin e w' ⟨h1, h2 ▸ Below.refl _ _⟩
    | sl b o cap sz _ vals hsz hcap hS hR =>
      subst he
      have hxs : (l.map fun s => (⟨⟨s⟩⟩ : ByteArray)).map (·.data.toList) = l := by simp [Function.comp_def]
      have hcells : ∀ (j : Nat) x, (l.map fun s => (⟨⟨s⟩⟩ : ByteArray))[j]? = some x → w.cell? ⟨b, o + j, none⟩ = some (.string x) := by
        intro j x hj
        have hjl : j < l.length := by
          have := (List.getElem?_eq_some_iff.1 hj).1
          simpa using this
        have hx : x = ⟨⟨l.getD j []⟩⟩ := by
          rw [List.getElem?_eq_getElem (by simpa using hjl)] at hj
          simp only [List.getElem_map, Option.some.injEq] at hj
          rw [← hj, List.getD_eq_getElem?_getD, List.getElem?_eq_getElem hjl]; rfl
        subst hx
        have hjm : j < (l.map PV.str).length := by simpa using hjl
        have s1 : sz = 1 := by have := hsz j hjm; rw [getD_str hjl] at this; simpa [PV.cells] using this.symm
        subst s1
        have r := hR j 0 hjm (by omega)
        rw [getD_str hjl] at r
        have e2 : vals j 0 = .string ⟨⟨l.getD j []⟩⟩ := (RepS.clean (M := ⟨id, id, id⟩) (q := fun _ => none) r).str_inv
        have := hst _ _ _ (hS j 0 hjm (by omega))
        rw [e2, Nat.mul_one, Nat.add_zero] at this
        exact this
      by_cases h0 : l = []
      · subst h0
        exact (Try.strings_Join_none (some ⟨b, o, none⟩) cap ⟨⟨sep⟩⟩ w).mono fun e w' ⟨h1, h2⟩ => fin e w' ⟨h1, h2 ▸ Below.refl _ _⟩
      · have hpos : 0 < l.length := List.length_pos_iff.2 h0
        have hbk : b < w.heap.size := cell_lt (hcells 0 _ (List.getElem?_eq_getElem (by simpa using hpos)))
        have key := Try.strings_Join b o cap (l.map fun s => (⟨⟨s⟩⟩ : ByteArray)) ⟨⟨sep⟩⟩ w hcells hbk (by simpa using hN) (by simpa using hcap) (by rw [hxs]; exact hlen)
        rw [hxs, List.length_map] at key
        rw [List.length_map]
        exact key.mono fin
