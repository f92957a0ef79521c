-- Written by hp.py (a program of this session, over the kit's print.py), with hand-made contracts beside it.
import Derived.Test.YtojfdekiponccaaDoorHx0
import Derived.Test.YtojfdekiponccaaDoorHShelf
namespace Go.Proofs.YtojfdekiponccaaDoor.H
open Go.RowKit Go.Proofs.YtojfdekiponccaaDoorW.PrintWords Go.Proofs.YtojfdekiponccaaDoorW.PrintLast Go.Proofs.YtojfdekiponccaaDoorW.PrintMore
attribute [local go_sem] max2_int min2_int max_two min_two max_three min_three max_four min_four   -- for this text's walks alone
set_option linter.unusedVariables false
set_option linter.unusedSimpArgs false

-- HANDMADE strings.Join
/-! ### strings_Join: function 37 -/
def strings_Join.f (l0 : List ByteArray) (a1 : ByteArray) : Option ByteArray :=
  if (Lib.join (l0.map (·.data.toList)) a1.data.toList).length ≤ 140737488355328 ∧ l0.length ≤ 140737488355328 then some ⟨(Lib.join (l0.map (·.data.toList)) a1.data.toList).toArray⟩ else none
theorem strings_Join.calls (A0 : Option Addr) (c0 : Nat) (l0 : List ByteArray) (a1 : ByteArray) (r : ByteArray) (w : World) (hr0 : Kd.C Kd.string w A0 l0.length l0) (hc0 : l0.length ≤ c0) (h : strings_Join.f l0 a1 = some r) :
    Calls Tryd.prog 37 #[.slice A0 l0.length c0, .string a1] w fun e w' => e = .returned (.string r) ∧ Below w.heap.size w w' := by
  unfold strings_Join.f at h
  by_cases hc : (Lib.join (l0.map (·.data.toList)) a1.data.toList).length ≤ 140737488355328 ∧ l0.length ≤ 140737488355328
  · rw [if_pos hc] at h
    obtain rfl := Option.some.inj h
    by_cases h0 : l0 = []
    · subst h0
      exact (Tryd.strings_Join_none A0 c0 a1 w).mono fun e w' ⟨he, hw⟩ => ⟨he, hw ▸ Below.refl _ _⟩
    · have hpos : 0 < l0.length := by cases l0 with | nil => exact absurd rfl h0 | cons a l => simp
      obtain ⟨ad, rfl, hcell⟩ := Kd.at_string hr0 0 (by omega) (by omega)
      obtain ⟨b, o, sp⟩ := ad
      have hsp : sp = none := by
        cases sp with
        | none => rfl
        | some q =>
          have : w.cell? ((⟨b, o, some q⟩ : Addr).add (0 : Int).toNat) = none := by
            show w.cell? ⟨b, o, some q⟩ = none
            unfold World.cell?
            split <;> simp
          rw [this] at hcell
          cases hcell
      subst hsp
      have hbk : b < w.heap.size := World.block_lt_of_cell? w _ hcell
      refine Tryd.strings_Join b o c0 l0 a1 w ?_ hbk hc.2 hc0 hc.1
      intro j x hx
      have hj : j < l0.length := by
        rcases Nat.lt_or_ge j l0.length with h1 | h1
        · exact h1
        · rw [List.getElem?_eq_none h1] at hx; cases hx
      obtain ⟨ad2, e2, hcell2⟩ := Kd.at_string hr0 (j : Int) (by omega) (by omega)
      obtain rfl := Option.some.inj e2
      have e3 : (⟨b, o, none⟩ : Addr).add ((j : Int)).toNat = ⟨b, o + j, none⟩ := by
        unfold Addr.add
        split
        · rename_i h2; simp at h2; subst h2; rfl
        · simp
      rw [e3] at hcell2
      rw [hcell2]
      simp [rdOf, List.getD, hx]
  · rw [if_neg hc] at h
    exact absurd h (by simp)


end Go.Proofs.YtojfdekiponccaaDoor.H
