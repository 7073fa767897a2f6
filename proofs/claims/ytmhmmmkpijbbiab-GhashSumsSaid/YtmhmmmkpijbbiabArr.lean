/- Arrays of bools by value: their cells, and the walks of the reference's functions of the field over them. -/
import Derived.Test.YtmhmmmkpijbbiabXWords
import Derived.Test.YtmhmmmkpijbbiabGf
namespace Go.Proofs.Ytmhmmmkpijbbiab.Arr
open Go.RowKit Go.Proofs.YtmhmmmkpijbbiabW.PrintWords Go.Proofs.YtmhmmmkpijbbiabW.PrintLast Go.Proofs.YtmhmmmkpijbbiabW.PrintMore Go.Proofs.Ytmhmmmkpijbbiab.X Go.Proofs.Ytmhmmmkpijbbiab.Gf
set_option linter.unusedVariables false
set_option linter.unusedSimpArgs false
/-- The cells of an array of n bools. -/
def arr (n : Nat) (f : Nat → Bool) : Array Value := ((List.range n).map fun i => Value.bool (f i)).toArray
theorem arr_size (n : Nat) (f : Nat → Bool) : (arr n f).size = n := by simp [arr]
theorem arr_get {n : Nat} (f : Nat → Bool) {i : Nat} (h : i < n) : (arr n f)[i]? = some (.bool (f i)) := by simp [arr, h]
theorem arr_set (n : Nat) (f : Nat → Bool) (i : Nat) (v : Bool) : (arr n f).setIfInBounds i (.bool v) = arr n (fun j => if j = i then v else f j) := by
  apply Array.ext_getElem?
  intro j
  rw [Array.getElem?_setIfInBounds]
  by_cases hj : j < n
  · rw [arr_get _ hj, arr_get _ hj, arr_size]
    by_cases e : i = j
    · subst e; simp [hj]
    · simp [e, Ne.symm e]
  · have h1 : ∀ g, (arr n g)[j]? = none := fun g => by simp [arr]; omega
    rw [h1, h1, arr_size]
    split
    · split
      · omega
      · rfl
    · rfl
theorem arr_congr {n : Nat} {f g : Nat → Bool} (h : ∀ i, i < n → f i = g i) : arr n f = arr n g := by
  apply Array.ext_getElem?
  intro j
  by_cases hj : j < n
  · rw [arr_get _ hj, arr_get _ hj, h j hj]
  · have h1 : ∀ g, (arr n g)[j]? = none := fun g => by simp [arr]; omega
    rw [h1, h1]
theorem arr_inj {n : Nat} {f g : Nat → Bool} (h : arr n f = arr n g) {i : Nat} (hi : i < n) : f i = g i := by
  have := congrArg (fun a => a[i]?) h
  simp only [arr_get _ hi] at this
  simpa using this
theorem arr_one (n : Nat) (f : Nat → Bool) : (arr n f).all (·.oneCell') = true := by
  simp only [arr, List.all_toArray, List.all_eq_true]
  intro v hv
  obtain ⟨i, _, rfl⟩ := List.mem_map.1 hv
  rfl
end Go.Proofs.Ytmhmmmkpijbbiab.Arr
