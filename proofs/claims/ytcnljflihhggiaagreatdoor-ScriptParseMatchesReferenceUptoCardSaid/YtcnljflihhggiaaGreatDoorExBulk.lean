/- What a bound on the arguments' bulk says of a slice's length. -/
import Derived.Test.YtcnljflihhggiaaGreatDoorRows
import Derived.Test.YtcnljflihhggiaaGreatDoorExRowU
namespace Go.Proofs.YtcnljflihhggiaaGreatDoor.Bulk
open Go Go.Ex
theorem one {H : Type} (d : DataW H) : 1 ≤ Rows.uptoBulk d := by
  cases d with
  | lit l => cases l <;> simp [Rows.uptoBulk]
  | _ => simp [Rows.uptoBulk]
theorem mem {H : Type} {d : DataW H} : ∀ {l : List (DataW H)}, d ∈ l → Rows.uptoBulk d ≤ Rows.uptoBulkAll l
  | [], h => by cases h
  | x :: l, h => by
    rw [Rows.uptoBulkAll]
    rcases List.mem_cons.1 h with rfl | h
    · omega
    · have := mem h; omega
theorem count {H : Type} : ∀ l : List (DataW H), l.length ≤ Rows.uptoBulkAll l
  | [] => Nat.zero_le _
  | x :: l => by
    have h1 := count l
    have h2 := one x
    rw [Rows.uptoBulkAll, List.length_cons]; omega
theorem places {H : Type} {d : DataW H} {n : Nat} (h : Places d n) : n ≤ Rows.uptoBulk d := by
  rcases h with rfl | ⟨el, sp, rfl, rfl⟩
  · exact Nat.zero_le _
  · have := count el
    rw [Rows.uptoBulk]; omega
theorem bound {H : Type} {l : List (DataW H)} (h : Rows.uptoSmall H l = true) : Rows.uptoBulkAll l ≤ 1048576 := of_decide_eq_true h
theorem len_le {H : Type} {d : DataW H} {l : List (DataW H)} {n : Nat} (h : Places d n) (hd : d ∈ l) (hk : Rows.uptoSmall H l = true) : n ≤ 1048576 :=
  Nat.le_trans (places h) (Nat.le_trans (mem hd) (bound hk))
theorem len_in {H : Type} {d : DataW H} {parts l : List (DataW H)} {n : Nat} (h : Places d n) (hd : d ∈ parts) (hp : DataW.agg parts ∈ l) (hk : Rows.uptoSmall H l = true) : n ≤ 1048576 := by
  have h1 := places h
  have h2 := mem hd
  have h3 := mem hp
  have h4 := bound hk
  rw [Rows.uptoBulk] at h3
  omega
end Go.Proofs.YtcnljflihhggiaaGreatDoor.Bulk
