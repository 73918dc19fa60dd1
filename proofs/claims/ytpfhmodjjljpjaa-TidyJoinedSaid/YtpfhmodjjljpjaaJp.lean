import Derived.Test.YtpfhmodjjljpjaaPi
import Derived.Test.YtpfhmodjjljpjaaJo
namespace Go.Proofs.Ytpfhmodjjljpjaa
open Go.RowKit
namespace Lg
theorem joinP_take (P : List (List Int)) (q : List Int) {i : Nat} (h : i < q.length) : joinP P (q.take (i + 1)) = joinP P (q.take i) ++ P.getD (q.getD i default).toNat default := by
  rw [take_succ_getD h]; simp [joinP]
theorem joinP_le {P : List (List Int)} {c : Nat} (hP : ∀ p ∈ P, p.length ≤ c) : ∀ (q : List Int), (joinP P q).length ≤ q.length * c
  | [] => by simp [joinP]
  | k :: q => by
    have h1 := joinP_le hP q
    have h2 : (P.getD k.toNat default).length ≤ c := by
      by_cases h : k.toNat < P.length
      · exact hP _ (getD_mem h)
      · rw [List.getD_eq_getElem?_getD, List.getElem?_eq_none (by omega)]
        exact Nat.zero_le _
    have h3 : (joinP P (k :: q)).length = (P.getD k.toNat default).length + (joinP P q).length := by simp [joinP]
    rw [h3, List.length_cons, Nat.succ_mul]; omega
theorem joinP_small {P : List (List Int)} {q : List Int} (hP : ∀ p ∈ P, (p.length : Int) ≤ 200) (hq : (q.length : Int) ≤ 200) (i : Nat) : (joinP P (q.take i)).length ≤ 40000 := by
  have h1 := joinP_le (c := 200) (fun p hp => by have := hP p hp; omega) (q.take i)
  have h2 : (q.take i).length ≤ 200 := by rw [List.length_take]; omega
  have h3 := Nat.mul_le_mul_right 200 h2
  omega
theorem joined_chk {a c : GFn} {p q : List (List Int)} {x1 x2 x3 x4 : Int} (h1 : few a x1 x2 = true) (h2 : few c x3 x4 = true) (h3 : smallP p 40 200 = true) (h4 : smallP q 40 200 = true) (hx : x2 ≤ 1000) (hx4 : x4 ≤ 1000) : ChkOk a c (q.map (joinP p)) := by
  have h5 := smallP_iff h3
  have h6 := smallP_iff h4
  have hlen : ∀ r ∈ q.map (joinP p), r.length ≤ 40000 := fun r hr => by
    obtain ⟨s, hs, rfl⟩ := List.mem_map.1 hr
    have := joinP_small (q := s) h5.2 (h6.2 s hs) s.length
    rwa [List.take_length] at this
  refine ⟨by rw [List.length_map]; omega, fun r hr => by have := hlen r hr; omega, fun x hx => by have := few_ins h2 x hx; omega, fun r hr j => ?_⟩
  exact take_len (c := 0) (fun x hx => by have := few_ins h1 x hx; omega) (by have := hlen r hr; omega) j
theorem map_take_succ {α β : Type} [Inhabited α] (g : α → β) (l : List α) {j : Nat} (h : j < l.length) : (l.take (j + 1)).map g = (l.take j).map g ++ [g (l.getD j default)] := by
  rw [take_succ_getD h]; simp
end Lg
end Go.Proofs.Ytpfhmodjjljpjaa
