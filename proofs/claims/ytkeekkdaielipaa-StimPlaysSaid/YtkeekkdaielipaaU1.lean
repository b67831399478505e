/-
  Sorting by insertion: plain laws.
-/
import Derived.Test.YtkeekkdaielipaaS7
set_option linter.unusedVariables false
set_option maxRecDepth 100000
namespace Go.Proofs.Ytkeekkdaielipaa
open Go.RowKit
/-- x put behind all that are as urgent, or more, at the end of a list. -/
def insR (pr : Nat → Nat) (x : Nat) : List Nat → List Nat
  | [] => [x]
  | y :: L => if (y :: L).all (fun z => decide (pr z < pr x)) then x :: y :: L else y :: insR pr x L
def sortM (pr : Nat → Nat) (l : List Nat) : List Nat := l.foldl (fun L x => insR pr x L) []
theorem sortM_snoc (pr : Nat → Nat) (l : List Nat) (x : Nat) : sortM pr (l ++ [x]) = insR pr x (sortM pr l) := by simp [sortM]
theorem insR_all {pr : Nat → Nat} {x : Nat} : ∀ {L : List Nat}, (∀ y ∈ L, pr y < pr x) → insR pr x L = x :: L
  | [], _ => rfl
  | y :: L, h => by
    rw [insR, if_pos]
    rw [List.all_eq_true]
    exact fun z hz => decide_eq_true (h z hz)
theorem insR_at {pr : Nat → Nat} {x : Nat} {L2 : List Nat} (h2 : ∀ y ∈ L2, pr y < pr x) : ∀ {L1 : List Nat} {y : Nat}, ¬ pr y < pr x → insR pr x (L1 ++ [y] ++ L2) = L1 ++ [y] ++ x :: L2
  | [], y, hy => by
    rw [List.nil_append, List.singleton_append, insR, if_neg, insR_all h2]
    · rfl
    · rw [List.all_eq_true]
      intro h
      have := h y (by simp)
      simp at this
      exact hy this
  | z :: L1, y, hy => by
    rw [List.cons_append, List.cons_append, insR, if_neg, insR_at h2 hy]
    · rfl
    · rw [List.all_eq_true]
      intro h
      have := h y (by simp)
      simp at this
      exact hy this
theorem length_insR (pr : Nat → Nat) (x : Nat) : ∀ L : List Nat, (insR pr x L).length = L.length + 1
  | [] => rfl
  | y :: L => by
    rw [insR]
    split
    · rfl
    · simp [length_insR pr x L]
theorem mem_insR {pr : Nat → Nat} {x z : Nat} : ∀ {L : List Nat}, z ∈ insR pr x L ↔ z = x ∨ z ∈ L
  | [] => by simp [insR]
  | y :: L => by
    rw [insR]
    split
    · simp
    · simp [mem_insR (L := L)]
      constructor
      · rintro (h | h | h)
        · exact .inr (.inl h)
        · exact .inl h
        · exact .inr (.inr h)
      · rintro (h | h | h)
        · exact .inr (.inl h)
        · exact .inl h
        · exact .inr (.inr h)
/-- Lists may be looked at from their end. -/
theorem snoc_cases (l : List Nat) : l = [] ∨ ∃ l' x, l = l' ++ [x] := by
  rcases List.eq_nil_or_concat l with h | ⟨l', x, h⟩
  · exact .inl h
  · exact .inr ⟨l', x, by simpa using h⟩
theorem snoc_ind {p : List Nat → Prop} (h0 : p []) (h1 : ∀ l x, p l → p (l ++ [x])) : ∀ l, p l := by
  intro l
  rw [← List.reverse_reverse l]
  induction l.reverse with
  | nil => exact h0
  | cons x l ih => rw [List.reverse_cons]; exact h1 _ _ ih
theorem length_sortM (pr : Nat → Nat) : ∀ l : List Nat, (sortM pr l).length = l.length := by
  refine snoc_ind rfl fun l x ih => ?_
  rw [sortM_snoc, length_insR, ih, List.length_append]
  rfl
theorem mem_sortM {pr : Nat → Nat} {z : Nat} : ∀ l : List Nat, z ∈ sortM pr l ↔ z ∈ l := by
  refine snoc_ind Iff.rfl fun l x ih => ?_
  rw [sortM_snoc, mem_insR, ih, List.mem_append, List.mem_singleton]
  exact Or.comm
/-- How a split of a list is found. -/
theorem insR_split (pr : Nat → Nat) (x : Nat) (L : List Nat) : ∃ L1 L2, L = L1 ++ L2 ∧ insR pr x L = L1 ++ x :: L2 ∧ (∀ y ∈ L2, pr y < pr x) ∧ ∀ L1' y, L1 = L1' ++ [y] → ¬ pr y < pr x := by
  induction L with
  | nil => exact ⟨[], [], rfl, rfl, fun y h => (by cases h), fun L1' y h => (by simp at h)⟩
  | cons z L ih =>
    rw [insR]
    split
    · rename_i h
      rw [List.all_eq_true] at h
      exact ⟨[], z :: L, rfl, rfl, fun y hy => by have := h y hy; simpa using this, fun L1' y h => by simp at h⟩
    · rename_i h
      obtain ⟨L1, L2, h1, h2, h3, h4⟩ := ih
      refine ⟨z :: L1, L2, by rw [h1]; rfl, by rw [h2]; rfl, h3, fun L1' y hy => ?_⟩
      rcases L1' with _ | ⟨q, L1'⟩
      · simp at hy
        obtain ⟨rfl, rfl⟩ := hy
        intro hlt
        refine h (List.all_eq_true.2 fun w hw => ?_)
        rw [List.mem_cons] at hw
        rcases hw with rfl | hw
        · simpa using hlt
        · rw [h1] at hw
          exact decide_eq_true (h3 w (by simpa using hw))
      · simp at hy
        exact h4 L1' y hy.2
/-- What has been sorted is in order, and what is as urgent stays in its order. -/
theorem sorted_insR {pr : Nat → Nat} {x : Nat} {L : List Nat} (hx : ∀ y ∈ L, y < x) (h : L.Pairwise fun a b => pr b < pr a ∨ pr b = pr a ∧ a < b) : (insR pr x L).Pairwise fun a b => pr b < pr a ∨ pr b = pr a ∧ a < b := by
  obtain ⟨L1, L2, rfl, h2, h3, h4⟩ := insR_split pr x L
  rw [h2]
  obtain ⟨p1, p2, p3⟩ := List.pairwise_append.1 h
  refine List.pairwise_append.2 ⟨p1, List.pairwise_cons.2 ⟨fun y hy => .inl (h3 y hy), p2⟩, fun a ha b hb => ?_⟩
  rw [List.mem_cons] at hb
  rcases hb with rfl | hb
  · have hge : pr b ≤ pr a := by
      rcases snoc_cases L1 with rfl | ⟨L1', y, rfl⟩
      · cases ha
      · have hy := h4 L1' y rfl
        rw [List.mem_append, List.mem_singleton] at ha
        rcases ha with ha | rfl
        · have := (List.pairwise_append.1 p1).2.2 a ha y (by simp)
          omega
        · omega
    have hlt := hx a (by simp [ha])
    rcases Nat.lt_or_eq_of_le hge with h | h
    · exact .inl h
    · exact .inr ⟨h, hlt⟩
  · exact p3 a ha b hb
theorem sorted_sortM {pr : Nat → Nat} : ∀ l : List Nat, l.Pairwise (· < ·) → (sortM pr l).Pairwise fun a b => pr b < pr a ∨ pr b = pr a ∧ a < b := by
  refine snoc_ind (fun _ => .nil) fun l x ih h => ?_
  obtain ⟨p1, _, p3⟩ := List.pairwise_append.1 h
  rw [sortM_snoc]
  exact sorted_insR (fun y hy => p3 y ((mem_sortM l).1 hy) x (by simp)) (ih p1)
/-- By how urgent they are, from b - 1 down to 0. -/
def bucketM (pr : Nat → Nat) (l : List Nat) : Nat → List Nat
  | 0 => []
  | b + 1 => l.filter (fun x => decide (pr x = b)) ++ bucketM pr l b
theorem mem_bucketM {pr : Nat → Nat} {l : List Nat} {x : Nat} : ∀ {b : Nat}, x ∈ bucketM pr l b → pr x < b
  | 0, h => by cases h
  | b + 1, h => by
    rw [bucketM, List.mem_append, List.mem_filter] at h
    rcases h with h | h
    · have := h.2
      simp at this
      omega
    · have := mem_bucketM h
      omega
theorem bucketM_out {pr : Nat → Nat} {l : List Nat} {x : Nat} : ∀ {b : Nat}, b ≤ pr x → bucketM pr (l ++ [x]) b = bucketM pr l b
  | 0, _ => rfl
  | b + 1, h => by
    rw [bucketM, bucketM, bucketM_out (by omega), List.filter_append]
    have : (decide (pr x = b)) = false := decide_eq_false (by omega)
    simp [this]
theorem insR_front {pr : Nat → Nat} {x : Nat} : ∀ {F L : List Nat}, (∀ y ∈ F, ¬ pr y < pr x) → insR pr x (F ++ L) = F ++ insR pr x L
  | [], L, _ => rfl
  | y :: F, L, h => by
    rw [List.cons_append, insR, if_neg, insR_front fun z hz => h z (by simp [hz])]
    · rfl
    · rw [List.all_eq_true]
      intro h'
      have := h' y (by simp)
      simp at this
      exact h y (by simp) this
theorem bucketM_snoc {pr : Nat → Nat} {l : List Nat} {x : Nat} : ∀ {b : Nat}, pr x < b → bucketM pr (l ++ [x]) b = insR pr x (bucketM pr l b)
  | 0, h => by omega
  | b + 1, h => by
    by_cases e : pr x = b
    · rw [bucketM, bucketM, bucketM_out (by omega), List.filter_append, insR_front, insR_all]
      · simp [e]
      · intro y hy
        have := mem_bucketM hy
        omega
      · intro y hy
        have := (List.mem_filter.1 hy).2
        simp at this
        omega
    · rw [bucketM, bucketM, bucketM_snoc (by omega), List.filter_append, insR_front]
      · have : (decide (pr x = b)) = false := decide_eq_false e
        simp [this]
      · intro y hy
        have := (List.mem_filter.1 hy).2
        simp at this
        omega
theorem bucketM_sort {pr : Nat → Nat} {b : Nat} (hb : ∀ x, pr x < b) : ∀ l : List Nat, bucketM pr l b = sortM pr l := by
  refine snoc_ind ?_ fun l x ih => ?_
  · have : ∀ b, bucketM pr [] b = [] := fun b => by induction b <;> simp_all [bucketM]
    rw [this]
    rfl
  · rw [bucketM_snoc (hb x), ih, sortM_snoc]
/-- Numbers as cells. -/
def iv (l : List Nat) : List Value := l.map fun (x : Nat) => .int .i64 (x : Int)
@[simp] theorem length_iv (l : List Nat) : (iv l).length = l.length := by simp [iv]
theorem iv_append (a b : List Nat) : iv (a ++ b) = iv a ++ iv b := by simp [iv]
theorem iv_one (l : List Nat) : ∀ u ∈ iv l, u.oneCell' = true := fun u hu => by
  obtain ⟨x, _, rfl⟩ := List.mem_map.1 hu
  rfl
theorem iv_get {l : List Nat} {i x : Nat} (h : l[i]? = some x) : (iv l)[i]? = some (.int .i64 (x : Int)) := by simp [iv, h]
end Go.Proofs.Ytkeekkdaielipaa
