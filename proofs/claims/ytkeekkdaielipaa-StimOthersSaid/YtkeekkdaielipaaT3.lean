/-
  Layer 14: StimOthers: what it plays.
-/
import Derived.Test.YtkeekkdaielipaaT1
import Derived.Test.YtkeekkdaielipaaSLg
set_option linter.unusedVariables false
set_option maxRecDepth 100000
namespace Go.Proofs.Ytkeekkdaielipaa
open Go.RowKit
attribute [local irreducible] TL TC TQ TK TO Qt TA

/-- The two lists. -/
def oList (i : Nat) : ListI := ⟨2 * i, [[⟨1, 0, 2 * i⟩], [⟨1, 0, 2 * i + 1⟩]], true, 0, 0, 0, true, false⟩
def oLists : List ListI := [oList 0, oList 1]
/-- What came of a list by a number. -/
def oPart (x y : Int) (n : Nat) : List (List Int) := if n = 0 then [] else if n = 1 then [[x]] else [[x], [y]]
def oS (b0 b1 b2 b3 : Int) (n0 n1 : Nat) : Sm := [oPart b0 b1 n0, oPart b2 b3 n1, [], []]
theorem three {n : Nat} (h : n ≤ 2) : n = 0 ∨ n = 1 ∨ n = 2 := by omega
section
variable (b0 b1 b2 b3 : Int) {n0 n1 : Nat} (h0 : n0 ≤ 2) (h1 : n1 ≤ 2)
include h0 h1
theorem o_take0 : takeS (oS b0 b1 b2 b3 n0 n1) oLists 0 [b0] = (oS b0 b1 b2 b3 1 n1, true) := by
  rcases three h0 with rfl | rfl | rfl <;> rcases three h1 with rfl | rfl | rfl <;> rfl
theorem o_take2 : takeS (oS b0 b1 b2 b3 n0 n1) oLists 2 [b2] = (oS b0 b1 b2 b3 n0 1, true) := by
  rcases three h0 with rfl | rfl | rfl <;> rcases three h1 with rfl | rfl | rfl <;> rfl
theorem o_take1 : takeS (oS b0 b1 b2 b3 n0 n1) oLists 1 [b1] = (if n0 = 1 then (oS b0 b1 b2 b3 2 n1, true) else (oS b0 b1 b2 b3 0 n1, false)) := by
  rcases three h0 with rfl | rfl | rfl <;> rcases three h1 with rfl | rfl | rfl <;> rfl
theorem o_take3 : takeS (oS b0 b1 b2 b3 n0 n1) oLists 3 [b3] = (if n1 = 1 then (oS b0 b1 b2 b3 n0 2, true) else (oS b0 b1 b2 b3 n0 0, false)) := by
  rcases three h0 with rfl | rfl | rfl <;> rcases three h1 with rfl | rfl | rfl <;> rfl
def oWant0 : List Int := if n0 = 2 then [b0, b1, 0, 0] else [0, 0, 0, 0]
def oM (r : List Int) : Mm := ⟨r, []⟩
theorem o_apply0 : applyS (oS b0 b1 b2 b3 n0 n1) (oM [0, 0, 0, 0]) 0 (oList 0).tabs = (if n0 = 2 then (oS b0 b1 b2 b3 0 n1, oM [b0, b1, 0, 0], true) else (oS b0 b1 b2 b3 n0 n1, oM [0, 0, 0, 0], false)) := by
  rcases three h0 with rfl | rfl | rfl <;> rcases three h1 with rfl | rfl | rfl <;> rfl
theorem o_apply1 (r0 r1 : Int) : applyS (oS b0 b1 b2 b3 n0 n1) (oM [r0, r1, 0, 0]) 1 (oList 1).tabs = (if n1 = 2 then (oS b0 b1 b2 b3 n0 0, oM [r0, r1, b2, b3], true) else (oS b0 b1 b2 b3 n0 n1, oM [r0, r1, 0, 0], false)) := by
  rcases three h0 with rfl | rfl | rfl <;> rcases three h1 with rfl | rfl | rfl <;> rfl
end
theorem oM_ok (r : List Int) (h : r.length ≤ 1024) : MmOk (oM r) := ⟨h, Nat.zero_le _, fun s h => by simp [oM] at h⟩
theorem o_small : ∀ l ∈ oLists, SmallL l := fun l hl => by
  simp only [oLists, List.mem_cons, List.not_mem_nil, or_false] at hl
  rcases hl with rfl | rfl <;> exact ⟨by simp [oList], by simp [oList]⟩
/-! ### The lists as objects -/
structure OL where
  g1 : Nat
  g2 : Nat
  g3 : Nat
def olA (i : Nat) (x : OL) : Asn := starL [blk x.g1 [.int .u8 1, .int .u8 0, .int .u32 ((2 * i : Nat) : Int)] 38, blk x.g2 [.int .u8 1, .int .u8 0, .int .u32 ((2 * i + 1 : Nat) : Int)] 38, blk x.g3 [.slice (some ⟨x.g1, 0, none⟩) 1 1, .slice (some ⟨x.g2, 0, none⟩) 1 1] 39]
def olCells (i : Nat) (x : OL) : List Value := [.int .i64 ((2 * i : Nat) : Int), .slice (some ⟨x.g3, 0, none⟩) 2 2, .bool true, .int .u8 0, .int .u8 0, .int .u8 0, .bool true, .bool false]
theorem ol_in {S : Nat → Prop} {w0 : World} {i : Nat} {x : OL} (hi : i < 2) (h : Ro S w0 (olA i x)) : InList S w0 (olCells i x) (oList i) := by
  have h1 := Ro.star h (i := 0) rfl
  have h2 := Ro.star h (i := 1) rfl
  have h3 := Ro.star h (i := 2) rfl
  refine ⟨⟨some ⟨x.g3, 0, none⟩, 2, 2, by simp [olCells, oList], ?_, Nat.le_refl _, by simp [maxLen]⟩, by simp [oList]; omega, Nat.zero_le _, Nat.zero_le _, Nat.zero_le _⟩
  refine InS.blk (sz := 1) (xs := (oList i).tabs) (rows := [[.slice (some ⟨x.g1, 0, none⟩) 1 1], [.slice (some ⟨x.g2, 0, none⟩) 1 1]]) h3 rfl (by simp) (fun j r y hr hx => ?_)
  match j, hr, hx with
  | 0, hr, hx =>
    injection hr with hr
    injection hx with hx
    subst hr hx
    exact ⟨_, 1, 1, rfl, InS.blk (sz := 3) (xs := [(⟨1, 0, 2 * i⟩ : EntryI)]) (rows := [[.int .u8 1, .int .u8 0, .int .u32 ((2 * i : Nat) : Int)]]) h1 rfl (by simp) (fun j r y hr hx => by
      match j, hr, hx with
      | 0, hr, hx =>
        injection hr with hr
        injection hx with hx
        subst hr hx
        exact ⟨rfl, by simp, by simp, by dsimp only; omega⟩), Nat.le_refl _, by simp [maxLen]⟩
  | 1, hr, hx =>
    injection hr with hr
    injection hx with hx
    subst hr hx
    exact ⟨_, 1, 1, rfl, InS.blk (sz := 3) (xs := [(⟨1, 0, 2 * i + 1⟩ : EntryI)]) (rows := [[.int .u8 1, .int .u8 0, .int .u32 ((2 * i + 1 : Nat) : Int)]]) h2 rfl (by simp) (fun j r y hr hx => by
      match j, hr, hx with
      | 0, hr, hx =>
        injection hr with hr
        injection hx with hx
        subst hr hx
        exact ⟨rfl, by simp, by simp, by dsimp only; omega⟩), Nat.le_refl _, by simp [maxLen]⟩
theorem ols_in {S : Nat → Prop} {w0 : World} {A : Option Addr} {c : Nat} {x y : OL} (h : Ro S w0 (row 42 8 (.slice A 2 c) 2 (olCells 0 x ++ olCells 1 y))) (h0 : Ro S w0 (olA 0 x)) (h1 : Ro S w0 (olA 1 y)) : InS S w0 8 (InList S w0) A 2 oLists := by
  refine InS.rows [olCells 0 x, olCells 1 y] rfl rfl (fun r hr => by simp at hr; rcases hr with rfl | rfl <;> rfl) (by have := h.rowV; simpa using this) (fun j r z hr hx => ?_)
  match j, hr, hx with
  | 0, hr, hx =>
    injection hr with hr
    injection hx with hx
    subst hr hx
    exact ol_in (by omega) h0
  | 1, hr, hx =>
    injection hr with hr
    injection hx with hx
    subst hr hx
    exact ol_in (by omega) h1
end Go.Proofs.Ytkeekkdaielipaa
