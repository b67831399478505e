/-
  Layer 8: Page, Set and Copy, walked.
-/
import Derived.Test.YtidekbijkknlmaaM5
set_option linter.unusedVariables false
set_option maxRecDepth 100000
namespace Go.Proofs.Ytidekbijkknlmaa
open Go.RowKit
attribute [local irreducible] TL TC TQ TK TO Qt TA
section
variable {p : Nat} {m : MemV} {w : World}
/-- What Page tells. -/
def pageM (M : Mm) (who : Nat) (seg : Int) : Int × Int :=
  if who ≠ 1 ∧ who ≠ 2 then (0, 1)
  else if 0 ≤ seg then match M.segs[seg.toNat]? with
    | some s => (((if who = 1 then s.s0 else s.s1 : Nat) : Int), 0)
    | none => (0, 82)
  else (0, 82)
/-! ### Parts of memory taken out -/
def SegV.see (s : SegV) (x y : Nat) : SegV := ⟨s.b, s.pv, s.pgs, ⟨s.s.ln, s.s.dat, x, y⟩⟩
theorem see_focus {S : Nat → Prop} {w0 w : World} {F : List Asn} {a : Nat} {s : SegV} (hs : m.segs[a]? = some s) (h : St S w0 (memA p m :: F) w) :
    St S w0 (blk s.b [s.pv, .int .i64 s.s.s0, .int .i64 s.s.s1] 154 :: starL ((segL s).set 0 emp) :: starL ((memL p m).set (3 + a) emp) :: F) w :=
  st_take (j := 0) (i := 0) (st_take (j := 0) (i := 3 + a) h rfl (memL_seg hs)) rfl rfl
theorem see_unfocus {S : Nat → Prop} {w0 w : World} {F : List Asn} {a : Nat} {s : SegV} (hs : m.segs[a]? = some s) (x y : Nat) (h : St S w0 (blk s.b [s.pv, .int .i64 x, .int .i64 y] 154 :: starL ((segL s).set 0 emp) :: starL ((memL p m).set (3 + a) emp) :: F) w) :
    St S w0 (memA p { m with segs := m.segs.set a (s.see x y) } :: F) w := by
  have h1 : St S w0 (segA (s.see x y) :: starL ((memL p m).set (3 + a) emp) :: F) w := st_put (j := 0) (i := 0) h rfl rfl
  have h2 := st_put (j := 0) (i := 3 + a) (l := (memL p m).set (3 + a) emp) h1 rfl (by
    rw [List.getElem?_set_self]
    exact (List.getElem?_eq_some_iff.1 (memL_seg hs)).1)
  rw [List.set_set, memL_set (s' := s.see x y) hs rfl] at h2
  exact h2
theorem page_focus {S : Nat → Prop} {w0 w : World} {F : List Asn} {a k : Nat} {s : SegV} {v : Value} {l : List Int} (hs : m.segs[a]? = some s) (hv : s.pgs[k]? = some v) (hl : s.s.dat[k]? = some l) (h : St S w0 (memA p m :: F) w) :
    St S w0 (bytesA v l :: starL ((segL s).set (3 + k) emp) :: starL ((memL p m).set (3 + a) emp) :: F) w :=
  st_take (j := 0) (i := 3 + k) (st_take (j := 0) (i := 3 + a) h rfl (memL_seg hs)) rfl (segL_page hv hl)
theorem page_unfocus {S : Nat → Prop} {w0 w : World} {F : List Asn} {a k : Nat} {s : SegV} {v : Value} {l : List Int} (l' : List Int) (hs : m.segs[a]? = some s) (hv : s.pgs[k]? = some v) (hl : s.s.dat[k]? = some l) (h : St S w0 (bytesA v l' :: starL ((segL s).set (3 + k) emp) :: starL ((memL p m).set (3 + a) emp) :: F) w) :
    St S w0 (memA p { m with segs := m.segs.set a (s.put k l') } :: F) w := by
  have h1 := st_put (j := 0) (i := 3 + k) h rfl (by
    rw [List.getElem?_set_self]
    exact (List.getElem?_eq_some_iff.1 (segL_page hv hl)).1)
  rw [List.set_set, segL_set hv (List.getElem?_eq_some_iff.1 hl).1] at h1
  have h2 := st_put (j := 0) (i := 3 + a) (l := (memL p m).set (3 + a) emp) (Y := segA (s.put k l')) (hp := starL ((memL p m).set (3 + a) emp) :: F) h1 rfl (by
    rw [List.getElem?_set_self]
    exact (List.getElem?_eq_some_iff.1 (memL_seg hs)).1)
  rw [List.set_set, memL_set (s' := s.put k l') hs rfl] at h2
  exact h2

/-- Is there such a page? -/
def thereM (M : Mm) (seg : Int) (ps : List Int) : Option Seg :=
  if 0 ≤ seg then match M.segs[seg.toNat]? with
    | some s => if ps.all (fun p => decide (0 ≤ p ∧ p ≤ (s.dat.length : Int) - 1)) then some s else none
    | none => none
  else none
theorem ofV_there {w : World} (h : (memA p m).C w) (seg : Int) (ps : List Int) : (∃ s, 0 ≤ seg ∧ m.segs[seg.toNat]? = some s ∧ thereM m.abs seg ps = some s.s ∧ ofV m seg ps = .pointer (some ⟨s.b, 0, none⟩)) ∨ (thereM m.abs seg ps = none ∧ ofV m seg ps = .pointer none) := by
  unfold thereM ofV
  by_cases h0 : 0 ≤ seg
  · rw [if_pos h0, if_pos h0]
    cases hs : m.segs[seg.toNat]? with
    | none => right; simp [MemV.abs, hs]
    | some s =>
      rw [abs_seg hs]
      dsimp only
      have hf : (fun p : Int => decide (0 ≤ p ∧ p ≤ (s.s.dat.length : Int) - 1)) = okPage s := by
        funext p
        rw [okPage, segA_len (memA_seg h hs)]
      rw [hf]
      cases hall : ps.all (okPage s)
      · exact .inr ⟨rfl, rfl⟩
      · exact .inl ⟨s, h0, rfl, rfl, rfl⟩
  · rw [if_neg h0, if_neg h0]
    exact .inr ⟨rfl, rfl⟩
/-- What Set leaves and tells. -/
def setM (M : Mm) (who : Nat) (seg page : Int) : Mm × Int :=
  if who = 0 ∨ who > 3 then (M, 1)
  else match thereM M seg [page] with
    | none => (M, 82)
    | some s => ({ M with segs := M.segs.set seg.toNat { s with s0 := if who = 2 then s.s0 else page.toNat, s1 := if who = 1 then s.s1 else page.toNat } }, 0)
end
end Go.Proofs.Ytidekbijkknlmaa
