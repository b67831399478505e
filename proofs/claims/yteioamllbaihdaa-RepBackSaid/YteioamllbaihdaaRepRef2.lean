/-
  The walk of layer 7's reference: Take, whole.
-/
import Derived.Test.YteioamllbaihdaaRepRef
set_option linter.unusedVariables false
set_option maxRecDepth 100000
namespace Go.Proofs.Yteioamllbaihdaa
open Go.RowKit

set_option maxHeartbeats 800000 in
theorem refTake_ev {bb off n m n8 : Nat} {x : Int} {r b : List Int} {w : World} (C : TakeCtx bb off n m n8 253 (x :: r) b w) :
    Calls Try.prog 22 #[.slice (some ⟨bb, off, none⟩) n m] w (RepRet w (takeM b)) := by
  obtain ⟨hr8, hn8, hn, hm, h0, hT⟩ := C
  have hrl := hr8.len
  simp only [List.length_cons] at hrl
  obtain ⟨bb', off', hA, hbb, hcell⟩ := hr8.cell (by omega)
  injection hA with hA
  injection hA with hA1 hA2
  subst hA1 hA2
  have HE := Lib.hid (show takeM b = ((3, x, r), 0) by rw [hT]; simp [takeC])
  have hmin : ∀ W, (Builtin.min_ #[3, 3] 3 #[.int .i64 n, .int .i64 8]).run Try.prog W = .ok (.int .i64 n8) W := by
    intro W
    rw [run_min_int2]
    congr 2
    split <;> omega
  have hc0 := hcell 0 (by omega)
  rw [Nat.add_zero, List.getD_cons_zero] at hc0
  have hc1 := hcell 1 (by omega)
  rw [List.getD_cons_succ, List.getD_cons_zero] at hc1
  have hb1 := fun o => (Below.refl w.heap.size w).alloc (Nat.le_refl _) o
  have cc0 := fun o => ((hb1 o).cell (p := ⟨bb, off, none⟩) hbb).trans hc0
  have hn1 : 1 < n := by omega
  have hn1' : (1 : Int) < (n : Int) := by omega
  have hne : ((n : Int) == 0) = false := by simp; omega
  have hne1 : ((n : Int) == 1) = false := by simp; omega
  have hn88 : n8 ≤ 8 := by omega
  have hn8m : (n8 : Int) ≤ (m : Int) := by omega
  have hn82 : (2 : Int) ≤ (n8 : Int) := by omega
  have hcut := fun W => run_cut2 (P := Try.prog) 22 5 Try.underlying22 1 (by kernel_rfl) (some ⟨bb, off, none⟩) n m .i64 .i64 2 n8 (by omega) (by omega) hn8m W
  simp only [show Int.toNat 2 = 2 from rfl, Int.toNat_natCast] at hcut
  obtain ⟨A1, hA1⟩ : ∃ A1, A1 = cutA (some ⟨bb, off, none⟩) m 2 1 := ⟨_, rfl⟩
  have hr1 := hr8.cut (k := 2) (cap := m) (by omega) (by omega)
  rw [← hA1, List.drop_succ_cons, List.drop_succ_cons, List.drop_zero] at hr1
  rw [← hA1] at hcut
  have HO := Lib.hid (And.intro hr1.oct (show r.length = n8 - 2 by omega))
  clear hrl hn8 hcell hr8 hT hA1
  go_enter Try.func22, Try.ntmps22
  go_wp2
  go_region_held3 (fun w' => w'.cell? ⟨bb, off + 1, none⟩ = some (.int .u8 x))
    (first | (with_reducible exact ((((Below.refl _ _).alloc (Nat.le_refl _) _).drew).cell (p := ⟨bb, off + 1, none⟩) hbb).trans hc1) | (with_reducible exact (((below2 w _ _).drew).cell (p := ⟨bb, off + 1, none⟩) hbb).trans hc1) | (with_reducible exact ((hbw.cell (p := ⟨bb, off + 1, none⟩) hbb).trans hc1)) | (with_reducible exact (((below_three hbw _ _ _).cell (p := ⟨bb, off + 1, none⟩) hbb).trans hc1)))
    ((refine step_app (by rfl) (.tmp 41) (.tmp 46) _ (by rfl) bytesT (base := w.heap.size + 1) (v := .slice (some ⟨w.heap.size + 1, 0, none⟩) 0 0) (xs := bv []) (by rfl) (own_blk (heap_alloc2_new w _ _) rfl (by decide) (by omega)) (by rfl) ((hr1.at (below2 w _ _).drew).src) (bv_one r) (by simp only [maxLen]; omega) (by omega) (by simp) ?_
      intro v2 w2 hown2 hg2 hat2
      obtain ⟨A2, c2, rfl, hl2, hm2⟩ := own_slice hown2
      have hgb : Below (w.heap.size + 1) (w.alloc (.cells #[.int .u8 0, .int .u8 0, .slice none 0 0] 24)) w2 := ((Below.refl _ _).alloc (by simp) _).drew.grown hg2 (by simp) (by simp [Value.ownBlock])
      have hbw : Below w.heap.size w w2 := (hb1 _).trans (hgb.mono (by omega))
      have q0 : w2.cell? ⟨w.heap.size, 0, none⟩ = some (.int .u8 0) := by rw [hgb.cell (p := ⟨_, _, none⟩) (by simp)]; simp
      have q1 : w2.cell? ⟨w.heap.size, 1, none⟩ = some (.int .u8 0) := by rw [hgb.cell (p := ⟨_, _, none⟩) (by simp)]; simp
      have q2 : w2.cell? ⟨w.heap.size, 2, none⟩ = some (.slice none 0 0) := by rw [hgb.cell (p := ⟨_, _, none⟩) (by simp)]; simp
      have z0 : w2.frozen? ⟨w.heap.size, 0, none⟩ = false := by rw [hgb.frozen (p := ⟨_, _, none⟩) (by simp)]; simp
      have z1 : w2.frozen? ⟨w.heap.size, 1, none⟩ = false := by rw [hgb.frozen (p := ⟨_, _, none⟩) (by simp)]; simp
      have z2 : w2.frozen? ⟨w.heap.size, 2, none⟩ = false := by rw [hgb.frozen (p := ⟨_, _, none⟩) (by simp)]; simp
      rw [Nat.zero_add] at hl2
      have HB := Lib.hid (And.intro hbw hown2)
      clear hown2 hg2 hat2 hgb))
  all_goals
    go_wp2
    rw [HE.out]
    have hlr := HO.out.2
    have hown3 : w2.ownsRow (w.heap.size + 1) 5 1 (.slice A2 r.length c2) r.length (bv r) := by have := HB.out.2; rw [Nat.zero_add, ← hlr] at this; exact this
    rw [← hlr] at hl2
    refine bodyPost_ret (v := .tuple #[.agg #[.int .u8 3, .int .u8 x, .slice A2 r.length c2], .int .i64 0]) (by rw [HO.out.2]; simp [results, Try.results22, go_sem, q0, q1, q2]) rfl ?_
    exact ⟨A2, c2, rfl, Rd.of_own HO.out.1 (own_three hown3 _ _ _), hl2, hm2, below_three HB.out.1 _ _ _⟩

theorem refTake_any (A : Option Addr) (n m : Nat) (b : List Int) (w : World) (hr : Rd w.heap.size w A n b) (hn : n ≤ m) (hm : m ≤ maxLen) :
    Calls Try.prog 22 #[.slice A n m] w (RepRet w (takeM b)) := by
  have hlen := hr.len
  unfold maxLen at hm
  rcases Nat.eq_zero_or_pos n with h0 | h0
  · subst h0
    have hb0 : b = [] := List.eq_nil_of_length_eq_zero hlen
    subst hb0
    clear hlen
    go_enter Try.func22, Try.ntmps22
    go_wp2
    exact bodyPost_ret (v := .tuple #[.agg #[.int .u8 0, .int .u8 0, .slice none 0 0], .int .i64 5]) (by simp [results, Try.results22, go_sem]) rfl ⟨none, 0, rfl, Rd.nil _ _ _, Nat.le_refl _, Nat.zero_le _, (Below.refl _ _).alloc (Nat.le_refl _) _⟩
  obtain ⟨n8, hn8⟩ : ∃ k, k = min n 8 := ⟨_, rfl⟩
  have hr8 := hr.take (k := n8) (by omega)
  have h8 : b.take n8 = b.take 8 := by rw [hn8, ← hlen, Nat.min_comm, ← List.take_eq_take_min]
  obtain ⟨f, rest, hfr⟩ : ∃ f rest, b.take n8 = f :: rest := by
    rcases hx : b.take n8 with _ | ⟨f, rest⟩
    · have := hr8.len
      rw [hx] at this
      simp at this
      omega
    · exact ⟨f, rest, rfl⟩
  have hT : takeM b = takeC f rest := by simp only [takeM, ← h8, hfr]
  rw [hfr] at hr8
  obtain ⟨bb, off, rfl, hbb, hcell⟩ := hr8.cell (by omega)
  have C : TakeCtx bb off n m n8 f rest b w := ⟨hr8, hn8, hn, hm, h0, hT⟩
  by_cases hf : f = 254 ∨ f = 253
  · rcases rest with _ | ⟨x, r⟩
    · have hc0 := hcell 0 (by omega)
      rw [Nat.add_zero, List.getD_cons_zero] at hc0
      have hrl := hr8.len
      have hn1 : n = 1 := by simp at hrl; omega
      subst hn1
      have HE := Lib.hid (show takeM b = ((0, 0, []), 5) by rw [hT]; rcases hf with rfl | rfl <;> simp [takeC])
      have hb1 := fun o => (Below.refl w.heap.size w).alloc (Nat.le_refl _) o
      have cc0 := fun o => ((hb1 o).cell (p := ⟨bb, off, none⟩) hbb).trans hc0
      clear hlen hn8 h8 hfr hcell hr8 hT C hrl
      rcases hf with rfl | rfl
      all_goals
        go_enter Try.func22, Try.ntmps22
        go_wp2
        rw [HE.out]
        exact bodyPost_ret (v := .tuple #[.agg #[.int .u8 0, .int .u8 0, .slice none 0 0], .int .i64 5]) (by simp [results, Try.results22, go_sem]) rfl ⟨none, 0, rfl, Rd.nil _ _ _, Nat.le_refl _, Nat.zero_le _, hb1 _⟩
    · rcases hf with rfl | rfl
      · exact refTake_neg C
      · exact refTake_ev C
  · exact refTake_c C (fun h => hf (.inl h)) (fun h => hf (.inr h))
end Go.Proofs.Yteioamllbaihdaa
