/-
  The walks of layer 7's reference: Put, Take, Code; and the program's Code.
-/
import Derived.Test.YteioamllbaihdaaRep
set_option linter.unusedVariables false
set_option maxRecDepth 100000
namespace Go.Proofs.Yteioamllbaihdaa
open Go.RowKit

theorem refPut_1 (c : Int) (A : Option Addr) (n m : Nat) (b : List Int) (w : World) (hr : Rd w.heap.size w A n b) (hn : n ≤ m) (hm : m ≤ maxLen) (hc0 : 0 ≤ c) (hc1 : c ≤ 255) :
    Calls Try.prog 18 #[.agg #[.int .u8 1, .int .u8 c, .slice A n m]] w (PutPost w (putM 1 c b)) := by
  have hlen := hr.len
  unfold maxLen at hm
  by_cases hcz : c = 0
  · subst hcz
    by_cases hn7 : (n : Int) ≤ 7
    · have HE := Lib.hid (show putM 1 0 b = some ([255] ++ b) by simp [putM, headM, hlen, hn7])
      have HL := Lib.hid hlen
      clear hlen
      go_enter Try.func18, Try.ntmps18
      go_wp2_with (with_reducible refine stop_append ?_)
      refine Stop.go ?_
      refine wp_app rfl (.tmp 17) (.tmp 19) _ rfl bytesT (base := w.heap.size) (v := .slice (some ⟨w.heap.size + 1, 0, none⟩) 1 1) (xs := bv [255]) rfl (own_blk (heap_alloc2_new w _ _) rfl (by decide) (by omega)) rfl ((hr.at (below2 w _ _)).src) (bv_one b) (by simp only [maxLen]; omega) (by omega) (by simp; omega) ?_
      intro v2 w2 hown2 hg2 hat2
      obtain ⟨A2, c2, rfl, hl2, hm2⟩ := own_slice hown2
      have HB2 := Lib.hid (And.intro hown2 hg2)
      clear hown2 hg2 hat2 hl2
      go_wp2
      go_ret2
      rw [HE.out]
      exact ownRet_app (f := fun x => .tuple #[x, .int .i64 0]) (below2 w _ _) (Nat.le_refl _) (by simp [Value.ownBlock]) HB2.out.1 HB2.out.2 rfl HL.out
    · have HE := Lib.hid (show putM 1 0 b = none by simp [putM, headM, hlen, hn7])
      clear hlen
      go_enter Try.func18, Try.ntmps18
      go_wp2
      go_ret2
      rw [HE.out]
      exact ⟨rfl, (Below.refl _ _).alloc (Nat.le_refl _) _⟩
  · have hcz' : (c == 0) = false := by simpa using hcz
    have HE := Lib.hid (show putM 1 c b = none by simp [putM, headM, hcz])
    clear hlen
    go_enter Try.func18, Try.ntmps18
    go_wp2
    go_ret2
    rw [HE.out]
    exact ⟨rfl, (Below.refl _ _).alloc (Nat.le_refl _) _⟩

theorem refPut_2 (c : Int) (A : Option Addr) (n m : Nat) (b : List Int) (w : World) (hr : Rd w.heap.size w A n b) (hn : n ≤ m) (hm : m ≤ maxLen) (hc0 : 0 ≤ c) (hc1 : c ≤ 255) :
    Calls Try.prog 18 #[.agg #[.int .u8 2, .int .u8 c, .slice A n m]] w (PutPost w (putM 2 c b)) := by
  have hlen := hr.len
  unfold maxLen at hm
  by_cases hn7 : n = 0
  · subst hn7
    have hb0 : b = [] := List.eq_nil_of_length_eq_zero hlen
    subst hb0
    have HE := Lib.hid (show putM 2 c [] = some [254, c] by simp [putM, headM])
    clear hlen
    go_enter Try.func18, Try.ntmps18
    go_wp2
    go_ret2
    rw [HE.out]
    exact ownRet_mk (l := [254, c]) (f := fun x => .tuple #[x, .int .i64 0]) (heap_alloc2_new w _ _) rfl (by decide) (by omega) (below2 w _ _)
  · have hn7' : ((n : Int) == 0) = false := by simp; omega
    have HE := Lib.hid (show putM 2 c b = none by simp [putM, headM, hlen]; omega)
    clear hlen
    go_enter Try.func18, Try.ntmps18
    go_wp2
    go_ret2
    rw [HE.out]
    exact ⟨rfl, (Below.refl _ _).alloc (Nat.le_refl _) _⟩

theorem refPut_3 (c : Int) (A : Option Addr) (n m : Nat) (b : List Int) (w : World) (hr : Rd w.heap.size w A n b) (hn : n ≤ m) (hm : m ≤ maxLen) (hc0 : 0 ≤ c) (hc1 : c ≤ 255) :
    Calls Try.prog 18 #[.agg #[.int .u8 3, .int .u8 c, .slice A n m]] w (PutPost w (putM 3 c b)) := by
  have hlen := hr.len
  unfold maxLen at hm
  by_cases hn7 : (n : Int) ≤ 6
  · have HE := Lib.hid (show putM 3 c b = some ([253, c] ++ b) by simp [putM, headM, hlen, hn7])
    have HL := Lib.hid hlen
    clear hlen
    go_enter Try.func18, Try.ntmps18
    go_wp2_with (with_reducible refine stop_append ?_)
    refine Stop.go ?_
    refine wp_app rfl (.tmp 38) (.tmp 40) _ rfl bytesT (base := w.heap.size) (v := .slice (some ⟨w.heap.size + 1, 0, none⟩) 2 2) (xs := bv [253, c]) rfl (own_blk (heap_alloc2_new w _ _) rfl (by decide) (by omega)) rfl ((hr.at (below2 w _ _)).src) (bv_one b) (by simp only [maxLen]; omega) (by omega) (by simp; omega) ?_
    intro v2 w2 hown2 hg2 hat2
    obtain ⟨A2, c2, rfl, hl2, hm2⟩ := own_slice hown2
    have HB2 := Lib.hid (And.intro hown2 hg2)
    clear hown2 hg2 hat2 hl2
    go_wp2
    go_ret2
    rw [HE.out]
    exact ownRet_app (f := fun x => .tuple #[x, .int .i64 0]) (below2 w _ _) (Nat.le_refl _) (by simp [Value.ownBlock]) HB2.out.1 HB2.out.2 rfl HL.out
  · have HE := Lib.hid (show putM 3 c b = none by simp [putM, headM, hlen, hn7])
    clear hlen
    go_enter Try.func18, Try.ntmps18
    go_wp2
    go_ret2
    rw [HE.out]
    exact ⟨rfl, (Below.refl _ _).alloc (Nat.le_refl _) _⟩

theorem refPut_4 (c : Int) (A : Option Addr) (n m : Nat) (b : List Int) (w : World) (hr : Rd w.heap.size w A n b) (hn : n ≤ m) (hm : m ≤ maxLen) (hc0 : 0 ≤ c) (hc1 : c ≤ 255) :
    Calls Try.prog 18 #[.agg #[.int .u8 4, .int .u8 c, .slice A n m]] w (PutPost w (putM 4 c b)) := by
  have hlen := hr.len
  unfold maxLen at hm
  by_cases hcz : c ≤ 191
  · by_cases hn7 : (n : Int) ≤ 7
    · have HE := Lib.hid (show putM 4 c b = some ([c] ++ b) by simp [putM, headM, hlen, hn7, hcz])
      have HL := Lib.hid hlen
      clear hlen
      go_enter Try.func18, Try.ntmps18
      go_wp2_with (with_reducible refine stop_append ?_)
      refine Stop.go ?_
      refine wp_app rfl (.tmp 55) (.tmp 57) _ rfl bytesT (base := w.heap.size) (v := .slice (some ⟨w.heap.size + 1, 0, none⟩) 1 1) (xs := bv [c]) rfl (own_blk (heap_alloc2_new w _ _) rfl (by decide) (by omega)) rfl ((hr.at (below2 w _ _)).src) (bv_one b) (by simp only [maxLen]; omega) (by omega) (by simp; omega) ?_
      intro v2 w2 hown2 hg2 hat2
      obtain ⟨A2, c2, rfl, hl2, hm2⟩ := own_slice hown2
      have HB2 := Lib.hid (And.intro hown2 hg2)
      clear hown2 hg2 hat2 hl2
      go_wp2
      go_ret2
      rw [HE.out]
      exact ownRet_app (f := fun x => .tuple #[x, .int .i64 0]) (below2 w _ _) (Nat.le_refl _) (by simp [Value.ownBlock]) HB2.out.1 HB2.out.2 rfl HL.out
    · have HE := Lib.hid (show putM 4 c b = none by simp [putM, headM, hlen, hn7])
      clear hlen
      go_enter Try.func18, Try.ntmps18
      go_wp2
      go_ret2
      rw [HE.out]
      exact ⟨rfl, (Below.refl _ _).alloc (Nat.le_refl _) _⟩
  · have hcz' : decide (c ≤ 191) = false := by simpa using hcz
    have HE := Lib.hid (show putM 4 c b = none by simp [putM, headM, hcz])
    clear hlen
    go_enter Try.func18, Try.ntmps18
    go_wp2
    go_ret2
    rw [HE.out]
    exact ⟨rfl, (Below.refl _ _).alloc (Nat.le_refl _) _⟩

theorem refPut_any (k c : Int) (A : Option Addr) (n m : Nat) (b : List Int) (w : World) (hr : Rd w.heap.size w A n b) (hn : n ≤ m) (hm : m ≤ maxLen) (hc0 : 0 ≤ c) (hc1 : c ≤ 255) :
    Calls Try.prog 18 #[.agg #[.int .u8 k, .int .u8 c, .slice A n m]] w (PutPost w (putM k c b)) := by
  by_cases h1 : k = 1
  · subst h1; exact refPut_1 c A n m b w hr hn hm hc0 hc1
  by_cases h2 : k = 2
  · subst h2; exact refPut_2 c A n m b w hr hn hm hc0 hc1
  by_cases h3 : k = 3
  · subst h3; exact refPut_3 c A n m b w hr hn hm hc0 hc1
  by_cases h4 : k = 4
  · subst h4; exact refPut_4 c A n m b w hr hn hm hc0 hc1
  have HE := Lib.hid (show putM k c b = none by simp [putM, headM, h1, h2, h3, h4])
  have hk1 : (k == 1) = false := by simpa using h1
  have hk2 : (k == 2) = false := by simpa using h2
  have hk3 : (k == 3) = false := by simpa using h3
  have hk4 : (k == 4) = false := by simpa using h4
  clear h1 h2 h3 h4
  go_enter Try.func18, Try.ntmps18
  go_wp2
  go_ret2
  rw [HE.out]
  exact ⟨rfl, (Below.refl _ _).alloc (Nat.le_refl _) _⟩

/-- An error's code on the bus. -/
def codeM (e : Int) : Int := if e < 0 then 0 else e % 256
theorem code_any (e : Int) (w : World) (h0 : -9223372036854775808 ≤ e) (h1 : e ≤ 9223372036854775807) : Calls Try.prog 19 #[.int .i64 e] w fun r w' => r = .returned (.int .u8 (codeM e)) ∧ w = w' := by
  by_cases h : e < 0
  · have HE := Lib.hid (show codeM e = 0 by simp [codeM, h])
    rw [HE.out]
    go_enter Try.func19, Try.ntmps19
    go_wp2
    go_ret
    exact ⟨rfl, rfl⟩
  · have HE := Lib.hid (show codeM e = e % 256 by simp [codeM, h])
    rw [HE.out]
    go_enter Try.func19, Try.ntmps19
    go_wp2
    go_ret
    exact ⟨rfl, rfl⟩
theorem refCode_any (e : Int) (w : World) (h0 : -9223372036854775808 ≤ e) (h1 : e ≤ 9223372036854775807) : Calls Try.prog 20 #[.int .i64 e] w fun r w' => r = .returned (.int .u8 (codeM e)) ∧ w = w' := by
  by_cases h : e < 0
  · have HE := Lib.hid (show codeM e = 0 by simp [codeM, h])
    rw [HE.out]
    go_enter Try.func20, Try.ntmps20
    go_wp2
    go_ret
    exact ⟨rfl, rfl⟩
  · have HE := Lib.hid (show codeM e = e % 256 by simp [codeM, h])
    rw [HE.out]
    go_enter Try.func20, Try.ntmps20
    go_wp2
    go_ret
    exact ⟨rfl, rfl⟩

/-- What is known of bytes of which there is one. -/
structure TakeCtx (bb off n m n8 : Nat) (f : Int) (rest b : List Int) (w : World) : Prop where
  rd : Rd w.heap.size w (some ⟨bb, off, none⟩) n8 (f :: rest)
  n8e : n8 = min n 8
  nm : n ≤ m
  mx : m ≤ 2 ^ 63 - 1
  pos : 0 < n
  tk : takeM b = takeC f rest

set_option maxHeartbeats 800000 in
theorem refTake_c {bb off n m n8 : Nat} {f : Int} {rest b : List Int} {w : World} (C : TakeCtx bb off n m n8 f rest b w) (e4 : f ≠ 254) (e3 : f ≠ 253) :
    Calls Try.prog 22 #[.slice (some ⟨bb, off, none⟩) n m] w (RepRet w (takeM b)) := by
  obtain ⟨hr8, hn8, hn, hm, h0, hT⟩ := C
  have HT := Lib.hid hT
  clear hT
  have hrl := hr8.len
  rw [List.length_cons] at hrl
  obtain ⟨hf0, hf1⟩ := hr8.oct f (by simp)
  obtain ⟨bb', off', hA, hbb, hcell⟩ := hr8.cell (by omega)
  injection hA with hA
  injection hA with hA1 hA2
  subst hA1 hA2
  have hmin : ∀ W, (Builtin.min_ #[3, 3] 3 #[.int .i64 n, .int .i64 8]).run Try.prog W = .ok (.int .i64 n8) W := by
    intro W
    rw [run_min_int2]
    congr 2
    split <;> omega
  have hne : ((n : Int) == 0) = false := by simp; omega
  have hn88 : n8 ≤ 8 := by omega
  have hn8m : (n8 : Int) ≤ (m : Int) := by omega
  have hc0 := hcell 0 (by omega)
  rw [Nat.add_zero, List.getD_cons_zero] at hc0
  have HR := Lib.hid (And.intro hr8.oct.tail hrl)
  have hb1 := fun o => (Below.refl w.heap.size w).alloc (Nat.le_refl _) o
  have cc0 := fun o => ((hb1 o).cell (p := ⟨bb, off, none⟩) hbb).trans hc0
  have e4' : (f == 254) = false := by simpa using e4
  have e3' : (f == 253) = false := by simpa using e3
  have hcut := fun W => run_cut2 (P := Try.prog) 22 5 Try.underlying22 1 (by kernel_rfl) (some ⟨bb, off, none⟩) n m .i64 .i64 1 n8 (by omega) (by omega) hn8m W
  simp only [Int.toNat_one, Int.toNat_natCast] at hcut
  obtain ⟨A1, hA1⟩ : ∃ A1, A1 = cutA (some ⟨bb, off, none⟩) m 1 1 := ⟨_, rfl⟩
  have hr1 := hr8.cut (k := 1) (cap := m) (by omega) (by omega)
  rw [← hA1, List.drop_succ_cons, List.drop_zero] at hr1
  rw [← hA1] at hcut
  have n80 : 1 ≤ n8 := by omega
  clear hrl hn8 hcell hr8 hA1
  by_cases hs1 : n = 1
  case' pos => have hs1' : ((n : Int) == 1) = true := by simp [hs1]
  case' neg => have hs1' : ((n : Int) == 1) = false := by simp; omega
  all_goals
    clear hs1
    go_enter Try.func22, Try.ntmps22
    go_wp2_with (with_reducible refine stop_append ?_)
    refine Stop.go ?_
    refine wp_app rfl (.tmp 49) (.tmp 54) _ rfl bytesT (base := w.heap.size + 1) (v := .slice (some ⟨w.heap.size + 1, 0, none⟩) 0 0) (xs := bv []) rfl (own_blk (heap_alloc2_new w _ _) rfl (by decide) (by omega)) rfl ((hr1.at (below2 w _ _)).src) (bv_one rest) (by simp only [maxLen]; omega) (by omega) (by simp) ?_
    intro v2 w2 hown2 hg2 hat2
    obtain ⟨A2, c2, rfl, hl2, hm2⟩ := own_slice hown2
    have hgb : Below (w.heap.size + 1) (w.alloc (.cells #[.int .u8 0, .int .u8 0, .slice none 0 0] 24)) w2 := ((Below.refl _ _).alloc (by simp) _).grown hg2 (by simp) (by simp [Value.ownBlock])
    have q0 : w2.cell? ⟨w.heap.size, 0, none⟩ = some (.int .u8 0) := by rw [hgb.cell (p := ⟨_, _, none⟩) (by simp)]; simp
    have q1 : w2.cell? ⟨w.heap.size, 1, none⟩ = some (.int .u8 0) := by rw [hgb.cell (p := ⟨_, _, none⟩) (by simp)]; simp
    have q2 : w2.cell? ⟨w.heap.size, 2, none⟩ = some (.slice none 0 0) := by rw [hgb.cell (p := ⟨_, _, none⟩) (by simp)]; simp
    have z0 : w2.frozen? ⟨w.heap.size, 0, none⟩ = false := by rw [hgb.frozen (p := ⟨_, _, none⟩) (by simp)]; simp
    have z1 : w2.frozen? ⟨w.heap.size, 1, none⟩ = false := by rw [hgb.frozen (p := ⟨_, _, none⟩) (by simp)]; simp
    have z2 : w2.frozen? ⟨w.heap.size, 2, none⟩ = false := by rw [hgb.frozen (p := ⟨_, _, none⟩) (by simp)]; simp
    have hbw : Below w.heap.size w w2 := (hb1 _).trans (hgb.mono (by omega))
    have cc2 := (hbw.cell (p := ⟨bb, off, none⟩) hbb).trans hc0
    have hz := hgb.size
    simp at hz
    rw [Nat.zero_add] at hl2
    have HB := Lib.hid (And.intro hbw hown2)
    clear hown2 hg2 hat2 hgb hbw hcut hmin cc0 hb1
    have hlr : rest.length = n8 - 1 := by have := HR.out.2; omega
    have hown3 : w2.ownsRow (w.heap.size + 1) 5 1 (.slice A2 rest.length c2) rest.length (bv rest) := by have := HB.out.2; rw [Nat.zero_add, ← hlr] at this; exact this
    rw [← hlr] at hl2
    have HO := Lib.hid (And.intro hown3 hlr)
    clear hown3 hlr
    by_cases h1 : f = 255
    · subst h1
      have HE := Lib.hid (show takeM b = ((1, 0, rest), 0) by rw [HT.out]; simp [takeC])
      clear HT
      go_wp2
      rw [HE.out]
      refine bodyPost_ret (v := .tuple #[.agg #[.int .u8 1, .int .u8 0, .slice A2 rest.length c2], .int .i64 0]) (by rw [HO.out.2]; simp [results, Try.results22, go_sem, q0, q1, q2]) rfl ?_
      exact ⟨A2, c2, rfl, Rd.of_own HR.out.1 (own_three HO.out.1 _ _ _), hl2, hm2, below_three HB.out.1 _ _ _⟩
    have h1' : (f == 255) = false := by simpa using h1
    by_cases h2 : f ≤ 191
    · have HE := Lib.hid (show takeM b = ((4, f, rest), 0) by rw [HT.out]; simp [takeC, h1, h2])
      clear HT
      go_wp2
      rw [HE.out]
      refine bodyPost_ret (v := .tuple #[.agg #[.int .u8 4, .int .u8 f, .slice A2 rest.length c2], .int .i64 0]) (by rw [HO.out.2]; simp [results, Try.results22, go_sem, q0, q1, q2]) rfl ?_
      exact ⟨A2, c2, rfl, Rd.of_own HR.out.1 (own_three HO.out.1 _ _ _), hl2, hm2, below_three HB.out.1 _ _ _⟩
    have h3 : f < 253 := by omega
    have HE := Lib.hid (show takeM b = ((0, 0, []), 1) by rw [HT.out]; simp [takeC, h1, h2, h3])
    clear HT
    go_wp2
    rw [HE.out]
    exact bodyPost_ret (v := .tuple #[.agg #[.int .u8 0, .int .u8 0, .slice none 0 0], .int .i64 1]) (by simp [results, Try.results22, go_sem, q0, q1, q2]) rfl ⟨none, 0, rfl, Rd.nil _ _ _, Nat.le_refl _, Nat.zero_le _, below_three HB.out.1 _ _ _⟩

theorem refTake_neg {bb off n m n8 : Nat} {x : Int} {r b : List Int} {w : World} (C : TakeCtx bb off n m n8 254 (x :: r) b w) :
    Calls Try.prog 22 #[.slice (some ⟨bb, off, none⟩) n m] w (RepRet w (takeM b)) := by
  obtain ⟨hr8, hn8, hn, hm, h0, hT⟩ := C
  have hrl := hr8.len
  simp only [List.length_cons] at hrl
  obtain ⟨bb', off', hA, hbb, hcell⟩ := hr8.cell (by omega)
  injection hA with hA
  injection hA with hA1 hA2
  subst hA1 hA2
  have HE := Lib.hid (show takeM b = ((2, x, []), 0) by rw [hT]; simp [takeC])
  have hc0 := hcell 0 (by omega)
  rw [Nat.add_zero, List.getD_cons_zero] at hc0
  have hc1 := hcell 1 (by omega)
  rw [List.getD_cons_succ, List.getD_cons_zero] at hc1
  have hb1 := fun o => (Below.refl w.heap.size w).alloc (Nat.le_refl _) o
  have cc0 := fun o => ((hb1 o).cell (p := ⟨bb, off, none⟩) hbb).trans hc0
  have cc1 := fun o => ((hb1 o).cell (p := ⟨bb, off + 1, none⟩) hbb).trans hc1
  have hn1 : 1 < n := by omega
  have hne : ((n : Int) == 0) = false := by simp; omega
  have hne1 : ((n : Int) == 1) = false := by simp; omega
  clear hrl hn8 hcell hr8 hT
  go_enter Try.func22, Try.ntmps22
  go_wp2
  rw [HE.out]
  exact bodyPost_ret (v := .tuple #[.agg #[.int .u8 2, .int .u8 x, .slice none 0 0], .int .i64 0]) (by simp [results, Try.results22, go_sem]) rfl ⟨none, 0, rfl, Rd.nil _ _ _, Nat.le_refl _, Nat.zero_le _, hb1 _⟩

end Go.Proofs.Yteioamllbaihdaa
