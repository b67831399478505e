/-
  The walks of layer 7 (rep): what 'head', 'Put', 'Take', 'Code', slices.Clone of bytes, the reference's Put, Take, Code, Same, and the statements' own few and shown come to.
-/
import Derived.Test.YteioamllbaihdaaBase
set_option linter.unusedVariables false
set_option maxRecDepth 100000
namespace Go.Proofs.Yteioamllbaihdaa
open Go.RowKit

theorem bytesT : RowT Try.prog 22 5 1 1 (.int .u8 0) := ⟨Try.underlying22, by kernel_rfl, rfl, by decide⟩

/-- What 'head' tells: the bytes ahead, how many may be behind them, whether it may be. -/
def headM (k c : Int) : List Int × Int × Bool :=
  if k = 1 then ([255], 7, c == 0) else if k = 2 then ([254, c], 0, true) else if k = 3 then ([253, c], 6, true) else if k = 4 then ([c], 7, decide (c ≤ 191)) else ([], 0, false)

/-- A slice of bytes of the call's own, and what else is told beside it. -/
def OwnRet (w : World) (l : List Int) (f : Value → Value) (e : Ending) (w' : World) : Prop :=
  ∃ A c, e = .returned (f (.slice A l.length c)) ∧ w'.ownsRow w.heap.size 5 1 (.slice A l.length c) l.length (bv l) ∧ l.length ≤ c ∧ c ≤ maxLen ∧ Below w.heap.size w w'

theorem ownRet_mk {w W' : World} {l : List Int} {f : Value → Value} {g n : Nat} (hg : W'.heap[g]? = some (.cells (bv l).toArray 5)) (hn : l.length = n) (hl : n ≤ 1000) (hge : w.heap.size ≤ g) (hb : Below w.heap.size w W') :
    OwnRet w l f (.returned (f (.slice (some ⟨g, 0, none⟩) n n))) W' := by
  subst hn
  exact ⟨_, _, rfl, ⟨by simp, .inr ⟨g, l.length, (bv l).toArray, rfl, hge, hg, Nat.le_refl _, by simp only [maxLen]; omega, by simp, by simp [List.take_of_length_le]⟩⟩, Nat.le_refl _, by simp only [maxLen]; omega, hb⟩
theorem ownRet_nil {w W' : World} {f : Value → Value} (hb : Below w.heap.size w W') : OwnRet w [] f (.returned (f (.slice none 0 0))) W' :=
  ⟨none, 0, rfl, ⟨rfl, .inl ⟨rfl, rfl⟩⟩, Nat.le_refl _, Nat.zero_le _, hb⟩
theorem below2 (w : World) (o o' : Obj) : Below w.heap.size w ((w.alloc o).alloc o') := ((Below.refl _ _).alloc (Nat.le_refl _) _).alloc (by simp) _

theorem head_1 (c : Int) (v : Value) (w : World) : Calls Try.prog 34 #[.agg #[.int .u8 1, .int .u8 c, v]] w
    (OwnRet w (headM 1 c).1 fun x => .tuple #[x, .int .i64 (headM 1 c).2.1, .bool (headM 1 c).2.2]) := by
  have HE := Lib.hid (show headM 1 c = ([255], 7, c == 0) from rfl)
  rw [HE.out]
  go_enter Try.func34, Try.ntmps34
  go_wp2
  go_region
  go_wp2
  go_ret3
  exact ownRet_mk (heap_alloc2_new w _ _) rfl (by decide) (by omega) (below2 w _ _).drew
theorem head_2 (c : Int) (v : Value) (w : World) : Calls Try.prog 34 #[.agg #[.int .u8 2, .int .u8 c, v]] w
    (OwnRet w (headM 2 c).1 fun x => .tuple #[x, .int .i64 (headM 2 c).2.1, .bool (headM 2 c).2.2]) := by
  have HE := Lib.hid (show headM 2 c = ([254, c], 0, true) from rfl)
  rw [HE.out]
  go_enter Try.func34, Try.ntmps34
  go_wp2
  go_ret3
  exact ownRet_mk (heap_alloc2_new w _ _) rfl (by decide) (by omega) (below2 w _ _)
theorem head_3 (c : Int) (v : Value) (w : World) : Calls Try.prog 34 #[.agg #[.int .u8 3, .int .u8 c, v]] w
    (OwnRet w (headM 3 c).1 fun x => .tuple #[x, .int .i64 (headM 3 c).2.1, .bool (headM 3 c).2.2]) := by
  have HE := Lib.hid (show headM 3 c = ([253, c], 6, true) from rfl)
  rw [HE.out]
  go_enter Try.func34, Try.ntmps34
  go_wp2
  go_ret3
  exact ownRet_mk (heap_alloc2_new w _ _) rfl (by decide) (by omega) (below2 w _ _)
theorem head_4 (c : Int) (v : Value) (w : World) : Calls Try.prog 34 #[.agg #[.int .u8 4, .int .u8 c, v]] w
    (OwnRet w (headM 4 c).1 fun x => .tuple #[x, .int .i64 (headM 4 c).2.1, .bool (headM 4 c).2.2]) := by
  have HE := Lib.hid (show headM 4 c = ([c], 7, decide (c ≤ 191)) from rfl)
  rw [HE.out]
  go_enter Try.func34, Try.ntmps34
  go_wp2
  go_region
  go_wp2
  go_ret3
  exact ownRet_mk (heap_alloc2_new w _ _) rfl (by decide) (by omega) (below2 w _ _).drew
theorem head_any (k c : Int) (v : Value) (w : World) : Calls Try.prog 34 #[.agg #[.int .u8 k, .int .u8 c, v]] w
    (OwnRet w (headM k c).1 fun x => .tuple #[x, .int .i64 (headM k c).2.1, .bool (headM k c).2.2]) := by
  by_cases h1 : k = 1
  · subst h1; exact head_1 c v w
  by_cases h2 : k = 2
  · subst h2; exact head_2 c v w
  by_cases h3 : k = 3
  · subst h3; exact head_3 c v w
  by_cases h4 : k = 4
  · subst h4; exact head_4 c v w
  have HE := Lib.hid (show headM k c = ([], 0, false) by simp [headM, h1, h2, h3, h4])
  have hk1 : (k == 1) = false := by simpa using h1
  have hk2 : (k == 2) = false := by simpa using h2
  have hk3 : (k == 3) = false := by simpa using h3
  have hk4 : (k == 4) = false := by simpa using h4
  clear h1 h2 h3 h4
  rw [HE.out]
  go_enter Try.func34, Try.ntmps34
  go_wp2
  go_ret3
  exact ownRet_nil ((Below.refl _ _).alloc (Nat.le_refl _) _)

/-- What 'Put' tells. -/
def putM (k c : Int) (b : List Int) : Option (List Int) := if (headM k c).2.2 = true ∧ (b.length : Int) ≤ (headM k c).2.1 then some ((headM k c).1 ++ b) else none

theorem headM_len (k c : Int) : (headM k c).1.length ≤ 2 ∧ 0 ≤ (headM k c).2.1 ∧ (headM k c).2.1 ≤ 7 := by
  unfold headM
  split
  · simp
  split
  · simp
  split
  · simp
  split <;> simp
theorem headM_oct (k c : Int) (hc : 0 ≤ c ∧ c ≤ 255) : Oct (headM k c).1 := by
  unfold headM
  split
  · exact Oct.cons (by omega) (by omega) Oct.nil
  split
  · exact Oct.cons (by omega) (by omega) (Oct.cons hc.1 hc.2 Oct.nil)
  split
  · exact Oct.cons (by omega) (by omega) (Oct.cons hc.1 hc.2 Oct.nil)
  split
  · exact Oct.cons hc.1 hc.2 Oct.nil
  · exact Oct.nil

/-- What a call of Put tells. -/
def PutPost (w : World) (r : Option (List Int)) (e : Ending) (w' : World) : Prop :=
  match r with
  | some l => OwnRet w l (fun x => .tuple #[x, .int .i64 0]) e w'
  | none => e = .returned (.tuple #[.slice none 0 0, .int .i64 1]) ∧ Below w.heap.size w w'

set_option maxHeartbeats 400000 in
theorem put_any (k c : Int) (A : Option Addr) (n m : Nat) (b : List Int) (w : World) (hr : Rd w.heap.size w A n b) (hn : n ≤ m) (hm : m ≤ maxLen) :
    Calls Try.prog 15 #[.agg #[.int .u8 k, .int .u8 c, .slice A n m]] w (PutPost w (putM k c b)) := by
  have hlen := hr.len
  have h7 := headM_len k c
  unfold maxLen at hm
  go_enter Try.func15, Try.ntmps15
  go_wp2_with fail
  refine (head_any _ _ _ _).mono ?_
  rintro e w1 ⟨A1, c1, rfl, hown, hc1, hc2, hb⟩
  generalize hh : headM k c = h at *
  obtain ⟨hd, most, ok⟩ := h
  dsimp only at *
  have q2 : w1.cell? ⟨w.heap.size, 2, none⟩ = some (.slice A n m) := by rw [hb.cell (p := ⟨_, _, none⟩) (by simp)]; simp
  have hz := hb.size
  simp at hz
  have hb' : Below w.heap.size w w1 := ((Below.refl _ _).alloc (Nat.le_refl _) _).trans (hb.mono (by simp))
  have HB := Lib.hid (And.intro hb' (And.intro hown hlen))
  have HH := Lib.hid hh
  clear hb hown hlen hb' hh
  cases ok
  · have HE := Lib.hid (show putM k c b = none by simp [putM, HH.out])
    go_wp2
    go_ret2
    rw [HE.out]
    exact ⟨rfl, HB.out.1⟩
  by_cases hle : (n : Int) ≤ most
  · have HE := Lib.hid (show putM k c b = some (hd ++ b) by simp [putM, HH.out, HB.out.2.2, hle])
    go_wp2_with (with_reducible refine stop_append ?_)
    refine Stop.go ?_
    refine wp_app rfl (.tmp 22) (.tmp 24) _ rfl bytesT rfl HB.out.2.1 rfl ((hr.at HB.out.1).src) (bv_one b) (by simp only [maxLen]; omega) (by omega) (by simpa using hz) ?_
    intro v2 w2 hown2 hg2 hat2
    obtain ⟨A2, c2, rfl, hl2, hm2⟩ := own_slice hown2
    have HB2 := Lib.hid (And.intro hown2 hg2)
    clear hown2 hg2 hat2
    go_wp2
    go_ret2
    rw [HE.out]
    have hll : hd.length + n = (hd ++ b).length := by rw [List.length_append, HB.out.2.2]
    rw [hll]
    have ho := HB2.out.1
    rw [hll, ← bv_append] at ho
    refine ⟨A2, c2, rfl, own_base ho (by simp), by omega, hm2, HB.out.1.grown HB2.out.2 HB.out.1.size ?_⟩
    intro k hk
    exact Nat.le_of_succ_le (by simpa using (HB.out.2.1.lt k hk).1)
  · have HE := Lib.hid (show putM k c b = none by simp [putM, HH.out, HB.out.2.2, hle])
    go_wp2
    go_ret2
    rw [HE.out]
    exact ⟨rfl, HB.out.1⟩

/-! ### the statements' own few; the reference's Same; slices.Clone of bytes -/
theorem few_any (k c : Int) (A : Option Addr) (n m : Nat) (w : World) (hn : n ≤ m) (hm : m ≤ maxLen) :
    Calls Try.prog 16 #[.agg #[.int .u8 k, .int .u8 c, .slice A n m]] w fun e w' => e = .returned (.agg #[.int .u8 k, .int .u8 c, .slice A (min n 20) m]) ∧ Below w.heap.size w w' := by
  unfold maxLen at hm
  by_cases h20 : n ≤ 20
  · have HE := Lib.hid (show min n 20 = n by omega)
    rw [HE.out]
    go_enter Try.func16, Try.ntmps16
    go_wp2
    exact bodyPost_ret (v := .agg #[.int .u8 k, .int .u8 c, .slice A n m]) (by simp [results, Try.results16, go_sem]) rfl ⟨rfl, below2 w _ _⟩
  · have HE := Lib.hid (show min n 20 = 20 by omega)
    have h20' : (20 : Int) < (n : Int) := by omega
    have hm20 : (20 : Int) ≤ (m : Int) := by omega
    rw [HE.out]
    go_enter Try.func16, Try.ntmps16
    go_wp2
    exact bodyPost_ret (v := .agg #[.int .u8 k, .int .u8 c, .slice A 20 m]) (by simp [results, Try.results16, go_sem]) rfl ⟨rfl, below2 w _ _⟩

theorem same_any (k c k' c' : Int) (A A' : Option Addr) (n m n' m' : Nat) (b b' : List Int) (w : World) (hr : Rd w.heap.size w A n b) (hr' : Rd w.heap.size w A' n' b') :
    Calls Try.prog 17 #[.agg #[.int .u8 k, .int .u8 c, .slice A n m], .agg #[.int .u8 k', .int .u8 c', .slice A' n' m']] w fun e w' =>
      e = .returned (.bool (decide (k = k' ∧ c = c' ∧ b = b'))) ∧ Below w.heap.size w w' := by
  by_cases h1 : k = k'
  · subst h1
    by_cases h2 : c = c'
    · subst h2
      go_enter Try.func17, Try.ntmps17
      go_wp2_with fail
      rw [run_conv (hr.at (below2 w _ _)) 22 5 9 m Try.underlying22 Try.underlying5 Try.underlying9]
      go_wp2_with fail
      rw [run_conv (hr'.at (below2 w _ _)) 22 5 9 m' Try.underlying22 Try.underlying5 Try.underlying9]
      go_wp2_with fail
      go_ret
      exact ⟨by simp [str_beq hr.oct hr'.oct], below2 w _ _⟩
    · have h2' : (c == c') = false := by simpa using h2
      go_enter Try.func17, Try.ntmps17
      go_wp2
      go_ret
      exact ⟨by simp [h2], below2 w _ _⟩
  · have h1' : (k == k') = false := by simpa using h1
    go_enter Try.func17, Try.ntmps17
    go_wp2
    go_ret
    exact ⟨by simp [h1], below2 w _ _⟩

theorem clone_any (A : Option Addr) (n m : Nat) (b : List Int) (w : World) (hr : Rd w.heap.size w A n b) (hn : n ≤ 1000000) :
    Calls Try.prog 35 #[.slice A n m] w (OwnRet w b id) := by
  have hnil := fun W => Lib.run_eql_slice_nil (P := Try.prog) W 22 5 A n m 0 0 Try.underlying22
  have hlen := hr.len
  cases A with
  | none =>
    have hn0 : n = 0 := by
      rcases Nat.eq_zero_or_pos n with h | h
      · exact h
      · obtain ⟨b, off, h, _⟩ := hr.cell h
        cases h
    subst hn0
    have hb0 : b = [] := List.eq_nil_of_length_eq_zero hlen
    subst hb0
    go_enter Try.func35, Try.ntmps35
    go_wp2
    go_ret
    exact ownRet_nil (Below.refl _ _)
  | some a =>
    have HL := Lib.hid hlen
    clear hlen
    go_enter Try.func35, Try.ntmps35
    go_wp2_with (with_reducible refine stop_append ?_)
    refine Stop.go ?_
    have hb1 : Below w.heap.size w (w.alloc (.cells #[] 5)) := (Below.refl _ _).alloc (Nat.le_refl _) _
    refine wp_app rfl (.tmp 5) (.tmp 6) _ rfl bytesT rfl (v := .slice (some ⟨w.heap.size, 0, none⟩) 0 0) (n := 0) (xs := []) (base := w.heap.size) ⟨rfl, .inr ⟨w.heap.size, 0, #[], rfl, Nat.le_refl _, heap_alloc_new w _, Nat.le_refl _, by simp [maxLen], rfl, rfl⟩⟩ rfl ((hr.at hb1).src) (bv_one b) (by simp only [maxLen]; omega) (by omega) (by simp) ?_
    intro v2 w2 hown2 hg2 hat2
    obtain ⟨A2, c2, rfl, hl2, hm2⟩ := own_slice hown2
    have HB2 := Lib.hid (And.intro hown2 (And.intro hg2 hb1))
    clear hown2 hg2 hat2 hb1 hnil
    go_wp2
    go_ret
    have ho := HB2.out.1
    rw [Nat.zero_add, List.nil_append] at ho
    rw [Nat.zero_add] at hl2
    obtain rfl := HL.out
    exact ⟨A2, c2, rfl, ho, hl2, hm2, HB2.out.2.2.grown HB2.out.2.1 (by simp) (by simp [Value.ownBlock])⟩

/-! ### Take -/
/-- What 'Take' tells: kind, code, bytes; which error. -/
def takeC (f : Int) (rest : List Int) : (Int × Int × List Int) × Int :=
  if f = 255 then ((1, 0, rest), 0) else if f ≤ 191 then ((4, f, rest), 0) else if f < 253 then ((0, 0, []), 1) else
    match rest with
    | [] => ((0, 0, []), 5)
    | x :: r => if f = 254 then ((2, x, []), 0) else ((3, x, r), 0)
def takeM (b : List Int) : (Int × Int × List Int) × Int :=
  match b.take 8 with
  | [] => ((0, 0, []), 5)
  | f :: rest => takeC f rest

/-- An answer, and an error: its bytes are read where it is. -/
def RepRet (w : World) (r : (Int × Int × List Int) × Int) (e : Ending) (w' : World) : Prop :=
  ∃ A c, e = .returned (.tuple #[.agg #[.int .u8 r.1.1, .int .u8 r.1.2.1, .slice A r.1.2.2.length c], .int .i64 r.2]) ∧ Rd w'.heap.size w' A r.1.2.2.length r.1.2.2 ∧ r.1.2.2.length ≤ c ∧ c ≤ maxLen ∧ Below w.heap.size w w'

theorem below_three {w w1 : World} (hb : Below w.heap.size w w1) (x y z : Value) :
    Below w.heap.size w (((w1.setCell ⟨w.heap.size, 0, none⟩ x).setCell ⟨w.heap.size, 1, none⟩ y).setCell ⟨w.heap.size, 2, none⟩ z) :=
  ((hb.setCell (p := ⟨w.heap.size, 0, none⟩) (Nat.le_refl _) x).setCell (p := ⟨w.heap.size, 1, none⟩) (Nat.le_refl _) y).setCell (p := ⟨w.heap.size, 2, none⟩) (Nat.le_refl _) z
theorem own_three {N : Nat} {w1 : World} {e : TypeId} {size : Nat} {v : Value} {n : Nat} {xs : List Value} (h : w1.ownsRow (N + 1) e size v n xs) (x y z : Value) :
    (((w1.setCell ⟨N, 0, none⟩ x).setCell ⟨N, 1, none⟩ y).setCell ⟨N, 2, none⟩ z).ownsRow (N + 1) e size v n xs :=
  ownsRow_setCell_below (ownsRow_setCell_below (ownsRow_setCell_below h (a := ⟨N, 0, none⟩) (Nat.lt_succ_self _) x) (a := ⟨N, 1, none⟩) (Nat.lt_succ_self _) y) (a := ⟨N, 2, none⟩) (Nat.lt_succ_self _) z

theorem take_any (A : Option Addr) (n m : Nat) (b : List Int) (w : World) (hr : Rd w.heap.size w A n b) (hn : n ≤ m) (hm : m ≤ maxLen) :
    Calls Try.prog 21 #[.slice A n m] w (RepRet w (takeM b)) := by
  have hlen := hr.len
  unfold maxLen at hm
  rcases Nat.eq_zero_or_pos n with h0 | h0
  · subst h0
    have hb0 : b = [] := List.eq_nil_of_length_eq_zero hlen
    subst hb0
    clear hlen
    go_enter Try.func21, Try.ntmps21
    go_wp2
    exact bodyPost_ret (v := .tuple #[.agg #[.int .u8 0, .int .u8 0, .slice none 0 0], .int .i64 5]) (by simp [results, Try.results21, go_sem]) rfl ⟨none, 0, rfl, Rd.nil _ _ _, Nat.le_refl _, Nat.zero_le _, (Below.refl _ _).alloc (Nat.le_refl _) _⟩
  obtain ⟨n8, hn8⟩ : ∃ k, k = min n 8 := ⟨_, rfl⟩
  have hr8 := hr.take (k := n8) (by omega)
  have h8 : b.take n8 = b.take 8 := by rw [hn8, ← hlen, Nat.min_comm, ← List.take_eq_take_min]
  obtain ⟨f, rest, hfr⟩ : ∃ f rest, b.take n8 = f :: rest := by
    rcases hx : b.take n8 with _ | ⟨f, rest⟩
    · have := hr8.len
      rw [hx] at this
      simp at this
      omega
    · exact ⟨f, rest, rfl⟩
  have HT := Lib.hid (show takeM b = takeC f rest by simp only [takeM, ← h8, hfr])
  rw [hfr] at hr8
  have hrl := hr8.len
  rw [List.length_cons] at hrl
  have hf := hr8.oct f (by simp)
  obtain ⟨hf0, hf1⟩ := hf
  obtain ⟨bb, off, rfl, hbb, hcell⟩ := hr8.cell (by omega)
  have hmin : ∀ W, (Builtin.min_ #[3, 3] 3 #[.int .i64 n, .int .i64 8]).run Try.prog W = .ok (.int .i64 n8) W := by
    intro W
    rw [run_min_int2]
    congr 2
    split <;> omega
  have hne : ((n : Int) == 0) = false := by simp; omega
  have hn81 : (1 : Int) ≤ (n8 : Int) := by omega
  have hn80 : 0 < n8 := by omega
  have hn88 : n8 ≤ 8 := by omega
  have hn8m : (n8 : Int) ≤ (m : Int) := by omega
  have hc0 := hcell 0 (by omega)
  rw [Nat.add_zero, List.getD_cons_zero] at hc0
  have hcut := fun W => run_cut (P := Try.prog) 22 5 Try.underlying22 1 (by kernel_rfl) (some ⟨bb, off, none⟩) n8 m .i64 1 (by omega) (by omega) W
  simp only [Int.toNat_one] at hcut
  obtain ⟨A1, hA1⟩ : ∃ A1, A1 = cutA (some ⟨bb, off, none⟩) m 1 1 := ⟨_, rfl⟩
  have hr1 := hr8.cut (k := 1) (cap := m) (by omega) (by omega)
  rw [← hA1, List.drop_succ_cons, List.drop_zero] at hr1
  rw [← hA1] at hcut
  have hrest := hr1.oct
  clear hn8 hA1 hlen hcell hr8 h8 hfr hrl
  have HR := Lib.hid hrest
  clear hrest
  go_enter Try.func21, Try.ntmps21
  go_wp2
  go_region_held3 (fun w' => w'.cell? ⟨bb, off, none⟩ = some (.int .u8 f))
    (first | exact ((((Below.refl _ _).alloc (Nat.le_refl _) _).drew).cell (p := ⟨bb, off, none⟩) hbb).trans hc0 | exact ((((Below.refl _ _).alloc (Nat.le_refl _) _).drew.trans (hb2.mono (by simp))).cell (p := ⟨bb, off, none⟩) hbb).trans hc0)
    ((go_at_call 35; refine (clone_any A1 (n8 - 1) (m - 1) rest _ ((hr1.at ((Below.refl _ _).alloc (Nat.le_refl _) _).drew).mono (by simp)) (by omega)).mono ?_; rintro e w1 ⟨A2, c2, rfl, hown2, hl2, hm2, hb2⟩))
  have q0 : w1.cell? ⟨w.heap.size, 0, none⟩ = some (.int .u8 0) := by rw [hb2.cell (p := ⟨_, _, none⟩) (by simp)]; simp
  have q1 : w1.cell? ⟨w.heap.size, 1, none⟩ = some (.int .u8 0) := by rw [hb2.cell (p := ⟨_, _, none⟩) (by simp)]; simp
  have q2 : w1.cell? ⟨w.heap.size, 2, none⟩ = some (.slice none 0 0) := by rw [hb2.cell (p := ⟨_, _, none⟩) (by simp)]; simp
  have z0 : w1.frozen? ⟨w.heap.size, 0, none⟩ = false := by rw [hb2.frozen (p := ⟨_, _, none⟩) (by simp)]; simp
  have z1 : w1.frozen? ⟨w.heap.size, 1, none⟩ = false := by rw [hb2.frozen (p := ⟨_, _, none⟩) (by simp)]; simp
  have z2 : w1.frozen? ⟨w.heap.size, 2, none⟩ = false := by rw [hb2.frozen (p := ⟨_, _, none⟩) (by simp)]; simp
  have hz := hb2.size
  simp at hz
  have hbw : Below w.heap.size w w1 := ((Below.refl _ _).alloc (Nat.le_refl _) _).drew.trans (hb2.mono (by simp))
  have hown3 : w1.ownsRow (w.heap.size + 1) 5 1 (.slice A2 rest.length c2) rest.length (bv rest) := by simpa using hown2
  have HB := Lib.hid (And.intro hbw hown3)
  clear hbw hown2 hown3 hb2 hcut hmin
  rename_i hheld
  clear hheld hc0
  by_cases h1 : f = 255
  · subst h1
    have HE := Lib.hid (show takeM b = ((1, 0, rest), 0) by rw [HT.out]; simp [takeC])
    clear HT
    go_wp2
    rw [HE.out]
    exact bodyPost_ret (v := .tuple #[.agg #[.int .u8 1, .int .u8 0, .slice A2 rest.length c2], .int .i64 0]) (by simp [results, Try.results21, go_sem, q0, q1, q2]) rfl
      ⟨A2, c2, rfl, Rd.of_own HR.out (own_three HB.out.2 _ _ _), hl2, hm2, below_three HB.out.1 _ _ _⟩
  have h1' : (f == 255) = false := by simpa using h1
  by_cases h2 : f ≤ 191
  · have HE := Lib.hid (show takeM b = ((4, f, rest), 0) by rw [HT.out]; simp [takeC, h1, h2])
    clear HT
    go_wp2
    rw [HE.out]
    exact bodyPost_ret (v := .tuple #[.agg #[.int .u8 4, .int .u8 f, .slice A2 rest.length c2], .int .i64 0]) (by simp [results, Try.results21, go_sem, q0, q1, q2]) rfl
      ⟨A2, c2, rfl, Rd.of_own HR.out (own_three HB.out.2 _ _ _), hl2, hm2, below_three HB.out.1 _ _ _⟩
  by_cases h3 : f < 253
  · have HE := Lib.hid (show takeM b = ((0, 0, []), 1) by rw [HT.out]; simp [takeC, h1, h2, h3])
    clear HT
    go_wp2
    rw [HE.out]
    exact bodyPost_ret (v := .tuple #[.agg #[.int .u8 0, .int .u8 0, .slice none 0 0], .int .i64 1]) (by simp [results, Try.results21, go_sem, q0, q1, q2]) rfl
      ⟨none, 0, rfl, Rd.nil _ _ _, Nat.le_refl _, Nat.zero_le _, below_three HB.out.1 _ _ _⟩
  rcases rest with _ | ⟨x, r⟩
  · have HE := Lib.hid (show takeM b = ((0, 0, []), 5) by rw [HT.out]; simp [takeC, h1, h2, h3])
    clear HT
    rw [List.length_nil] at *
    go_wp2
    rw [HE.out]
    exact bodyPost_ret (v := .tuple #[.agg #[.int .u8 0, .int .u8 0, .slice none 0 0], .int .i64 5]) (by simp [results, Try.results21, go_sem, q0, q1, q2]) rfl
      ⟨none, 0, rfl, Rd.nil _ _ _, Nat.le_refl _, Nat.zero_le _, below_three HB.out.1 _ _ _⟩
  have hx := Rd.of_own HR.out HB.out.2
  obtain ⟨g, og, rfl, hg, hgc⟩ := hx.cell (by simp)
  have g0 := hgc 0 (by simp)
  rw [Nat.add_zero, List.getD_cons_zero] at g0
  have hne2 : ((((x :: r).length : Nat) : Int) == 0) = false := by simp only [List.length_cons, beq_eq_false_iff_ne]; omega
  have hpos2 : 0 < (x :: r).length := by simp
  have hle2 : (1 : Int) ≤ (((x :: r).length : Nat) : Int) := by rw [List.length_cons]; omega
  clear hgc
  by_cases h4 : f = 254
  · subst h4
    have HE := Lib.hid (show takeM b = ((2, x, []), 0) by rw [HT.out]; simp [takeC])
    clear HT
    generalize hL : (x :: r).length = L at *
    have HLL := Lib.hid hL
    clear hL
    go_wp2
    rw [HE.out]
    exact bodyPost_ret (v := .tuple #[.agg #[.int .u8 2, .int .u8 x, .slice none 0 0], .int .i64 0]) (by simp [results, Try.results21, go_sem, q0, q1, q2]) rfl
      ⟨none, 0, rfl, Rd.nil _ _ _, Nat.le_refl _, Nat.zero_le _, below_three HB.out.1 _ _ _⟩
  have h4' : (f == 254) = false := by simpa using h4
  have HE := Lib.hid (show takeM b = ((3, x, r), 0) by rw [HT.out]; simp [takeC, h1, h2, h3, h4])
  clear HT
  have hcut := fun W => run_cut (P := Try.prog) 22 5 Try.underlying22 1 (by kernel_rfl) (some ⟨g, og, none⟩) (x :: r).length c2 .i64 1 (by omega) hle2 W
  simp only [Int.toNat_one] at hcut
  generalize hL : (x :: r).length = L at *
  have HLL := Lib.hid hL
  clear hL
  go_wp2
  go_region
  go_wp2
  rw [HE.out]
  have hLe : L = r.length + 1 := by rw [← HLL.out]; rfl
  subst hLe
  have hr3 := (Rd.of_own HR.out (own_three HB.out.2 (.int .u8 3) (.int .u8 x) (.slice (cutA (some ⟨g, og, none⟩) c2 1 1) (r.length + 1 - 1) (c2 - 1)))).cut (k := 1) (cap := c2) (by omega) hl2
  rw [List.drop_succ_cons, List.drop_zero] at hr3
  exact bodyPost_ret (v := .tuple #[.agg #[.int .u8 3, .int .u8 x, .slice (cutA (some ⟨g, og, none⟩) c2 1 1) (r.length + 1 - 1) (c2 - 1)], .int .i64 0]) (by simp [results, Try.results21, go_sem, q0, q1, q2]) rfl
      ⟨cutA (some ⟨g, og, none⟩) c2 1 1, c2 - 1, rfl, hr3, by show r.length ≤ c2 - 1; omega, by omega, (below_three HB.out.1 _ _ _).drew⟩

theorem own_blk {W : World} {g B n : Nat} {l : List Int} (hg : W.heap[g]? = some (.cells (bv l).toArray 5)) (hn : l.length = n) (hl : n ≤ 1000) (hB : B ≤ g) : W.ownsRow B 5 1 (.slice (some ⟨g, 0, none⟩) n n) n (bv l) := by
  subst hn
  exact ⟨by simp, .inr ⟨g, l.length, (bv l).toArray, rfl, hB, hg, Nat.le_refl _, by simp only [maxLen]; omega, by simp, by simp [List.take_of_length_le]⟩⟩
theorem ownRet_app {w w1 w2 : World} {B : Nat} {h b : List Int} {n m : Nat} {v : Value} {A2 : Option Addr} {c2 : Nat} {f : Value → Value} (hw : Below w.heap.size w w1) (hB : w.heap.size ≤ B) (hv : ∀ k, v.ownBlock = some k → w.heap.size ≤ k)
    (h2 : w2.ownsRow B 5 1 (.slice A2 (n + m) c2) (n + m) (bv h ++ bv b)) (hg : w1.grownBy w2 v.ownBlock) (hn : h.length = n) (hm : b.length = m) : OwnRet w (h ++ b) f (.returned (f (.slice A2 (n + m) c2))) w2 := by
  subst hn hm
  obtain ⟨A, c, e, h1, h3⟩ := own_slice h2
  injection e with e1 e2 e3
  subst e3
  rw [← List.length_append, ← bv_append] at h2
  rw [← List.length_append]
  exact ⟨A2, c2, rfl, own_base h2 hB, by rw [List.length_append]; exact h1, h3, hw.grown hg hw.size hv⟩
end Go.Proofs.Yteioamllbaihdaa
