/-
  Layer 7's statements, walked: 'shown', and the five laws' own bodies.
-/
import Derived.Test.YteioamllbaihdaaRepRef2
set_option linter.unusedVariables false
set_option maxRecDepth 100000
namespace Go.Proofs.Yteioamllbaihdaa
open Go.RowKit

theorem own_rd {base : Nat} {w w' : World} {A : Option Addr} {n c : Nat} {l : List Int} (ho : Oct l) (h : w.ownsRow base 5 1 (.slice A n c) n (bv l)) (hb : Below w.heap.size w w') : Rd w.heap.size w' A n l := (Rd.of_own ho h).at hb
theorem lit_rd {w : World} {g n : Nat} {l : List Int} (ho : Oct l) (hg : w.heap[g]? = some (.cells (bv l).toArray 5)) (hn : l.length = n) : Rd w.heap.size w (some ⟨g, 0, none⟩) n l := by
  subst hn
  refine ⟨rfl, ho, fun h => ⟨g, 0, rfl, (Array.getElem?_eq_some_iff.1 hg).1, fun i hi => ?_⟩⟩
  rw [cell_of_row _ _ _ _ _ _ hg, Nat.zero_add]
  simp [bv, hi, List.getD_eq_getElem?_getD]

set_option maxHeartbeats 1000000 in
theorem shown_any (w : World) : Calls Try.prog 14 #[] w fun e w' => e = .returned (.bool true) ∧ Below w.heap.size w w' := by
  go_enter Try.func14, Try.ntmps14
  go_wp2_with fail
  refine (put_any 1 0 (some ⟨w.heap.size, 0, none⟩) 2 2 [1, 2] _ (lit_rd (Oct.cons (by omega) (by omega) (Oct.cons (by omega) (by omega) Oct.nil)) (heap_alloc_new w _) rfl) (by omega) (by simp [maxLen])).mono ?_
  rintro e w1 h1
  obtain ⟨A1, c1, rfl, hown1, hl1, hm1, hb1⟩ : OwnRet _ [255, 1, 2] (fun x => .tuple #[x, .int .i64 0]) e w1 := h1
  have hw1 : Below w.heap.size w w1 := ((Below.refl _ _).alloc (Nat.le_refl _) _).trans (hb1.mono (by simp))
  have r1 := Rd.of_own (l := [255, 1, 2]) (Oct.cons (by omega) (by omega) (Oct.cons (by omega) (by omega) (Oct.cons (by omega) (by omega) Oct.nil))) hown1
  have H1 := Lib.hid (And.intro hw1 r1)
  clear hw1 r1 hown1 hb1 hl1 hm1
  go_wp2_with fail
  refine (put_any 2 33 none 0 0 [] _ (Rd.nil _ _ _) (by omega) (by simp [maxLen])).mono ?_
  rintro e w2 h2
  obtain ⟨A2, c2, rfl, hown2, hl2, hm2, hb2⟩ : OwnRet _ [254, 33] (fun x => .tuple #[x, .int .i64 0]) e w2 := h2
  have hw2 : Below w.heap.size w w2 := H1.out.1.trans (hb2.mono H1.out.1.size)
  have r2 := Rd.of_own (l := [254, 33]) (Oct.cons (by omega) (by omega) (Oct.cons (by omega) (by omega) Oct.nil)) hown2
  have r12 := H1.out.2.at hb2
  have H2 := Lib.hid (And.intro hw2 (And.intro r2 (And.intro r12 hb2.size)))
  clear hw2 r2 r12 hown2 hb2 hl2 hm2
  go_wp2_with fail
  refine (put_any 4 3 (some ⟨w2.heap.size, 0, none⟩) 1 1 [7] _ (lit_rd (Oct.cons (by omega) (by omega) Oct.nil) (heap_alloc_new w2 _) rfl) (by omega) (by simp [maxLen])).mono ?_
  rintro e w3 h3
  obtain ⟨A3, c3, rfl, hown3, hl3, hm3, hb3⟩ : OwnRet _ [3, 7] (fun x => .tuple #[x, .int .i64 0]) e w3 := h3
  have hw3 : Below w2.heap.size w2 w3 := ((Below.refl _ _).alloc (Nat.le_refl _) _).trans (hb3.mono (by simp))
  have r3 := Rd.of_own (l := [3, 7]) (Oct.cons (by omega) (by omega) (Oct.cons (by omega) (by omega) Oct.nil)) hown3
  have H3 := Lib.hid (And.intro (H2.out.1.trans (hw3.mono H2.out.1.size)) (And.intro r3 (And.intro (H2.out.2.1.at hw3) ((H2.out.2.2.1.mono H2.out.2.2.2).at hw3))))
  clear hw3 r3 hown3 hb3 hl3 hm3
  go_wp2_with fail
  rw [run_conv (n := 3) H3.out.2.2.2 22 5 9 c1 Try.underlying22 Try.underlying5 Try.underlying9]
  have s1 : ((strOfNums [255, 1, 2]).toList == [255, 1, 2]) = true := by rw [ByteArray.toList_eq, strOfNums_data]; decide
  go_wp2_with fail
  clear s1
  rw [run_conv (n := 2) H3.out.2.2.1 22 5 9 c2 Try.underlying22 Try.underlying5 Try.underlying9]
  have s2 : ((strOfNums [254, 33]).toList == [254, 33]) = true := by rw [ByteArray.toList_eq, strOfNums_data]; decide
  go_wp2_with fail
  clear s2
  rw [run_conv (n := 2) H3.out.2.1 22 5 9 c3 Try.underlying22 Try.underlying5 Try.underlying9]
  have s3 : ((strOfNums [3, 7]).toList == [3, 7]) = true := by rw [ByteArray.toList_eq, strOfNums_data]; decide
  go_wp2_with fail
  go_ret
  exact ⟨rfl, H3.out.1⟩

theorem cells3 {w : World} {g : Nat} {t : TypeId} {x y z : Value} {fr : Nat × Nat} (h : w.heap[g]? = some (.cells #[x, y, z] t fr)) : w.cell? ⟨g, 0, none⟩ = some x ∧ w.cell? ⟨g, 1, none⟩ = some y ∧ w.cell? ⟨g, 2, none⟩ = some z :=
  ⟨cell_of_row w g 0 _ _ _ h, cell_of_row w g 1 _ _ _ h, cell_of_row w g 2 _ _ _ h⟩
theorem cells33 {w : World} {g g' : Nat} {t t' : TypeId} {x y z x' y' z' : Value} {fr fr' : Nat × Nat} (h : w.heap[g]? = some (.cells #[x, y, z] t fr)) (h' : w.heap[g']? = some (.cells #[x', y', z'] t' fr')) :
    w.cell? ⟨g, 0, none⟩ = some x ∧ w.cell? ⟨g, 1, none⟩ = some y ∧ w.cell? ⟨g, 2, none⟩ = some z ∧ w.cell? ⟨g', 0, none⟩ = some x' ∧ w.cell? ⟨g', 1, none⟩ = some y' ∧ w.cell? ⟨g', 2, none⟩ = some z' :=
  ⟨(cells3 h).1, (cells3 h).2.1, (cells3 h).2.2, (cells3 h').1, (cells3 h').2.1, (cells3 h').2.2⟩
theorem Rd.drew {B : Nat} {w : World} {A : Option Addr} {n : Nat} {l : List Int} (h : Rd B w A n l) : Rd B w.drew A n l := h
theorem blk_at {w w' : World} {B g : Nat} {o : Obj} (hb : Below B w w') (hg : g < B) (h : w.heap[g]? = some o) : w'.heap[g]? = some o := (hb.block g hg).trans h

theorem min_run (n k : Nat) (K : Int) (hk : K = (k : Int)) (m : Nat) (hm : m = min n k) : ∀ W, (Builtin.min_ #[3, 3] 3 #[.int .i64 n, .int .i64 K]).run Try.prog W = .ok (.int .i64 m) W := by
  intro W
  subst hk
  rw [run_min_int2]
  congr 2
  split <;> omega

set_option maxHeartbeats 1000000 in
theorem takes_walk (A : Option Addr) (n m : Nat) (b : List Int) (w : World) (hr : Rd w.heap.size w A n b) (hn : n ≤ m) (hm : m ≤ maxLen) :
    Calls Try.prog 5 #[.slice A n m] w fun e w' => e = .returned (.bool true) ∧ Below w.heap.size w w' := by
  obtain ⟨q, hq⟩ : ∃ k, k = min n 20 := ⟨_, rfl⟩
  have hmin := min_run n 20 20 rfl q hq
  have hrq := hr.take (k := q) (by omega)
  have hqm : q ≤ m := by omega
  have hqm' : (q : Int) ≤ (m : Int) := by omega
  clear hq
  go_enter Try.func5, Try.ntmps5
  go_wp2_with fail
  refine (take_any A q m (b.take q) w hrq hqm hm).mono ?_
  rintro e w1 h1
  generalize hT : takeM (b.take q) = T at *
  obtain ⟨⟨k, c, l⟩, err⟩ := T
  obtain ⟨A1, c1, rfl, r1, hl1, hm1, hb1⟩ := h1
  have H1 := Lib.hid (And.intro hb1 (And.intro r1 hT))
  clear hb1 r1 hT hmin
  dsimp only at *
  go_wp2_with fail
  have hb1' := (H1.out.1.alloc (o := .cells #[.int .u8 k, .int .u8 c, .slice A1 l.length c1] 24) H1.out.1.size)
  refine (refTake_any A q m (b.take q) _ ((hrq.at hb1').mono hb1'.size) hqm hm).mono ?_
  rintro e w2 h2
  rw [H1.out.2.2] at h2
  obtain ⟨A2, c2, rfl, r2, hl2, hm2, hb2⟩ := h2
  dsimp only at *
  have hw2 : Below w.heap.size w w2 := hb1'.trans (hb2.mono hb1'.size)
  have x1 := blk_at hb2 (by simp) (heap_alloc_new w1 _)
  have r12 := (H1.out.2.1.at ((Below.refl _ _).alloc (Nat.le_refl _) _)).at (hb2.mono (by simp))
  have z12 := hb2.size
  simp at z12
  have H2 := Lib.hid (And.intro hw2 (And.intro r2 (And.intro x1 r12)))
  clear hw2 r2 x1 r12 hb2 hb1'
  go_wp2_with fail
  refine (shown_any _).mono ?_
  rintro e w3 ⟨rfl, hb3⟩
  have hb23 : Below w2.heap.size w2 w3 := ((Below.refl _ _).alloc (Nat.le_refl _) _).trans (hb3.mono (by simp))
  have z3 := hb3.size
  simp at z3
  obtain ⟨p0, p1, p2⟩ := cells3 (blk_at hb23 (by omega) H2.out.2.2.1)
  obtain ⟨p3, p4, p5⟩ := cells3 (blk_at hb3 (by simp) (heap_alloc_new w2 _))
  have r13 : Rd w3.heap.size w3 A1 l.length l := ((H2.out.2.2.2).at (hb23.mono (by omega))).mono (by omega)
  have r23 : Rd w3.heap.size w3 A2 l.length l := ((H2.out.2.1).at hb23).mono (by omega)
  have H3 := Lib.hid (And.intro (H2.out.1.trans (hb23.mono H2.out.1.size)) (And.intro r13 r23))
  clear hb23 hb3 r13 r23
  go_wp2_with fail
  refine (same_any k c k c A1 A2 l.length c1 l.length c2 l l w3 H3.out.2.1 H3.out.2.2).mono ?_
  rintro e w4 ⟨rfl, hb4⟩
  simp only [and_self, decide_true]
  go_wp2_with fail
  go_ret
  exact ⟨by simp, H3.out.1.trans (hb4.mono H3.out.1.size)⟩

theorem few_q (k c : Int) (A : Option Addr) (n m q : Nat) (hq : q = min n 20) (w : World) (hn : n ≤ m) (hm : m ≤ maxLen) :
    Calls Try.prog 16 #[.agg #[.int .u8 k, .int .u8 c, .slice A n m]] w fun e w' => e = .returned (.agg #[.int .u8 k, .int .u8 c, .slice A q m]) ∧ Below w.heap.size w w' := by
  subst hq
  exact few_any k c A n m w hn hm
theorem putM_oct {k c : Int} {b l : List Int} (hc : 0 ≤ c ∧ c ≤ 255) (hb : Oct b) (h : putM k c b = some l) : Oct l := by
  unfold putM at h
  split at h
  · injection h with h
    subst h
    exact (headM_oct k c hc).append hb
  · cases h
/-- What Put told, at some later world: both ways under one roof. -/
def PutAt (w : World) (r : Option (List Int)) (v : Value) (x : Int) : Prop :=
  match r with
  | some l => ∃ A c, v = .slice A l.length c ∧ x = 0 ∧ Rd w.heap.size w A l.length l ∧ l.length ≤ c ∧ c ≤ maxLen
  | none => v = .slice none 0 0 ∧ x = 1

set_option maxHeartbeats 1000000 in
theorem puts_walk (k c : Int) (A : Option Addr) (n m : Nat) (b : List Int) (er : Int) (w : World) (hr : Rd w.heap.size w A n b) (hn : n ≤ m) (hm : m ≤ maxLen) (hc : 0 ≤ c ∧ c ≤ 255) (he0 : -9223372036854775808 ≤ er) (he1 : er ≤ 9223372036854775807) :
    Calls Try.prog 4 #[.agg #[.int .u8 k, .int .u8 c, .slice A n m], .int .i64 er] w fun e w' => e = .returned (.bool true) ∧ Below w.heap.size w w' := by
  obtain ⟨q, hq⟩ : ∃ k, k = min n 20 := ⟨_, rfl⟩
  have hrq := hr.take (k := q) (by omega)
  have hqm : q ≤ m := by omega
  have HQ := Lib.hid hq
  have HC := Lib.hid hc
  clear hq hc
  go_enter Try.func4, Try.ntmps4
  go_wp2_with fail
  have hb0 : Below w.heap.size w (w.alloc (.cells #[.int .u8 k, .int .u8 c, .slice A n m] 24)) := (Below.refl _ _).alloc (Nat.le_refl _) _
  refine (few_q k c A n m q HQ.out _ hn hm).mono ?_
  rintro e w1 ⟨rfl, hb1⟩
  have hw1 : Below w.heap.size w w1 := hb0.trans (hb1.mono (by simp))
  have x1 := blk_at hb1 (by simp) (heap_alloc_new w _)
  have z1 := hb1.size
  simp at z1
  have H1 := Lib.hid (And.intro hw1 x1)
  clear hw1 x1 hb1 hb0
  go_wp2_with fail
  refine (put_any k c A q m (b.take q) w1 ((hrq.at H1.out.1).mono H1.out.1.size) hqm hm).mono ?_
  rintro e w2 h2
  have hpo := fun l => putM_oct (k := k) (b := b.take q) (l := l) HC.out hrq.oct
  generalize hP : putM k c (b.take q) = P at *
  have HP := Lib.hid (And.intro hP hpo)
  clear hP hpo
  cases P with
  | none =>
    obtain ⟨rfl, hb2⟩ := h2
    have x2 := blk_at hb2 (by omega) H1.out.2
    obtain ⟨p0, p1, p2⟩ := cells3 x2
    have z2 := hb2.size
    have H2 := Lib.hid (And.intro (H1.out.1.trans (hb2.mono H1.out.1.size)) x2)
    clear x2 hb2
    go_wp2_with fail
    refine (few_q k c A n m q HQ.out _ hn hm).mono ?_
    rintro e w3 ⟨rfl, hb3⟩
    have hw3 := H2.out.1.trans (hb3.mono H2.out.1.size)
    have H3 := Lib.hid hw3
    clear hw3 hb3 p0 p1 p2
    go_wp2_with fail
    refine (refPut_any k c A q m (b.take q) w3 ((hrq.at H3.out).mono H3.out.size) hqm hm HC.out.1 HC.out.2).mono ?_
    rintro e w4 h4
    rw [HP.out.1] at h4
    obtain ⟨rfl, hb4⟩ := h4
    have H4 := Lib.hid (H3.out.trans (hb4.mono H3.out.size))
    clear hb4
    go_wp2_with fail
    refine (shown_any _).mono ?_
    rintro e w5 ⟨rfl, hb5⟩
    have H5 := Lib.hid (H4.out.trans (hb5.mono H4.out.size))
    clear hb5
    go_wp2_with fail
    rw [run_conv (Rd.nil 0 w5 none) 22 5 9 0 Try.underlying22 Try.underlying5 Try.underlying9]
    go_wp2_with fail
    rw [run_conv (Rd.nil 0 w5 none) 22 5 9 0 Try.underlying22 Try.underlying5 Try.underlying9]
    go_wp2_with fail
    refine (code_any er w5 he0 he1).mono ?_
    rintro e w6 ⟨rfl, rfl⟩
    go_wp2_with fail
    refine (refCode_any er w5 he0 he1).mono ?_
    rintro e w6 ⟨rfl, rfl⟩
    go_wp2_with fail
    go_ret
    exact ⟨by simp, H5.out⟩
  | some l =>
    obtain ⟨A2, c2, rfl, hown2, hl2, hm2, hb2⟩ := h2
    have hol := HP.out.2 l rfl
    have x2 := blk_at hb2 (by omega) H1.out.2
    obtain ⟨p0, p1, p2⟩ := cells3 x2
    have z2 := hb2.size
    have H2 := Lib.hid (And.intro (H1.out.1.trans (hb2.mono H1.out.1.size)) (And.intro hol (Rd.of_own hol hown2)))
    clear x2 hb2 hown2 hol
    go_wp2_with fail
    refine (few_q k c A n m q HQ.out _ hn hm).mono ?_
    rintro e w3 ⟨rfl, hb3⟩
    have H3 := Lib.hid (And.intro (H2.out.1.trans (hb3.mono H2.out.1.size)) (And.intro (H2.out.2.2.at hb3) hb3.size))
    clear hb3 p0 p1 p2
    go_wp2_with fail
    refine (refPut_any k c A q m (b.take q) w3 ((hrq.at H3.out.1).mono H3.out.1.size) hqm hm HC.out.1 HC.out.2).mono ?_
    rintro e w4 h4
    rw [HP.out.1] at h4
    obtain ⟨A4, c4, rfl, hown4, hl4, hm4, hb4⟩ := h4
    have H4 := Lib.hid (And.intro (H3.out.1.trans (hb4.mono H3.out.1.size)) (And.intro (H3.out.2.1.at (hb4.mono H3.out.2.2)) (Rd.of_own H2.out.2.1 hown4)))
    have z4 := hb4.size
    have z3 := H3.out.2.2
    clear hb4 hown4
    go_wp2_with fail
    refine (shown_any _).mono ?_
    rintro e w5 ⟨rfl, hb5⟩
    have H5 := Lib.hid (And.intro (H4.out.1.trans (hb5.mono H4.out.1.size)) (And.intro (H4.out.2.1.at (hb5.mono (by omega))) (H4.out.2.2.at hb5)))
    clear hb5
    go_wp2_with fail
    rw [run_conv H5.out.2.1 22 5 9 c2 Try.underlying22 Try.underlying5 Try.underlying9]
    go_wp2_with fail
    rw [run_conv H5.out.2.2 22 5 9 c4 Try.underlying22 Try.underlying5 Try.underlying9]
    go_wp2_with fail
    refine (code_any er w5 he0 he1).mono ?_
    rintro e w6 ⟨rfl, rfl⟩
    go_wp2_with fail
    refine (refCode_any er w5 he0 he1).mono ?_
    rintro e w6 ⟨rfl, rfl⟩
    go_wp2_with fail
    go_ret
    exact ⟨by simp, H5.out.1⟩

/-- What was put is taken. -/
theorem take_put {k c : Int} {b l : List Int} (hc : 0 ≤ c ∧ c ≤ 255) (h : putM k c b = some l) : takeM l = ((k, c, b), 0) ∧ 1 ≤ l.length ∧ l.length ≤ 8 := by
  unfold putM at h
  split at h
  · rename_i hh
    injection h with h
    subst h
    revert hh
    unfold headM
    split
    · subst k
      intro hh
      simp only [beq_iff_eq] at hh
      obtain ⟨rfl, hl⟩ := hh
      have e : ([255] ++ b).take 8 = 255 :: b := by rw [List.take_of_length_le (by simp; omega)]; rfl
      exact ⟨by simp only [takeM, e]; simp [takeC], by simp, by simp; omega⟩
    split
    · subst k
      intro hh
      have hb : b = [] := List.eq_nil_of_length_eq_zero (by have h2 := hh.2; simp only at h2; omega)
      subst hb
      exact ⟨by simp [takeM, takeC], by simp, by simp⟩
    split
    · subst k
      intro hh
      have hl := hh.2
      simp only at hl
      have e : ([253, c] ++ b).take 8 = 253 :: c :: b := by rw [List.take_of_length_le (by simp; omega)]; rfl
      exact ⟨by simp only [takeM, e]; simp [takeC], by simp, by simp; omega⟩
    split
    · subst k
      intro hh
      simp only [decide_eq_true_eq] at hh
      obtain ⟨h1, hl⟩ := hh
      have e : ([c] ++ b).take 8 = c :: b := by rw [List.take_of_length_le (by simp; omega)]; rfl
      exact ⟨by simp only [takeM, e]; simp [takeC, h1, show ¬ c = 255 by omega], by simp, by simp; omega⟩
    · intro hh
      simp at hh
  · cases h

set_option maxHeartbeats 1000000 in
theorem back_walk (k c : Int) (A : Option Addr) (n m : Nat) (b : List Int) (w : World) (hr : Rd w.heap.size w A n b) (hn : n ≤ m) (hm : m ≤ maxLen) (hc : 0 ≤ c ∧ c ≤ 255) :
    Calls Try.prog 6 #[.agg #[.int .u8 k, .int .u8 c, .slice A n m]] w fun e w' => e = .returned (.bool true) ∧ Below w.heap.size w w' := by
  obtain ⟨q, hq⟩ : ∃ k, k = min n 20 := ⟨_, rfl⟩
  have hrq := hr.take (k := q) (by omega)
  have hqm : q ≤ m := by omega
  have HQ := Lib.hid hq
  have HC := Lib.hid hc
  clear hq hc
  go_enter Try.func6, Try.ntmps6
  go_wp2_with fail
  refine (shown_any _).mono ?_
  rintro e w0 ⟨rfl, hb0⟩
  have hw0 : Below w.heap.size w w0 := ((Below.refl _ _).alloc (Nat.le_refl _) _).trans (hb0.mono (by simp))
  have x0 := blk_at hb0 (by simp) (heap_alloc_new w _)
  obtain ⟨a0, a1, a2⟩ := cells3 x0
  have z0 := hb0.size
  simp at z0
  have H0 := Lib.hid (And.intro hw0 x0)
  clear hw0 x0 hb0
  go_wp2_with fail
  refine (few_q k c A n m q HQ.out _ hn hm).mono ?_
  rintro e w1 ⟨rfl, hb1⟩
  have x1 := blk_at hb1 (by omega) H0.out.2
  have z1 := hb1.size
  have H1 := Lib.hid (And.intro (H0.out.1.trans (hb1.mono H0.out.1.size)) x1)
  clear x1 hb1 a0 a1 a2
  go_wp2_with fail
  refine (put_any k c A q m (b.take q) w1 ((hrq.at H1.out.1).mono H1.out.1.size) hqm hm).mono ?_
  rintro e w2 h2
  have hpo := fun l => putM_oct (k := k) (b := b.take q) (l := l) HC.out hrq.oct
  have htp := fun l => take_put (k := k) (b := b.take q) (l := l) HC.out
  generalize hP : putM k c (b.take q) = P at *
  cases P with
  | none =>
    obtain ⟨rfl, hb2⟩ := h2
    have H2 := Lib.hid (H1.out.1.trans (hb2.mono H1.out.1.size))
    clear hb2 hpo htp hP
    go_wp2
    go_ret
    exact ⟨rfl, H2.out⟩
  | some l =>
    obtain ⟨A2, c2, rfl, hown2, hl2, hm2, hb2⟩ := h2
    have hol := hpo l rfl
    obtain ⟨ht, hlo, hhi⟩ := htp l rfl
    have x2 := blk_at hb2 (by omega) H1.out.2
    have z2 := hb2.size
    have H2 := Lib.hid (And.intro (H1.out.1.trans (hb2.mono H1.out.1.size)) (And.intro x2 (And.intro (Rd.of_own hol hown2) ht)))
    clear x2 hb2 hown2 hol hpo htp hP ht
    have hlo' : (1 : Int) ≤ ((l.length : Nat) : Int) := by omega
    have hhi' : ((l.length : Nat) : Int) ≤ 8 := by omega
    go_wp2_with fail
    refine (take_any A2 l.length c2 l w2 H2.out.2.2.1 hl2 hm2).mono ?_
    rintro e w3 h3
    rw [H2.out.2.2.2] at h3
    obtain ⟨A3, c3, rfl, r3, hl3, hm3, hb3⟩ := h3
    dsimp only at *
    have hw3 := H2.out.1.trans (hb3.mono H2.out.1.size)
    have x3 := blk_at hb3 (by omega) H2.out.2.1
    have z3 := hb3.size
    have r3' : Rd w3.heap.size w3 A3 q (b.take q) := by have h := r3; rw [hrq.len] at h; exact h
    have e3 : (b.take q).length = q := hrq.len
    have H3 := Lib.hid (And.intro hw3 (And.intro x3 (And.intro r3' e3)))
    rw [e3] at hl3 ⊢
    clear hw3 x3 hb3 r3 r3' e3
    have hw4 := (Below.refl w3.heap.size w3).alloc (Nat.le_refl _) (.cells #[.int .u8 k, .int .u8 c, .slice A3 q c3] 24)
    have y1 : (w3.alloc (.cells #[.int .u8 k, .int .u8 c, .slice A3 q c3] 24)).drew.heap[w.heap.size]? = _ := blk_at (g := w.heap.size) hw4.drew (by omega) H3.out.2.1
    have y2 : (w3.alloc (.cells #[.int .u8 k, .int .u8 c, .slice A3 q c3] 24)).drew.heap[w3.heap.size]? = _ := heap_alloc_new w3 _
    have HY := Lib.hid (And.intro y1 (And.intro y2 hw4))
    clear y1 y2 hw4
    go_wp2
    go_region_held3 (fun w' => w'.cell? ⟨w.heap.size, 0, none⟩ = some (.int .u8 k) ∧ w'.cell? ⟨w.heap.size, 1, none⟩ = some (.int .u8 c) ∧ w'.cell? ⟨w.heap.size, 2, none⟩ = some (.slice A n m) ∧ w'.cell? ⟨w3.heap.size, 0, none⟩ = some (.int .u8 k) ∧ w'.cell? ⟨w3.heap.size, 1, none⟩ = some (.int .u8 c) ∧ w'.cell? ⟨w3.heap.size, 2, none⟩ = some (.slice A3 q c3))
      (first | (with_reducible exact cells33 HY.out.1 HY.out.2.1) | (with_reducible exact cells33 y5 y6) | (with_reducible exact cells33 y7 y8))
      (first
        | (go_at_call 16
           refine (few_q k c A n m q HQ.out _ hn hm).mono ?_
           rintro e w5 ⟨rfl, hb5⟩
           have y5 := blk_at hb5 (by simp; omega) HY.out.1
           have y6 := blk_at hb5 (by simp) HY.out.2.1
           have z5 := hb5.size
           simp at z5)
        | (go_at_call 17
           refine (same_any k c k c A3 A q c3 q m (b.take q) (b.take q) w5 ((((H3.out.2.2.1.at HY.out.2.2).drew).at (hb5.mono (by simp))).mono (by omega)) ((hrq.at (((H3.out.1.trans (HY.out.2.2.mono H3.out.1.size)).drew).trans (hb5.mono (by simp; omega)))).mono (by omega))).mono ?_
           rintro e w6 ⟨rfl, hb6⟩
           have y7 := blk_at hb6 (by omega) y5
           have y8 := blk_at hb6 (by omega) y6))
    go_wp2
    go_ret
    have hw5 := ((H3.out.1.trans (HY.out.2.2.mono H3.out.1.size)).drew).trans (hb5.mono (by simp; omega))
    exact ⟨rfl, hw5.trans (hb6.mono hw5.size)⟩

/-- What is taken is put as it was, but of Neg what stands behind its code. -/
theorem put_take {x : List Int} (hx : Oct x) (hl : x.length ≤ 8) : ∀ k c l err, takeM x = ((k, c, l), err) → Oct l ∧ 0 ≤ k ∧ k ≤ 255 ∧ 0 ≤ c ∧ c ≤ 255 ∧
    ((err ≠ 0 ∧ k = 0 ∧ putM k c l = none) ∨ (err = 0 ∧ ∃ p, putM k c l = some p ∧ Oct p ∧ (p = x ∨ p ≠ x ∧ k = 2 ∧ p.length = 2 ∧ 2 < x.length ∧ x.take 2 = p))) := by
  intro k c l err h
  unfold takeM at h
  rw [List.take_of_length_le hl] at h
  rcases x with _ | ⟨f, rest⟩
  · simp only [Prod.mk.injEq] at h
    obtain ⟨⟨rfl, rfl, rfl⟩, rfl⟩ := h
    exact ⟨Oct.nil, by omega, by omega, by omega, by omega, .inl ⟨by omega, rfl, by simp [putM, headM]⟩⟩
  · simp only at h
    have hf := hx f (by simp)
    have hr := hx.tail
    simp only [List.length_cons] at hl
    unfold takeC at h
    split at h
    · rename_i e
      subst e
      simp only [Prod.mk.injEq] at h
      obtain ⟨⟨rfl, rfl, rfl⟩, rfl⟩ := h
      exact ⟨hr, by omega, by omega, by omega, by omega, .inr ⟨rfl, 255 :: rest, by simp [putM, headM]; omega, hx, .inl rfl⟩⟩
    split at h
    · rename_i e
      simp only [Prod.mk.injEq] at h
      obtain ⟨⟨rfl, rfl, rfl⟩, rfl⟩ := h
      exact ⟨hr, by omega, by omega, hf.1, hf.2, .inr ⟨rfl, f :: rest, by simp [putM, headM, e]; omega, hx, .inl rfl⟩⟩
    split at h
    · simp only [Prod.mk.injEq] at h
      obtain ⟨⟨rfl, rfl, rfl⟩, rfl⟩ := h
      exact ⟨Oct.nil, by omega, by omega, by omega, by omega, .inl ⟨by omega, rfl, by simp [putM, headM]⟩⟩
    rcases rest with _ | ⟨y, r⟩
    · simp only [Prod.mk.injEq] at h
      obtain ⟨⟨rfl, rfl, rfl⟩, rfl⟩ := h
      exact ⟨Oct.nil, by omega, by omega, by omega, by omega, .inl ⟨by omega, rfl, by simp [putM, headM]⟩⟩
    · have hy := hr y (by simp)
      simp only at h
      split at h
      · rename_i e
        subst e
        simp only [Prod.mk.injEq] at h
        obtain ⟨⟨rfl, rfl, rfl⟩, rfl⟩ := h
        refine ⟨Oct.nil, by omega, by omega, hy.1, hy.2, .inr ⟨rfl, [254, y], by simp [putM, headM], Oct.cons (by omega) (by omega) (Oct.cons hy.1 hy.2 Oct.nil), ?_⟩⟩
        rcases r with _ | ⟨y', r⟩
        · exact .inl rfl
        · exact .inr ⟨by simp, rfl, rfl, by simp, rfl⟩
      · rename_i e1 e2 e3 e4
        have e : f = 253 := by omega
        subst e
        simp only [Prod.mk.injEq] at h
        obtain ⟨⟨rfl, rfl, rfl⟩, rfl⟩ := h
        simp only [List.length_cons] at hl
        exact ⟨hr.tail, by omega, by omega, hy.1, hy.2, .inr ⟨rfl, 253 :: y :: r, by simp [putM, headM]; omega, hx, .inl rfl⟩⟩

set_option maxHeartbeats 1000000 in
theorem once_walk (A : Option Addr) (n m : Nat) (b : List Int) (w : World) (hr : Rd w.heap.size w A n b) (hn : n ≤ m) (hm : m ≤ maxLen) :
    Calls Try.prog 7 #[.slice A n m] w fun e w' => e = .returned (.bool true) ∧ Below w.heap.size w w' := by
  obtain ⟨q, hq⟩ : ∃ k, k = min n 8 := ⟨_, rfl⟩
  have hmin := min_run n 8 8 rfl q hq
  have hrq := hr.take (k := q) (by omega)
  have hqm : q ≤ m := by omega
  have hqm' : (q : Int) ≤ (m : Int) := by omega
  have hq8 : q ≤ 8 := by omega
  have hpt := put_take hrq.oct (by rw [hrq.len]; exact hq8)
  generalize b.take q = x at *
  have HPT := Lib.hid hpt
  clear hq hpt
  go_enter Try.func7, Try.ntmps7
  go_wp2_with fail
  refine (shown_any _).mono ?_
  rintro e w0 ⟨rfl, hb0⟩
  have H0 := Lib.hid hb0
  clear hb0
  go_wp2_with fail
  refine (take_any A q m x w0 ((hrq.at H0.out).mono H0.out.size) hqm hm).mono ?_
  rintro e w1 h1
  have hp := HPT.out
  generalize takeM x = T at *
  obtain ⟨⟨k, c, l⟩, err⟩ := T
  obtain ⟨hol, hk0, hk1, hc0, hc1, hp⟩ := hp k c l err rfl
  obtain ⟨A1, c1, rfl, r1, hl1, hm1, hb1⟩ := h1
  dsimp only at *
  have H1 := Lib.hid (And.intro (H0.out.trans (hb1.mono H0.out.size)) r1)
  clear hb1 r1 hmin HPT
  have HP := Lib.hid hp
  clear hp
  go_wp2_with fail
  have hb2 := (Below.refl w1.heap.size w1).alloc (Nat.le_refl _) (.cells #[.int .u8 k, .int .u8 c, .slice A1 l.length c1] 24)
  refine (put_any k c A1 l.length c1 l _ ((H1.out.2.at hb2).mono (by simp)) hl1 hm1).mono ?_
  rintro e w3 h3
  rcases HP.out with ⟨herr, hkz, hpm⟩ | ⟨herr, p, hpm, hop, hcase⟩
  · rw [hpm] at h3
    obtain ⟨rfl, hb3⟩ := h3
    subst hkz
    have he : (err == 0) = false := by simpa using herr
    have hne : (err != 0) = true := by simpa using herr
    have x3 := blk_at hb3 (by simp) (heap_alloc_new w1 _)
    obtain ⟨p0, p1, p2⟩ := cells3 x3
    have H3 := Lib.hid ((H1.out.1.trans (hb2.mono H1.out.1.size)).trans (hb3.mono (by simpa using Nat.le_succ_of_le H1.out.1.size)))
    clear hb3 x3 hb2 herr hpm HP
    go_wp2
    go_ret
    exact ⟨rfl, H3.out⟩
  · rw [hpm] at h3
    subst herr
    obtain ⟨A3, c3, rfl, hown3, hl3, hm3, hb3⟩ := h3
    have x3 := blk_at hb3 (by simp) (heap_alloc_new w1 _)
    obtain ⟨p0, p1, p2⟩ := cells3 x3
    have hw3 := (H1.out.1.trans (hb2.mono H1.out.1.size)).trans (hb3.mono (by simpa using Nat.le_succ_of_le H1.out.1.size))
    have v1 := fun nq => run_conv (P := Try.prog) (w := w3.drewN nq) (Rd.of_own hop hown3) 22 5 9 c3 Try.underlying22 Try.underlying5 Try.underlying9
    have rx := hrq.at hw3
    have v2 := fun nq => run_conv (P := Try.prog) (w := w3.drewN nq) rx 22 5 9 m Try.underlying22 Try.underlying5 Try.underlying9
    have H3 := Lib.hid hw3
    clear hb3 x3 hb2 hpm HP hown3 hw3 rx
    rcases hcase with rfl | ⟨hne, rfl, hp2, hx2, htk⟩
    · have hs1 : ((strOfNums p).toList == (strOfNums p).toList) = true := by simp
      go_wp2
      go_quiet (fail)
      go_wp2
      go_ret
      exact ⟨rfl, below_drewN H3.out nq⟩
    · have hs1 : ((strOfNums p).toList == (strOfNums x).toList) = false := by rw [str_beq hop hrq.oct]; simpa using hne
      have hs2 : ((strOfNums (x.take 2)).toList == (strOfNums p).toList) = true := by rw [htk]; simp
      have hlx := hrq.len
      have rx := (hrq.take (k := 2) (by omega)).at H3.out
      have v3 := fun nq => run_conv (P := Try.prog) (w := w3.drewN nq) rx 22 5 9 m Try.underlying22 Try.underlying5 Try.underlying9
      have hp2' : ((p.length : Int) == 2) = true := by rw [hp2]; rfl
      have hq2 : (2 : Int) < (q : Int) := by omega
      have h2m : (2 : Int) ≤ (m : Int) := by omega
      clear hne hp2 hx2 htk hlx rx
      go_wp2
      go_quiet (fail)
      go_wp2
      go_ret
      exact ⟨rfl, below_drewN H3.out nq⟩

end Go.Proofs.Yteioamllbaihdaa
