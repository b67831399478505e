/-
  Layer 7's statement RepKinds, walked.
-/
import Derived.Test.YteioamllbaihdaaRepLaw
set_option linter.unusedVariables false
set_option maxRecDepth 100000
namespace Go.Proofs.Yteioamllbaihdaa
open Go.RowKit

/-! ### RepKinds -/
theorem kind_put {k c : Int} {b l : List Int} (hc : 0 ≤ c ∧ c ≤ 255) (h : putM k c b = some l) : ∃ f rest, l = f :: rest ∧ ((k = 1 ∧ f = 255) ∨ (k = 2 ∧ f = 254) ∨ (k = 3 ∧ f = 253) ∨ (k = 4 ∧ f ≤ 191)) := by
  unfold putM at h
  split at h
  · rename_i hh
    injection h with h
    subst h
    revert hh
    unfold headM
    split
    · subst k
      exact fun _ => ⟨255, b, rfl, by simp⟩
    split
    · subst k
      exact fun _ => ⟨254, c :: b, rfl, by simp⟩
    split
    · subst k
      exact fun _ => ⟨253, c :: b, rfl, by simp⟩
    split
    · subst k
      intro hh
      exact ⟨c, b, rfl, by have := hh.1; simp at this; simp [this]⟩
    · intro hh
      simp at hh
  · cases h
theorem put_inj {k c k' c' : Int} {b b' l l' : List Int} (hc : 0 ≤ c ∧ c ≤ 255) (hc' : 0 ≤ c' ∧ c' ≤ 255) (h : putM k c b = some l) (h' : putM k' c' b' = some l') : (l = l') ↔ (k = k' ∧ c = c' ∧ b = b') := by
  constructor
  · rintro rfl
    have e := (take_put hc h).1.symm.trans (take_put hc' h').1
    simp only [Prod.mk.injEq] at e
    exact ⟨e.1.1, e.1.2.1, e.1.2.2⟩
  · rintro ⟨rfl, rfl, rfl⟩
    rw [h] at h'
    exact Option.some.inj h'
theorem same_D (k c k' c' : Int) (A A' : Option Addr) (n m n' m' : Nat) (b b' : List Int) (D : Bool) (hD : decide (k = k' ∧ c = c' ∧ b = b') = D) (w : World) (hr : Rd w.heap.size w A n b) (hr' : Rd w.heap.size w A' n' b') :
    Calls Try.prog 17 #[.agg #[.int .u8 k, .int .u8 c, .slice A n m], .agg #[.int .u8 k', .int .u8 c', .slice A' n' m']] w fun e w' => e = .returned (.bool D) ∧ Below w.heap.size w w' := by
  subst hD
  exact same_any k c k' c' A A' n m n' m' b b' w hr hr'
theorem cells33c {P : Program} {w : World} {g g' : Nat} {t t' : TypeId} {x y z x' y' z' : Value} {fr fr' : Nat × Nat} {B B' : Nat} {A A' : Option Addr} {n n' c c' : Nat} {l l' : List Int} {S E D : Nat} (hS : P.underlying S = some (.slice E)) (hE : P.underlying E = some (.int .u8)) (hD : P.underlying D = some .string)
    (h : w.heap[g]? = some (.cells #[x, y, z] t fr)) (h' : w.heap[g']? = some (.cells #[x', y', z'] t' fr')) (r : Rd B w A n l) (r' : Rd B' w A' n' l') :
    w.cell? ⟨g, 0, none⟩ = some x ∧ w.cell? ⟨g, 1, none⟩ = some y ∧ w.cell? ⟨g, 2, none⟩ = some z ∧ w.cell? ⟨g', 0, none⟩ = some x' ∧ w.cell? ⟨g', 1, none⟩ = some y' ∧ w.cell? ⟨g', 2, none⟩ = some z' ∧
      (convert S D (.slice A n c)).run P w = .ok (.string (strOfNums l)) w ∧ (convert S D (.slice A' n' c')).run P w = .ok (.string (strOfNums l')) w :=
  ⟨(cells3 h).1, (cells3 h).2.1, (cells3 h).2.2, (cells3 h').1, (cells3 h').2.1, (cells3 h').2.2, run_conv r _ _ _ _ hS hE hD, run_conv r' _ _ _ _ hS hE hD⟩

/-- What the walk has behind both calls of Put. -/
structure KindsAt (k c k' c' : Int) (A A' : Option Addr) (n m n' m' : Nat) (l l' : List Int) (A2 A4 : Option Addr) (c2 c4 : Nat) (w w4 : World) : Prop where
  bel : Below w.heap.size w w4
  one : w4.heap[w.heap.size]? = some (.cells #[.int .u8 k, .int .u8 c, .slice A n m] 24)
  two : w4.heap[w.heap.size + 1]? = some (.cells #[.int .u8 k', .int .u8 c', .slice A' n' m'] 24)
  rd : Rd w4.heap.size w4 A2 l.length l
  rd' : Rd w4.heap.size w4 A4 l'.length l'
theorem KindsAt.next {k c k' c' : Int} {A A' : Option Addr} {n m n' m' : Nat} {l l' : List Int} {A2 A4 : Option Addr} {c2 c4 : Nat} {w w4 w5 : World} (h : KindsAt k c k' c' A A' n m n' m' l l' A2 A4 c2 c4 w w4) (hb : Below w4.heap.size w4 w5) (hz : w.heap.size + 2 ≤ w4.heap.size) : KindsAt k c k' c' A A' n m n' m' l l' A2 A4 c2 c4 w w5 :=
  ⟨h.bel.trans (hb.mono h.bel.size), blk_at hb (by omega) h.one, blk_at hb (by omega) h.two, (h.rd.at hb).mono hb.size, (h.rd'.at hb).mono hb.size⟩
theorem KindsAt.drew {k c k' c' : Int} {A A' : Option Addr} {n m n' m' : Nat} {l l' : List Int} {A2 A4 : Option Addr} {c2 c4 : Nat} {w w4 : World} (h : KindsAt k c k' c' A A' n m n' m' l l' A2 A4 c2 c4 w w4) : KindsAt k c k' c' A A' n m n' m' l l' A2 A4 c2 c4 w w4.drew :=
  ⟨h.bel.drew, h.one, h.two, h.rd, h.rd'⟩
theorem KindsAt.held {k c k' c' : Int} {A A' : Option Addr} {n m n' m' : Nat} {l l' : List Int} {A2 A4 : Option Addr} {c2 c4 : Nat} {w w4 : World} (h : KindsAt k c k' c' A A' n m n' m' l l' A2 A4 c2 c4 w w4) :
    w4.cell? ⟨w.heap.size, 0, none⟩ = some (.int .u8 k) ∧ w4.cell? ⟨w.heap.size, 1, none⟩ = some (.int .u8 c) ∧ w4.cell? ⟨w.heap.size, 2, none⟩ = some (.slice A n m) ∧ w4.cell? ⟨w.heap.size + 1, 0, none⟩ = some (.int .u8 k') ∧ w4.cell? ⟨w.heap.size + 1, 1, none⟩ = some (.int .u8 c') ∧ w4.cell? ⟨w.heap.size + 1, 2, none⟩ = some (.slice A' n' m') ∧
      (convert 22 9 (.slice A2 l.length c2)).run Try.prog w4 = .ok (.string (strOfNums l)) w4 ∧ (convert 22 9 (.slice A4 l'.length c4)).run Try.prog w4 = .ok (.string (strOfNums l')) w4 :=
  cells33c Try.underlying22 Try.underlying5 Try.underlying9 h.one h.two h.rd h.rd'

theorem KindsAt.step {k c k' c' : Int} {A A' : Option Addr} {n m n' m' : Nat} {l l' : List Int} {A2 A4 : Option Addr} {c2 c4 : Nat} {w w4 w5 : World} (h : KindsAt k c k' c' A A' n m n' m' l l' A2 A4 c2 c4 w w4 ∧ w.heap.size + 2 ≤ w4.heap.size) (hb : Below w4.heap.size w4 w5) :
    KindsAt k c k' c' A A' n m n' m' l l' A2 A4 c2 c4 w w5 ∧ w.heap.size + 2 ≤ w5.heap.size := ⟨h.1.next hb h.2, Nat.le_trans h.2 hb.size⟩

set_option maxHeartbeats 4000000 in
theorem kinds_walk (k c k' c' : Int) (A A' : Option Addr) (n m n' m' : Nat) (b b' : List Int) (w : World) (hr : Rd w.heap.size w A n b) (hn : n ≤ m) (hm : m ≤ maxLen) (hc : 0 ≤ c ∧ c ≤ 255) (hr' : Rd w.heap.size w A' n' b') (hn' : n' ≤ m') (hm' : m' ≤ maxLen) (hc' : 0 ≤ c' ∧ c' ≤ 255) :
    Calls Try.prog 3 #[.agg #[.int .u8 k, .int .u8 c, .slice A n m], .agg #[.int .u8 k', .int .u8 c', .slice A' n' m']] w fun e w' => e = .returned (.bool true) ∧ Below w.heap.size w w' := by
  obtain ⟨q, hq⟩ : ∃ k, k = min n 20 := ⟨_, rfl⟩
  obtain ⟨q', hq'⟩ : ∃ k, k = min n' 20 := ⟨_, rfl⟩
  have hrq := hr.take (k := q) (by omega)
  have hrq' := hr'.take (k := q') (by omega)
  have hqm : q ≤ m := by omega
  have hqm' : q' ≤ m' := by omega
  generalize b.take q = x at *
  generalize b'.take q' = x' at *
  have HQ := Lib.hid (And.intro hq (And.intro hq' (And.intro hc hc')))
  clear hq hq' hc hc'
  go_enter Try.func3, Try.ntmps3
  go_wp2_with fail
  refine (shown_any _).mono ?_
  rintro e w0 ⟨rfl, hb0⟩
  have hw0 : Below w.heap.size w w0 := (below2 w _ _).trans (hb0.mono (by simp; omega))
  have x0 := blk_at hb0 (by simp; omega) (heap_alloc2_old w _ _)
  have y0 := blk_at hb0 (by simp) (heap_alloc2_new w _ _)
  obtain ⟨a0, a1, a2⟩ := cells3 x0
  have z0 := hb0.size
  simp at z0
  have H0 := Lib.hid (And.intro hw0 (And.intro x0 y0))
  clear hw0 x0 y0 hb0
  go_wp2_with fail
  refine (few_q k c A n m q HQ.out.1 _ hn hm).mono ?_
  rintro e w1 ⟨rfl, hb1⟩
  have z1 := hb1.size
  have H1 := Lib.hid (And.intro (H0.out.1.trans (hb1.mono H0.out.1.size)) (And.intro (blk_at hb1 (by omega) H0.out.2.1) (blk_at hb1 (by omega) H0.out.2.2)))
  clear hb1 a0 a1 a2
  go_wp2_with fail
  refine (put_any k c A q m x w1 ((hrq.at H1.out.1).mono H1.out.1.size) hqm hm).mono ?_
  rintro e w2 h2
  obtain ⟨v2, er2, rfl, h2', hb2⟩ : ∃ v2 er2, e = .returned (.tuple #[v2, .int .i64 er2]) ∧ PutAt w2 (putM k c x) v2 er2 ∧ Below w1.heap.size w1 w2 := by
    have hpo := fun l => putM_oct (k := k) (b := x) (l := l) HQ.out.2.2.1 hrq.oct
    revert h2 hpo
    cases putM k c x with
    | none => exact fun h _ => ⟨_, _, h.1, ⟨rfl, rfl⟩, h.2⟩
    | some l => exact fun ⟨A2, c2, h1, h2, h3, h4, h5⟩ hpo => ⟨_, _, h1, ⟨A2, c2, rfl, rfl, Rd.of_own (hpo l rfl) h2, h3, h4⟩, h5⟩
  clear h2
  have y2 := blk_at hb2 (by omega) H1.out.2.2
  obtain ⟨a0, a1, a2⟩ := cells3 y2
  have z2 := hb2.size
  have H2 := Lib.hid (And.intro (H1.out.1.trans (hb2.mono H1.out.1.size)) (And.intro (blk_at hb2 (by omega) H1.out.2.1) (And.intro y2 h2')))
  clear hb2 y2 h2'
  go_wp2_with fail
  refine (few_q k' c' A' n' m' q' HQ.out.2.1 _ hn' hm').mono ?_
  rintro e w3 ⟨rfl, hb3⟩
  have z3 := hb3.size
  have H3 := Lib.hid (And.intro (H2.out.1.trans (hb3.mono H2.out.1.size)) (And.intro (blk_at hb3 (by omega) H2.out.2.1) (And.intro (blk_at hb3 (by omega) H2.out.2.2.1) hb3)))
  clear hb3 a0 a1 a2
  go_wp2_with fail
  refine (put_any k' c' A' q' m' x' w3 ((hrq'.at H3.out.1).mono H3.out.1.size) hqm' hm').mono ?_
  rintro e w4 h4
  have hp2 := H2.out.2.2.2
  cases hP2 : putM k' c' x' with
  | none =>
    rw [hP2] at h4
    obtain ⟨rfl, hb4⟩ := h4
    have H4 := Lib.hid (H3.out.1.trans (hb4.mono H3.out.1.size))
    cases hP : putM k c x with
    | none =>
      rw [hP] at hp2
      obtain ⟨rfl, rfl⟩ := hp2
      clear hb4 hP hP2
      go_wp2
      go_ret
      exact ⟨rfl, H4.out⟩
    | some l =>
      rw [hP] at hp2
      obtain ⟨A2, c2, rfl, rfl, r2, hl2, hm2⟩ := hp2
      clear hb4 hP hP2
      go_wp2
      go_ret
      exact ⟨rfl, H4.out⟩
  | some l' =>
    rw [hP2] at h4
    obtain ⟨A4, c4, rfl, hown4, hl4, hm4, hb4⟩ := h4
    have H4 := Lib.hid (H3.out.1.trans (hb4.mono H3.out.1.size))
    cases hP : putM k c x with
    | none =>
      rw [hP] at hp2
      obtain ⟨rfl, rfl⟩ := hp2
      clear hb4 hP hP2 hown4
      go_wp2
      go_ret
      exact ⟨rfl, H4.out⟩
    | some l =>
      rw [hP] at hp2
      obtain ⟨A2, c2, rfl, rfl, r2, hl2, hm2⟩ := hp2
      have z4 := hb4.size
      have KA : KindsAt k c k' c' A A' n m n' m' l l' A2 A4 c2 c4 w w4 :=
        ⟨H4.out, blk_at hb4 (by omega) H3.out.2.1, blk_at hb4 (by omega) H3.out.2.2.1, ((r2.at H3.out.2.2.2).at (hb4.mono z3)).mono (by omega), Rd.of_own (putM_oct HQ.out.2.2.2 hrq'.oct hP2) hown4⟩
      obtain ⟨f, rest, hlf, hkf⟩ := kind_put HQ.out.2.2.1 hP
      obtain ⟨f', rest', hlf', _⟩ := kind_put HQ.out.2.2.2 hP2
      obtain ⟨D, hD⟩ : ∃ D, decide (k = k' ∧ c = c' ∧ x = x') = D := ⟨_, rfl⟩
      have hs : ((strOfNums l).toList == (strOfNums l').toList) = D := by
        rw [str_beq (putM_oct HQ.out.2.2.1 hrq.oct hP) (putM_oct HQ.out.2.2.2 hrq'.oct hP2), ← hD]
        exact decide_eq_decide.2 (put_inj HQ.out.2.2.1 HQ.out.2.2.2 hP hP2)
      have hlp : ((l.length : Int) == 0) = false := by rw [hlf]; simp; omega
      have hlp' : ((l'.length : Int) == 0) = false := by rw [hlf']; simp; omega
      have hl0 : 0 < l.length := by rw [hlf]; simp
      obtain ⟨g, og, rfl, hg, hgc⟩ := KA.rd.cell hl0
      have g0 := hgc 0 hl0
      have hf0 : l.getD 0 0 = f := by rw [hlf]; rfl
      rw [Nat.add_zero, hf0] at g0
      have HK := Lib.hid (And.intro KA hD)
      have zz : w.heap.size + 2 ≤ w4.heap.size := by omega
      have hoct := (putM_oct HQ.out.2.2.1 hrq.oct hP) f (by rw [hlf]; simp)
      clear hb4 hP hP2 hown4 r2 KA hlf hlf' hD hgc hf0
      obtain ⟨hf0, hf1⟩ := hoct
      rcases hkf with ⟨hk, hf⟩ | ⟨hk, hf⟩ | ⟨hk, hf⟩ | ⟨hk, hf⟩
      case' inl =>
        have g5 : (f == 255) = true := by simp [hf]
        have gk : (k == 1) = true := by simp [hk]
      case' inr.inl =>
        have g5 : (f == 255) = false := by simp [hf]
        have g4 : (f == 254) = true := by simp [hf]
        have gk : (k == 2) = true := by simp [hk]
      case' inr.inr.inl =>
        have g5 : (f == 255) = false := by simp [hf]
        have g4 : (f == 254) = false := by simp [hf]
        have g3 : (f == 253) = true := by simp [hf]
        have gk : (k == 3) = true := by simp [hk]
      case' inr.inr.inr =>
        have g5 : (f == 255) = false := by simp; omega
        have g4 : (f == 254) = false := by simp; omega
        have g3 : (f == 253) = false := by simp; omega
        have gk : (k == 4) = true := by simp [hk]
      all_goals
        clear hk hf
        have K0 := Lib.hid (And.intro HK.out.1.drew zz)
        go_wp2
        go_region_held3 (fun w' => w'.cell? ⟨w.heap.size, 0, none⟩ = some (.int .u8 k) ∧ w'.cell? ⟨w.heap.size, 1, none⟩ = some (.int .u8 c) ∧ w'.cell? ⟨w.heap.size, 2, none⟩ = some (.slice A n m) ∧ w'.cell? ⟨w.heap.size + 1, 0, none⟩ = some (.int .u8 k') ∧ w'.cell? ⟨w.heap.size + 1, 1, none⟩ = some (.int .u8 c') ∧ w'.cell? ⟨w.heap.size + 1, 2, none⟩ = some (.slice A' n' m') ∧ (convert 22 9 (.slice (some ⟨g, og, none⟩) l.length c2)).run Try.prog w' = .ok (.string (strOfNums l)) w' ∧ (convert 22 9 (.slice A4 l'.length c4)).run Try.prog w' = .ok (.string (strOfNums l')) w')
          (first | (with_reducible exact K3.out.1.held) | (with_reducible exact K2.out.1.held) | (with_reducible exact K1.out.1.held) | (with_reducible exact K0.out.1.held))
          (first
            | (go_at_call 16
               with_reducible refine (few_q k c A n m q HQ.out.1 _ hn hm).mono ?_
               rintro e w5 ⟨rfl, hb5⟩
               (first | have K2 := Lib.hid (KindsAt.step K1.out hb5) | have K1 := Lib.hid (KindsAt.step K0.out hb5))
               clear hb5)
            | (go_at_call 16
               with_reducible refine (few_q k' c' A' n' m' q' HQ.out.2.1 _ hn' hm').mono ?_
               rintro e w5 ⟨rfl, hb5⟩
               (first | have K2 := Lib.hid (KindsAt.step K1.out hb5) | have K1 := Lib.hid (KindsAt.step K0.out hb5))
               clear hb5)
            | (go_at_call 17
               refine (same_D k c k' c' A A' q m q' m' x x' D HK.out.2 _ ((hrq.at K2.out.1.bel).mono K2.out.1.bel.size) ((hrq'.at K2.out.1.bel).mono K2.out.1.bel.size)).mono ?_
               rintro e w5 ⟨rfl, hb5⟩
               have K3 := Lib.hid (KindsAt.step K2.out hb5)
               clear hb5))
        all_goals
          go_wp2
          go_ret
          exact ⟨by simp, K3.out.1.bel⟩
end Go.Proofs.Yteioamllbaihdaa
