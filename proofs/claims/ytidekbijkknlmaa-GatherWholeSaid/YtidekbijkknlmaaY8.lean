/-
  Layer 19: GatherNone, walked.
-/
import Derived.Test.YtidekbijkknlmaaY7
set_option linter.unusedVariables false
set_option maxRecDepth 100000
namespace Go.Proofs.Ytidekbijkknlmaa
open Go.RowKit
attribute [local irreducible] TL TC TQ TK TO Qt TA
theorem plL_set (ls : List LC) : ∀ (i : Nat), (∀ x ∈ ls, x.stim = true) → ∀ t : Nat, ((plL i ls)[t]?).join = none := by
  induction ls with
  | nil => intro i _ t; simp [plL]
  | cons x l ih =>
    intro i h t
    rw [plL]
    by_cases ht : t < x.n
    · rw [List.getElem?_append_left (by simpa using ht)]
      simp [ht, h x (by simp)]
    · rw [List.getElem?_append_right (by simp; omega)]
      exact ih (i + 1) (fun y hy => h y (by simp [hy])) _
theorem takeG_no {P : List (Option (Nat × Nat))} {S : List GL} {kind code : Nat} {b : List Int} (h : kind = 4 → (P[if 64 ≤ code then code - 64 else code]?).join = none) : takeG P S kind code b = (S, none) := by
  unfold takeG
  by_cases h4 : kind = 4
  · rw [if_pos h4, h h4]
  · rw [if_neg h4]
def sumN (ls : List LC) : Nat := (ls.map (·.n)).sum
theorem plL_sum : ∀ (i : Nat) (ls : List LC), (plL i ls).length = sumN ls
  | i, [] => rfl
  | i, x :: l => by
    rw [plL, List.length_append, List.length_map, List.length_range, plL_sum (i + 1) l]
    simp [sumN]
def setS (b : Bool) (x : LC) : LC := { x with stim := b }
theorem lcC_len (x : LC) : (lcC x).length = 8 := rfl
theorem sumN_take {ls : List LC} {i : Nat} {x : LC} (h : ls[i]? = some x) : sumN (ls.take (i + 1)) = sumN (ls.take i) + x.n := by
  rw [List.take_add_one, h]
  simp [sumN]
theorem sumN_le {k : Nat} : ∀ {ls : List LC}, (∀ x ∈ ls, x.n ≤ k) → sumN ls ≤ k * ls.length
  | [], _ => by simp [sumN]
  | x :: l, h => by
    have h1 := sumN_le (k := k) (ls := l) (fun y hy => h y (by simp [hy]))
    have h2 := h x (by simp)
    have h3 : sumN (x :: l) = x.n + sumN l := by simp [sumN]
    rw [h3, List.length_cons, Nat.mul_add]
    omega
def mixC (b : Bool) (xs : List LC) (i : Nat) : List LC := (xs.take i).map (setS b) ++ xs.drop i
theorem mixC_len (b : Bool) (xs : List LC) (i : Nat) : (mixC b xs i).length = xs.length := by simp [mixC]; omega
theorem mixC_get {b : Bool} {xs : List LC} {i : Nat} {x : LC} (h : xs[i]? = some x) : (mixC b xs i)[i]? = some x := by
  have hi := (List.getElem?_eq_some_iff.1 h).1
  rw [mixC, List.getElem?_append_right (by simp; omega)]
  simp only [List.length_map, List.length_take]
  rw [Nat.min_eq_left (by omega), Nat.sub_self, List.getElem?_drop]
  exact h
theorem mixC_set {b : Bool} {xs : List LC} {i : Nat} {x : LC} (h : xs[i]? = some x) : (mixC b xs i).set i (setS b x) = mixC b xs (i + 1) := by
  have hi := (List.getElem?_eq_some_iff.1 h).1
  rw [mixC, List.set_append_right _ _ (by simp; omega)]
  simp only [List.length_map, List.length_take]
  rw [Nat.min_eq_left (by omega), Nat.sub_self, List.drop_eq_getElem_cons hi, List.set_cons_zero, mixC, List.take_add_one, h]
  simp
theorem mixC_all (b : Bool) (xs : List LC) : mixC b xs xs.length = xs.map (setS b) := by simp [mixC]
theorem mixC_zero (b : Bool) (xs : List LC) : mixC b xs 0 = xs := by simp [mixC]
theorem flatF_len {α : Type} {f : α → List Value} {s : Nat} (hf : ∀ x, (f x).length = s) (xs : List α) : (xs.flatMap f).length = xs.length * s := by
  induction xs with
  | nil => simp
  | cons x l ih => rw [List.flatMap_cons, List.length_append, ih, List.length_cons, hf, Nat.add_mul]; omega
/-- A row of structs, opened at one of them. -/
theorem rowF_open {α : Type} {f : α → List Value} {s : Nat} (hf : ∀ x, (f x).length = s) {S : Nat → Prop} {w0 w : World} {e : TypeId} {n c i : Nat} {A : Option Addr} {xs : List α} {x : α} {F : List Asn} (hn : xs.length = n) (hi : xs[i]? = some x) (h : St S w0 (row e s (.slice A n c) n (xs.flatMap f) :: F) w) : ∃ z : Nat × List Value × List Value, (A = some ⟨z.1, 0, none⟩ ∧ z.2.1.length = i * s ∧ ∀ y F' w', St S w0 (blk z.1 (z.2.1 ++ (f y ++ z.2.2)) e :: F') w' → St S w0 (row e s (.slice A n c) n ((xs.set i y).flatMap f) :: F') w') ∧ St S w0 (blk z.1 (z.2.1 ++ (f x ++ z.2.2)) e :: F) w := by
  have hil := (List.getElem?_eq_some_iff.1 hi).1
  obtain ⟨⟨gl, junk⟩, ⟨q1, q2, q3, q4⟩, h3⟩ := row_open (by omega) h
  subst q1
  have h1 : ∀ y, (xs.set i y).flatMap f ++ junk = (xs.take i).flatMap f ++ (f y ++ ((xs.drop (i + 1)).flatMap f ++ junk)) := fun y => by
    rw [List.set_eq_take_append_cons_drop, if_pos hil, List.flatMap_append, List.flatMap_cons, List.append_assoc, List.append_assoc]
  have h2 : xs.set i x = xs := by
    have e2 := List.getElem?_eq_some_iff.1 hi
    rw [← e2.2]
    exact List.set_getElem_self hil
  refine ⟨(gl, (xs.take i).flatMap f, (xs.drop (i + 1)).flatMap f ++ junk), ⟨rfl, by rw [flatF_len hf, List.length_take, Nat.min_eq_left (by omega)], fun y F' w' h => ?_⟩, ?_⟩
  · dsimp only at h
    rw [← h1] at h
    exact row_shut q2 q3 (by rw [flatF_len hf, List.length_set]; rw [hn]) (by rw [List.length_append, flatF_len hf, List.length_set]; rw [List.length_append, flatF_len hf] at q4; exact q4) h
  · have := h1 x
    rw [h2] at this
    dsimp only at h3 ⊢
    rw [← this]
    exact h3
attribute [local irreducible] blk row bytesA starL memA segA roB
attribute [local irreducible] mapA partA gaA rgA
set_option maxHeartbeats 8000000 in
theorem gatherNone_walk (W : World) (A : Option Addr) (n c : Nat) (ls0 : List ListI) (hls : InS (fps []) W 8 (InList (fps []) W) A n ls0) (hnc : n ≤ c) (hcm : c ≤ maxLen) (kind code : Nat) (hkd : kind ≤ 255) (hcd : code ≤ 255) (B : Option Addr) (k cb : Nat) (b : List Int) (hr : (roB B k b).C W) (hkc : k ≤ cb) (hcb : cb ≤ maxLen) :
    Calls Try.prog 7 #[.slice A n c, .agg #[.int .u8 kind, .int .u8 code, .slice B k cb]] W (Ret W [] fun v _ => v = .bool true) := by
  obtain ⟨lcs, hlc⟩ := lc_of hls
  refine enter (vs := [.slice A n c, .agg #[.int .u8 kind, .int .u8 code, .slice B k cb]]) Try.func7 rfl Try.ntmps7 rfl (Hold.nil W) ?_
  have hmx : maxLen = 2 ^ 63 - 1 := rfl
  (repeat (first | (refine i_dst ?_; (first | (refine i_assign ?_; refine l_q rfl rfl rfl (q_assign rfl) ?_) | (refine i_box ?_; (refine l_boxA rfl rfl (fun _ => ?_))))) | refine d_seq ?_ | refine c_region ?_ | refine l_nil ?_ | (refine i_q ?_; (refine d_then ?_))))
  rename_i bR
  (refine l_call0 rfl rfl Try.func11 rfl (by decide) (fun w' h => shown19_spec w') (fun v B hv => ?_); obtain ⟨rfl, rfl⟩ := hv)
  (repeat (first | (refine i_dst ?_; (first | (refine i_move ?_; refine l_q rfl rfl rfl (q_move rfl) ?_) | (refine i_assign ?_; refine l_q rfl rfl rfl (q_assign rfl) ?_))) | refine d_seq ?_ | refine c_region ?_ | refine l_nil ?_ | (refine i_q ?_; (refine d_then ?_))))
  (refine l_call0 rfl rfl Try.func12 rfl (by decide) (fun w' h => few19_spec A n c lcs w' (hlc.to (fun r hr => roOf0 h hr) (fun _ _ h => h)) hnc hcm) (fun v B hv => ?_); obtain ⟨A1, c1, xs, rfl, hx1, hx2, rfl, hx3, hx4⟩ := hv)
  obtain ⟨nl, hnl⟩ : ∃ nl, nl = xs.length := ⟨_, rfl⟩
  rw [← hnl] at hx1 hx3 ⊢
  have hxm : ∀ x ∈ xs, x.n ≤ 1000 := fun x hx => by have := (hx4 x hx).1; omega
  have hx20 : ∀ x ∈ xs, x.n ≤ 20 := fun x hx => (hx4 x hx).1
  (repeat (first | (refine i_dst ?_; (first | (refine i_move ?_; refine l_q rfl rfl rfl (q_move rfl) ?_) | (refine i_assign ?_; refine l_q rfl rfl rfl (q_assign rfl) ?_) | (refine i_blt ?_; refine l_q rfl rfl rfl (by (exact q_len tab rfl rfl)) ?_))) | refine d_seq ?_ | refine c_region ?_ | refine l_nil ?_ | refine c_block ?_ | (refine i_q ?_; (refine d_then ?_))))
  refine d_loop (T := Nat) [3, 5, 6, 25] (fun i => [(26, .int .i64 i), (7, .int .i64 (sumN (xs.take i) : Nat))]) [blk bR [.int .u8 kind, .int .u8 code, .slice B k cb] 32] (fun i => [row 45 8 (.slice A1 nl c1) nl ((mixC true xs i).flatMap lcC)]) (fun i => i ≤ nl) (fun i => nl - i) 0 (by first | ((repeat (first | exact Pick.nil | exact rfl | apply Pick.cons)); done) | fail) (Nat.zero_le _) (by first | ((repeat (first | exact trivial | exact rfl | apply Sub.cons | exact look_int rfl (by omega) | exact look_int rfl (by simp) | exact look_int rfl (by simp; omega))); done) | fail) (fun w h => by rw [mixC_zero]; exact h.psub (by first | ((repeat (first | exact PSub.nil | exact Ext.head | apply Ext.tail | apply PSub.cons)); done) | fail)) ?_
  intro i hi
  by_cases hlt : i < nl
  · obtain ⟨x, hx⟩ : ∃ x, xs[i]? = some x := ⟨_, List.getElem?_eq_getElem (by omega)⟩
    have hsum := sumN_take hx
    have hsl : sumN (xs.take i) ≤ 20 * 6 := by
      have := sumN_le (k := 20) (ls := xs.take i) (fun y hy => hx20 y (List.mem_of_mem_take hy))
      rw [List.length_take] at this
      omega
    have hx20' := hx20 x (List.mem_of_getElem? hx)
    refine c_ex (hp' := fun z : Nat × List Value × List Value => blk z.1 (z.2.1 ++ (lcC x ++ z.2.2)) 45 :: [blk bR [.int .u8 kind, .int .u8 code, .slice B k cb] 32]) (fun w h => rowF_open lcC_len (n := nl) (i := i) (x := x) (by rw [mixC_len]; omega) (mixC_get hx) (h.psub (by first | ((repeat (first | exact PSub.nil | exact Ext.head | apply Ext.tail | apply PSub.cons)); done) | fail))) ?_
    rintro ⟨gl, pre, post⟩ ⟨rfl, hp8, hclose⟩
    dsimp only at hp8 hclose ⊢
    obtain ⟨first, At, nt, ct, stim, ev, pre_, pri, on, ch⟩ := x
    unfold lcC at hclose ⊢
    dsimp only [List.cons_append, List.nil_append] at hclose hx20' hsum ⊢
    have hk0 : ∀ a : Value, (pre ++ .int .i64 first :: .slice At nt ct :: a :: .int .u8 ev :: .int .u8 pre_ :: .int .u8 pri :: .bool on :: .bool ch :: post)[0 + ((i : Nat) : Int).toNat * 8 + 1]? = some (.slice At nt ct) := fun a => by
      rw [show 0 + ((i : Nat) : Int).toNat * 8 + 1 = (pre ++ [Value.int .i64 first]).length by simp; omega, show ∀ l : List Value, pre ++ .int .i64 first :: l = (pre ++ [.int .i64 first]) ++ l by simp]
      simp
    have lk0 : ∀ a v : Value, LSet (pre ++ .int .i64 first :: .slice At nt ct :: a :: .int .u8 ev :: .int .u8 pre_ :: .int .u8 pri :: .bool on :: .bool ch :: post) (0 + ((i : Nat) : Int).toNat * 8 + 2) v (pre ++ .int .i64 first :: .slice At nt ct :: v :: .int .u8 ev :: .int .u8 pre_ :: .int .u8 pri :: .bool on :: .bool ch :: post) := fun a v => by
      have := lset_pre (x := a) (v := v) (l := .int .u8 ev :: .int .u8 pre_ :: .int .u8 pri :: .bool on :: .bool ch :: post) (pre ++ [.int .i64 first, .slice At nt ct])
      rw [show 0 + ((i : Nat) : Int).toNat * 8 + 2 = (pre ++ [Value.int .i64 first, .slice At nt ct]).length by simp; omega]
      simpa using this
    clear hp8
    (repeat (first | (refine i_dst ?_; (first | (refine i_move ?_; refine l_q rfl rfl rfl (q_move rfl) ?_) | (refine i_assign ?_; refine l_q rfl rfl rfl (q_assign rfl) ?_) | (refine i_load ?_; refine l_q rfl rfl rfl (by ((exact q_ld1 tab rfl rfl rfl (by first | ((repeat (first | exact List.Mem.head _ | apply List.Mem.tail)); done) | fail) (by first | exact hk0 _ | exact hk1 _)))) ?_) | (refine i_bin ?_; refine l_q rfl rfl rfl (by (first | exact q_lss rfl rfl | exact q_add rfl rfl (by (exact wr_i64 (by omega))))) ?_) | (refine i_blt ?_; refine l_q rfl rfl rfl (by (exact q_len tab rfl rfl)) ?_) | (refine i_ix ?_; refine l_q rfl rfl rfl (by (exact q_indexAddr tab rfl rfl rfl rfl (by omega))) ?_) | (refine l_q rfl rfl rfl (by ((apply iq_fld; (exact q_fieldAddr tab rfl rfl rfl rfl rfl rfl rfl)))) ?_))) | refine d_seq ?_ | refine c_region ?_ | refine l_nil ?_ | refine c_block ?_ | (refine i_q ?_; (first | refine d_then ?_ | refine t_then ?_ | refine t_block ?_)) | refine c_skip ?_ | (refine i_store ?_; ((refine l_set tab rfl rfl rfl rfl (by first | ((repeat (first | exact Upd.head | apply Upd.tail)); done) | fail) (by first | exact lk0 _ _ | exact lk1 _ _) ?_))) | (refine i_cond ?_; (refine c_ct rfl (by (exact decide_eq_true (by omega))) ?_))))
    refine k_again (i + 1) (by omega) (by omega) (by first | ((repeat (first | exact trivial | exact rfl | apply Sub.cons | exact look_int rfl (by omega) | exact look_int rfl (by simp) | exact look_int rfl (by simp; omega))); done) | fail) (fun w h => ?_)
    rw [← mixC_set hx]
    exact (hclose (setS true ⟨first, At, nt, ct, stim, ev, pre_, pri, on, ch⟩) [blk bR [.int .u8 kind, .int .u8 code, .slice B k cb] 32] _ (h.psub (by first | ((repeat (first | exact PSub.nil | exact Ext.head | apply Ext.tail | apply PSub.cons)); done) | fail))).psub (by first | ((repeat (first | exact PSub.nil | exact Ext.head | apply Ext.tail | apply PSub.cons)); done) | fail)
  · have hin : i = nl := by omega
    have htk : xs.take i = xs := List.take_of_length_le (by omega)
    have hmix : mixC true xs i = xs.map (setS true) := by rw [hin, hnl]; exact mixC_all true xs
    rw [htk, hmix]
    clear htk hmix hlt
    have hrW : Ro (fps []) W (roB B k b) := Ro.empty hr
    have hrt := hrW.take (k := min k 10) (by omega)
    have hx1s : ∀ x ∈ (xs.map (setS true)), x.stim = true := fun x hx => by obtain ⟨y, _, rfl⟩ := List.mem_map.1 hx; rfl
    have hx1m : ∀ x ∈ (xs.map (setS true)), x.n ≤ 1000 := fun x hx => by obtain ⟨y, hy, rfl⟩ := List.mem_map.1 hx; exact hxm y hy
    have hx1ok : ∀ x ∈ (xs.map (setS true)), x.n ≤ x.c ∧ x.c ≤ maxLen := fun x hx => by obtain ⟨y, hy, rfl⟩ := List.mem_map.1 hx; exact (hx4 y hy).2
    (repeat (first | (refine i_dst ?_; (first | (refine i_load ?_; refine l_q rfl rfl rfl (by ((exact q_ld1 tab rfl rfl rfl (by first | ((repeat (first | exact List.Mem.head _ | apply List.Mem.tail)); done) | fail) (by (rfl))))) ?_) | (refine i_bin ?_; refine l_q rfl rfl rfl (by (exact q_lss rfl rfl)) ?_) | (refine i_blt ?_; refine l_q rfl rfl rfl (by (first | exact q_len tab rfl rfl | exact q_minN rfl rfl)) ?_) | (refine i_sl ?_; refine l_q rfl rfl rfl (by (exact q_slHi tab rfl rfl rfl rfl (by first | (with_reducible exact Int.toNat_natCast _) | (with_reducible exact Int.toNat_zero) | (with_reducible exact Int.toNat_one) | rfl) (by (omega)))) ?_) | (refine l_q rfl rfl rfl (by ((apply iq_fld; (exact q_fieldAddr tab rfl rfl rfl rfl rfl rfl rfl)))) ?_))) | refine d_seq ?_ | refine c_region ?_ | refine l_nil ?_ | (refine i_q ?_; (first | refine d_then ?_ | refine d_then_exit ?_ | refine t_then_exit ?_ | refine t_block_eq rfl ?_)) | refine c_exit ?_ | (refine i_store ?_; ((refine l_set tab rfl rfl rfl rfl (by first | ((repeat (first | exact Upd.head | apply Upd.tail)); done) | fail) (by first | ((repeat (first | exact LSet.zero | apply LSet.succ)); done) | fail) ?_))) | (refine i_cond ?_; (refine c_cf rfl (by (exact decide_eq_false (by omega))) ?_))))
    generalize hkb : min k 10 = kb at hrt ⊢
    generalize b.take kb = bb at hrt
    have hkb10 : kb ≤ 10 := by omega
    (refine a_begin mixed [blk bR [.int .u8 kind, .int .u8 code, .slice B kb cb] 32] 10 rfl (fun w h => h.subl (by first | ((repeat (first | exact SubL.nil | apply SubL.keep | apply SubL.skip)); done) | fail)) ?_)
    ((refine a_q 0 rfl rfl rfl rfl rfl (by decide +kernel) (q_move rfl) ?_; ((refine a_q 2 rfl rfl rfl rfl rfl (by decide +kernel) (by ((exact q_ldN tab rfl rfl rfl rfl (by first | ((repeat (first | exact List.Mem.head _ | apply List.Mem.tail)); done) | fail) (by first | ((repeat (first | exact TakeR.nil | apply TakeR.cons | apply CutR.zero | apply CutR.skip)); done) | fail)))) ?_))))
    refine a_join (α := Unit) (fun _ => [(3, .pointer (some ⟨bR, 0, none⟩)), (5, .bool true), (6, .slice A1 nl c1), (7, .int .i64 (sumN xs : Nat)), (10, .bool false)]) (fun _ => [blk bR [.int .u8 kind, .int .u8 code, .slice B kb cb] 32, row 45 8 (.slice A1 nl c1) nl ((xs.map (setS true)).flatMap lcC)]) (fun _ => ?_) (fun key => ?_)
    rotate_left
    · refine a_e2 1 7 rfl rfl (by decide +kernel) rfl rfl (fun K hK => e_call0 rfl rfl Try.func13 rfl (by decide) (fun w' h => gnew_spec A1 nl c1 (xs.map (setS true)) w' (lc_in (by rw [List.length_map]; exact hnl.symm) (Ro.empty (h.mem (X := row 45 8 (.slice A1 nl c1) nl ((xs.map (setS true)).flatMap lcC)) (by first | ((repeat (first | exact List.Mem.head _ | apply List.Mem.tail)); done) | fail))) hx1ok) hx1 hx2 (by omega) hx1m) (fun v B hv => ?_)) (fun K hK => e_alloc tab rfl rfl rfl (fun b9 => hK _ _ (fun w h => h.subl (by first | ((repeat (first | exact SubL.nil | apply SubL.keep | apply SubL.skip)); done) | fail)) ?_))
      · obtain ⟨p, g, rfl, rfl, hP, hS⟩ := hv; have hno := takeG_no (P := g.P) (S := absG g.xs) (kind := kind) (code := code) (b := bb) (fun _ => by rw [hP]; exact plL_set _ 0 hx1s _); refine hK _ _ (fun w h => h.subl (by first | ((repeat (first | exact SubL.nil | apply SubL.keep | apply SubL.skip)); done) | fail)) ?_; clear hK
        refine a_e2 3 7 rfl rfl (by decide +kernel) rfl rfl (fun K hK => e_call1 (X := gaA p g) (by first | ((repeat (first | exact Ext.head | apply Ext.tail)); done) | fail) rfl rfl Try.func15 rfl (by decide) (fun w' h => gtook_spec h.split (plok_new hP hS) (by rw [hS]; exact gok_new hx1m) kind code hkd hcd B kb cb bb (h.roOf hrt (fun X hX => by simp at hX; simp [hX])) (by omega)) (fun v B hv => ?_)) (fun K hK => e_alloc tab rfl rfl rfl (fun b9 => hK _ _ (fun w h => h.subl (by first | ((repeat (first | exact SubL.nil | apply SubL.keep | apply SubL.skip)); done) | fail)) ?_))
        · rw [hno] at hv; obtain ⟨g1, Az, cz, vz, rfl, rfl, -⟩ := hv; refine hK _ _ (fun w h => h.subl (by first | ((repeat (first | exact SubL.nil | apply SubL.keep | apply SubL.skip)); done) | fail)) ?_; clear hK; dsimp only [sI, sL, sB, Option.isSome, List.length]; ((refine a_q 4 rfl rfl rfl rfl rfl (by decide +kernel) (q_move rfl) ?_; refine a_q 5 rfl rfl rfl rfl rfl (by decide +kernel) (by (exact q_extract rfl rfl)) ?_; refine a_q 6 rfl rfl rfl rfl rfl (by decide +kernel) (by (exact q_extract rfl rfl)) ?_))
          refine a_e 7 rfl (by decide +kernel) rfl (fun K hK => e_alloc tab rfl rfl rfl (fun b9 => hK _ _ (fun w h => h.subl (by first | ((repeat (first | exact SubL.nil | apply SubL.keep | apply SubL.skip)); done) | fail)) ?_))
          clear hK
          refine a_e 8 rfl (by decide +kernel) rfl (fun K hK => e_setN tab rfl rfl rfl rfl (List.cons_ne_nil _ _) rfl (by first | ((repeat (first | exact Upd.head | apply Upd.tail)); done) | fail) (by first | ((repeat (first | exact LSets.nil | exact LSet.zero | apply LSets.cons | apply LSet.succ)); done) | fail) (hK _ _ (fun w h => h.subl (by first | ((repeat (first | exact SubL.nil | apply SubL.keep | apply SubL.skip)); done) | fail)) ?_))
          clear hK
          ((refine a_q 9 rfl rfl rfl rfl rfl (by decide +kernel) (q_assign rfl) ?_))
          refine a_done (by decide +kernel) ?_
          exact t_sub (by first | ((repeat (first | exact trivial | exact rfl | apply Sub.cons | exact look_int rfl (by omega) | exact look_int rfl (by simp) | exact look_int rfl (by simp; omega))); done) | fail) (fun w h => h.psub (by first | ((repeat (first | exact PSub.nil | exact Ext.head | apply Ext.tail | apply PSub.cons)); done) | fail)) (key ())
        · clear hK
          refine a_e 3 rfl (by decide +kernel) rfl (fun K hK => e_call1 (X := gaA p g) (by first | ((repeat (first | exact Ext.head | apply Ext.tail)); done) | fail) rfl rfl Try.func15 rfl (by decide) (fun w' h => gtook_spec h.split (plok_new hP hS) (by rw [hS]; exact gok_new hx1m) kind code hkd hcd B kb cb bb (h.roOf hrt (fun X hX => by simp at hX; simp [hX])) (by omega)) (fun v B hv => ?_))
          rw [hno] at hv; obtain ⟨g1, Az, cz, vz, rfl, rfl, -⟩ := hv; refine hK _ _ (fun w h => h.subl (by first | ((repeat (first | exact SubL.nil | apply SubL.keep | apply SubL.skip)); done) | fail)) ?_; clear hK; dsimp only [sI, sL, sB, Option.isSome, List.length]; ((refine a_q 4 rfl rfl rfl rfl rfl (by decide +kernel) (q_move rfl) ?_; refine a_q 5 rfl rfl rfl rfl rfl (by decide +kernel) (by (exact q_extract rfl rfl)) ?_; refine a_q 6 rfl rfl rfl rfl rfl (by decide +kernel) (by (exact q_extract rfl rfl)) ?_))
          refine a_e 8 rfl (by decide +kernel) rfl (fun K hK => e_setN tab rfl rfl rfl rfl (List.cons_ne_nil _ _) rfl (by first | ((repeat (first | exact Upd.head | apply Upd.tail)); done) | fail) (by first | ((repeat (first | exact LSets.nil | exact LSet.zero | apply LSets.cons | apply LSet.succ)); done) | fail) (hK _ _ (fun w h => h.subl (by first | ((repeat (first | exact SubL.nil | apply SubL.keep | apply SubL.skip)); done) | fail)) ?_))
          clear hK
          ((refine a_q 9 rfl rfl rfl rfl rfl (by decide +kernel) (q_assign rfl) ?_))
          refine a_done (by decide +kernel) ?_
          exact t_sub (by first | ((repeat (first | exact trivial | exact rfl | apply Sub.cons | exact look_int rfl (by omega) | exact look_int rfl (by simp) | exact look_int rfl (by simp; omega))); done) | fail) (fun w h => h.psub (by first | ((repeat (first | exact PSub.nil | exact Ext.head | apply Ext.tail | apply PSub.cons)); done) | fail)) (key ())
      · clear hK
        refine a_e 1 rfl (by decide +kernel) rfl (fun K hK => e_call0 rfl rfl Try.func13 rfl (by decide) (fun w' h => gnew_spec A1 nl c1 (xs.map (setS true)) w' (lc_in (by rw [List.length_map]; exact hnl.symm) (Ro.empty (h.mem (X := row 45 8 (.slice A1 nl c1) nl ((xs.map (setS true)).flatMap lcC)) (by first | ((repeat (first | exact List.Mem.head _ | apply List.Mem.tail)); done) | fail))) hx1ok) hx1 hx2 (by omega) hx1m) (fun v B hv => ?_))
        obtain ⟨p, g, rfl, rfl, hP, hS⟩ := hv; have hno := takeG_no (P := g.P) (S := absG g.xs) (kind := kind) (code := code) (b := bb) (fun _ => by rw [hP]; exact plL_set _ 0 hx1s _); refine hK _ _ (fun w h => h.subl (by first | ((repeat (first | exact SubL.nil | apply SubL.keep | apply SubL.skip)); done) | fail)) ?_; clear hK
        refine a_e 3 rfl (by decide +kernel) rfl (fun K hK => e_call1 (X := gaA p g) (by first | ((repeat (first | exact Ext.head | apply Ext.tail)); done) | fail) rfl rfl Try.func15 rfl (by decide) (fun w' h => gtook_spec h.split (plok_new hP hS) (by rw [hS]; exact gok_new hx1m) kind code hkd hcd B kb cb bb (h.roOf hrt (fun X hX => by simp at hX; simp [hX])) (by omega)) (fun v B hv => ?_))
        rw [hno] at hv; obtain ⟨g1, Az, cz, vz, rfl, rfl, -⟩ := hv; refine hK _ _ (fun w h => h.subl (by first | ((repeat (first | exact SubL.nil | apply SubL.keep | apply SubL.skip)); done) | fail)) ?_; clear hK; dsimp only [sI, sL, sB, Option.isSome, List.length]; ((refine a_q 4 rfl rfl rfl rfl rfl (by decide +kernel) (q_move rfl) ?_; refine a_q 5 rfl rfl rfl rfl rfl (by decide +kernel) (by (exact q_extract rfl rfl)) ?_; refine a_q 6 rfl rfl rfl rfl rfl (by decide +kernel) (by (exact q_extract rfl rfl)) ?_))
        refine a_e 8 rfl (by decide +kernel) rfl (fun K hK => e_setN tab rfl rfl rfl rfl (List.cons_ne_nil _ _) rfl (by first | ((repeat (first | exact Upd.head | apply Upd.tail)); done) | fail) (by first | ((repeat (first | exact LSets.nil | exact LSet.zero | apply LSets.cons | apply LSet.succ)); done) | fail) (hK _ _ (fun w h => h.subl (by first | ((repeat (first | exact SubL.nil | apply SubL.keep | apply SubL.skip)); done) | fail)) ?_))
        clear hK
        ((refine a_q 9 rfl rfl rfl rfl rfl (by decide +kernel) (q_assign rfl) ?_))
        refine a_done (by decide +kernel) ?_
        exact t_sub (by first | ((repeat (first | exact trivial | exact rfl | apply Sub.cons | exact look_int rfl (by omega) | exact look_int rfl (by simp) | exact look_int rfl (by simp; omega))); done) | fail) (fun w h => h.psub (by first | ((repeat (first | exact PSub.nil | exact Ext.head | apply Ext.tail | apply PSub.cons)); done) | fail)) (key ())
    (repeat (first | refine d_seq ?_ | (refine i_q ?_; (refine d_then ?_))))
    (refine a_begin mixed [blk bR [.int .u8 kind, .int .u8 code, .slice B kb cb] 32] 9 rfl (fun w h => h.subl (by first | ((repeat (first | exact SubL.nil | apply SubL.keep | apply SubL.skip)); done) | fail)) ?_)
    ((((refine a_q 1 rfl rfl rfl rfl rfl (by decide +kernel) (by ((exact q_ldN tab rfl rfl rfl rfl (by first | ((repeat (first | exact List.Mem.head _ | apply List.Mem.tail)); done) | fail) (by first | ((repeat (first | exact TakeR.nil | apply TakeR.cons | apply CutR.zero | apply CutR.skip)); done) | fail)))) ?_))))
    refine a_join (α := Unit) (fun _ => [(3, .pointer (some ⟨bR, 0, none⟩)), (5, .bool true), (6, .slice A1 nl c1), (7, .int .i64 (sumN xs : Nat)), (10, .bool false), (12, .bool false)]) (fun _ => [blk bR [.int .u8 kind, .int .u8 code, .slice B kb cb] 32, row 45 8 (.slice A1 nl c1) nl ((xs.map (setS true)).flatMap lcC)]) (fun _ => ?_) (fun key => ?_)
    rotate_left
    · refine a_e2 0 6 rfl rfl (by decide +kernel) rfl rfl (fun K hK => e_call0 rfl rfl Try.func13 rfl (by decide) (fun w' h => gnew_spec none 0 0 [] w' (InS.nil _) (by omega) (by omega) (by omega) (fun x hx => by cases hx)) (fun v B hv => ?_)) (fun K hK => e_alloc tab rfl rfl rfl (fun b9 => hK _ _ (fun w h => h.subl (by first | ((repeat (first | exact SubL.nil | apply SubL.keep | apply SubL.skip)); done) | fail)) ?_))
      · obtain ⟨p, g, rfl, rfl, hP, hS⟩ := hv; have hno := takeG_no (P := g.P) (S := absG g.xs) (kind := kind) (code := code) (b := bb) (fun _ => by rw [hP]; exact plL_set _ 0 (fun x hx => by cases hx) _); refine hK _ _ (fun w h => h.subl (by first | ((repeat (first | exact SubL.nil | apply SubL.keep | apply SubL.skip)); done) | fail)) ?_; clear hK
        refine a_e2 2 6 rfl rfl (by decide +kernel) rfl rfl (fun K hK => e_call1 (X := gaA p g) (by first | ((repeat (first | exact Ext.head | apply Ext.tail)); done) | fail) rfl rfl Try.func15 rfl (by decide) (fun w' h => gtook_spec h.split (plok_new hP hS) (by rw [hS]; exact gok_new (fun x hx => by cases hx)) kind code hkd hcd B kb cb bb (h.roOf hrt (fun X hX => by simp at hX; simp [hX])) (by omega)) (fun v B hv => ?_)) (fun K hK => e_alloc tab rfl rfl rfl (fun b9 => hK _ _ (fun w h => h.subl (by first | ((repeat (first | exact SubL.nil | apply SubL.keep | apply SubL.skip)); done) | fail)) ?_))
        · rw [hno] at hv; obtain ⟨g1, Az, cz, vz, rfl, rfl, -⟩ := hv; refine hK _ _ (fun w h => h.subl (by first | ((repeat (first | exact SubL.nil | apply SubL.keep | apply SubL.skip)); done) | fail)) ?_; clear hK; dsimp only [sI, sL, sB, Option.isSome, List.length]; ((refine a_q 3 rfl rfl rfl rfl rfl (by decide +kernel) (q_move rfl) ?_; refine a_q 4 rfl rfl rfl rfl rfl (by decide +kernel) (by (exact q_extract rfl rfl)) ?_; refine a_q 5 rfl rfl rfl rfl rfl (by decide +kernel) (by (exact q_extract rfl rfl)) ?_))
          refine a_e 6 rfl (by decide +kernel) rfl (fun K hK => e_alloc tab rfl rfl rfl (fun b9 => hK _ _ (fun w h => h.subl (by first | ((repeat (first | exact SubL.nil | apply SubL.keep | apply SubL.skip)); done) | fail)) ?_))
          clear hK
          refine a_e 7 rfl (by decide +kernel) rfl (fun K hK => e_setN tab rfl rfl rfl rfl (List.cons_ne_nil _ _) rfl (by first | ((repeat (first | exact Upd.head | apply Upd.tail)); done) | fail) (by first | ((repeat (first | exact LSets.nil | exact LSet.zero | apply LSets.cons | apply LSet.succ)); done) | fail) (hK _ _ (fun w h => h.subl (by first | ((repeat (first | exact SubL.nil | apply SubL.keep | apply SubL.skip)); done) | fail)) ?_))
          clear hK
          ((refine a_q 8 rfl rfl rfl rfl rfl (by decide +kernel) (q_assign rfl) ?_))
          refine a_done (by decide +kernel) ?_
          exact t_sub (by first | ((repeat (first | exact trivial | exact rfl | apply Sub.cons | exact look_int rfl (by omega) | exact look_int rfl (by simp) | exact look_int rfl (by simp; omega))); done) | fail) (fun w h => h.psub (by first | ((repeat (first | exact PSub.nil | exact Ext.head | apply Ext.tail | apply PSub.cons)); done) | fail)) (key ())
        · clear hK
          refine a_e 2 rfl (by decide +kernel) rfl (fun K hK => e_call1 (X := gaA p g) (by first | ((repeat (first | exact Ext.head | apply Ext.tail)); done) | fail) rfl rfl Try.func15 rfl (by decide) (fun w' h => gtook_spec h.split (plok_new hP hS) (by rw [hS]; exact gok_new (fun x hx => by cases hx)) kind code hkd hcd B kb cb bb (h.roOf hrt (fun X hX => by simp at hX; simp [hX])) (by omega)) (fun v B hv => ?_))
          rw [hno] at hv; obtain ⟨g1, Az, cz, vz, rfl, rfl, -⟩ := hv; refine hK _ _ (fun w h => h.subl (by first | ((repeat (first | exact SubL.nil | apply SubL.keep | apply SubL.skip)); done) | fail)) ?_; clear hK; dsimp only [sI, sL, sB, Option.isSome, List.length]; ((refine a_q 3 rfl rfl rfl rfl rfl (by decide +kernel) (q_move rfl) ?_; refine a_q 4 rfl rfl rfl rfl rfl (by decide +kernel) (by (exact q_extract rfl rfl)) ?_; refine a_q 5 rfl rfl rfl rfl rfl (by decide +kernel) (by (exact q_extract rfl rfl)) ?_))
          refine a_e 7 rfl (by decide +kernel) rfl (fun K hK => e_setN tab rfl rfl rfl rfl (List.cons_ne_nil _ _) rfl (by first | ((repeat (first | exact Upd.head | apply Upd.tail)); done) | fail) (by first | ((repeat (first | exact LSets.nil | exact LSet.zero | apply LSets.cons | apply LSet.succ)); done) | fail) (hK _ _ (fun w h => h.subl (by first | ((repeat (first | exact SubL.nil | apply SubL.keep | apply SubL.skip)); done) | fail)) ?_))
          clear hK
          ((refine a_q 8 rfl rfl rfl rfl rfl (by decide +kernel) (q_assign rfl) ?_))
          refine a_done (by decide +kernel) ?_
          exact t_sub (by first | ((repeat (first | exact trivial | exact rfl | apply Sub.cons | exact look_int rfl (by omega) | exact look_int rfl (by simp) | exact look_int rfl (by simp; omega))); done) | fail) (fun w h => h.psub (by first | ((repeat (first | exact PSub.nil | exact Ext.head | apply Ext.tail | apply PSub.cons)); done) | fail)) (key ())
      · clear hK
        refine a_e 0 rfl (by decide +kernel) rfl (fun K hK => e_call0 rfl rfl Try.func13 rfl (by decide) (fun w' h => gnew_spec none 0 0 [] w' (InS.nil _) (by omega) (by omega) (by omega) (fun x hx => by cases hx)) (fun v B hv => ?_))
        obtain ⟨p, g, rfl, rfl, hP, hS⟩ := hv; have hno := takeG_no (P := g.P) (S := absG g.xs) (kind := kind) (code := code) (b := bb) (fun _ => by rw [hP]; exact plL_set _ 0 (fun x hx => by cases hx) _); refine hK _ _ (fun w h => h.subl (by first | ((repeat (first | exact SubL.nil | apply SubL.keep | apply SubL.skip)); done) | fail)) ?_; clear hK
        refine a_e 2 rfl (by decide +kernel) rfl (fun K hK => e_call1 (X := gaA p g) (by first | ((repeat (first | exact Ext.head | apply Ext.tail)); done) | fail) rfl rfl Try.func15 rfl (by decide) (fun w' h => gtook_spec h.split (plok_new hP hS) (by rw [hS]; exact gok_new (fun x hx => by cases hx)) kind code hkd hcd B kb cb bb (h.roOf hrt (fun X hX => by simp at hX; simp [hX])) (by omega)) (fun v B hv => ?_))
        rw [hno] at hv; obtain ⟨g1, Az, cz, vz, rfl, rfl, -⟩ := hv; refine hK _ _ (fun w h => h.subl (by first | ((repeat (first | exact SubL.nil | apply SubL.keep | apply SubL.skip)); done) | fail)) ?_; clear hK; dsimp only [sI, sL, sB, Option.isSome, List.length]; ((refine a_q 3 rfl rfl rfl rfl rfl (by decide +kernel) (q_move rfl) ?_; refine a_q 4 rfl rfl rfl rfl rfl (by decide +kernel) (by (exact q_extract rfl rfl)) ?_; refine a_q 5 rfl rfl rfl rfl rfl (by decide +kernel) (by (exact q_extract rfl rfl)) ?_))
        refine a_e 7 rfl (by decide +kernel) rfl (fun K hK => e_setN tab rfl rfl rfl rfl (List.cons_ne_nil _ _) rfl (by first | ((repeat (first | exact Upd.head | apply Upd.tail)); done) | fail) (by first | ((repeat (first | exact LSets.nil | exact LSet.zero | apply LSets.cons | apply LSet.succ)); done) | fail) (hK _ _ (fun w h => h.subl (by first | ((repeat (first | exact SubL.nil | apply SubL.keep | apply SubL.skip)); done) | fail)) ?_))
        clear hK
        ((refine a_q 8 rfl rfl rfl rfl rfl (by decide +kernel) (q_assign rfl) ?_))
        refine a_done (by decide +kernel) ?_
        exact t_sub (by first | ((repeat (first | exact trivial | exact rfl | apply Sub.cons | exact look_int rfl (by omega) | exact look_int rfl (by simp) | exact look_int rfl (by simp; omega))); done) | fail) (fun w h => h.psub (by first | ((repeat (first | exact PSub.nil | exact Ext.head | apply Ext.tail | apply PSub.cons)); done) | fail)) (key ())
    (repeat (first | (refine i_dst ?_; (first | (refine i_move ?_; refine l_q rfl rfl rfl (q_move rfl) ?_) | (refine i_assign ?_; refine l_q rfl rfl rfl (q_assign rfl) ?_) | (refine i_load ?_; refine l_q rfl rfl rfl (by ((exact q_ldN tab rfl rfl rfl rfl (by first | ((repeat (first | exact List.Mem.head _ | apply List.Mem.tail)); done) | fail) (by first | ((repeat (first | exact TakeR.nil | apply TakeR.cons | apply CutR.zero | apply CutR.skip)); done) | fail)))) ?_))) | refine d_seq ?_ | refine c_region ?_ | refine l_nil ?_ | (refine i_q ?_; (refine d_then ?_))))
    -- after the drawn regions
    clear hx1s hrW hrt
    (refine l_call0 rfl rfl Try.func15 rfl (by decide) (fun w' h => gtake_nil w' kind code B kb cb) (fun v B hv => ?_); obtain ⟨rfl, rfl⟩ := hv)
    (repeat (first | (refine i_dst ?_; (first | (refine i_move ?_; refine l_q rfl rfl rfl (q_move rfl) ?_) | (refine i_assign ?_; refine l_q rfl rfl rfl (q_assign rfl) ?_) | (refine i_blt ?_; refine l_q rfl rfl rfl (by (exact q_len tab rfl rfl)) ?_) | (refine i_alloc ?_; (refine l_allocA tab rfl rfl (fun _ => ?_))) | refine l_q rfl rfl rfl (by (exact q_extract rfl rfl)) ?_)) | refine d_seq ?_ | refine c_region ?_ | refine l_nil ?_ | refine c_block ?_ | (refine i_q ?_; (refine d_then ?_)) | (refine i_store ?_; ((refine l_setN tab rfl rfl rfl rfl (List.cons_ne_nil _ _) rfl (by first | ((repeat (first | exact Upd.head | apply Upd.tail)); done) | fail) (by first | ((repeat (first | exact LSets.nil | exact LSet.zero | apply LSets.cons | apply LSet.succ)); done) | fail) ?_)))))
    clear hx1ok hx1m
    obtain ⟨xs1, hxs1⟩ : ∃ xs1, xs1 = xs.map (setS true) := ⟨_, rfl⟩
    have hl1 : xs1.length = nl := by rw [hxs1, List.length_map]; exact hnl.symm
    rw [← hxs1]
    refine d_loop (T := Nat) [5, 6, 7, 10, 12, 15, 70] (fun i => [(71, .int .i64 i)]) [] (fun i => [row 45 8 (.slice A1 nl c1) nl ((mixC false xs1 i).flatMap lcC)]) (fun i => i ≤ nl) (fun i => nl - i) 0 (by first | ((repeat (first | exact Pick.nil | exact rfl | apply Pick.cons)); done) | fail) (Nat.zero_le _) (by first | ((repeat (first | exact trivial | exact rfl | apply Sub.cons | exact look_int rfl (by omega) | exact look_int rfl (by simp) | exact look_int rfl (by simp; omega))); done) | fail) (fun w h => by rw [mixC_zero]; exact h.psub (by first | ((repeat (first | exact PSub.nil | exact Ext.head | apply Ext.tail | apply PSub.cons)); done) | fail)) ?_
    intro i hi
    by_cases hlt : i < nl
    · obtain ⟨x, hx⟩ : ∃ x, xs1[i]? = some x := ⟨_, List.getElem?_eq_getElem (by omega)⟩
      refine c_ex (hp' := fun z : Nat × List Value × List Value => blk z.1 (z.2.1 ++ (lcC x ++ z.2.2)) 45 :: []) (fun w h => rowF_open lcC_len (n := nl) (i := i) (x := x) (by rw [mixC_len]; omega) (mixC_get hx) (h.psub (by first | ((repeat (first | exact PSub.nil | exact Ext.head | apply Ext.tail | apply PSub.cons)); done) | fail))) ?_
      rintro ⟨gl, pre, post⟩ ⟨rfl, hp8, hclose⟩
      dsimp only at hp8 hclose ⊢
      obtain ⟨first, At, nt, ct, stim, ev, pre_, pri, on, ch⟩ := x
      unfold lcC at hclose ⊢
      dsimp only [List.cons_append, List.nil_append] at hclose ⊢
      have lk0 : ∀ a v : Value, LSet (pre ++ .int .i64 first :: .slice At nt ct :: a :: .int .u8 ev :: .int .u8 pre_ :: .int .u8 pri :: .bool on :: .bool ch :: post) (0 + ((i : Nat) : Int).toNat * 8 + 2) v (pre ++ .int .i64 first :: .slice At nt ct :: v :: .int .u8 ev :: .int .u8 pre_ :: .int .u8 pri :: .bool on :: .bool ch :: post) := fun a v => by
        have := lset_pre (x := a) (v := v) (l := .int .u8 ev :: .int .u8 pre_ :: .int .u8 pri :: .bool on :: .bool ch :: post) (pre ++ [.int .i64 first, .slice At nt ct])
        rw [show 0 + ((i : Nat) : Int).toNat * 8 + 2 = (pre ++ [Value.int .i64 first, .slice At nt ct]).length by simp; omega]
        simpa using this
      clear hp8
      (repeat (first | (refine i_dst ?_; (first | (refine i_move ?_; refine l_q rfl rfl rfl (q_move rfl) ?_) | (refine i_assign ?_; refine l_q rfl rfl rfl (q_assign rfl) ?_) | (refine i_bin ?_; refine l_q rfl rfl rfl (by (first | exact q_lss rfl rfl | exact q_add rfl rfl (by (exact wr_i64 (by omega))))) ?_) | (refine i_ix ?_; refine l_q rfl rfl rfl (by (exact q_indexAddr tab rfl rfl rfl rfl (by omega))) ?_) | (refine l_q rfl rfl rfl (by ((apply iq_fld; (exact q_fieldAddr tab rfl rfl rfl rfl rfl rfl rfl)))) ?_))) | refine d_seq ?_ | refine c_region ?_ | refine l_nil ?_ | refine c_block ?_ | (refine i_q ?_; (first | refine d_then ?_ | refine t_then ?_ | refine t_block ?_)) | refine c_skip ?_ | (refine i_store ?_; ((refine l_set tab rfl rfl rfl rfl (by first | ((repeat (first | exact Upd.head | apply Upd.tail)); done) | fail) (by first | exact lk0 _ _ | exact lk1 _ _) ?_))) | (refine i_cond ?_; (refine c_ct rfl (by (exact decide_eq_true (by omega))) ?_))))
      refine k_again (i + 1) (by omega) (by omega) (by first | ((repeat (first | exact trivial | exact rfl | apply Sub.cons | exact look_int rfl (by omega) | exact look_int rfl (by simp) | exact look_int rfl (by simp; omega))); done) | fail) (fun w h => ?_)
      rw [← mixC_set hx]
      exact (hclose (setS false ⟨first, At, nt, ct, stim, ev, pre_, pri, on, ch⟩) [] _ (h.psub (by first | ((repeat (first | exact PSub.nil | exact Ext.head | apply Ext.tail | apply PSub.cons)); done) | fail))).psub (by first | ((repeat (first | exact PSub.nil | exact Ext.head | apply Ext.tail | apply PSub.cons)); done) | fail)
    · have hin : i = nl := by omega
      have hmix : mixC false xs1 i = xs1.map (setS false) := by rw [hin, ← hl1]; exact mixC_all false xs1
      rw [hmix]
      obtain ⟨xs2, hxs2⟩ : ∃ xs2, xs2 = xs1.map (setS false) := ⟨_, rfl⟩
      have hl2 : xs2.length = nl := by rw [hxs2, List.length_map]; exact hl1
      have h2 : ∀ x ∈ xs2, ∃ y ∈ xs, x.n = y.n ∧ x.c = y.c := fun x hx => by
        rw [hxs2, hxs1] at hx
        obtain ⟨y, hy, rfl⟩ := List.mem_map.1 hx
        obtain ⟨z, hz, rfl⟩ := List.mem_map.1 hy
        exact ⟨z, hz, rfl, rfl⟩
      have hx2m : ∀ x ∈ xs2, x.n ≤ 1000 := fun x hx => by obtain ⟨y, hy, e, -⟩ := h2 x hx; rw [e]; exact hxm y hy
      have hx2ok : ∀ x ∈ xs2, x.n ≤ x.c ∧ x.c ≤ maxLen := fun x hx => by obtain ⟨y, hy, e, e'⟩ := h2 x hx; rw [e, e']; exact (hx4 y hy).2
      have hsum2 : sumN xs2 = sumN xs := by
        rw [hxs2, hxs1, sumN, sumN, List.map_map, List.map_map]
        rfl
      rw [← hxs2]
      clear hmix hlt hxs2 h2
      (repeat (first | (refine i_dst ?_; (first | (refine i_move ?_; refine l_q rfl rfl rfl (q_move rfl) ?_) | (refine i_bin ?_; refine l_q rfl rfl rfl (by (exact q_lss rfl rfl)) ?_))) | refine d_seq ?_ | refine c_region ?_ | refine l_nil ?_ | (refine i_q ?_; (first | refine d_then ?_ | refine d_then_exit ?_ | refine t_then_exit ?_ | refine t_block_eq rfl ?_)) | refine c_exit ?_ | (refine i_cond ?_; (refine c_cf rfl (by (exact decide_eq_false (by omega))) ?_))))
      (refine l_call0 rfl rfl Try.func13 rfl (by decide) (fun w' h => gnew_spec A1 nl c1 xs2 w' (lc_in hl2 (Ro.empty (h.mem (X := row _ 8 (.slice A1 nl c1) nl (xs2.flatMap lcC)) (by first | ((repeat (first | exact List.Mem.head _ | apply List.Mem.tail)); done) | fail))) hx2ok) hx1 hx2 (by omega) hx2m) (fun v B hv => ?_); obtain ⟨p, g, rfl, rfl, hP, hS⟩ := hv)
      have hPl := plok_new hP hS
      have hG : GOk (absG g.xs) := by rw [hS]; exact gok_new hx2m
      (repeat ((refine i_dst ?_; (first | (refine i_move ?_; refine l_q rfl rfl rfl (q_move rfl) ?_) | (refine i_blt ?_; refine l_q rfl rfl rfl (by (exact q_minN rfl rfl)) ?_) | (refine l_q rfl rfl rfl (by (first | (apply iq_cv; (exact q_conv tab rfl rfl rfl (by (rfl)))) | (apply iq_bld; ((exact q_bld tab rfl rfl rfl (by first | ((repeat (first | exact FillR.nil | exact LSets.nil | exact LSet.zero | exact CellsOf.agg | exact rfl | exact CellsOf.one rfl | apply FillR.cons | apply LSets.cons | apply LSet.succ)); done) | fail) (fun w => by kernel_rfl)))))) ?_)))))
      obtain ⟨m63, hm63⟩ : ∃ m, m = min (sumN xs) 63 := ⟨_, rfl⟩
      rw [← hm63]
      have hm64 : m63 ≤ 63 := by omega
      have hmw : IntKind.u8.wrap (m63 : Int) = (m63 : Int) := wr_u8 (by omega)
      rw [hmw]
      (refine l_call1 (X := gaA p g) (by first | ((repeat (first | exact Ext.head | apply Ext.tail)); done) | fail) rfl rfl Try.func15 rfl (by decide) (fun w' h => gtook_spec h.split hPl hG 4 m63 (by omega) (by omega) none 0 0 [] (ro_nil _ _) (by omega)) (fun v B hv => ?_); obtain ⟨g1, Az, cz, vz, rfl, rfl, -⟩ := hv)
      have hd : sumN xs < 63 → (takeG g.P (absG g.xs) 4 m63 []).2.isSome = false := fun h63 => by
        have hno := takeG_no (P := g.P) (S := absG g.xs) (kind := 4) (code := m63) (b := []) (fun _ => by
          rw [if_neg (by omega), hP, List.getElem?_eq_none (by rw [plL_sum, hsum2]; omega)]
          rfl)
        rw [hno]
        rfl
      generalize takeG g.P (absG g.xs) 4 m63 [] = R at hd ⊢
      generalize R.2.isSome = d at hd ⊢
      clear hPl hG hP hS
      (repeat (first | (refine i_dst ?_; (first | (refine i_move ?_; refine l_q rfl rfl rfl (q_move rfl) ?_) | (refine i_assign ?_; refine l_q rfl rfl rfl (q_assign rfl) ?_) | (refine i_alloc ?_; (refine l_allocA tab rfl rfl (fun _ => ?_))) | refine l_q rfl rfl rfl (by (exact q_extract rfl rfl)) ?_)) | refine d_seq ?_ | refine c_region ?_ | refine l_nil ?_ | (refine i_q ?_; (refine d_then ?_)) | (refine i_store ?_; ((refine l_setN tab rfl rfl rfl rfl (List.cons_ne_nil _ _) rfl (by first | ((repeat (first | exact Upd.head | apply Upd.tail)); done) | fail) (by first | ((repeat (first | exact LSets.nil | exact LSet.zero | apply LSets.cons | apply LSet.succ)); done) | fail) ?_)))))
      (refine l_call0 rfl rfl Try.func13 rfl (by decide) (fun w' h => gnew_spec A1 nl c1 xs2 w' (lc_in hl2 (Ro.empty (h.mem (X := row _ 8 (.slice A1 nl c1) nl (xs2.flatMap lcC)) (by first | ((repeat (first | exact List.Mem.head _ | apply List.Mem.tail)); done) | fail))) hx2ok) hx1 hx2 (by omega) hx2m) (fun v B hv => ?_); obtain ⟨p2, g2, rfl, rfl, hP, hS⟩ := hv)
      have hPl := plok_new hP hS
      have hG : GOk (absG g2.xs) := by rw [hS]; exact gok_new hx2m
      (repeat ((refine i_dst ?_; ((refine l_q rfl rfl rfl (by ((apply iq_bld; ((exact q_bld tab rfl rfl rfl (by first | ((repeat (first | exact FillR.nil | exact LSets.nil | exact LSet.zero | exact CellsOf.agg | exact rfl | exact CellsOf.one rfl | apply FillR.cons | apply LSets.cons | apply LSet.succ)); done) | fail) (fun w => by kernel_rfl)))))) ?_)))))
      (refine l_call1 (X := gaA p2 g2) (by first | ((repeat (first | exact Ext.head | apply Ext.tail)); done) | fail) rfl rfl Try.func15 rfl (by decide) (fun w' h => gtook_spec h.split hPl hG 1 0 (by omega) (by omega) none 0 0 [] (ro_nil _ _) (by omega)) (fun v B hv => ?_); obtain ⟨g3, Ay, cy, vy, rfl, rfl, -⟩ := hv)
      rw [takeG_no (fun h => by omega)]
      dsimp only [sI, sL, sB, Option.isSome, List.length]
      by_cases h63 : sumN xs < 63
      · rw [hd h63]
        (repeat (first | (refine i_dst ?_; (first | (refine i_move ?_; refine l_q rfl rfl rfl (q_move rfl) ?_) | (refine i_assign ?_; refine l_q rfl rfl rfl (q_assign rfl) ?_) | (refine i_bin ?_; refine l_q rfl rfl rfl (by (exact q_geq rfl rfl)) ?_) | (refine i_alloc ?_; (refine l_allocA tab rfl rfl (fun _ => ?_))) | refine l_q rfl rfl rfl (by (first | exact q_extract rfl rfl | exact q_not rfl | exact q_pick_t rfl rfl | exact q_pick_f rfl rfl)) ?_)) | refine d_seq ?_ | refine c_region ?_ | refine l_nil ?_ | (refine i_q ?_; (refine d_then ?_)) | refine c_ret ?_ | (refine i_guard ?_; (first | refine l_gt rfl rfl rfl ?_ | (refine l_gtd rfl rfl rfl (by ((simp; omega))) ?_))) | (refine i_store ?_; ((refine l_setN tab rfl rfl rfl rfl (List.cons_ne_nil _ _) rfl (by first | ((repeat (first | exact Upd.head | apply Upd.tail)); done) | fail) (by first | ((repeat (first | exact LSets.nil | exact LSet.zero | apply LSets.cons | apply LSet.succ)); done) | fail) ?_)))))
        exact t_hp (hp' := []) (fun w h => h.psub (by first | ((repeat (first | exact PSub.nil | exact Ext.head | apply Ext.tail | apply PSub.cons)); done) | fail)) (t_ret1 Try.results7 rfl rfl)
      · (repeat (first | (refine i_dst ?_; (first | (refine i_move ?_; refine l_q rfl rfl rfl (q_move rfl) ?_) | (refine i_assign ?_; refine l_q rfl rfl rfl (q_assign rfl) ?_) | (refine i_bin ?_; refine l_q rfl rfl rfl (by (exact q_geq rfl rfl)) ?_) | (refine i_alloc ?_; (refine l_allocA tab rfl rfl (fun _ => ?_))) | refine l_q rfl rfl rfl (by (first | exact q_extract rfl rfl | exact q_not rfl | exact q_pick_t rfl rfl)) ?_)) | refine d_seq ?_ | refine c_region ?_ | refine l_nil ?_ | (refine i_q ?_; (refine d_then ?_)) | refine c_ret ?_ | (refine i_guard ?_; (first | refine l_gt rfl rfl rfl ?_ | refine l_gf rfl rfl rfl rfl rfl rfl ?_ | (refine l_gfd rfl rfl rfl (by ((simp; omega))) rfl rfl ?_))) | (refine i_store ?_; ((refine l_setN tab rfl rfl rfl rfl (List.cons_ne_nil _ _) rfl (by first | ((repeat (first | exact Upd.head | apply Upd.tail)); done) | fail) (by first | ((repeat (first | exact LSets.nil | exact LSet.zero | apply LSets.cons | apply LSet.succ)); done) | fail) ?_)))))
        exact t_hp (hp' := []) (fun w h => h.psub (by first | ((repeat (first | exact PSub.nil | exact Ext.head | apply Ext.tail | apply PSub.cons)); done) | fail)) (t_ret1 Try.results7 rfl rfl)
end Go.Proofs.Ytidekbijkknlmaa
