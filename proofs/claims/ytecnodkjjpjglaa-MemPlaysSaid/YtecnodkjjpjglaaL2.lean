/-
  Layer 8, the statements' helpers: few, good, shown.
-/
import Derived.Test.YtecnodkjjpjglaaL1
set_option linter.unusedVariables false
set_option maxRecDepth 100000
namespace Go.Proofs.Ytecnodkjjpjglaa
open Go.RowKit
attribute [local irreducible] TL TC TQ TK TO Qt TA


theorem rowSeg : RowT tab 22 53 2 16 (.agg #[.int .i64 0, .int .i64 0]) := ⟨rfl, rfl, rfl, by decide⟩
def goodS (s : Int × Int) : Int × Int := (min (max s.1 1) 16, min (max s.2 2) 4)
def goodM (x : MapI) : MapI := ⟨min (max x.ram 8) 64, (x.segs.take 4).map goodS, []⟩
theorem segCells_append (a b : List (Int × Int)) : segCells (a ++ b) = segCells a ++ segCells b := by simp [segCells]
theorem segCells_one (l : List (Int × Int)) : ∀ u ∈ segCells l, u.oneCell' = true := fun u hu => by
  simp only [segCells, List.mem_flatMap] at hu
  obtain ⟨s, _, hs⟩ := hu
  simp at hs
  rcases hs with rfl | rfl <;> rfl
theorem roV_row {e : TypeId} {size n c : Nat} {A : Option Addr} {xs : List Value} {w : World} (h : (row e size (.slice A n c) n xs).C w) : (roV A (n * size) xs).C w := by
  obtain ⟨h1, h2⟩ := row_src h
  refine ⟨h1, fun hn => ?_⟩
  obtain ⟨A', c', h3, _, _, h4⟩ := row_slice h
  injection h3 with h3 _ _
  subst h3
  obtain ⟨b, o, e1, e2⟩ := h2 hn
  have hn0 : 0 < n := Nat.pos_of_ne_zero (fun e => by subst e; simp at hn)
  obtain ⟨g, e3, e4⟩ := h4 hn0
  rw [e1] at e3
  injection e3 with e3
  injection e3 with e3 e5
  subst e3 e5
  exact ⟨b, 0, e1, e4, e2⟩
/-- What good tells. -/
def GoodR (x : MapI) (v : Value) (B : List Asn) : Prop :=
  ∃ A c, v = .agg #[.int .i64 (goodM x).ram, .slice A (goodM x).segs.length c, .slice none 0 0] ∧ (goodM x).segs.length ≤ c ∧ c ≤ maxLen ∧ B = [row 53 2 (.slice A (goodM x).segs.length c) (goodM x).segs.length (segCells (goodM x).segs)]
attribute [local irreducible] blk row bytesA starL memA segA roB


theorem few_spec (A : Option Addr) (n c : Nat) (w : World) (hn : n ≤ c) (hc : c ≤ maxLen) :
    Calls Try.prog 16 #[.slice A n c] w (Ret w [] fun v B => v = .slice A (min n 60) c ∧ B = []) := by
  refine enter (vs := [.slice A n c]) Try.func16 rfl Try.ntmps16 rfl (Hold.nil w) ?_
  have mn1 := min_int n 60
  unfold maxLen at hc
  (repeat (first | (refine i_dst ?_; (first | (refine i_move ?_; refine l_q rfl rfl rfl (q_move rfl) ?_) | (refine i_assign ?_; refine l_q rfl rfl rfl (q_assign rfl) ?_) | (refine i_blt ?_; refine l_q rfl rfl rfl (by (first | exact q_len tab rfl rfl | exact q_min rfl rfl mn1)) ?_) | (refine i_sl ?_; refine l_q rfl rfl rfl (by (exact q_sliceHi tab rfl rfl rfl rfl (by omega))) ?_))) | refine c_seq (fun K hK => ?_) | refine c_region ?_ | refine l_nil ?_ | refine t_then ?_ | (refine i_k ?_; (((refine hK _ _ ?_; clear hK)))) | refine c_ret ?_))
  exact t_ret1 Try.results16 rfl ⟨rfl, rfl⟩

set_option maxHeartbeats 8000000 in
theorem good_spec (v : Value) (x : MapI) (w : World) (hx : InMap (fps []) w v x) :
    Calls Try.prog 24 #[v] w (Ret w [] (GoodR x)) := by
  obtain ⟨A, c, A', n', c', rfl, hc1, hc2, hsg, hfl, hc3, hc4⟩ := hx.is
  refine enter (vs := [.agg #[.int .i64 x.ram, .slice A x.segs.length c, .slice A' n' c']]) Try.func24 rfl Try.ntmps24 rfl (Hold.nil w) ?_
  have mx1 : (if x.ram < 8 then 8 else x.ram) = max x.ram 8 := by split <;> omega
  have mn1 : (if 64 < max x.ram 8 then 64 else max x.ram 8) = min (max x.ram 8) 64 := by split <;> omega
  unfold maxLen at hc2
  (repeat (first | refine c_seq (fun K hK => ?_) | refine c_region ?_))
  refine l_op rfl (fun K hK => e_box rfl rfl rfl (fun b1 => hK _ _ ?_))
  clear hK
  refine l_op rfl (fun K hK => e_alloc tab rfl rfl rfl (fun b2 => hK _ _ ?_))
  clear hK
  (repeat (first | (refine i_dst ?_; (first | (refine i_load ?_; refine l_q rfl rfl rfl (by (exact q_load tab rfl rfl rfl (fun w h => blk_cell (h.get (i := 1) rfl) rfl))) ?_) | (refine i_blt ?_; refine l_q rfl rfl rfl (by (first | exact q_min rfl rfl mn1 | exact q_max rfl rfl mx1)) ?_) | refine l_q rfl rfl rfl (by (exact q_fieldAddr tab rfl rfl rfl rfl rfl rfl rfl)) ?_)) | refine c_seq (fun K hK => ?_) | refine c_region ?_ | refine l_nil ?_ | refine t_then ?_ | (refine i_k ?_; (((refine hK _ _ ?_; clear hK))))))
  refine l_q rfl rfl rfl (q_build (v := .agg #[.int .i64 (min (max x.ram 8) 64), .slice none 0 0, .slice none 0 0]) rfl (fun w => by kernel_rfl)) ?_
  refine l_op rfl (fun K hK => e_alloc tab rfl rfl rfl (fun b3 => hK _ _ ?_))
  clear hK
  (repeat (first | (refine i_dst ?_; (first | (refine i_move ?_; refine l_q rfl rfl rfl (q_move rfl) ?_) | (refine i_load ?_; refine l_q rfl rfl rfl (by (exact q_load tab rfl rfl rfl (fun w h => blk_cell (h.get (i := 2) rfl) rfl))) ?_) | (refine i_blt ?_; refine l_q rfl rfl rfl (by (exact q_len tab rfl rfl)) ?_) | refine l_q rfl rfl rfl (by (exact q_fieldAddr tab rfl rfl rfl rfl rfl rfl rfl)) ?_)) | refine c_seq (fun K hK => ?_) | refine c_region ?_ | refine l_nil ?_ | refine t_then ?_ | (refine i_k ?_; (((refine hK _ _ ?_; clear hK)))) | refine c_block ?_ | (refine i_store ?_; ((refine l_op rfl (fun K hK => e_storeN tab rfl rfl rfl (i := 0) rfl rfl rfl (by (exact Nat.le_of_ble_eq_true rfl)) rfl (hK _ _ ?_)); clear hK)))))
  clear mx1 mn1
  refine c_loop (T := Nat × Option Addr × Nat) (fun t => [(2, .pointer (some ⟨b2, 0, none⟩)), (3, .pointer (some ⟨b3, 0, none⟩)), (12, .slice A x.segs.length c), (13, .int .i64 x.segs.length), (14, .int .i64 t.1)])
    (fun t => [blk b3 [.int .i64 (min (max x.ram 8) 64), .slice t.2.1 (min t.1 4) t.2.2, .slice none 0 0] 25, row 53 2 (.slice t.2.1 (min t.1 4) t.2.2) (min t.1 4) (segCells ((x.segs.take (min t.1 4)).map goodS)), blk b2 [.int .i64 0, .slice none 0 0, .slice none 0 0] 25])
    (fun t => t.1 ≤ x.segs.length ∧ min t.1 4 ≤ t.2.2 ∧ t.2.2 ≤ maxLen) (fun t => x.segs.length - t.1) (0, none, 0) ⟨by simp, by simp, by simp⟩ ⟨rfl, rfl, rfl, rfl, rfl, trivial⟩ (fun w h => (st_nil h 53 2).pick [1, 0, 2] rfl) ?_
  rintro ⟨k, B, e⟩ ⟨hk, he1, he2⟩
  dsimp only at hk he1 he2 ⊢
  by_cases hlt : k < x.segs.length
  · obtain ⟨sg, hsk⟩ : ∃ sg, x.segs[k]? = some sg := ⟨_, List.getElem?_eq_getElem hlt⟩
    obtain ⟨bA, oA, rfl, _⟩ := roV_cell hsg.is (by omega)
    have r1 : ∀ hp w', St (fps []) w hp w' → CellsAt w' bA (oA + ((k : Nat) : Int).toNat * 2) [.int .i64 sg.1, .int .i64 sg.2] := fun hp w' h => by
      obtain ⟨b', o', e1, e2⟩ := roV_cell (h.ro hsg) (by omega)
      injection e1 with e1
      injection e1 with e1 e3
      subst e1 e3
      obtain ⟨g1, g2⟩ := segCells_get x.segs k sg hsk
      intro j u hu
      rw [Int.toNat_natCast]
      match j, hu with
      | 0, hu => injection hu with hu; subst hu; exact e2 _ _ g1
      | 1, hu => injection hu with hu; subst hu; rw [Nat.add_assoc]; exact e2 _ _ g2
    (repeat (first | (refine i_dst ?_; (first | (refine i_move ?_; refine l_q rfl rfl rfl (q_move rfl) ?_) | (refine i_load ?_; refine l_q rfl rfl rfl (by (exact q_loadN tab rfl rfl rfl rfl rfl (r1 _))) ?_) | (refine i_bin ?_; refine l_q rfl rfl rfl (by (exact q_lss rfl rfl)) ?_) | (refine i_ix ?_; refine l_q rfl rfl rfl (by (exact q_indexAddr tab rfl rfl rfl rfl (by omega))) ?_))) | refine c_seq (fun K hK => ?_) | refine c_region ?_ | refine l_nil ?_ | refine t_then ?_ | (refine i_k ?_; (((refine hK _ _ ?_; clear hK)))) | refine c_block ?_ | refine c_skip ?_ | (refine i_cond ?_; (refine c_ct rfl (by (exact decide_eq_true (by omega))) ?_))))
    refine l_op rfl (fun K hK => e_alloc tab rfl rfl rfl (fun b5 => hK _ _ ?_))
    clear hK
    have mx1 : (if sg.1 < 1 then 1 else sg.1) = max sg.1 1 := by split <;> omega
    have mn1 : (if 16 < max sg.1 1 then 16 else max sg.1 1) = min (max sg.1 1) 16 := by split <;> omega
    have mx2 : (if sg.2 < 2 then 2 else sg.2) = max sg.2 2 := by split <;> omega
    have mn2 : (if 4 < max sg.2 2 then 4 else max sg.2 2) = min (max sg.2 2) 4 := by split <;> omega
    by_cases h4 : k < 4
    · (repeat (first | (refine i_dst ?_; (first | (refine i_move ?_; refine l_q rfl rfl rfl (q_move rfl) ?_) | (refine i_assign ?_; refine l_q rfl rfl rfl (q_assign rfl) ?_) | (refine i_load ?_; refine l_q rfl rfl rfl (by (first | exact q_load tab rfl rfl rfl (fun w h => blk_cell (h.get (i := 0) rfl) rfl) | exact q_load tab rfl rfl rfl (fun w h => blk_cell (h.get (i := 1) rfl) rfl))) ?_) | (refine i_bin ?_; refine l_q rfl rfl rfl (by (exact q_lss rfl rfl)) ?_) | (refine i_blt ?_; refine l_q rfl rfl rfl (by (first | exact q_min rfl rfl mn1 | exact q_min rfl rfl mn2 | exact q_max rfl rfl mx1 | exact q_max rfl rfl mx2)) ?_) | refine l_q rfl rfl rfl (by (exact q_fieldAddr tab rfl rfl rfl rfl rfl rfl rfl)) ?_)) | refine c_seq (fun K hK => ?_) | refine c_region ?_ | refine l_nil ?_ | refine t_then ?_ | (refine i_k ?_; (((refine hK _ _ ?_; clear hK)))) | (refine i_store ?_; ((refine l_op rfl (fun K hK => e_storeN tab rfl rfl rfl (i := 0) rfl rfl rfl (by (exact Nat.le_of_ble_eq_true rfl)) rfl (hK _ _ ?_)); clear hK))) | (refine i_cond ?_; (refine c_ct rfl (by (exact decide_eq_true (by omega))) ?_))))
      refine l_q rfl rfl rfl (q_build (v := .agg #[.int .i64 (min (max sg.1 1) 16), .int .i64 (min (max sg.2 2) 4)]) rfl (fun w => by kernel_rfl)) ?_
      refine l_op rfl (fun K hK => e_buildSlice (l := [.int .i64 (min (max sg.1 1) 16), .int .i64 (min (max sg.2 2) 4)]) (e := 53) rfl rfl (fun w => by kernel_rfl) (fun g => hK _ _ ?_))
      clear hK
      refine l_op rfl (fun K hK => e_append tab (i := 3) rfl rfl rfl rfl rowSeg (news := [.int .i64 (min (max sg.1 1) 16), .int .i64 (min (max sg.2 2) 4)]) (fun w h => SrcAt.blk (h.get (i := 0) rfl) rfl) (by simp [Value.oneCell']) (by simp only [maxLen]; omega) (by omega) (fun A9 c9 q1 q2 => hK _ _ ?_))
      clear hK
      (repeat (first | (refine i_dst ?_; (first | (refine i_move ?_; refine l_q rfl rfl rfl (q_move rfl) ?_) | (refine i_bin ?_; refine l_q rfl rfl rfl (by (exact q_add rfl rfl (by (exact wr_i64 (by omega))))) ?_) | refine l_q rfl rfl rfl (by (exact q_fieldAddr tab rfl rfl rfl rfl rfl rfl rfl)) ?_)) | refine c_region ?_ | refine l_nil ?_ | refine t_then ?_ | (refine i_k ?_; (((refine hK _ _ ?_; clear hK)))) | (refine i_q ?_; (refine t_block ?_)) | (refine i_store ?_; ((refine l_op rfl (fun K hK => e_store1 tab rfl rfl (i := 2) rfl rfl (by (exact Nat.le_of_ble_eq_true rfl)) rfl (hK _ _ ?_)); clear hK)))))
      have e4 : min k 4 + 1 = min (k + 1) 4 := by omega
      refine k_again (k + 1, A9, c9) ⟨by dsimp only; omega, by dsimp only; omega, q2⟩ (by dsimp only; omega) ⟨rfl, rfl, rfl, rfl, by simp [look], trivial⟩ (fun w h => ?_)
      have e5 : (x.segs.take (min (k + 1) 4)).map goodS = (x.segs.take (min k 4)).map goodS ++ [goodS sg] := by
        rw [← e4, Nat.min_eq_left (by omega), List.take_add_one, hsk]
        simp
      dsimp only
      rw [e5, segCells_append, ← e4]
      exact h.pick [2, 3, 4] rfl
    · (repeat (first | (refine i_dst ?_; (first | (refine i_move ?_; refine l_q rfl rfl rfl (q_move rfl) ?_) | (refine i_assign ?_; refine l_q rfl rfl rfl (q_assign rfl) ?_) | (refine i_bin ?_; refine l_q rfl rfl rfl (by (first | exact q_lss rfl rfl | exact q_add rfl rfl (by (exact wr_i64 (by omega))))) ?_))) | refine c_seq (fun K hK => ?_) | refine c_region ?_ | refine l_nil ?_ | refine t_then ?_ | (refine i_k ?_; (((refine hK _ _ ?_; clear hK)))) | (refine i_q ?_; (refine t_block ?_)) | refine c_skip ?_ | (refine i_store ?_; ((refine l_op rfl (fun K hK => e_storeN tab rfl rfl rfl (i := 0) rfl rfl rfl (by (exact Nat.le_of_ble_eq_true rfl)) rfl (hK _ _ ?_)); clear hK))) | (refine i_cond ?_; (refine c_cf rfl (by (exact decide_eq_false (by omega))) ?_))))
      have e4 : min k 4 = min (k + 1) 4 := by omega
      refine k_again (k + 1, B, e) ⟨by dsimp only; omega, by dsimp only; omega, he2⟩ (by dsimp only; omega) ⟨rfl, rfl, rfl, rfl, by simp [look], trivial⟩ (fun w h => ?_)
      dsimp only
      rw [← e4]
      exact h.pick [1, 2, 3] rfl
  · have hkn : k = x.segs.length := by omega
    subst hkn
    (repeat (first | (refine i_dst ?_; (first | (refine i_load ?_; refine l_q rfl rfl rfl (by (exact q_loadB3 tab 0 rfl rfl rfl rfl rfl rfl rfl rfl)) ?_) | (refine i_bin ?_; refine l_q rfl rfl rfl (by (exact q_lss rfl rfl)) ?_))) | refine c_seq (fun K hK => ?_) | refine c_region ?_ | refine l_nil ?_ | refine t_then ?_ | (refine i_k ?_; (first | ((refine hK _ _ ?_; clear hK)) | ((clear hK; refine hK _ _ ?_; clear hK)))) | (refine i_q ?_; (first | refine t_then_exit ?_ | refine t_block_eq rfl ?_)) | refine c_exit ?_ | refine c_ret ?_ | (refine i_store ?_; ((refine l_op rfl (fun K hK => e_storeN tab rfl rfl rfl (i := 2) rfl rfl rfl (by (exact Nat.le_of_ble_eq_true rfl)) rfl (hK _ _ ?_)); clear hK))) | (refine i_cond ?_; ((refine c_cf rfl (by (((first | (simp; done) | fail)))) ?_)))))
    have e6 : (goodM x).segs = (x.segs.take (min x.segs.length 4)).map goodS := by
      rw [goodM]
      dsimp only
      congr 1
      by_cases h : x.segs.length ≤ 4
      · rw [Nat.min_eq_left h, List.take_of_length_le h, List.take_of_length_le (Nat.le_refl _)]
      · rw [Nat.min_eq_right (by omega)]
    have e7 : (goodM x).segs.length = min x.segs.length 4 := by rw [e6, List.length_map, List.length_take]; omega
    refine t_ret1h (hp' := [row 53 2 (.slice B (min x.segs.length 4) e) (min x.segs.length 4) (segCells (List.map goodS (List.take (min x.segs.length 4) x.segs)))]) Try.results24 (res_cell tab 2 rfl rfl rfl rfl rfl rfl) (fun w h => h.pick [1] rfl) ⟨B, e, ?_, ?_, he2, ?_⟩
    · rw [e7]; rfl
    · rw [e7]; exact he1
    · rw [e7, e6]
end Go.Proofs.Ytecnodkjjpjglaa
