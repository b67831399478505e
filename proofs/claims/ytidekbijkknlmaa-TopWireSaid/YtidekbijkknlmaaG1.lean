/-
  Bytes as strings; parts of bytes; rows of small structs.
-/
import Derived.Test.YtidekbijkknlmaaM8
import Derived.Laws.BytesArg
set_option linter.unusedVariables false
set_option maxRecDepth 100000
namespace Go.Proofs.Ytidekbijkknlmaa
open Go.RowKit
theorem roB_of {A : Option Addr} {n c : Nat} {l : List Int} {w : World} (h : (bytesA (.slice A n c) l).C w) : (roB A n l).C w := by
  obtain ⟨A', c', h1, _, _, h2, _⟩ := bytesA_ro h
  injection h1 with h1 h3 h4
  subst h1 h3
  exact h2
theorem run_conv {P : Program} {w : World} {A : Option Addr} {n : Nat} {l : List Int} (h : (roB A n l).C w) (src e dst c : Nat) (hs : P.underlying src = some (.slice e)) (he : P.underlying e = some (.int .u8)) (hd : P.underlying dst = some .string) :
    (convert src dst (.slice A n c)).run P w = .ok (.string (strOfNums l)) w := by
  rcases Nat.eq_zero_or_pos n with rfl | hn
  · have : l = [] := List.eq_nil_of_length_eq_zero h.1
    subst this
    rcases A with _ | ⟨b, off, spot⟩
    · exact run_convert_bytes_nil w src e hs he 0 c dst hd
    · rw [run_convert_bytes_string w src dst e _ 0 c hs he hd, run_bytesToString w ⟨b, off, spot⟩ 0 c [] (by simp [loadCells, loadCellsFrom])]
      rfl
  · obtain ⟨b, off, rfl, _, hc⟩ := h.2.2 hn
    exact run_convert_bytes_arg w src e hs he b off n c l h.1 (fun i hi => hc i _ (bv_get (by rw [h.1]; exact hi))) dst hd
section
variable {P : Program} {S : Nat → Prop} {w0 : World} {env : Env} {hp : List Asn} {d : Option Tmp} {ty : TypeId} {pos : String} {af : Array Edge} {g : Option (Nat × Bool)}
theorem q_str (T : Tab P) {src dst e : TypeId} {x : Operand} {A : Option Addr} {n c : Nat} {l : List Int} (hx : ev env x = some (.slice A n c)) (hs : T.u src = some (.slice e)) (he : T.u e = some (.int .u8)) (hd : T.u dst = some .string) (hb : ∀ w, St S w0 hp w → (roB A n l).C w) : Qt P S w0 ⟨d, .convert src dst x, ty, pos, af, g⟩ env hp (.string (strOfNums l)) := by
  unfold Qt
  intro n a w hE hS
  simp [execOp, hE.ev hx, run_conv (hb w hS) src e dst c (T.U hs) (T.U he) (T.U hd)]
end
theorem strs_inj : ∀ {a b : List Int}, Oct a → Oct b → a.map (fun n => UInt8.ofNat n.toNat) = b.map (fun n => UInt8.ofNat n.toNat) → a = b
  | [], [], _, _, _ => rfl
  | [], _ :: _, _, _, h => by simp at h
  | _ :: _, [], _, _, h => by simp at h
  | x :: a, y :: b, ha, hb, h => by
    simp only [List.map_cons, List.cons.injEq] at h
    have h1 := congrArg UInt8.toNat h.1
    simp at h1
    have hx := ha x (by simp)
    have hy := hb y (by simp)
    rw [show x = y by omega, strs_inj (fun z hz => ha z (by simp [hz])) (fun z hz => hb z (by simp [hz])) h.2]
theorem str_beq {a b : List Int} (ha : Oct a) (hb : Oct b) : ((strOfNums a).toList == (strOfNums b).toList) = decide (a = b) := by
  rw [ByteArray.toList_eq, ByteArray.toList_eq, strOfNums_data, strOfNums_data, Bool.eq_iff_iff, beq_iff_eq, decide_eq_true_eq]
  exact ⟨strs_inj ha hb, fun h => by rw [h]⟩
theorem min_int (a b : Nat) : (if (b : Int) < (a : Int) then (b : Int) else (a : Int)) = ((min a b : Nat) : Int) := by
  split <;> omega
theorem there_get {M : Mm} {seg : Int} {ps : List Int} {s : Seg} (h : thereM M seg ps = some s) : 0 ≤ seg ∧ M.segs[seg.toNat]? = some s ∧ ∀ p ∈ ps, 0 ≤ p ∧ p ≤ (s.dat.length : Int) - 1 := by
  unfold thereM at h
  by_cases h0 : 0 ≤ seg
  · rw [if_pos h0] at h
    cases hs : M.segs[seg.toNat]? with
    | none => rw [hs] at h; cases h
    | some t =>
      rw [hs] at h
      dsimp only at h
      split at h
      · rename_i hall
        injection h with h
        subst h
        refine ⟨h0, rfl, fun p hp => ?_⟩
        have := List.all_eq_true.1 hall p hp
        simpa using this
      · cases h
  · rw [if_neg h0] at h
    cases h
theorem setSeg_ok {M : Mm} {k : Nat} {s : Seg} (hk : MmOk M) (hs : SegOk s) : MmOk { M with segs := M.segs.set k s } :=
  ⟨hk.ram, by simpa using hk.n4, fun t ht => by
    rcases List.mem_or_eq_of_mem_set ht with h | h
    · exact hk.segs t h
    · subst h; exact hs⟩
theorem setM_ok {M : Mm} {who : Nat} {seg page : Int} (hk : MmOk M) : MmOk (setM M who seg page).1 := by
  unfold setM
  split
  · exact hk
  · split
    · exact hk
    · rename_i s hs
      obtain ⟨h0, h1, h2⟩ := there_get hs
      have hso := hk.segs s (List.mem_of_getElem? h1)
      have hp := h2 page (by simp)
      have := hso.h0
      have := hso.h1
      refine setSeg_ok hk ⟨?_, ?_, hso.n4, hso.l1, hso.l2, hso.len⟩
      · show (if who = 2 then s.s0 else page.toNat) < s.dat.length
        split <;> omega
      · show (if who = 1 then s.s1 else page.toNat) < s.dat.length
        split <;> omega
theorem roB_take {A : Option Addr} {n k : Nat} {l : List Int} {w : World} (h : (roB A n l).C w) (hk : k ≤ n) : (roB A k (l.take k)).C w := by
  refine ⟨by rw [List.length_take, h.1]; omega, h.2.1.take k, fun hk0 => ?_⟩
  obtain ⟨b, o, h1, h2, h3⟩ := h.2.2 (by omega)
  refine ⟨b, o, h1, h2, fun j u hu => h3 j u ?_⟩
  have hj : j < k := by
    have := (List.getElem?_eq_some_iff.1 hu).1
    rw [length_bv, List.length_take] at this
    omega
  rw [← hu]
  simp [bv, hj]
theorem Ro.take {S : Nat → Prop} {w0 : World} {A : Option Addr} {n k : Nat} {l : List Int} (h : Ro S w0 (roB A n l)) (hk : k ≤ n) : Ro S w0 (roB A k (l.take k)) :=
  h.sub (fun h => roB_take h hk) (fun b ⟨h1, h2⟩ => ⟨by omega, h2⟩)
theorem st_nilB {S : Nat → Prop} {w0 w : World} {hp : List Asn} (h : St S w0 hp w) : St S w0 (bytesA (.slice none 0 0) [] :: hp) w := h.new (Kept.refl _ _) ⟨Oct.nil, World.ownsRow_nil _ _ _ _⟩ (fun b hb => by cases hb)
theorem rowSeg : RowT tab 80 151 2 16 (.agg #[.int .i64 0, .int .i64 0]) := ⟨rfl, rfl, rfl, by decide⟩
theorem segCells_append (a b : List (Int × Int)) : segCells (a ++ b) = segCells a ++ segCells b := by simp [segCells]
theorem segCells_one (l : List (Int × Int)) : ∀ u ∈ segCells l, u.oneCell' = true := fun u hu => by
  simp only [segCells, List.mem_flatMap] at hu
  obtain ⟨s, _, hs⟩ := hu
  simp at hs
  rcases hs with rfl | rfl <;> rfl
theorem roV_row {e : TypeId} {size n c : Nat} {A : Option Addr} {xs : List Value} {w : World} (h : (row e size (.slice A n c) n xs).C w) : (roV A (n * size) xs).C w := by
  obtain ⟨h1, h2⟩ := row_src h
  refine ⟨h1, fun hn => ?_⟩
  obtain ⟨A', c', h3, _, _, h4⟩ := row_slice h
  injection h3 with h3 _ _
  subst h3
  obtain ⟨b, o, e1, e2⟩ := h2 hn
  have hn0 : 0 < n := Nat.pos_of_ne_zero (fun e => by subst e; simp at hn)
  obtain ⟨g, e3, e4⟩ := h4 hn0
  rw [e1] at e3
  injection e3 with e3
  injection e3 with e3 e5
  subst e3 e5
  exact ⟨b, 0, e1, e4, e2⟩
theorem roB_blk {b : Nat} {l : List Int} {t : TypeId} {w : World} (h : (blk b (bv l) t).C w) (ho : Oct l) : (roB (some ⟨b, 0, none⟩) l.length l).C w :=
  ⟨rfl, ho, fun _ => ⟨b, 0, rfl, (blk b (bv l) t).lt h b rfl, fun j u hu => by rw [Nat.zero_add]; exact blk_cell h hu⟩⟩
theorem Ro.blkB {S : Nat → Prop} {w0 : World} {b : Nat} {l : List Int} {t : TypeId} (h : Ro S w0 (blk b (bv l) t)) (ho : Oct l) : Ro S w0 (roB (some ⟨b, 0, none⟩) l.length l) :=
  h.sub (fun h => roB_blk h ho) (fun x ⟨_, o, hx⟩ => by
    injection hx with hx
    injection hx with hx
    exact hx.symm)
theorem InBB.nil {S : Nat → Prop} {w0 : World} : InBB S w0 none 0 [] := ⟨rfl, [], ⟨⟨rfl, fun h => by omega⟩, fun b h => by have := h.1; omega⟩, fun i l h => by simp at h⟩
theorem oct1 {x : Int} (h : 0 ≤ x ∧ x ≤ 255) : Oct [x] := fun y hy => by simp at hy; subst hy; exact h
end Go.Proofs.Ytidekbijkknlmaa
