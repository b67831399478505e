/-
  Plain laws of memory in pages.
-/
import Derived.Test.YtidekbijkknlmaaG1
set_option linter.unusedVariables false
set_option maxRecDepth 100000
namespace Go.Proofs.Ytidekbijkknlmaa
open Go.RowKit
theorem newSegs_get {x : MapI} {k i : Nat} {s : Int × Int} (hi : i < k) (hs : x.segs[i]? = some s) : (newSegs x k)[i]? = some (segOf x i s) := by
  simp [newSegs, hi, List.getD_eq_getElem?_getD, hs]
theorem there_of {M : Mm} {k : Nat} {s : Seg} {ps : List Int} (hs : M.segs[k]? = some s) (hp : ∀ p ∈ ps, 0 ≤ p ∧ p ≤ (s.dat.length : Int) - 1) : thereM M (k : Int) ps = some s := by
  rw [thereM, if_pos (by omega), Int.toNat_natCast, hs]
  dsimp only
  rw [if_pos]
  rw [List.all_eq_true]
  intro p h
  exact decide_eq_true (hp p h)
theorem set_of {M : Mm} {k : Nat} {s : Seg} {p w : Nat} (hs : M.segs[k]? = some s) (hp : p < s.dat.length) (hw : 1 ≤ w ∧ w ≤ 3) : setM M w k p = (⟨M.ram, M.segs.set k ⟨s.ln, s.dat, if w = 2 then s.s0 else p, if w = 1 then s.s1 else p⟩⟩, 0) := by
  rw [setM, if_neg (by omega), there_of hs (fun x hx => by simp at hx; omega)]
  simp
theorem get_set {l : List Seg} {k : Nat} {s t : Seg} (h : l[k]? = some s) : (l.set k t)[k]? = some t := by
  rw [List.getElem?_set_self (List.getElem?_eq_some_iff.1 h).1]
theorem area_of {M : Mm} {k w : Nat} {s : Seg} {l : List Int} (hs : M.segs[k]? = some s) (hl : s.dat[if w = 1 then s.s0 else s.s1]? = some l) : areaM M w (k + 1) = some (l, decide ((if w = 1 then s.s0 else s.s1) = 0)) := by
  rw [areaM, if_neg (by omega), Nat.add_sub_cancel, hs]
  dsimp only
  rw [hl]
theorem read_of {M : Mm} {k w : Nat} {s : Seg} {l c : List Int} (hs : M.segs[k]? = some s) (hl : s.dat[if w = 1 then s.s0 else s.s1]? = some l) (hw : w = 1 ∨ w = 2) (hc : l.take c.length = c) : readM M w (k + 1) 0 c.length = (c, 0) := by
  have hn : c.length ≤ l.length := by
    have := congrArg List.length hc
    rw [List.length_take] at this
    omega
  rw [readM, if_neg (by omega), area_of hs hl]
  dsimp only
  rw [if_neg (by omega)]
  simp [hc]
theorem areaM_seg {M : Mm} {who k : Nat} {l : List Int} {f : Bool} (h : areaM M who (k + 1) = some (l, f)) : ∃ s, M.segs[k]? = some s ∧ s.dat[if who = 1 then s.s0 else s.s1]? = some l ∧ f = decide ((if who = 1 then s.s0 else s.s1) = 0) := by
  rw [areaM, if_neg (by omega), Nat.add_sub_cancel] at h
  cases hs : M.segs[k]? with
  | none => rw [hs] at h; cases h
  | some s =>
    rw [hs] at h
    dsimp only at h
    cases hl : s.dat[if who = 1 then s.s0 else s.s1]? with
    | none => rw [hl] at h; cases h
    | some l' =>
      rw [hl] at h
      dsimp only at h
      injection h with h
      injection h with h1 h2
      subst h1
      exact ⟨s, rfl, hl, h2.symm⟩
/-- How long an area is. -/
def lenM (M : Mm) (area : Nat) : Nat := if area = 0 then M.ram.length else match M.segs[area - 1]? with
  | some s => s.ln
  | none => 0
theorem area_is {M : Mm} (hk : MmOk M) {area : Nat} (ha : area ≤ M.segs.length) (who : Nat) : ∃ l f, areaM M who area = some (l, f) ∧ l.length = lenM M area := by
  rcases Nat.eq_zero_or_pos area with rfl | h0
  · exact ⟨M.ram, false, rfl, rfl⟩
  · obtain ⟨k, rfl⟩ : ∃ k, area = k + 1 := ⟨area - 1, by omega⟩
    obtain ⟨s, hs⟩ : ∃ s, M.segs[k]? = some s := ⟨_, List.getElem?_eq_getElem (by omega)⟩
    have ho := hk.segs s (List.mem_of_getElem? hs)
    have hlt : (if who = 1 then s.s0 else s.s1) < s.dat.length := by
      have := ho.h0
      have := ho.h1
      split <;> omega
    have hl := List.getElem?_eq_getElem hlt
    refine ⟨_, _, area_of hs hl, ?_⟩
    rw [ho.len _ (List.mem_of_getElem? hl), lenM, if_neg (by omega), Nat.add_sub_cancel, hs]
theorem readM_of {M : Mm} {who area : Nat} {at_ n : Int} {l : List Int} {f : Bool} (hw : who = 1 ∨ who = 2) (ha : areaM M who area = some (l, f)) (h0 : 0 ≤ n) (ha0 : 0 ≤ at_) (h1 : at_ + n ≤ l.length) : readM M who area at_ n = ((l.drop at_.toNat).take n.toNat, 0) := by
  rw [readM, if_neg (by omega), ha]
  dsimp only
  rw [if_neg (by omega)]
theorem read_all {M : Mm} {who area n : Nat} {l : List Int} {f : Bool} (hw : who = 1 ∨ who = 2) (ha : areaM M who area = some (l, f)) (h1 : l.length = n) : readM M who area 0 n = (l, 0) := by
  rw [readM_of hw ha (by omega) (by omega) (by omega)]
  simp [← h1]
theorem read_one {M : Mm} {who area at_ : Nat} {l : List Int} {f : Bool} (hw : who = 1 ∨ who = 2) (ha : areaM M who area = some (l, f)) (h1 : at_ < l.length) : readM M who area at_ 1 = ([l.getD at_ 0], 0) := by
  have e : List.take 1 (List.drop at_ l) = [l.getD at_ 0] := by
    rw [List.drop_eq_getElem_cons h1, List.getD_eq_getElem?_getD, List.getElem?_eq_getElem h1]
    rfl
  rw [readM_of hw ha (by omega) (by omega) (by omega), Int.toNat_natCast]
  exact congrArg (fun x => (x, (0 : Int))) e
/-- What an area is, after another one has been written. -/
theorem area_write {M : Mm} (hk : MmOk M) {aw aa : Nat} {at_ : Int} {x : List Int} (h0 : 0 ≤ at_) (hf : (writeM M aw aa at_ x).2 = 0) (hw' : aw = 1 ∨ aw = 2) {who area : Nat} (hw : who = 1 ∨ who = 2) {l : List Int} {f : Bool} (ha : areaM M who area = some (l, f)) :
    ∃ f', (at_ + x.length ≤ lenM M aa) ∧ areaM (writeM M aw aa at_ x).1 who area = some (if area = aa ∧ (area = 0 ∨ (pageM M who ((area : Int) - 1)).1 = (pageM M aw ((area : Int) - 1)).1) then spl l at_.toNat x else l, f') := by
  unfold writeM at hf ⊢
  rw [if_neg (by omega)] at hf ⊢
  cases hb : areaM M aw aa with
  | none => rw [hb] at hf; cases hf
  | some y =>
    obtain ⟨l', g⟩ := y
    rw [hb] at hf
    dsimp only at hf ⊢
    split at hf
    · cases hf
    rename_i hbd
    rw [if_neg hbd]
    have hal : aa ≤ M.segs.length := by
      rcases Nat.eq_zero_or_pos aa with e | e
      · omega
      · obtain ⟨k, rfl⟩ : ∃ k, aa = k + 1 := ⟨aa - 1, by omega⟩
        obtain ⟨s, h1, _⟩ := areaM_seg hb
        have := (List.getElem?_eq_some_iff.1 h1).1
        omega
    have hlen : l'.length = lenM M aa := by
      obtain ⟨l'', f'', e1, e2⟩ := area_is hk hal aw
      rw [hb] at e1
      injection e1 with e1
      injection e1 with e1 _
      subst e1
      exact e2
    by_cases hx : x.length = 0
    · rw [if_pos hx] at hf ⊢
      have hx' : x = [] := List.eq_nil_of_length_eq_zero hx
      subst hx'
      refine ⟨f, by simp only [List.length_nil] at hbd ⊢; omega, ?_⟩
      have : spl l at_.toNat [] = l := by simp [spl]
      rw [this, ite_self]
      exact ha
    · rw [if_neg hx] at hf ⊢
      cases g with
      | true => rw [if_pos rfl] at hf; cases hf
      | false =>
        rw [if_neg (by simp)]
        refine ⟨f, by omega, ?_⟩
        dsimp only
        rcases Nat.eq_zero_or_pos aa with rfl | hpos
        · rw [setArea, if_pos rfl]
          rw [areaM, if_pos rfl] at hb
          injection hb with hb
          injection hb with hb _
          subst hb
          rcases Nat.eq_zero_or_pos area with rfl | hp2
          · rw [areaM, if_pos rfl] at ha ⊢
            injection ha with ha
            injection ha with ha hff
            subst ha hff
            rw [if_pos ⟨rfl, .inl rfl⟩]
          · rw [if_neg (by omega)]
            rw [areaM, if_neg (by omega)] at ha ⊢
            exact ha
        · obtain ⟨k, rfl⟩ : ∃ k, aa = k + 1 := ⟨aa - 1, by omega⟩
          obtain ⟨s, h1, h2, h3⟩ := areaM_seg hb
          rw [setArea, if_neg (by omega), Nat.add_sub_cancel, h1]
          dsimp only
          rcases Nat.eq_zero_or_pos area with rfl | hp2
          · rw [if_neg (show ¬ (0 = k + 1 ∧ _) from fun h => absurd h.1 (by omega))]
            rw [areaM, if_pos rfl] at ha ⊢
            exact ha
          · obtain ⟨j, rfl⟩ : ∃ j, area = j + 1 := ⟨area - 1, by omega⟩
            obtain ⟨t, k1, k2, k3⟩ := areaM_seg ha
            by_cases e : j = k
            · subst e
              rw [h1] at k1
              injection k1 with k1
              subst k1
              have g1 : ∀ w : Nat, (w = 1 ∨ w = 2) → (pageM M w (((j + 1 : Nat) : Int) - 1)).1 = ((if w = 1 then s.s0 else s.s1 : Nat) : Int) := fun w hw => by
                rw [pageM, if_neg (by omega), if_pos (by omega), show (((j + 1 : Nat) : Int) - 1).toNat = j by omega, h1]
              rw [g1 who hw, g1 aw hw']
              have hset := fun pw : Nat => get_set (t := ⟨s.ln, s.dat.set pw (spl l' at_.toNat x), s.s0, s.s1⟩) h1
              obtain ⟨pw, hpw⟩ : ∃ pw : Nat, pw = if who = 1 then s.s0 else s.s1 := ⟨_, rfl⟩
              obtain ⟨qw, hqw⟩ : ∃ qw : Nat, qw = if aw = 1 then s.s0 else s.s1 := ⟨_, rfl⟩
              rw [← hpw] at k2 k3 ⊢
              rw [← hqw] at h2 ⊢
              by_cases e2 : pw = qw
              · have hc : j + 1 = j + 1 ∧ (j + 1 = 0 ∨ (pw : Int) = (qw : Int)) := ⟨rfl, .inr (by omega)⟩
                rw [if_pos hc]
                subst e2
                rw [k2] at h2
                injection h2 with h2
                subst h2
                rw [area_of (M := ⟨M.ram, M.segs.set j ⟨s.ln, s.dat.set pw (spl l at_.toNat x), s.s0, s.s1⟩⟩) (w := who) (l := spl l at_.toNat x) (hset pw) (by dsimp only; rw [← hpw, List.getElem?_set_self]; exact (List.getElem?_eq_some_iff.1 k2).1)]
                dsimp only
                rw [← hpw, k3]
              · have hc : ¬ (j + 1 = j + 1 ∧ (j + 1 = 0 ∨ (pw : Int) = (qw : Int))) := by omega
                rw [if_neg hc]
                rw [area_of (M := ⟨M.ram, M.segs.set j ⟨s.ln, s.dat.set qw (spl l' at_.toNat x), s.s0, s.s1⟩⟩) (w := who) (l := l) (hset qw) (by dsimp only; rw [← hpw, List.getElem?_set_ne (Ne.symm e2)]; exact k2)]
                dsimp only
                rw [← hpw, k3]
            · rw [if_neg (show ¬ (j + 1 = k + 1 ∧ _) from fun h => absurd h.1 (by omega))]
              rw [area_of (w := who) (l := l) (s := t) (by dsimp only; rw [List.getElem?_set_ne (Ne.symm e)]; exact k1) k2, k3]
theorem write_no {M : Mm} {aw aa : Nat} {at_ : Int} {x : List Int} (hf : (writeM M aw aa at_ x).2 ≠ 0) : (writeM M aw aa at_ x).1 = M := by
  unfold writeM at hf ⊢
  by_cases h1 : aw ≠ 1 ∧ aw ≠ 2
  · rw [if_pos h1]
  · rw [if_neg h1] at hf ⊢
    cases ha : areaM M aw aa with
    | none => rfl
    | some y =>
      obtain ⟨l, f⟩ := y
      rw [ha] at hf
      dsimp only at hf ⊢
      by_cases h2 : (x.length : Int) > l.length ∨ at_ > l.length - x.length
      · rw [if_pos h2]
      · rw [if_neg h2] at hf ⊢
        by_cases h3 : x.length = 0
        · rw [if_pos h3]
        · rw [if_neg h3] at hf ⊢
          cases f with
          | true => rfl
          | false => exact absurd rfl hf
end Go.Proofs.Ytidekbijkknlmaa
