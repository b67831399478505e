/-
  Layer 8: plain laws of what is done (no program in sight).
-/
import Derived.Test.YtecnodkjjpjglaaL4
set_option linter.unusedVariables false
set_option maxRecDepth 100000
namespace Go.Proofs.Ytecnodkjjpjglaa
/-- The same shape, and the same first pages. -/
structure Same0 (M M' : Mm) : Prop where
  ram : M'.ram.length = M.ram.length
  segs : M'.segs.length = M.segs.length
  seg : ∀ (i : Nat) s, M.segs[i]? = some s → ∃ s', M'.segs[i]? = some s' ∧ s'.ln = s.ln ∧ s'.dat.length = s.dat.length ∧ s'.dat[0]? = s.dat[0]?
theorem Same0.refl (M : Mm) : Same0 M M := ⟨rfl, rfl, fun i s h => ⟨s, h, rfl, rfl, rfl⟩⟩
theorem Same0.trans {M M' M'' : Mm} (h : Same0 M M') (k : Same0 M' M'') : Same0 M M'' :=
  ⟨k.ram.trans h.ram, k.segs.trans h.segs, fun i s hs => by
    obtain ⟨s', h1, h2, h3, h4⟩ := h.seg i s hs
    obtain ⟨s'', k1, k2, k3, k4⟩ := k.seg i s' h1
    exact ⟨s'', k1, k2.trans h2, k3.trans h3, k4.trans h4⟩⟩
theorem Same0.set {M : Mm} {k : Nat} {s t : Seg} (hs : M.segs[k]? = some s) (h1 : t.ln = s.ln) (h2 : t.dat.length = s.dat.length) (h3 : t.dat[0]? = s.dat[0]?) : Same0 M { M with segs := M.segs.set k t } := by
  refine ⟨rfl, by simp, fun i u hu => ?_⟩
  by_cases e : i = k
  · subst e
    rw [hs] at hu
    injection hu with hu
    subst hu
    exact ⟨t, get_set hs, h1, h2, h3⟩
  · exact ⟨u, by rw [← hu]; exact List.getElem?_set_ne (Ne.symm e), rfl, rfl, rfl⟩
theorem same0_set {M : Mm} {who : Nat} {seg page : Int} : Same0 M (setM M who seg page).1 := by
  unfold setM
  split
  · exact Same0.refl M
  · split
    · exact Same0.refl M
    · rename_i s hs
      exact Same0.set (there_get hs).2.1 rfl rfl rfl
theorem same0_copy {M : Mm} {seg a b : Int} : Same0 M (copyM M seg a b).1 := by
  unfold copyM
  split
  · exact Same0.refl M
  · rename_i s hs
    split
    · exact Same0.refl M
    · rename_i hb
      obtain ⟨_, h1, h2⟩ := there_get hs
      have hb1 := h2 b (by simp)
      exact Same0.set h1 rfl (by simp) (by rw [List.getElem?_set_ne (by omega)])
theorem areaM_seg {M : Mm} {who k : Nat} {l : List Int} {f : Bool} (h : areaM M who (k + 1) = some (l, f)) : ∃ s, M.segs[k]? = some s ∧ s.dat[if who = 1 then s.s0 else s.s1]? = some l ∧ f = decide ((if who = 1 then s.s0 else s.s1) = 0) := by
  rw [areaM, if_neg (by omega), Nat.add_sub_cancel] at h
  cases hs : M.segs[k]? with
  | none => rw [hs] at h; cases h
  | some s =>
    rw [hs] at h
    dsimp only at h
    cases hl : s.dat[if who = 1 then s.s0 else s.s1]? with
    | none => rw [hl] at h; cases h
    | some l' =>
      rw [hl] at h
      dsimp only at h
      injection h with h
      injection h with h1 h2
      subst h1
      exact ⟨s, rfl, hl, h2.symm⟩
theorem same0_write {M : Mm} {who area : Nat} {at_ : Int} {x : List Int} (h0 : 0 ≤ at_) : Same0 M (writeM M who area at_ x).1 := by
  unfold writeM
  split
  · exact Same0.refl M
  · split
    · exact Same0.refl M
    · rename_i l f ha
      split
      · exact Same0.refl M
      · split
        · exact Same0.refl M
        · split
          · exact Same0.refl M
          · rename_i hb _ hf
            unfold setArea
            by_cases e : area = 0
            · rw [if_pos e]
              rw [areaM, if_pos e] at ha
              injection ha with ha
              injection ha with ha _
              subst ha
              exact ⟨length_spl (by omega), rfl, fun i s h => ⟨s, h, rfl, rfl, rfl⟩⟩
            · rw [if_neg e]
              obtain ⟨k, rfl⟩ : ∃ k, area = k + 1 := ⟨area - 1, by omega⟩
              obtain ⟨s, h1, h2, h3⟩ := areaM_seg ha
              rw [Nat.add_sub_cancel, h1]
              have : ¬ (if who = 1 then s.s0 else s.s1) = 0 := by simpa [h3] using hf
              exact Same0.set h1 rfl (by simp) (by rw [List.getElem?_set_ne this])
theorem same0_does {M : Mm} {a : ActI} : Same0 M (doesM M a).1 := by
  unfold doesM
  split
  · exact Same0.refl M
  · split
    · exact same0_write (by omega)
    · split
      · exact same0_set
      · split
        · exact same0_copy
        · exact Same0.refl M
def actsM (M : Mm) : List ActI → Mm
  | [] => M
  | a :: l => actsM (doesM M a).1 l
theorem actsM_snoc (M : Mm) : ∀ (l : List ActI) (a : ActI), actsM M (l ++ [a]) = (doesM (actsM M l) a).1 := by
  intro l
  induction l generalizing M with
  | nil => intro a; rfl
  | cons b l ih => intro a; exact ih _ a
theorem same0_acts {M : Mm} (l : List ActI) : Same0 M (actsM M l) := by
  induction l generalizing M with
  | nil => exact Same0.refl M
  | cons a l ih => exact same0_does.trans ih
theorem acts_ok {M : Mm} (hk : MmOk M) (l : List ActI) : MmOk (actsM M l) := by
  induction l generalizing M with
  | nil => exact hk
  | cons a l ih => exact ih (doesM_ok hk)
/-- How long an area is. -/
def lenM (M : Mm) (area : Nat) : Nat := if area = 0 then M.ram.length else match M.segs[area - 1]? with
  | some s => s.ln
  | none => 0
theorem area_is {M : Mm} (hk : MmOk M) {area : Nat} (ha : area ≤ M.segs.length) (who : Nat) : ∃ l f, areaM M who area = some (l, f) ∧ l.length = lenM M area := by
  rcases Nat.eq_zero_or_pos area with rfl | h0
  · exact ⟨M.ram, false, rfl, rfl⟩
  · obtain ⟨k, rfl⟩ : ∃ k, area = k + 1 := ⟨area - 1, by omega⟩
    obtain ⟨s, hs⟩ : ∃ s, M.segs[k]? = some s := ⟨_, List.getElem?_eq_getElem (by omega)⟩
    have ho := hk.segs s (List.mem_of_getElem? hs)
    have hlt : (if who = 1 then s.s0 else s.s1) < s.dat.length := by
      have := ho.h0
      have := ho.h1
      split <;> omega
    have hl := List.getElem?_eq_getElem hlt
    refine ⟨_, _, area_of hs hl, ?_⟩
    rw [ho.len _ (List.mem_of_getElem? hl), lenM, if_neg (by omega), Nat.add_sub_cancel, hs]
theorem Same0.lenM {M M' : Mm} (h : Same0 M M') {area : Nat} (ha : area ≤ M.segs.length) : lenM M' area = lenM M area := by
  unfold Proofs.Ytecnodkjjpjglaa.lenM
  split
  · exact h.ram
  · obtain ⟨s, hs⟩ : ∃ s, M.segs[area - 1]? = some s := ⟨_, List.getElem?_eq_getElem (by omega)⟩
    obtain ⟨s', h1, h2, _⟩ := h.seg _ s hs
    rw [hs, h1]
    exact h2
theorem readM_of {M : Mm} {who area : Nat} {at_ n : Int} {l : List Int} {f : Bool} (hw : who = 1 ∨ who = 2) (ha : areaM M who area = some (l, f)) (h0 : 0 ≤ n) (ha0 : 0 ≤ at_) (h1 : at_ + n ≤ l.length) : readM M who area at_ n = ((l.drop at_.toNat).take n.toNat, 0) := by
  rw [readM, if_neg (by omega), ha]
  dsimp only
  rw [if_neg (by omega)]
theorem read_all {M : Mm} {who area n : Nat} {l : List Int} {f : Bool} (hw : who = 1 ∨ who = 2) (ha : areaM M who area = some (l, f)) (h1 : l.length = n) : readM M who area 0 n = (l, 0) := by
  rw [readM_of hw ha (by omega) (by omega) (by omega)]
  simp [← h1]
theorem read_one {M : Mm} {who area at_ : Nat} {l : List Int} {f : Bool} (hw : who = 1 ∨ who = 2) (ha : areaM M who area = some (l, f)) (h1 : at_ < l.length) : readM M who area at_ 1 = ([l.getD at_ 0], 0) := by
  have e : List.take 1 (List.drop at_ l) = [l.getD at_ 0] := by
    rw [List.drop_eq_getElem_cons h1, List.getD_eq_getElem?_getD, List.getElem?_eq_getElem h1]
    rfl
  rw [readM_of hw ha (by omega) (by omega) (by omega), Int.toNat_natCast]
  exact congrArg (fun x => (x, (0 : Int))) e
/-- What an area is, after another one has been written. -/
theorem area_write {M : Mm} (hk : MmOk M) {aw aa : Nat} {at_ : Int} {x : List Int} (h0 : 0 ≤ at_) (hf : (writeM M aw aa at_ x).2 = 0) (hw' : aw = 1 ∨ aw = 2) {who area : Nat} (hw : who = 1 ∨ who = 2) {l : List Int} {f : Bool} (ha : areaM M who area = some (l, f)) :
    ∃ f', (at_ + x.length ≤ lenM M aa) ∧ areaM (writeM M aw aa at_ x).1 who area = some (if area = aa ∧ (area = 0 ∨ (pageM M who ((area : Int) - 1)).1 = (pageM M aw ((area : Int) - 1)).1) then spl l at_.toNat x else l, f') := by
  unfold writeM at hf ⊢
  rw [if_neg (by omega)] at hf ⊢
  cases hb : areaM M aw aa with
  | none => rw [hb] at hf; cases hf
  | some y =>
    obtain ⟨l', g⟩ := y
    rw [hb] at hf
    dsimp only at hf ⊢
    split at hf
    · cases hf
    rename_i hbd
    rw [if_neg hbd]
    have hal : aa ≤ M.segs.length := by
      rcases Nat.eq_zero_or_pos aa with e | e
      · omega
      · obtain ⟨k, rfl⟩ : ∃ k, aa = k + 1 := ⟨aa - 1, by omega⟩
        obtain ⟨s, h1, _⟩ := areaM_seg hb
        have := (List.getElem?_eq_some_iff.1 h1).1
        omega
    have hlen : l'.length = lenM M aa := by
      obtain ⟨l'', f'', e1, e2⟩ := area_is hk hal aw
      rw [hb] at e1
      injection e1 with e1
      injection e1 with e1 _
      subst e1
      exact e2
    by_cases hx : x.length = 0
    · rw [if_pos hx] at hf ⊢
      have hx' : x = [] := List.eq_nil_of_length_eq_zero hx
      subst hx'
      refine ⟨f, by simp only [List.length_nil] at hbd ⊢; omega, ?_⟩
      have : spl l at_.toNat [] = l := by simp [spl]
      rw [this, ite_self]
      exact ha
    · rw [if_neg hx] at hf ⊢
      cases g with
      | true => rw [if_pos rfl] at hf; cases hf
      | false =>
        rw [if_neg (by simp)]
        refine ⟨f, by omega, ?_⟩
        dsimp only
        rcases Nat.eq_zero_or_pos aa with rfl | hpos
        · rw [setArea, if_pos rfl]
          rw [areaM, if_pos rfl] at hb
          injection hb with hb
          injection hb with hb _
          subst hb
          rcases Nat.eq_zero_or_pos area with rfl | hp2
          · rw [areaM, if_pos rfl] at ha ⊢
            injection ha with ha
            injection ha with ha hff
            subst ha hff
            rw [if_pos ⟨rfl, .inl rfl⟩]
          · rw [if_neg (by omega)]
            rw [areaM, if_neg (by omega)] at ha ⊢
            exact ha
        · obtain ⟨k, rfl⟩ : ∃ k, aa = k + 1 := ⟨aa - 1, by omega⟩
          obtain ⟨s, h1, h2, h3⟩ := areaM_seg hb
          rw [setArea, if_neg (by omega), Nat.add_sub_cancel, h1]
          dsimp only
          rcases Nat.eq_zero_or_pos area with rfl | hp2
          · rw [if_neg (show ¬ (0 = k + 1 ∧ _) from fun h => absurd h.1 (by omega))]
            rw [areaM, if_pos rfl] at ha ⊢
            exact ha
          · obtain ⟨j, rfl⟩ : ∃ j, area = j + 1 := ⟨area - 1, by omega⟩
            obtain ⟨t, k1, k2, k3⟩ := areaM_seg ha
            by_cases e : j = k
            · subst e
              rw [h1] at k1
              injection k1 with k1
              subst k1
              have g1 : ∀ w : Nat, (w = 1 ∨ w = 2) → (pageM M w (((j + 1 : Nat) : Int) - 1)).1 = ((if w = 1 then s.s0 else s.s1 : Nat) : Int) := fun w hw => by
                rw [pageM, if_neg (by omega), if_pos (by omega), show (((j + 1 : Nat) : Int) - 1).toNat = j by omega, h1]
              rw [g1 who hw, g1 aw hw']
              have hset := fun pw : Nat => get_set (t := ⟨s.ln, s.dat.set pw (spl l' at_.toNat x), s.s0, s.s1⟩) h1
              obtain ⟨pw, hpw⟩ : ∃ pw : Nat, pw = if who = 1 then s.s0 else s.s1 := ⟨_, rfl⟩
              obtain ⟨qw, hqw⟩ : ∃ qw : Nat, qw = if aw = 1 then s.s0 else s.s1 := ⟨_, rfl⟩
              rw [← hpw] at k2 k3 ⊢
              rw [← hqw] at h2 ⊢
              by_cases e2 : pw = qw
              · have hc : j + 1 = j + 1 ∧ (j + 1 = 0 ∨ (pw : Int) = (qw : Int)) := ⟨rfl, .inr (by omega)⟩
                rw [if_pos hc]
                subst e2
                rw [k2] at h2
                injection h2 with h2
                subst h2
                rw [area_of (M := ⟨M.ram, M.segs.set j ⟨s.ln, s.dat.set pw (spl l at_.toNat x), s.s0, s.s1⟩⟩) (w := who) (l := spl l at_.toNat x) (hset pw) (by dsimp only; rw [← hpw, List.getElem?_set_self]; exact (List.getElem?_eq_some_iff.1 k2).1)]
                dsimp only
                rw [← hpw, k3]
              · have hc : ¬ (j + 1 = j + 1 ∧ (j + 1 = 0 ∨ (pw : Int) = (qw : Int))) := by omega
                rw [if_neg hc]
                rw [area_of (M := ⟨M.ram, M.segs.set j ⟨s.ln, s.dat.set qw (spl l' at_.toNat x), s.s0, s.s1⟩⟩) (w := who) (l := l) (hset qw) (by dsimp only; rw [← hpw, List.getElem?_set_ne (Ne.symm e2)]; exact k2)]
                dsimp only
                rw [← hpw, k3]
            · rw [if_neg (show ¬ (j + 1 = k + 1 ∧ _) from fun h => absurd h.1 (by omega))]
              rw [area_of (w := who) (l := l) (s := t) (by dsimp only; rw [List.getElem?_set_ne (Ne.symm e)]; exact k1) k2, k3]
theorem write_no {M : Mm} {aw aa : Nat} {at_ : Int} {x : List Int} (hf : (writeM M aw aa at_ x).2 ≠ 0) : (writeM M aw aa at_ x).1 = M := by
  unfold writeM at hf ⊢
  by_cases h1 : aw ≠ 1 ∧ aw ≠ 2
  · rw [if_pos h1]
  · rw [if_neg h1] at hf ⊢
    cases ha : areaM M aw aa with
    | none => rfl
    | some y =>
      obtain ⟨l, f⟩ := y
      rw [ha] at hf
      dsimp only at hf ⊢
      by_cases h2 : (x.length : Int) > l.length ∨ at_ > l.length - x.length
      · rw [if_pos h2]
      · rw [if_neg h2] at hf ⊢
        by_cases h3 : x.length = 0
        · rw [if_pos h3]
        · rw [if_neg h3] at hf ⊢
          cases f with
          | true => rfl
          | false => exact absurd rfl hf
/-- The law of MemSees, of one area. -/
theorem sees_law {M : Mm} (hk : MmOk M) {area to : Nat} (ha : area ≤ M.segs.length) (ht : to < lenM M area) (b : Int) :
    ∃ x y z : Int, readM M 1 area to 1 = ([x], 0) ∧ readM (writeM M 2 area to [b]).1 1 area to 1 = ([y], 0) ∧ readM (writeM M 2 area to [b]).1 2 area to 1 = ([z], 0) ∧
      ((writeM M 2 area to [b]).2 = 0 ∨ (writeM M 2 area to [b]).2 = 81) ∧ ((writeM M 2 area to [b]).2 = 0 → z = b) ∧
      ((writeM M 2 area to [b]).2 = 0 → (area = 0 ∨ (pageM M 1 ((area : Int) - 1)).1 = (pageM M 2 ((area : Int) - 1)).1) → y = b) ∧
      (((writeM M 2 area to [b]).2 ≠ 0 ∨ ¬ (area = 0 ∨ (pageM M 1 ((area : Int) - 1)).1 = (pageM M 2 ((area : Int) - 1)).1)) → y = x) := by
  obtain ⟨l1, f1, e1, h1⟩ := area_is hk ha 1
  obtain ⟨l2, f2, e2, h2⟩ := area_is hk ha 2
  have hr := read_one (.inl rfl) e1 (show to < l1.length by omega)
  by_cases hg : (writeM M 2 area to [b]).2 = 0
  · obtain ⟨f3, _, k1⟩ := area_write hk (by omega) hg (.inr rfl) (.inl rfl) e1
    obtain ⟨f4, _, k2⟩ := area_write hk (by omega) hg (.inr rfl) (.inr rfl) e2
    rw [if_pos ⟨rfl, .inr rfl⟩] at k2
    have hs : ∀ l : List Int, to < l.length → (spl l (to : Int).toNat [b]).getD to 0 = b ∧ (spl l (to : Int).toNat [b]).length = l.length := fun l hl => by
      refine ⟨?_, length_spl (by simp; omega)⟩
      rw [Int.toNat_natCast, spl, List.getD_eq_getElem?_getD, List.append_assoc, List.getElem?_append_right (by rw [List.length_take]; omega), List.length_take, Nat.min_eq_left (by omega), Nat.sub_self]
      rfl
    have r2 := read_one (.inr rfl) k2 (show to < _ by rw [(hs l2 (by omega)).2]; omega)
    rw [(hs l2 (by omega)).1] at r2
    by_cases hsm : area = 0 ∨ (pageM M 1 ((area : Int) - 1)).1 = (pageM M 2 ((area : Int) - 1)).1
    · rw [if_pos ⟨rfl, hsm⟩] at k1
      have r1 := read_one (.inl rfl) k1 (show to < _ by rw [(hs l1 (by omega)).2]; omega)
      rw [(hs l1 (by omega)).1] at r1
      exact ⟨_, _, _, hr, r1, r2, .inl hg, fun _ => rfl, fun _ _ => rfl, fun h => by rcases h with h | h <;> exact absurd (by assumption) h⟩
    · rw [if_neg (fun h => hsm h.2)] at k1
      have r1 := read_one (.inl rfl) k1 (show to < _ by omega)
      exact ⟨_, _, _, hr, r1, r2, .inl hg, fun _ => rfl, fun _ h => absurd h hsm, fun _ => rfl⟩
  · have hM := write_no hg
    rw [hM]
    refine ⟨_, _, _, hr, hr, read_one (.inr rfl) e2 (by omega), .inr ?_, fun h => absurd h hg, fun h => absurd h hg, fun _ => rfl⟩
    unfold writeM at hg ⊢
    rw [if_neg (by omega), e2] at hg ⊢
    dsimp only at hg ⊢
    rw [if_neg (by simp; omega), if_neg (by simp)] at hg ⊢
    cases f2 with
    | true => rfl
    | false => exact absurd rfl hg
end Go.Proofs.Ytecnodkjjpjglaa
