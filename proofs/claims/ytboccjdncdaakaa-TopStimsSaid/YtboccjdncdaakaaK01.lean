/-
  Part 1 of the proof of QJ: the texts SLa SLb.
-/
import Derived.Test.YtboccjdncdaakaaRows
import Derived.WalkKit
import Derived.WalkSpells
import Derived.WalkLawsBesides
import Derived.Lib.Hide
import Derived.Maps.AppendAt
import Derived.Laws.CopyOwn
import Derived.OrdersHeld
import Derived.KernelRfl
import Derived.Deep.LoopGhost

/-
  A small logic for walking: what is known of a frame (a list of temporaries and their values), and what is known of memory (a list of objects that lie apart). Nothing of the program is in here.
-/

set_option linter.unusedVariables false
set_option maxRecDepth 100000
namespace Go.Proofs.Ytboccjdncdaakaa
open Go.RowKit

/-! ### Frames -/
abbrev Env := List (Nat × Value)
def look : Env → Nat → Option Value
  | [], _ => none
  | (j, v) :: e, k => bif Nat.beq j k then some v else look e k
/-- A frame of n temporaries, no deferred calls, that holds what env says. -/
structure Fr (env : Env) (n : Nat) (a : Act) : Prop where
  defers : a.defers = []
  size : a.tmps.size = n
  at_ : ∀ k v, look env k = some v → a.tmps[k]? = some v
theorem look_cons (j : Nat) (v : Value) (e : Env) (k : Nat) : look ((j, v) :: e) k = if j = k then some v else look e k := by
  by_cases h : j = k
  · subst h; simp [look]
  · have : Nat.beq j k = false := by rw [← Bool.not_eq_true, Nat.beq_eq]; exact h
    simp [look, this, h]
theorem Fr.put {env : Env} {n : Nat} {a : Act} (h : Fr env n a) {d : Nat} (hd : Nat.blt d n = true) (v : Value) : Fr ((d, v) :: env) n (a.put (some d) v) := by
  have hd' : d < n := by simpa [Nat.blt_eq] using hd
  refine ⟨h.defers, by simpa [Act.put] using h.size, fun k u hk => ?_⟩
  rw [look_cons] at hk
  by_cases e : d = k
  · subst e
    rw [if_pos rfl] at hk
    injection hk with hk
    subst hk
    simp [Act.put, h.size, hd']
  · rw [if_neg e] at hk
    simp only [Act.put]
    rw [Array.getElem?_setIfInBounds_ne e]
    exact h.at_ k u hk
def ev (env : Env) : Operand → Option Value
  | .tmp t => look env t
  | .const v => some v
  | .global g => some (.pointer (some ⟨g, 0, none⟩))
  | .func f => some (.func (.func f) #[] #[])
theorem Fr.ev {env : Env} {n : Nat} {a : Act} (h : Fr env n a) {x : Operand} {v : Value} (hx : ev env x = some v) : a.eval x = v := by
  cases x with
  | tmp t => have := h.at_ t v hx; simp [Act.eval, this]
  | const u => simpa [Proofs.Ytboccjdncdaakaa.ev, Act.eval] using hx
  | global g => simpa [Proofs.Ytboccjdncdaakaa.ev, Act.eval] using hx
  | func f => simpa [Proofs.Ytboccjdncdaakaa.ev, Act.eval] using hx
def evs (env : Env) : List Operand → Option (List Value)
  | [] => some []
  | x :: r => match ev env x, evs env r with
    | some v, some vs => some (v :: vs)
    | _, _ => none
theorem Fr.evs {env : Env} {n : Nat} {a : Act} (h : Fr env n a) : ∀ {xs : List Operand} {vs : List Value}, evs env xs = some vs → xs.map a.eval = vs
  | [], vs, hx => by simpa [Proofs.Ytboccjdncdaakaa.evs] using hx
  | x :: r, vs, hx => by
    simp only [Proofs.Ytboccjdncdaakaa.evs] at hx
    split at hx
    · rename_i v us h1 h2
      injection hx with hx
      subst hx
      simp [h.ev h1, Fr.evs h h2]
    · cases hx
/-- What e says env says too. -/
def Sub : Env → Env → Prop
  | [], _ => True
  | (k, v) :: e, env => look env k = some v ∧ Sub e env
theorem Sub.look {env : Env} : ∀ {e : Env}, Sub e env → ∀ k v, look e k = some v → look env k = some v
  | [], _, k, v, h => by simp [Proofs.Ytboccjdncdaakaa.look] at h
  | (j, u) :: e, hs, k, v, h => by
    rw [look_cons] at h
    by_cases e0 : j = k
    · subst e0
      rw [if_pos rfl] at h
      injection h with h
      subst h
      exact hs.1
    · rw [if_neg e0] at h
      exact hs.2.look k v h
theorem Fr.sub {env e : Env} {n : Nat} {a : Act} (h : Fr env n a) (hs : Sub e env) : Fr e n a := ⟨h.defers, h.size, fun k v hk => h.at_ k v (hs.look k v hk)⟩
/-- Some of what is known. -/
def pick (env : Env) : List Nat → Env
  | [] => []
  | k :: ks => match look env k with
    | some v => (k, v) :: pick env ks
    | none => pick env ks
theorem pick_sub (env : Env) : ∀ ks, Sub (pick env ks) env
  | [] => trivial
  | k :: ks => by
    unfold pick
    split
    · rename_i v h; exact ⟨h, pick_sub env ks⟩
    · exact pick_sub env ks
theorem Sub.append {env : Env} : ∀ {e f : Env}, Sub e env → Sub f env → Sub (e ++ f) env
  | [], f, _, h => h
  | (k, v) :: e, f, h, h' => ⟨h.1, h.2.append h'⟩
theorem Sub.refl : ∀ (e : Env), (∀ k v, Proofs.Ytboccjdncdaakaa.look e k = some v → Proofs.Ytboccjdncdaakaa.look e k = some v) := fun _ _ _ h => h

/-! ### Memory -/
/-- Of what was there only blocks of F may have changed. -/
structure Kept (F : Nat → Prop) (w w' : World) : Prop where
  os : w'.os = w.os
  tape : w'.tape = w.tape
  output : w'.output = w.output
  size : w.heap.size ≤ w'.heap.size
  block : ∀ k, k < w.heap.size → ¬ F k → w'.heap[k]? = w.heap[k]?
theorem Kept.refl (F : Nat → Prop) (w : World) : Kept F w w := ⟨rfl, rfl, rfl, Nat.le_refl _, fun _ _ _ => rfl⟩
theorem Kept.trans {F G : Nat → Prop} {w w1 w2 : World} (h : Kept F w w1) (k : Kept G w1 w2) (hG : ∀ x, x < w.heap.size → G x → F x) : Kept F w w2 :=
  ⟨k.os.trans h.os, k.tape.trans h.tape, k.output.trans h.output, Nat.le_trans h.size k.size, fun x hx hn => (k.block x (Nat.lt_of_lt_of_le hx h.size) (fun hg => hn (hG x hx hg))).trans (h.block x hx hn)⟩
theorem Kept.below {F : Nat → Prop} {w w1 : World} (h : Kept F w w1) (hF : ∀ x, ¬ F x) : Below w.heap.size w w1 := ⟨h.os, h.tape, h.output, h.size, fun x hx => h.block x hx (hF x)⟩
theorem Kept.of_below {F : Nat → Prop} {w w1 : World} {B : Nat} (h : Below B w w1) (hB : w.heap.size ≤ B) : Kept F w w1 := ⟨h.os, h.tape, h.output, h.size, fun x hx _ => h.block x (by omega)⟩
/-- Something that is known of some blocks. -/
structure Asn where
  S : Nat → Prop
  C : World → Prop
  lt : ∀ {w : World}, C w → ∀ b, S b → b < w.heap.size
  loc : ∀ {w w' : World}, (∀ b, S b → w'.heap[b]? = w.heap[b]?) → C w → C w'
def Dj (A B : Asn) : Prop := ∀ b, A.S b → B.S b → False
theorem Dj.symm {A B : Asn} (h : Dj A B) : Dj B A := fun b x y => h b y x
def Apart : List Asn → Prop
  | [] => True
  | A :: r => (∀ B ∈ r, Dj A B) ∧ Apart r
/-- What stands: since w0 only blocks of S, and new ones, have changed; the objects hp are there, apart, and may be changed. -/
structure St (S : Nat → Prop) (w0 : World) (hp : List Asn) (w : World) : Prop where
  kept : Kept S w0 w
  own : ∀ A ∈ hp, ∀ b, A.S b → S b ∨ w0.heap.size ≤ b
  ap : Apart hp
  all : ∀ A ∈ hp, A.C w
/-- What is known of memory that stays: it lay there at w0, and is none of S. -/
structure Ro (S : Nat → Prop) (w0 : World) (r : Asn) : Prop where
  is : r.C w0
  no : ∀ b, r.S b → ¬ S b
def fps (A : List Asn) : Nat → Prop := fun b => ∃ X ∈ A, X.S b
structure Hold (A : List Asn) (w : World) : Prop where
  ap : Apart A
  all : ∀ X ∈ A, X.C w

theorem Hold.nil (w : World) : Hold [] w := ⟨trivial, fun _ h => by cases h⟩
theorem Hold.st {A : List Asn} {w : World} (h : Hold A w) : St (fps A) w A w := ⟨Kept.refl _ _, fun X hX b hb => .inl ⟨X, hX, hb⟩, h.ap, h.all⟩
theorem Apart.pair {l : List Asn} (h : Apart l) : l.Pairwise Dj := by
  induction l with
  | nil => exact .nil
  | cons A r ih => exact .cons h.1 (ih h.2)
theorem Apart.of_pair {l : List Asn} (h : l.Pairwise Dj) : Apart l := by
  induction h with
  | nil => trivial
  | cons h1 _ ih => exact ⟨h1, ih⟩
theorem Apart.get {l : List Asn} (h : Apart l) {i j : Nat} {A B : Asn} (hi : l[i]? = some A) (hj : l[j]? = some B) (hne : i ≠ j) : Dj A B := by
  have hp := List.pairwise_iff_getElem.1 h.pair
  obtain ⟨hi1, hi2⟩ := List.getElem?_eq_some_iff.1 hi
  obtain ⟨hj1, hj2⟩ := List.getElem?_eq_some_iff.1 hj
  rcases Nat.lt_or_gt_of_ne hne with h | h
  · have := hp i j hi1 hj1 h
    rwa [hi2, hj2] at this
  · have := hp j i hj1 hi1 h
    rw [hi2, hj2] at this
    exact this.symm
theorem Apart.of_get {l : List Asn} (h : ∀ (i j : Nat) (A B : Asn), l[i]? = some A → l[j]? = some B → i < j → Dj A B) : Apart l :=
  Apart.of_pair (List.pairwise_iff_getElem.2 fun i j hi hj hlt => h i j _ _ (List.getElem?_eq_getElem hi) (List.getElem?_eq_getElem hj) hlt)

section
variable {S : Nat → Prop} {w0 w w' : World} {hp : List Asn}
theorem St.nil (S : Nat → Prop) (w0 : World) : St S w0 [] w0 := ⟨Kept.refl _ _, (fun _ h => by cases h), trivial, (fun _ h => by cases h)⟩
theorem St.drew (h : St S w0 hp w) : St S w0 hp w.drew := ⟨⟨h.kept.os, h.kept.tape, h.kept.output, h.kept.size, h.kept.block⟩, h.own, h.ap, fun A hA => A.loc (w := w) (fun _ _ => rfl) (h.all A hA)⟩
theorem St.get (h : St S w0 hp w) {i : Nat} {A : Asn} (hi : hp[i]? = some A) : A.C w := h.all A (List.mem_of_getElem? hi)
/-- Memory that stays is as it was. -/
theorem St.ro (h : St S w0 hp w) {r : Asn} (hr : Ro S w0 r) : r.C w := r.loc (fun b hb => h.kept.block b (r.lt hr.is b hb) (hr.no b hb)) hr.is
theorem St.ro_dj (h : St S w0 hp w) {r A : Asn} (hr : Ro S w0 r) (hA : A ∈ hp) : Dj r A := fun b h1 h2 => by
  rcases h.own A hA b h2 with h3 | h3
  · exact hr.no b h1 h3
  · have := r.lt hr.is b h1; omega
/-- For a callee: memory that stays. -/
theorem St.roOf (h : St S w0 hp w) {r : Asn} (hr : Ro S w0 r) {A : List Asn} (hA : ∀ X ∈ A, X ∈ hp) : Ro (fps A) w r :=
  ⟨h.ro hr, fun b hb ⟨X, hX, hx⟩ => h.ro_dj hr (hA X hX) b hb hx⟩
theorem Ro.empty {r : Asn} (h : r.C w0) : Ro (fps []) w0 r := ⟨h, fun _ _ ⟨_, hX, _⟩ => by cases hX⟩
/-- Objects by their places. -/
def pickE (hp : List Asn) : List Nat → List Asn
  | [] => []
  | i :: is => match hp[i]? with
    | some A => A :: pickE hp is
    | none => pickE hp is
def nodupB : List Nat → Bool
  | [] => true
  | i :: is => !(is.any (Nat.beq i)) && nodupB is
theorem nodupB_spec : ∀ {l : List Nat}, nodupB l = true → l.Nodup
  | [], _ => .nil
  | i :: is, h => by
    simp only [nodupB, Bool.and_eq_true, Bool.not_eq_true', List.any_eq_false] at h
    exact List.nodup_cons.2 ⟨fun hm => h.1 i hm (Nat.beq_refl i), nodupB_spec h.2⟩
theorem mem_pickE {A : Asn} : ∀ {is : List Nat}, A ∈ pickE hp is → ∃ i ∈ is, hp[i]? = some A
  | [], h => by cases h
  | i :: is, h => by
    unfold pickE at h
    split at h
    · rename_i B hB
      rcases List.mem_cons.1 h with rfl | h
      · exact ⟨i, by simp, hB⟩
      · obtain ⟨j, h1, h2⟩ := mem_pickE h
        exact ⟨j, by simp [h1], h2⟩
    · obtain ⟨j, h1, h2⟩ := mem_pickE h
      exact ⟨j, by simp [h1], h2⟩
theorem pickE_apart (h : Apart hp) : ∀ {is : List Nat}, is.Nodup → Apart (pickE hp is)
  | [], _ => trivial
  | i :: is, hn => by
    obtain ⟨h1, h2⟩ := List.nodup_cons.1 hn
    unfold pickE
    split
    · rename_i A hA
      refine ⟨fun B hB => ?_, pickE_apart h h2⟩
      obtain ⟨j, hj, hB⟩ := mem_pickE hB
      exact h.get hA hB (fun e => h1 (e ▸ hj))
    · exact pickE_apart h h2
theorem St.pick (h : St S w0 hp w) (is : List Nat) (hn : nodupB is = true) : St S w0 (pickE hp is) w :=
  ⟨h.kept, fun A hA => by obtain ⟨i, _, hi⟩ := mem_pickE hA; exact h.own A (List.mem_of_getElem? hi), pickE_apart h.ap (nodupB_spec hn), fun A hA => by obtain ⟨i, _, hi⟩ := mem_pickE hA; exact h.all A (List.mem_of_getElem? hi)⟩
theorem pickE_append (is js : List Nat) : pickE hp (is ++ js) = pickE hp is ++ pickE hp js := by
  induction is with
  | nil => rfl
  | cons i is ih =>
    simp only [List.cons_append, pickE]
    split <;> simp [ih]
theorem Apart.append {A F : List Asn} (h : Apart (A ++ F)) : Apart A ∧ Apart F ∧ ∀ X ∈ A, ∀ Y ∈ F, Dj X Y := by
  have := List.pairwise_append.1 h.pair
  exact ⟨.of_pair this.1, .of_pair this.2.1, this.2.2⟩
theorem St.split {A F : List Asn} (h : St S w0 (A ++ F) w) : Hold A w := ⟨h.ap.append.1, fun X hX => h.all X (by simp [hX])⟩
/-- A callee's part, back in the whole. -/
theorem St.join {A F B : List Asn} (h : St S w0 (A ++ F) w) (k : St (fps A) w B w') : St S w0 (B ++ F) w' := by
  obtain ⟨hA, hF, hAF⟩ := h.ap.append
  have hlt : ∀ Y ∈ F, ∀ b, Y.S b → b < w.heap.size := fun Y hY => Y.lt (h.all Y (by simp [hY]))
  refine ⟨h.kept.trans k.kept fun x hx ⟨X, hX, hb⟩ => ?_, fun Y hY b hb => ?_, ?_, fun Y hY => ?_⟩
  · rcases h.own X (by simp [hX]) x hb with h1 | h1
    · exact h1
    · omega
  · rcases List.mem_append.1 hY with hY | hY
    · rcases k.own Y hY b hb with ⟨X, hX, hx⟩ | h1
      · exact h.own X (by simp [hX]) b hx
      · exact .inr (Nat.le_trans h.kept.size h1)
    · exact h.own Y (by simp [hY]) b hb
  · refine .of_pair (List.pairwise_append.2 ⟨k.ap.pair, hF.pair, fun X hX Y hY b hb hb' => ?_⟩)
    rcases k.own X hX b hb with ⟨Z, hZ, hz⟩ | h1
    · exact hAF Z hZ Y hY b hz hb'
    · have := hlt Y hY b hb'
      omega
  · rcases List.mem_append.1 hY with hY | hY
    · exact k.all Y hY
    · exact Y.loc (fun b hb => k.kept.block b (hlt Y hY b hb) (fun ⟨X, hX, hx⟩ => hAF X hX Y hY b hx hb)) (h.all Y (by simp [hY]))
/-- An object among others, for reading. -/
theorem St.roHp {A F : List Asn} (h : St S w0 (A ++ F) w) {Y : Asn} (hY : Y ∈ F) : Ro (fps A) w Y :=
  ⟨h.all Y (by simp [hY]), fun b hb ⟨X, hX, hx⟩ => h.ap.append.2.2 X hX Y hY b hx hb⟩
/-- One object turned into others (new blocks may be used). -/
theorem St.repl (h : St S w0 hp w) {i : Nat} {X : Asn} (hi : hp[i]? = some X) {Y : Asn} (hk : Kept X.S w w') (hY : Y.C w') (hs : ∀ b, Y.S b → X.S b ∨ w.heap.size ≤ b) : St S w0 (hp.set i Y) w' := by
  have hlt : i < hp.length := (List.getElem?_eq_some_iff.1 hi).1
  have hXm := List.mem_of_getElem? hi
  have hget : ∀ j, j ≠ i → ∀ A, hp[j]? = some A → Dj X A := fun j hj A hA => h.ap.get hi hA (Ne.symm hj)
  have hmem : ∀ A ∈ hp.set i Y, A = Y ∨ ∃ j, j ≠ i ∧ hp[j]? = some A := fun A hA => by
    obtain ⟨j, hj⟩ := List.mem_iff_getElem?.1 hA
    by_cases e : j = i
    · subst e
      rw [List.getElem?_set_self hlt] at hj
      injection hj with hj
      exact .inl hj.symm
    · rw [List.getElem?_set_ne (Ne.symm e)] at hj
      exact .inr ⟨j, e, hj⟩
  have hYlt : ∀ b, Y.S b → S b ∨ w0.heap.size ≤ b := fun b hb => by
    rcases hs b hb with h1 | h1
    · exact h.own X hXm b h1
    · exact .inr (Nat.le_trans h.kept.size h1)
  have hYd : ∀ j, j ≠ i → ∀ A, hp[j]? = some A → Dj Y A := fun j hj A hA b hb hb' => by
    rcases hs b hb with h1 | h1
    · exact hget j hj A hA b h1 hb'
    · have := A.lt (h.all A (List.mem_of_getElem? hA)) b hb'
      omega
  refine ⟨h.kept.trans hk fun x hx hX => ?_, fun A hA => ?_, Apart.of_get fun j k A B hj hk hlt' => ?_, fun A hA => ?_⟩
  · rcases h.own X hXm x hX with h1 | h1
    · exact h1
    · omega
  · rcases hmem A hA with rfl | ⟨j, hj, hA⟩
    · exact hYlt
    · exact h.own A (List.mem_of_getElem? hA)
  · by_cases e1 : j = i
    · subst e1
      rw [List.getElem?_set_self hlt] at hj
      injection hj with hj
      subst hj
      rw [List.getElem?_set_ne (by omega)] at hk
      exact hYd k (by omega) B hk
    · rw [List.getElem?_set_ne (Ne.symm e1)] at hj
      by_cases e2 : k = i
      · subst e2
        rw [List.getElem?_set_self hlt] at hk
        injection hk with hk
        subst hk
        exact (hYd j e1 A hj).symm
      · rw [List.getElem?_set_ne (Ne.symm e2)] at hk
        exact h.ap.get hj hk (by omega)
  · rcases hmem A hA with rfl | ⟨j, hj, hA⟩
    · exact hY
    · have hAlt := A.lt (h.all A (List.mem_of_getElem? hA))
      exact A.loc (fun b hb => hk.block b (hAlt b hb) (fun hx => hget j hj A hA b hx hb)) (h.all A (List.mem_of_getElem? hA))
/-- A new object. -/
theorem St.new (h : St S w0 hp w) {Y : Asn} (hk : Kept (fun _ => False) w w') (hY : Y.C w') (hs : ∀ b, Y.S b → w.heap.size ≤ b) : St S w0 (Y :: hp) w' := by
  refine ⟨h.kept.trans hk (fun _ _ h => h.elim), fun A hA b hb => ?_, ⟨fun B hB b h1 h2 => ?_, h.ap⟩, fun A hA => ?_⟩
  · rcases List.mem_cons.1 hA with rfl | hA
    · exact .inr (Nat.le_trans h.kept.size (hs b hb))
    · exact h.own A hA b hb
  · have := hs b h1
    have := B.lt (h.all B hB) b h2
    omega
  · rcases List.mem_cons.1 hA with rfl | hA
    · exact hY
    · exact A.loc (fun b hb => hk.block b (A.lt (h.all A hA) b hb) (fun x => x)) (h.all A hA)
/-- One object seen otherwise. -/
theorem St.see (h : St S w0 hp w) {i : Nat} {X Y : Asn} (hi : hp[i]? = some X) (hC : X.C w → Y.C w) (hs : ∀ b, Y.S b → X.S b) : St S w0 (hp.set i Y) w :=
  h.repl hi (Kept.refl _ _) (hC (h.get hi)) (fun b hb => .inl (hs b hb))
end

/-- A row of cells, known whole. -/
def blk (b : Nat) (l : List Value) (t : TypeId) : Asn where
  S := fun x => x = b
  C := fun w => w.heap[b]? = some (.cells l.toArray t (0, 0))
  lt := fun h x hx => by subst hx; exact (Array.getElem?_eq_some_iff.1 h).1
  loc := fun h hc => (h b rfl).trans hc
theorem blk_cell {b : Nat} {l : List Value} {t : TypeId} {w : World} (h : (blk b l t).C w) {o : Nat} {v : Value} (hv : l[o]? = some v) : w.cell? ⟨b, o, none⟩ = some v := by
  have h' : w.heap[b]? = some (.cells l.toArray t (0, 0)) := h
  simp [World.cell?, h', hv]
theorem blk_free {b : Nat} {l : List Value} {t : TypeId} {w : World} (h : (blk b l t).C w) (o : Nat) : w.frozen? ⟨b, o, none⟩ = false := by
  have h' : w.heap[b]? = some (.cells l.toArray t (0, 0)) := h
  simp [World.frozen?, h']
/-- A row that somebody owns (its value may be nil). -/
def row (e : TypeId) (size : Nat) (v : Value) (n : Nat) (xs : List Value) : Asn where
  S := fun x => v.ownBlock = some x
  C := fun w => w.ownsRow 0 e size v n xs
  lt := fun h x hx => (h.lt x hx).2
  loc := fun {w w'} hk h => by
    refine ⟨h.1, ?_⟩
    rcases h.2 with hn | ⟨g, cap, cur, rfl, hb, hgg, rest⟩
    · exact .inl hn
    · exact .inr ⟨g, cap, cur, rfl, hb, (hk g rfl).trans hgg, rest⟩

/-! ### Judgements -/
def TL (P : Program) (n : Nat) (S : Nat → Prop) (w0 : World) (Q : Exit → Act → World → Prop) (ops : Array Oper) (l : List Oper) (env : Env) (hp : List Asn) : Prop :=
  ∀ a w, Fr env n a → St S w0 hp w → wpList P ops Q l a w
def TC (P : Program) (n : Nat) (S : Nat → Prop) (w0 : World) (Q : Exit → Act → World → Prop) (c : Code) (env : Env) (hp : List Asn) : Prop :=
  ∀ a w, Fr env n a → St S w0 hp w → c.wp P Q a w
def TQ (n : Nat) (S : Nat → Prop) (w0 : World) (Q : Exit → Act → World → Prop) (e : Exit) (env : Env) (hp : List Asn) : Prop :=
  ∀ a w, Fr env n a → St S w0 hp w → Q e a w
def TK (n : Nat) (S : Nat → Prop) (w0 : World) (K : Act → World → Prop) (env : Env) (hp : List Asn) : Prop :=
  ∀ a w, Fr env n a → St S w0 hp w → K a w
/-- An operation: what follows is K. -/
def TO (P : Program) (n : Nat) (S : Nat → Prop) (w0 : World) (Q : Exit → Act → World → Prop) (o : Oper) (K : Act → World → Prop) (env : Env) (hp : List Asn) : Prop :=
  ∀ a w, Fr env n a → St S w0 hp w → o.wp P a w K Q
/-- An operation that only reads, and what it yields. -/
def Qt (P : Program) (S : Nat → Prop) (w0 : World) (o : Oper) (env : Env) (hp : List Asn) (v : Value) : Prop :=
  ∀ n a w, Fr env n a → St S w0 hp w → (execOp a.eval o).run P w = .ok (.value v) w
/-- What a call leaves. -/
def Ret (w : World) (A : List Asn) (R : Value → List Asn → Prop) (e : Ending) (w' : World) : Prop :=
  ∃ v B, e = .returned v ∧ R v B ∧ St (fps A) w B w'

section
variable {P : Program} {n : Nat} {S : Nat → Prop} {w0 : World} {Q : Exit → Act → World → Prop} {ops : Array Oper} {env : Env} {hp : List Asn}

/-! ### Code -/
theorem c_seq {x y : Code} (h : ∀ K : Act → World → Prop, (∀ env hp, TC P n S w0 Q y env hp → TK n S w0 K env hp) → TC P n S w0 (Exit.then K Q) x env hp) : TC P n S w0 Q (.seq x y) env hp :=
  fun a w hE hS => wp_seq (h _ (fun _ _ h => h) a w hE hS)
theorem c_block {id : Nat} {c : Code} (h : TC P n S w0 (Exit.inBlock id Q) c env hp) : TC P n S w0 Q (.block id c) env hp := fun a w hE hS => wp_block (h a w hE hS)
theorem c_skip (h : TQ n S w0 Q .normal env hp) : TC P n S w0 Q .skip env hp := fun a w hE hS => wp_skip (h a w hE hS)
theorem c_exit {id : Nat} (h : TQ n S w0 Q (.exit id) env hp) : TC P n S w0 Q (.exit id) env hp := fun a w hE hS => wp_exit (h a w hE hS)
theorem c_ret (h : TQ n S w0 Q .ret env hp) : TC P n S w0 Q .ret env hp := fun a w hE hS => wp_ret (h a w hE hS)
theorem c_cond {c : Operand} {x y : Code} {b : Bool} (hc : ev env c = some (.bool b)) (ht : b = true → TC P n S w0 Q x env hp) (hf : b = false → TC P n S w0 Q y env hp) : TC P n S w0 Q (.cond c x y) env hp :=
  fun a w hE hS => wp_cond_split (hE.ev hc) (fun h => ht h a w hE hS) (fun h => hf h a w hE hS)
theorem c_region {id : Nat} {l : List Oper} (h : TL P n S w0 Q l.toArray l env hp) : TC P n S w0 Q (.region id l.toArray false) env hp := fun a w hE hS => wp_region_lit (h a w hE hS)
theorem l_nil (h : TQ n S w0 Q .normal env hp) : TL P n S w0 Q ops [] env hp := fun a w hE hS => h a w hE hS
theorem t_then {K : Act → World → Prop} (h : TK n S w0 K env hp) : TQ n S w0 (Exit.then K Q) .normal env hp := h
theorem t_then_exit {K : Act → World → Prop} {i : Nat} (h : TQ n S w0 Q (.exit i) env hp) : TQ n S w0 (Exit.then K Q) (.exit i) env hp := h
theorem t_then_ret {K : Act → World → Prop} (h : TQ n S w0 Q .ret env hp) : TQ n S w0 (Exit.then K Q) .ret env hp := h
theorem t_block {id : Nat} (h : TQ n S w0 Q .normal env hp) : TQ n S w0 (Exit.inBlock id Q) .normal env hp := h
theorem t_block_ret {id : Nat} (h : TQ n S w0 Q .ret env hp) : TQ n S w0 (Exit.inBlock id Q) .ret env hp := h
theorem t_block_eq {id i : Nat} (hi : Nat.beq i id = true) (h : TQ n S w0 Q .normal env hp) : TQ n S w0 (Exit.inBlock id Q) (.exit i) env hp := fun a w hE hS => by
  have : i = id := Nat.eq_of_beq_eq_true hi
  subst this
  simp only [Exit.inBlock, if_true]
  exact h a w hE hS
theorem t_block_ne {id i : Nat} (hi : Nat.beq i id = false) (h : TQ n S w0 Q (.exit i) env hp) : TQ n S w0 (Exit.inBlock id Q) (.exit i) env hp := fun a w hE hS => by
  have : i ≠ id := fun e => by subst e; rw [Nat.beq_refl] at hi; cases hi
  simp only [Exit.inBlock, this, if_false]
  exact h a w hE hS
/-- What is known may be said otherwise. -/
theorem k_sub {K : Act → World → Prop} {env' : Env} {hp' : List Asn} (hE : Sub env' env) (hH : ∀ w, St S w0 hp w → St S w0 hp' w) (h : TK n S w0 K env' hp') : TK n S w0 K env hp := fun a w e s => h a w (e.sub hE) (hH w s)
theorem c_sub {c : Code} {env' : Env} {hp' : List Asn} (hE : Sub env' env) (hH : ∀ w, St S w0 hp w → St S w0 hp' w) (h : TC P n S w0 Q c env' hp') : TC P n S w0 Q c env hp := fun a w e s => h a w (e.sub hE) (hH w s)
theorem c_env {c : Code} (ks : List Nat) (h : TC P n S w0 Q c (pick env ks) hp) : TC P n S w0 Q c env hp := c_sub (pick_sub env ks) (fun _ h => h) h
theorem c_hp {c : Code} {hp' : List Asn} (hH : ∀ w, St S w0 hp w → St S w0 hp' w) (h : TC P n S w0 Q c env hp') : TC P n S w0 Q c env hp := fun a w e s => h a w e (hH w s)
theorem l_hp {l : List Oper} {hp' : List Asn} (hH : ∀ w, St S w0 hp w → St S w0 hp' w) (h : TL P n S w0 Q ops l env hp') : TL P n S w0 Q ops l env hp := fun a w e s => h a w e (hH w s)
theorem k_hp {K : Act → World → Prop} {hp' : List Asn} (hH : ∀ w, St S w0 hp w → St S w0 hp' w) (h : TK n S w0 K env hp') : TK n S w0 K env hp := fun a w e s => h a w e (hH w s)
/-- A fact that what stands tells. -/
theorem c_fact {c : Code} {p : Prop} (hp_ : ∀ w, St S w0 hp w → p) (h : p → TC P n S w0 Q c env hp) : TC P n S w0 Q c env hp := fun a w e s => h (hp_ w s) a w e s
theorem l_fact {l : List Oper} {p : Prop} (hp_ : ∀ w, St S w0 hp w → p) (h : p → TL P n S w0 Q ops l env hp) : TL P n S w0 Q ops l env hp := fun a w e s => h (hp_ w s) a w e s
/-- Loops: T is what changes from round to round. -/
def Again {T : Type} (n : Nat) (S : Nat → Prop) (w0 : World) (E : T → Env) (H : T → List Asn) (J : T → Prop) (μ : T → Nat) (t : T) (a : Act) (w : World) : Prop :=
  ∃ t', J t' ∧ μ t' < μ t ∧ Fr (E t') n a ∧ St S w0 (H t') w
theorem c_loop {T : Type} {c : Code} (E : T → Env) (H : T → List Asn) (J : T → Prop) (μ : T → Nat) (t0 : T) (hJ : J t0) (hE : Sub (E t0) env) (hH : ∀ w, St S w0 hp w → St S w0 (H t0) w)
    (round : ∀ t, J t → TC P n S w0 (Exit.then (Again n S w0 E H J μ t) Q) c (E t) (H t)) : TC P n S w0 Q (.loop c) env hp := fun a w e s => by
  refine wp_loop_ghost (fun m a w => ∃ t, μ t = m ∧ J t ∧ Fr (E t) n a ∧ St S w0 (H t) w) (μ t0) ⟨t0, rfl, hJ, e.sub hE, hH w s⟩ ?_
  rintro m a w ⟨t, rfl, hJ', hE', hS'⟩
  refine wp_mono (round t hJ' a w hE' hS') fun e a' w' hq => ?_
  cases e with
  | normal =>
    obtain ⟨t', h1, h2, h3, h4⟩ := hq
    exact ⟨μ t', h2, t', rfl, h1, h3, h4⟩
  | exit id => exact hq
  | goto l => exact hq
  | ret => exact hq
  | panic ch => exact hq
  | outgrown => exact hq
theorem k_again {T : Type} {E : T → Env} {H : T → List Asn} {J : T → Prop} {μ : T → Nat} {t : T} (t' : T) (hJ : J t') (hμ : μ t' < μ t) (hE : Sub (E t') env) (hH : ∀ w, St S w0 hp w → St S w0 (H t') w) : TK n S w0 (Again n S w0 E H J μ t) env hp :=
  fun a w e s => ⟨t', hJ, hμ, e.sub hE, hH w s⟩

/-! ### Calls -/
def env0 : Nat → List Value → Env
  | _, [] => []
  | i, v :: vs => (i, v) :: env0 (i + 1) vs
theorem look_env0 : ∀ (i : Nat) (vs : List Value) (k : Nat) (v : Value), look (env0 i vs) k = some v → ∃ j, k = i + j ∧ vs[j]? = some v
  | _, [], _, _, h => by simp [env0, look] at h
  | i, u :: vs, k, v, h => by
    rw [env0, look_cons] at h
    by_cases e : i = k
    · rw [if_pos e] at h
      exact ⟨0, by omega, by simpa using h⟩
    · rw [if_neg e] at h
      obtain ⟨j, h1, h2⟩ := look_env0 (i + 1) vs k v h
      exact ⟨j + 1, by omega, by simpa using h2⟩
theorem enter {P : Program} {f : FuncId} {fn : Func} {c : Code} {vs : List Value} {A : List Asn} {w : World} {R : Value → List Asn → Prop} {m : Nat} (hf : P.funcs[f]? = some fn) (hb : fn.body = some c) (hm : fn.ntmps = m) (hl : Nat.ble vs.length m = true)
    (hA : Hold A w) (h : TC P m (fps A) w (bodyPost P fn (Ret w A R)) c (env0 0 vs) A) : Calls P f vs.toArray w (Ret w A R) := by
  subst hm
  refine calls_of_wp hf hb (h _ w ⟨rfl, ?_, fun k v hk => ?_⟩ hA.st)
  · have : vs.length ≤ fn.ntmps := Nat.le_of_ble_eq_true hl
    simp
    omega
  · obtain ⟨j, rfl, hj⟩ := look_env0 0 vs k v hk
    have hlt := (List.getElem?_eq_some_iff.1 hj).1
    simp only [Nat.zero_add]
    rw [Array.getElem?_append_left (by simpa using hlt)]
    simpa using hj
/-- What a result is. -/
def resOf (P : Program) (env : Env) (hp : List Asn) (S : Nat → Prop) (w0 : World) (r : ResultVar) (v : Value) : Prop :=
  match r with
  | .tmp t => look env t = some v
  | .cell p t => ∃ a, look env p = some (.pointer (some a)) ∧ ∀ w, St S w0 hp w → (loadVar t a).run P w = .ok v w
theorem t_ret0 {fn : Func} {w : World} {A : List Asn} {R : Value → List Asn → Prop} (hr : fn.results = #[]) (h : R (.tuple #[]) hp) : TQ n (fps A) w (bodyPost P fn (Ret w A R)) .ret env hp := fun a w' hE hS => by
  exact ⟨hE.defers, _, by simp [results, hr], _, _, rfl, h, hS⟩
theorem t_ret1 {fn : Func} {w : World} {A : List Asn} {R : Value → List Asn → Prop} {r : ResultVar} {v : Value} (hr : fn.results = #[r]) (hv : resOf P env hp (fps A) w r v) (h : R v hp) : TQ n (fps A) w (bodyPost P fn (Ret w A R)) .ret env hp := fun a w' hE hS => by
  refine ⟨hE.defers, v, ?_, _, _, rfl, h, hS⟩
  cases r with
  | tmp t => have := hE.at_ t v hv; simp [results, hr, this]
  | cell p t =>
    obtain ⟨ad, h1, h2⟩ := hv
    have := hE.at_ p _ h1
    simp [results, hr, this, asAddr, h2 w' hS]
theorem t_ret2 {fn : Func} {w : World} {A : List Asn} {R : Value → List Asn → Prop} {r r' : ResultVar} {v v' : Value} (hr : fn.results = #[r, r']) (hv : resOf P env hp (fps A) w r v) (hv' : resOf P env hp (fps A) w r' v') (h : R (.tuple #[v, v']) hp) : TQ n (fps A) w (bodyPost P fn (Ret w A R)) .ret env hp := fun a w' hE hS => by
  refine ⟨hE.defers, _, ?_, _, _, rfl, h, hS⟩
  cases r with
  | tmp t =>
    have h1 := hE.at_ t v hv
    cases r' with
    | tmp t' => have h2 := hE.at_ t' v' hv'; simp [results, hr, h1, h2]
    | cell p t' =>
      obtain ⟨ad, h2, h3⟩ := hv'
      have := hE.at_ p _ h2
      simp [results, hr, h1, this, asAddr, h3 w' hS]
  | cell q t =>
    obtain ⟨ad, h1, h1'⟩ := hv
    have h1 := hE.at_ q _ h1
    cases r' with
    | tmp t' => have h2 := hE.at_ t' v' hv'; simp [results, hr, h1, asAddr, h1' w' hS, h2]
    | cell p t' =>
      obtain ⟨ad, h2, h3⟩ := hv'
      have := hE.at_ p _ h2
      simp [results, hr, h1, asAddr, h1' w' hS, this, h3 w' hS]
theorem t_ret3 {fn : Func} {w : World} {A : List Asn} {R : Value → List Asn → Prop} {t1 t2 t3 : Nat} {v1 v2 v3 : Value} (hr : fn.results = #[.tmp t1, .tmp t2, .tmp t3]) (h1 : look env t1 = some v1) (h2 : look env t2 = some v2) (h3 : look env t3 = some v3) (h : R (.tuple #[v1, v2, v3]) hp) : TQ n (fps A) w (bodyPost P fn (Ret w A R)) .ret env hp := fun a w' hE hS => by
  refine ⟨hE.defers, _, ?_, _, _, rfl, h, hS⟩
  simp [results, hr, hE.at_ _ _ h1, hE.at_ _ _ h2, hE.at_ _ _ h3]
/-- The end of a body without 'return'. -/
theorem t_end0 {fn : Func} {w : World} {A : List Asn} {R : Value → List Asn → Prop} (hr : fn.results = #[]) (h : R (.tuple #[]) hp) : TQ n (fps A) w (bodyPost P fn (Ret w A R)) .normal env hp := fun a w' hE hS => by
  exact ⟨hE.defers, _, by simp [results, hr], _, _, rfl, h, hS⟩

/-! ### Operations -/
theorem Qt.to {o : Oper} {d : Nat} {v : Value} {K : Act → World → Prop} (hq : Qt P S w0 o env hp v) (hd : o.dst = some d) (hdn : Nat.blt d n = true) (h : TK n S w0 K ((d, v) :: env) hp) : TO P n S w0 Q o K env hp := fun a w hE hS => by
  unfold Oper.wp
  rw [hq n a w hE hS, Oper.upon_value, hd]
  exact h _ w (hE.put hdn v) hS
/-- A list of operations: the first one. -/
theorem l_op {o : Oper} {rest : List Oper} (hg : o.guard = none) (h : ∀ K : Act → World → Prop, (∀ env hp, TL P n S w0 Q ops rest env hp → TK n S w0 K env hp) → TO P n S w0 Q o K env hp) : TL P n S w0 Q ops (o :: rest) env hp := fun a w hE hS =>
  wpList_plain hg fun K hK => h K (fun env hp ht a w e s => hK a w (ht a w e s)) a w hE hS
theorem l_q {o : Oper} {rest : List Oper} {d : Nat} {v : Value} (hg : o.guard = none) (hd : o.dst = some d) (hdn : Nat.blt d n = true) (hq : Qt P S w0 o env hp v) (h : TL P n S w0 Q ops rest ((d, v) :: env) hp) : TL P n S w0 Q ops (o :: rest) env hp :=
  l_op hg fun K hK => hq.to hd hdn (hK _ _ h)
/-- A guard that is met, and one that is not. -/
theorem l_guard {o : Oper} {rest : List Oper} {j t : Nat} {want b : Bool} (hg : o.guard = some (j, want)) (hj : (ops[j]?).bind (·.dst) = some t) (hb : look env t = some (.bool b))
    (ht : b = want → TL P n S w0 Q ops ({ o with guard := none } :: rest) env hp) (hd : o.dst.all (fun d => Nat.blt d n) = true) (hf : b = !want → TL P n S w0 Q ops rest ((match o.dst with | some d => [(d, undef)] | none => []) ++ env) hp) : TL P n S w0 Q ops (o :: rest) env hp := fun a w hE hS => by
  have hy : yielded ops a.tmps j = some b := by
    have := hE.at_ t _ hb
    simp [yielded, hj, this]
  by_cases hw : b = want
  · have := ht hw a w hE hS
    unfold wpList at this ⊢
    have h1 : Region.wanted o (yielded ops a.tmps) = true := by simp [Region.wanted, hg, hy, hw]
    have h2 : Region.wanted { o with guard := none } (yielded ops a.tmps) = true := by simp [Region.wanted]
    rw [if_pos h1]
    rw [if_pos h2] at this
    exact this
  · have hw' : b = !want := by cases b <;> cases want <;> simp_all
    unfold wpList
    have h1 : ¬ Region.wanted o (yielded ops a.tmps) = true := by simp [Region.wanted, hg, hy, hw]
    rw [if_neg h1]
    refine hf hw' _ w ?_ hS
    cases hdst : o.dst with
    | none => simpa [Act.put] using hE
    | some d =>
      rw [hdst] at hd
      exact hE.put (by simpa using hd) undef
end
end Go.Proofs.Ytboccjdncdaakaa

/-
  The operations that only read, one rule each.
-/

set_option linter.unusedVariables false
set_option maxRecDepth 100000
namespace Go.Proofs.Ytboccjdncdaakaa
open Go.RowKit

/-! ### What is known of types -/
def assoc {α : Type} : List (Nat × α) → Nat → Option α
  | [], _ => none
  | (j, v) :: e, k => bif Nat.beq j k then some v else assoc e k
def Each {α : Type} (p : Nat → α → Prop) : List (Nat × α) → Prop
  | [] => True
  | (j, v) :: e => p j v ∧ Each p e
theorem Each.get {α : Type} {p : Nat → α → Prop} : ∀ {l : List (Nat × α)}, Each p l → ∀ {k : Nat} {v : α}, assoc l k = some v → p k v
  | [], _, k, v, h => by cases h
  | (j, u) :: l, hs, k, v, h => by
    simp only [assoc] at h
    cases hb : Nat.beq j k with
    | true =>
      rw [hb] at h
      have : j = k := Nat.eq_of_beq_eq_true hb
      subst this
      simp only [cond_true] at h
      injection h with h
      subst h
      exact hs.1
    | false =>
      rw [hb] at h
      exact Each.get hs.2 h
structure Tab (P : Program) where
  und : List (Nat × TypeDesc)
  inf : List (Nat × (Value × Nat × Nat))
  undOk : Each (fun t d => P.underlying t = some d) und
  infOk : Each (fun t i => (P.info? t).map (fun i => (i.zero, i.size, i.bytes)) = some (some i.1, i.2.1, i.2.2)) inf
  fld : List (Nat × List Nat)
  fldOk : Each (fun t os => ∃ fs : List Field, P.underlying t = some (.struct fs.toArray) ∧ fs.map (·.offset) = os) fld
def Tab.u {P : Program} (T : Tab P) (t : Nat) : Option TypeDesc := assoc T.und t
def Tab.f {P : Program} (T : Tab P) (t : Nat) : Option (List Nat) := assoc T.fld t
def Tab.i {P : Program} (T : Tab P) (t : Nat) : Option (Value × Nat × Nat) := assoc T.inf t
theorem Tab.U {P : Program} (T : Tab P) {t : Nat} {d : TypeDesc} (h : T.u t = some d) : P.underlying t = some d := T.undOk.get h
theorem Tab.I {P : Program} (T : Tab P) {t : Nat} {z : Value} {s b : Nat} (h : T.i t = some (z, s, b)) : ∃ i, P.info? t = some i ∧ i.zero = some z ∧ i.size = s ∧ i.bytes = b := by
  have := T.infOk.get h
  obtain ⟨i, h1, h2⟩ := Option.map_eq_some_iff.1 this
  simp only [Prod.mk.injEq] at h2
  exact ⟨i, h1, h2.1, h2.2.1, h2.2.2⟩
theorem Tab.size {P : Program} (T : Tab P) {t : Nat} {z : Value} {s b : Nat} (h : T.i t = some (z, s, b)) (w : World) : (sizeOf t).run P w = .ok s w := by
  obtain ⟨i, h1, h2, h3, h4⟩ := T.I h
  simp [sizeOf, typeInfo, h1, h3]
theorem Tab.zero {P : Program} (T : Tab P) {t : Nat} {z : Value} {s b : Nat} (h : T.i t = some (z, s, b)) (w : World) : (zeroValue t).run P w = .ok z w := by
  obtain ⟨i, h1, h2, h3, h4⟩ := T.I h
  simp [zeroValue, typeInfo, h1, h2]
def aggB : TypeDesc → Bool
  | .struct _ | .array _ _ => true
  | _ => false
theorem Tab.agg {P : Program} (T : Tab P) {t : Nat} {d : TypeDesc} (h : T.u t = some d) (w : World) : (isAgg t).run P w = .ok (aggB d) w := by
  cases d <;> simp [isAgg, run_underlying (T.U h), aggB]

/-- The cells from an address on. -/
def CellsAt (w : World) (b o : Nat) (vs : List Value) : Prop := ∀ j u, vs[j]? = some u → w.cell? ⟨b, o + j, none⟩ = some u
theorem CellsAt.tail {w : World} {b o : Nat} {v : Value} {vs : List Value} (h : CellsAt w b o (v :: vs)) : CellsAt w b (o + 1) vs := fun j u hu => by
  have := h (j + 1) u (by simpa using hu)
  rw [show o + 1 + j = o + (j + 1) by omega]
  exact this
theorem run_loadFrom (P : Program) (b o : Nat) : ∀ (vs : List Value) (i : Nat) (acc : Array Value) (w : World), CellsAt w b (o + i) vs → (loadCellsFrom ⟨b, o, none⟩ i vs.length acc).run P w = .ok (acc ++ vs.toArray) w
  | [], i, acc, w, _ => by simp [loadCellsFrom]
  | v :: vs, i, acc, w, h => by
    have h0 := h 0 v rfl
    have ih := run_loadFrom P b o vs (i + 1) (acc.push v) w (by have := h.tail; rwa [show o + (i + 1) = o + i + 1 by omega])
    simp only [Nat.add_zero] at h0
    simp [loadCellsFrom, load, Addr.add_lit, Sem.run, h0, ih]
theorem run_loadCells' (P : Program) {b o n : Nat} {vs : List Value} {w : World} (h : CellsAt w b o vs) (hn : vs.length = n) : (loadCells ⟨b, o, none⟩ n).run P w = .ok vs.toArray w := by
  subst hn
  have := run_loadFrom P b o vs 0 #[] w (by simpa using h)
  simpa [loadCells] using this
theorem run_loadVar1 {P : Program} (T : Tab P) {t : Nat} {d : TypeDesc} (ht : T.u t = some d) (hd : aggB d = false) {w : World} {a : Addr} {v : Value} (h : w.cell? a = some v) : (loadVar t a).run P w = .ok v w := by
  simp [loadVar, T.agg ht, hd, load, Sem.run, h]
theorem run_loadVarN {P : Program} (T : Tab P) {t : Nat} {d : TypeDesc} (ht : T.u t = some d) (hd : aggB d = true) {z : Value} {s y : Nat} (hi : T.i t = some (z, s, y)) {w : World} {b o : Nat} {vs : List Value} (hl : vs.length = s) (h : CellsAt w b o vs) : (loadVar t ⟨b, o, none⟩).run P w = .ok (.agg vs.toArray) w := by
  simp [loadVar, T.agg ht, hd, T.size hi, run_loadCells' P h hl]

section
variable {P : Program} {n : Nat} {S : Nat → Prop} {w0 : World} {Q : Exit → Act → World → Prop} {ops : Array Oper} {env : Env} {hp : List Asn}
variable {d : Option Tmp} {ty : TypeId} {pos : String} {af : Array Edge} {g : Option (Nat × Bool)}

theorem q_move {x : Operand} {v : Value} (hx : ev env x = some v) : Qt P S w0 ⟨d, .move x, ty, pos, af, g⟩ env hp v := fun n a w hE hS => by simp [execOp, hE.ev hx]
theorem q_assign {x : Operand} {v : Value} (hx : ev env x = some v) : Qt P S w0 ⟨d, .assign x, ty, pos, af, g⟩ env hp v := fun n a w hE hS => by simp [execOp, hE.ev hx]
theorem q_pick_t {c x y : Operand} {u : Value} (hc : ev env c = some (.bool true)) (hx : ev env x = some u) : Qt P S w0 ⟨d, .pick c x y, ty, pos, af, g⟩ env hp u := fun n a w hE hS => by
  simp [execOp, hE.ev hc, hE.ev hx, asBool]
theorem q_pick_f {c x y : Operand} {u : Value} (hc : ev env c = some (.bool false)) (hy : ev env y = some u) : Qt P S w0 ⟨d, .pick c x y, ty, pos, af, g⟩ env hp u := fun n a w hE hS => by
  simp [execOp, hE.ev hc, hE.ev hy, asBool]
theorem q_pick {c x y : Operand} {b : Bool} {u v : Value} (hc : ev env c = some (.bool b)) (hx : ev env x = some u) (hy : ev env y = some v) : Qt P S w0 ⟨d, .pick c x y, ty, pos, af, g⟩ env hp (if b then u else v) := fun n a w hE hS => by
  simp [execOp, hE.ev hc, hE.ev hx, hE.ev hy, asBool]

/-! integers -/
theorem q_add {t yt : TypeId} {x y : Operand} {k : IntKind} {m m' r : Int} (hx : ev env x = some (.int k m)) (hy : ev env y = some (.int k m')) (hr : k.wrap (m + m') = r) : Qt P S w0 ⟨d, .binOp .add t x y yt, ty, pos, af, g⟩ env hp (.int k r) := fun n a w hE hS => by
  simp [execOp, hE.ev hx, hE.ev hy, eqGuard, binOp, Op.intArith, hr]
theorem q_sub {t yt : TypeId} {x y : Operand} {k : IntKind} {m m' r : Int} (hx : ev env x = some (.int k m)) (hy : ev env y = some (.int k m')) (hr : k.wrap (m - m') = r) : Qt P S w0 ⟨d, .binOp .sub t x y yt, ty, pos, af, g⟩ env hp (.int k r) := fun n a w hE hS => by
  simp [execOp, hE.ev hx, hE.ev hy, eqGuard, binOp, Op.intArith, hr]
theorem q_mul {t yt : TypeId} {x y : Operand} {k : IntKind} {m m' r : Int} (hx : ev env x = some (.int k m)) (hy : ev env y = some (.int k m')) (hr : k.wrap (m * m') = r) : Qt P S w0 ⟨d, .binOp .mul t x y yt, ty, pos, af, g⟩ env hp (.int k r) := fun n a w hE hS => by
  simp [execOp, hE.ev hx, hE.ev hy, eqGuard, binOp, Op.intArith, hr]
theorem q_quo {t yt : TypeId} {x y : Operand} {k : IntKind} {m m' r : Int} (hx : ev env x = some (.int k m)) (hy : ev env y = some (.int k m')) (h0 : m' ≠ 0) (hr : k.wrap (m.tdiv m') = r) : Qt P S w0 ⟨d, .binOp .quo t x y yt, ty, pos, af, g⟩ env hp (.int k r) := fun n a w hE hS => by
  simp [execOp, hE.ev hx, hE.ev hy, eqGuard, binOp, Op.intDiv, h0, hr]
theorem q_rem {t yt : TypeId} {x y : Operand} {k : IntKind} {m m' r : Int} (hx : ev env x = some (.int k m)) (hy : ev env y = some (.int k m')) (h0 : m' ≠ 0) (hr : m.tmod m' = r) : Qt P S w0 ⟨d, .binOp .rem t x y yt, ty, pos, af, g⟩ env hp (.int k r) := fun n a w hE hS => by
  simp [execOp, hE.ev hx, hE.ev hy, eqGuard, binOp, Op.intDiv, h0, hr]
theorem q_lss {t yt : TypeId} {x y : Operand} {k : IntKind} {m m' : Int} (hx : ev env x = some (.int k m)) (hy : ev env y = some (.int k m')) : Qt P S w0 ⟨d, .binOp .lss t x y yt, ty, pos, af, g⟩ env hp (.bool (decide (m < m'))) := fun n a w hE hS => by
  simp [execOp, hE.ev hx, hE.ev hy, eqGuard, binOp, Op.intCmp]
theorem q_leq {t yt : TypeId} {x y : Operand} {k : IntKind} {m m' : Int} (hx : ev env x = some (.int k m)) (hy : ev env y = some (.int k m')) : Qt P S w0 ⟨d, .binOp .leq t x y yt, ty, pos, af, g⟩ env hp (.bool (decide (m ≤ m'))) := fun n a w hE hS => by
  simp [execOp, hE.ev hx, hE.ev hy, eqGuard, binOp, Op.intCmp]
theorem q_gtr {t yt : TypeId} {x y : Operand} {k : IntKind} {m m' : Int} (hx : ev env x = some (.int k m)) (hy : ev env y = some (.int k m')) : Qt P S w0 ⟨d, .binOp .gtr t x y yt, ty, pos, af, g⟩ env hp (.bool (decide (m' < m))) := fun n a w hE hS => by
  simp [execOp, hE.ev hx, hE.ev hy, eqGuard, binOp, Op.intCmp]
theorem q_geq {t yt : TypeId} {x y : Operand} {k : IntKind} {m m' : Int} (hx : ev env x = some (.int k m)) (hy : ev env y = some (.int k m')) : Qt P S w0 ⟨d, .binOp .geq t x y yt, ty, pos, af, g⟩ env hp (.bool (decide (m' ≤ m))) := fun n a w hE hS => by
  simp [execOp, hE.ev hx, hE.ev hy, eqGuard, binOp, Op.intCmp]
theorem q_eql {t yt : TypeId} {x y : Operand} {k : IntKind} {m m' : Int} (hx : ev env x = some (.int k m)) (hy : ev env y = some (.int k m')) : Qt P S w0 ⟨d, .binOp .eql t x y yt, ty, pos, af, g⟩ env hp (.bool (decide (m = m'))) := fun n a w hE hS => by
  simp [execOp, hE.ev hx, hE.ev hy, eqGuard, binOp, Op.intCmp]
  rfl
theorem q_neq {t yt : TypeId} {x y : Operand} {k : IntKind} {m m' : Int} (hx : ev env x = some (.int k m)) (hy : ev env y = some (.int k m')) : Qt P S w0 ⟨d, .binOp .neq t x y yt, ty, pos, af, g⟩ env hp (.bool (decide (m ≠ m'))) := fun n a w hE hS => by
  simp [execOp, hE.ev hx, hE.ev hy, eqGuard, binOp, Op.intCmp]
  rfl
theorem q_bits {op : BinOp} {t yt : TypeId} {x y : Operand} {k : IntKind} {m m' : Int} {v : Value} (hx : ev env x = some (.int k m)) (hy : ev env y = some (.int k m')) (ho : (op matches .and | .or | .xor | .andNot) = true) (hr : ∀ w, (Op.intBits op k m m').run P w = .ok v w) : Qt P S w0 ⟨d, .binOp op t x y yt, ty, pos, af, g⟩ env hp v := fun n a w hE hS => by
  cases op <;> simp at ho <;> simp [execOp, hE.ev hx, hE.ev hy, eqGuard, binOp, hr]
theorem q_conv (T : Tab P) {src dst : TypeId} {x : Operand} {k k' : IntKind} {m r : Int} {ds : TypeDesc} (hx : ev env x = some (.int k m)) (hs : T.u src = some ds) (ht : T.u dst = some (.int k')) (hr : k'.wrap m = r) : Qt P S w0 ⟨d, .convert src dst x, ty, pos, af, g⟩ env hp (.int k' r) := fun n a w hE hS => by
  simp [execOp, hE.ev hx, convert, run_underlying (T.U hs), run_underlying (T.U ht), Conv.intToInt, hr]

/-! bools -/
theorem q_not {t : TypeId} {x : Operand} {b : Bool} (hx : ev env x = some (.bool b)) : Qt P S w0 ⟨d, .unOp .not t x, ty, pos, af, g⟩ env hp (.bool (!b)) := fun n a w hE hS => by simp [execOp, hE.ev hx, Op.unary]
theorem run_eqbIn {P : Program} (T : Tab P) {t : TypeId} (ht : T.u t = some .bool) (a b : Bool) (w : World) (k : Nat) : (Op.equalIn (k + 1) t (.bool a) (.bool b)).run P w = .ok (a == b) w := by
  simp [Op.equalIn, run_underlying (T.U ht)]
theorem run_eqb {P : Program} (T : Tab P) {t : TypeId} (ht : T.u t = some .bool) (a b : Bool) (w : World) : (Op.equal t (.bool a) (.bool b)).run P w = .ok (a == b) w := run_eqbIn T ht a b w 9999
theorem q_eqb (T : Tab P) {t yt : TypeId} {x y : Operand} {b b' : Bool} (hx : ev env x = some (.bool b)) (hy : ev env y = some (.bool b')) (ht : T.u t = some .bool) : Qt P S w0 ⟨d, .binOp .eql t x y yt, ty, pos, af, g⟩ env hp (.bool (b == b')) := fun n a w hE hS => by
  simp [execOp, hE.ev hx, hE.ev hy, eqGuard, binOp, run_eqb T ht]
theorem q_neb (T : Tab P) {t yt : TypeId} {x y : Operand} {b b' : Bool} (hx : ev env x = some (.bool b)) (hy : ev env y = some (.bool b')) (ht : T.u t = some .bool) : Qt P S w0 ⟨d, .binOp .neq t x y yt, ty, pos, af, g⟩ env hp (.bool (!(b == b'))) := fun n a w hE hS => by
  simp [execOp, hE.ev hx, hE.ev hy, eqGuard, binOp, run_eqb T ht]

/-! strings -/
theorem q_eqs {t yt : TypeId} {x y : Operand} {b b' : ByteArray} (hx : ev env x = some (.string b)) (hy : ev env y = some (.string b')) : Qt P S w0 ⟨d, .binOp .eql t x y yt, ty, pos, af, g⟩ env hp (.bool (b.toList == b'.toList)) := fun n a w hE hS => by
  simp [execOp, hE.ev hx, hE.ev hy, eqGuard, binOp, Op.stringOp]
theorem q_nes {t yt : TypeId} {x y : Operand} {b b' : ByteArray} (hx : ev env x = some (.string b)) (hy : ev env y = some (.string b')) : Qt P S w0 ⟨d, .binOp .neq t x y yt, ty, pos, af, g⟩ env hp (.bool (!(b.toList == b'.toList))) := fun n a w hE hS => by
  simp [execOp, hE.ev hx, hE.ev hy, eqGuard, binOp, Op.stringOp]

/-! pointers and nil -/
theorem run_eqpIn {P : Program} (T : Tab P) {t e : TypeId} (ht : T.u t = some (.pointer e)) (p : Option Addr) (w : World) (k : Nat) : (Op.equalIn (k + 1) t (.pointer p) (.pointer none)).run P w = .ok p.isNone w := by
  cases p <;> simp [Op.equalIn, run_underlying (T.U ht)]
theorem run_eqp {P : Program} (T : Tab P) {t e : TypeId} (ht : T.u t = some (.pointer e)) (p : Option Addr) (w : World) : (Op.equal t (.pointer p) (.pointer none)).run P w = .ok p.isNone w := run_eqpIn T ht p w 9999
theorem q_eqnil (T : Tab P) {t yt e : TypeId} {x y : Operand} {p : Option Addr} (hx : ev env x = some (.pointer p)) (hy : ev env y = some (.pointer none)) (ht : T.u t = some (.pointer e)) : Qt P S w0 ⟨d, .binOp .eql t x y yt, ty, pos, af, g⟩ env hp (.bool p.isNone) := fun n a w hE hS => by
  have := run_eqp T ht p w
  cases p <;> simp [execOp, hE.ev hx, hE.ev hy, eqGuard, binOp, this]
theorem q_nenil (T : Tab P) {t yt e : TypeId} {x y : Operand} {p : Option Addr} (hx : ev env x = some (.pointer p)) (hy : ev env y = some (.pointer none)) (ht : T.u t = some (.pointer e)) : Qt P S w0 ⟨d, .binOp .neq t x y yt, ty, pos, af, g⟩ env hp (.bool p.isSome) := fun n a w hE hS => by
  have := run_eqp T ht p w
  cases p <;> simp [execOp, hE.ev hx, hE.ev hy, eqGuard, binOp, this]
theorem q_nilck {x : Operand} {a : Addr} (hx : ev env x = some (.pointer (some a))) : Qt P S w0 ⟨d, .nilCheck x, ty, pos, af, g⟩ env hp (.pointer (some a)) := fun n a w hE hS => by simp [execOp, hE.ev hx]

/-! parts -/
theorem q_extract {x : Operand} {i : Nat} {vs : List Value} {v : Value} (hx : ev env x = some (.tuple vs.toArray)) (hi : vs[i]? = some v) : Qt P S w0 ⟨d, .extract x i, ty, pos, af, g⟩ env hp v := fun n a w hE hS => by
  simp [execOp, hE.ev hx, Instr.extract, hi]
theorem q_fieldAddr (T : Tab P) {s : TypeId} {x : Operand} {i : Nat} {os : List Nat} {fs : List Field} {f : Field} {b o k : Nat} {z : Value} {sz y : Nat} (hx : ev env x = some (.pointer (some ⟨b, o, none⟩))) (ho : T.f s = some os) (hk : os[i]? = some k) (hs : T.u s = some (.struct fs.toArray)) (hf : fs[i]? = some f) (hz : T.i f.type = some (z, sz, y)) (h0 : Nat.beq sz 0 = false) :
    Qt P S w0 ⟨d, .fieldAddr s x i, ty, pos, af, g⟩ env hp (.pointer (some ⟨b, o + k, none⟩)) := fun n a w hE hS => by
  have h0' : sz ≠ 0 := fun e => by subst e; cases h0
  obtain ⟨fs', h1, h2⟩ := T.fldOk.get ho
  rw [T.U hs] at h1
  have h3 : fs = fs' := by
    injection h1 with h1
    injection h1 with h1
    simpa using h1
  subst h3
  have h4 : f.offset = k := by
    rw [← h2, List.getElem?_map, hf] at hk
    simpa using hk
  subst h4
  simp [execOp, hE.ev hx, Instr.fieldAt, run_underlying (T.U hs), hf, Instr.sureAddr, fieldPlace, T.size hz, h0', Addr.add_lit]
theorem q_field1 (T : Tab P) {s : TypeId} {x : Operand} {i : Nat} {fs : List Field} {f : Field} {cs : List Value} {v : Value} {df : TypeDesc} (hx : ev env x = some (.agg cs.toArray)) (hs : T.u s = some (.struct fs.toArray)) (hf : fs[i]? = some f) (ht : T.u f.type = some df) (ha : aggB df = false) (hv : cs[f.offset]? = some v) :
    Qt P S w0 ⟨d, .field s x i, ty, pos, af, g⟩ env hp v := fun n a w hE hS => by
  simp [execOp, hE.ev hx, Instr.field, run_underlying (T.U hs), hf, asAgg, part, T.agg ht, ha, hv]
theorem q_fieldN (T : Tab P) {s : TypeId} {x : Operand} {i : Nat} {fs : List Field} {f : Field} {cs : List Value} {df : TypeDesc} {z : Value} {sz y : Nat} (hx : ev env x = some (.agg cs.toArray)) (hs : T.u s = some (.struct fs.toArray)) (hf : fs[i]? = some f) (ht : T.u f.type = some df) (ha : aggB df = true) (hz : T.i f.type = some (z, sz, y)) :
    Qt P S w0 ⟨d, .field s x i, ty, pos, af, g⟩ env hp (.agg ((cs.drop f.offset).take sz).toArray) := fun n a w hE hS => by
  simp [execOp, hE.ev hx, Instr.field, run_underlying (T.U hs), hf, asAgg, part, T.agg ht, ha, T.size hz]
theorem q_indexAddr (T : Tab P) {t e : TypeId} {x ix : Operand} {b o len cap : Nat} {k : IntKind} {i : Int} {z : Value} {sz y : Nat} (hx : ev env x = some (.slice (some ⟨b, o, none⟩) len cap)) (hi : ev env ix = some (.int k i)) (ht : T.u t = some (.slice e)) (hz : T.i e = some (z, sz, y)) (h : 0 ≤ i ∧ i < len) :
    Qt P S w0 ⟨d, .indexAddr t x ix, ty, pos, af, g⟩ env hp (.pointer (some ⟨b, o + i.toNat * sz, none⟩)) := fun n a w hE hS => by
  simp [execOp, hE.ev hx, hE.ev hi, Instr.indexAt, asIntOf, run_underlying (T.U ht), h.1, h.2, T.size hz, Addr.add_lit]
theorem q_indexAddrA (T : Tab P) {t e : TypeId} {x ix : Operand} {b o len : Nat} {k : IntKind} {i : Int} {z : Value} {sz y : Nat} (hx : ev env x = some (.pointer (some ⟨b, o, none⟩))) (hi : ev env ix = some (.int k i)) (ht : T.u t = some (.array len e)) (hz : T.i e = some (z, sz, y)) (h : 0 ≤ i ∧ i < len) :
    Qt P S w0 ⟨d, .indexAddr t x ix, ty, pos, af, g⟩ env hp (.pointer (some ⟨b, o + i.toNat * sz, none⟩)) := fun n a w hE hS => by
  simp [execOp, hE.ev hx, hE.ev hi, Instr.indexAt, asIntOf, run_underlying (T.U ht), Instr.sureAddr, h.1, h.2, T.size hz, Addr.add_lit]
theorem q_index1 (T : Tab P) {t e : TypeId} {x ix : Operand} {len : Nat} {k : IntKind} {i : Int} {cs : List Value} {v : Value} {de : TypeDesc} {z : Value} {y : Nat} (hx : ev env x = some (.agg cs.toArray)) (hi : ev env ix = some (.int k i)) (ht : T.u t = some (.array len e)) (he : T.u e = some de) (ha : aggB de = false) (hz : T.i e = some (z, 1, y)) (h : 0 ≤ i ∧ i < len) (hv : cs[i.toNat]? = some v) :
    Qt P S w0 ⟨d, .index t x ix, ty, pos, af, g⟩ env hp v := fun n a w hE hS => by
  simp [execOp, hE.ev hx, hE.ev hi, Instr.index, asIntOf, run_underlying (T.U ht), h.1, h.2, T.size hz, part, T.agg he, ha, hv]
theorem q_len (T : Tab P) {t e : TypeId} {x : Operand} {A : Option Addr} {m c : Nat} (hx : ev env x = some (.slice A m c)) (ht : T.u t = some (.slice e)) : Qt P S w0 ⟨d, .call { callee := .builtin .len, args := #[x], argTypes := #[t] }, ty, pos, af, g⟩ env hp (.int .i64 (m : Int)) := fun n a w hE hS => by
  simp [execOp, resolve, invoke, builtin, hE.ev hx, Builtin.len_, run_underlying (T.U ht), goInt]
theorem q_lenA (T : Tab P) {t e : TypeId} {x : Operand} {m : Nat} {v : Value} (hx : ev env x = some v) (ht : T.u t = some (.array m e)) : Qt P S w0 ⟨d, .call { callee := .builtin .len, args := #[x], argTypes := #[t] }, ty, pos, af, g⟩ env hp (.int .i64 (m : Int)) := fun n a w hE hS => by
  simp [execOp, resolve, invoke, builtin, hE.ev hx, Builtin.len_, run_underlying (T.U ht), goInt]
theorem q_min {x y : Operand} {k k' : IntKind} {m m' r : Int} {ts : Array TypeId} (hx : ev env x = some (.int k m)) (hy : ev env y = some (.int k' m')) (hr : (if m' < m then m' else m) = r) : Qt P S w0 ⟨d, .call { callee := .builtin .min, args := #[x, y], argTypes := ts }, ty, pos, af, g⟩ env hp (.int k r) := fun n a w hE hS => by
  simp [execOp, resolve, invoke, builtin, hE.ev hx, hE.ev hy, Builtin.min_, Builtin.min2, hr]
theorem q_max {x y : Operand} {k k' : IntKind} {m m' r : Int} {ts : Array TypeId} (hx : ev env x = some (.int k m)) (hy : ev env y = some (.int k' m')) (hr : (if m < m' then m' else m) = r) : Qt P S w0 ⟨d, .call { callee := .builtin .max, args := #[x, y], argTypes := ts }, ty, pos, af, g⟩ env hp (.int k r) := fun n a w hE hS => by
  simp [execOp, resolve, invoke, builtin, hE.ev hx, hE.ev hy, Builtin.max_, Builtin.max2]
  subst hr
  split <;> rfl
theorem q_load {t : TypeId} (T : Tab P) {x : Operand} {b o : Nat} {v : Value} {dt : TypeDesc} (hx : ev env x = some (.pointer (some ⟨b, o, none⟩))) (ht : T.u t = some dt) (ha : aggB dt = false) (hc : ∀ w, St S w0 hp w → w.cell? ⟨b, o, none⟩ = some v) : Qt P S w0 ⟨d, .load t x, ty, pos, af, g⟩ env hp v := fun n a w hE hS => by
  simp [execOp, hE.ev hx, Instr.loadAt, Instr.sureAddr, run_loadVar1 T ht ha (hc w hS)]
theorem q_loadN {t : TypeId} (T : Tab P) {x : Operand} {b o : Nat} {vs : List Value} {dt : TypeDesc} {z : Value} {s y : Nat} (hx : ev env x = some (.pointer (some ⟨b, o, none⟩))) (ht : T.u t = some dt) (ha : aggB dt = true) (hi : T.i t = some (z, s, y)) (hl : vs.length = s) (hc : ∀ w, St S w0 hp w → CellsAt w b o vs) : Qt P S w0 ⟨d, .load t x, ty, pos, af, g⟩ env hp (.agg vs.toArray) := fun n a w hE hS => by
  simp [execOp, hE.ev hx, Instr.loadAt, Instr.sureAddr, run_loadVarN T ht ha hi hl (hc w hS)]
theorem q_mkfunc {fn : Fn} {cap : Array Operand} {vs : List Value} (hc : evs env cap.toList = some vs) : Qt P S w0 ⟨d, .makeFunc fn #[] cap, ty, pos, af, g⟩ env hp (.func fn #[] vs.toArray) := fun n a w hE hS => by
  have := hE.evs hc
  simp only [execOp, Instr.makeFunc, ← this]
  simp
  exact Array.toList_inj.1 (by simp)
theorem q_run {op : Op} {v : Value} (h : ∀ n a, Fr env n a → ∀ w, St S w0 hp w → (execOp a.eval ⟨d, op, ty, pos, af, g⟩).run P w = .ok (.value v) w) : Qt P S w0 ⟨d, op, ty, pos, af, g⟩ env hp v := fun n a w hE hS => h n a hE w hS
theorem q_build {t : TypeId} {parts : Array (Nat × Operand)} {vs : List Value} {v : Value} (hp_ : evs env (parts.toList.map (·.2)) = some vs) (hr : ∀ w, (Instr.build t ((parts.toList.map (·.1)).zip vs).toArray).run P w = .ok v w) : Qt P S w0 ⟨d, .build t parts, ty, pos, af, g⟩ env hp v := fun n a w hE hS => by
  have h1 := hE.evs hp_
  have h2 : (parts.map fun (i, x) => (i, a.eval x)) = ((parts.toList.map (·.1)).zip vs).toArray := by
    rw [← h1]
    apply Array.toList_inj.1
    simp [List.zip_map', List.map_map]
  simp only [execOp, h2]
  simp [hr w]

/-! slices of slices -/
def cutA (A : Option Addr) (m k s : Nat) : Option Addr := if m = k then A else A.map (·.add (k * s))
theorem q_sliceHi (T : Tab P) {t e : TypeId} {x hi : Operand} {A : Option Addr} {m c : Nat} {k : IntKind} {h : Int} {z : Value} {sz y : Nat} (hx : ev env x = some (.slice A m c)) (hh : ev env hi = some (.int k h)) (ht : T.u t = some (.slice e)) (hz : T.i e = some (z, sz, y)) (hb : 0 ≤ h ∧ h ≤ c) :
    Qt P S w0 ⟨d, .slice t x none (some hi) none, ty, pos, af, g⟩ env hp (.slice A h.toNat c) := fun n a w hE hS => by
  have e0 : (if c = 0 then A else A.map (·.add 0)) = A := by
    split
    · rfl
    · cases A <;> simp [Addr.add]
  simp [execOp, hE.ev hx, hE.ev hh, Instr.sliceAt, Instr.slice, run_underlying (T.U ht), Instr.sliceBounds, run_sliceBound, hb.1, hb.2, T.size hz]
  cases A <;> simp [Addr.add]
theorem q_sliceLo (T : Tab P) {t e : TypeId} {x lo : Operand} {A : Option Addr} {m c : Nat} {k : IntKind} {l : Int} {z : Value} {sz y : Nat} (hx : ev env x = some (.slice A m c)) (hl : ev env lo = some (.int k l)) (ht : T.u t = some (.slice e)) (hz : T.i e = some (z, sz, y)) (hb : 0 ≤ l ∧ l ≤ m) :
    Qt P S w0 ⟨d, .slice t x (some lo) none none, ty, pos, af, g⟩ env hp (.slice (cutA A c l.toNat sz) (m - l.toNat) (c - l.toNat)) := fun n a w hE hS => by
  simp [execOp, hE.ev hx, hE.ev hl, Instr.sliceAt, Instr.slice, run_underlying (T.U ht), Instr.sliceBounds, run_sliceBound, hb.1, hb.2, T.size hz, cutA]
theorem q_sliceLH (T : Tab P) {t e : TypeId} {x lo hi : Operand} {A : Option Addr} {m c : Nat} {k k' : IntKind} {l h : Int} {z : Value} {sz y : Nat} (hx : ev env x = some (.slice A m c)) (hl : ev env lo = some (.int k l)) (hh : ev env hi = some (.int k' h)) (ht : T.u t = some (.slice e)) (hz : T.i e = some (z, sz, y)) (hb : 0 ≤ l ∧ l ≤ h ∧ h ≤ c) :
    Qt P S w0 ⟨d, .slice t x (some lo) (some hi) none, ty, pos, af, g⟩ env hp (.slice (cutA A c l.toNat sz) (h.toNat - l.toNat) (c - l.toNat)) := fun n a w hE hS => by
  have h0 : 0 ≤ h := by omega
  have h1 : l ≤ (h.toNat : Int) := by omega
  have h2 : (h.toNat : Int) = h := by omega
  simp [execOp, hE.ev hx, hE.ev hl, hE.ev hh, Instr.sliceAt, Instr.slice, run_underlying (T.U ht), Instr.sliceBounds, run_sliceBound, hb.1, hb.2.1, hb.2.2, h0, h2, T.size hz, cutA]
end
end Go.Proofs.Ytboccjdncdaakaa
