/- An evaluator of this program's code over plain values, proved sound: part 4. -/
import Derived.Laws.StructEq
import Derived.ChangeKeysEq
import Derived.Test.YtdgpppkmlmbjoaaV3
/- Code: the typed evaluator, loops included; what it gives holds of the code. -/
namespace Go.Ve
open Go.Vs
/-! ## Joining -/
def view : Tr (Ex × PSE) → Option (Option Bool × PSE)
  | .leaf x => match x with
    | (.normal, p) => some (none, p)
    | _ => none
  | .br g t e => match t, e with
    | .leaf (.normal, p), .fail => some (some g, p)
    | _, _ => none
  | _ => none
def isFail {α : Type} : Tr α → Bool
  | .fail => true
  | _ => false
def mkG {α : Type} (g : Option Bool) (t : Tr α) : Tr α :=
  match g with
  | none => t
  | some g => .br g t .fail
def joinBr (A : List SVE) (inb : List Key) (c : Bool) (a b : Tr (Ex × PSE)) : Tr (Ex × PSE) :=
  match view a, view b with
  | some (g, p), some (h, q) => match merge A inb c p q with
    | some m => mkG (match g, h with
      | none, none => none
      | some g, none => some (!c || g)
      | none, some h => some (c || h)
      | some g, some h => some (if c = true then g else h)) (.leaf (.normal, m))
    | none => .br c a b
  | some (g, p), none => match isFail b with
    | true => mkG (some (match g with | none => c | some g => c && g)) (.leaf (.normal, p))
    | false => .br c a b
  | none, some (h, q) => match isFail a with
    | true => mkG (some (match h with | none => !c | some h => !c && h)) (.leaf (.normal, q))
    | false => .br c a b
  | none, none => .br c a b
def joinT (A : List SVE) (inb : List Key) : Tr (Ex × PSE) → Tr (Ex × PSE)
  | .leaf x => .leaf x
  | .fail => .fail
  | .br c a b => joinBr A inb c (joinT A inb a) (joinT A inb b)
  | .call d o k => .call d o fun x => joinT A inb (k x)
  | .sum o k k' => .sum o (fun x => joinT A inb (k x)) fun x => joinT A inb (k' x)
theorem view_eq {t : Tr (Ex × PSE)} {g : Option Bool} {p : PSE} (h : view t = some (g, p)) : t = mkG g (.leaf (.normal, p)) := by
  unfold view at h
  split at h
  · split at h <;> cases h; rfl
  · split at h <;> cases h; rfl
  · cases h
theorem isFail_eq {α : Type} {t : Tr α} (h : isFail t = true) : t = .fail := by cases t <;> first | rfl | cases h
section
variable {K : Ctx} {A : List SVE} {inb : List Key}
def Reach (K : Ctx) (A : List SVE) (Q : Ex × PSE → Prop) (x : Ex × PSE) : Prop :=
  ∀ a w, PRel K (cPS A x.2) a w → ∃ y, exOf x.1 = exOf y.1 ∧ Q y ∧ PRel K (cPS A y.2) a w
theorem Reach.of {Q : Ex × PSE → Prop} {x : Ex × PSE} (h : Q x) : Reach K A Q x := fun _ _ hr => ⟨x, rfl, h, hr⟩
theorem Reach.idem {Q : Ex × PSE → Prop} {x : Ex × PSE} (h : Reach K A (Reach K A Q) x) : Reach K A Q x := by
  intro a w hr
  obtain ⟨y, h1, h2, h3⟩ := h a w hr
  obtain ⟨z, g1, g2, g3⟩ := h2 a w h3
  exact ⟨z, h1.trans g1, g2, g3⟩
theorem all_mono {α : Type} {t : Tr α} {Q Q' : α → Prop} (h : ∀ a, Q a → Q' a) (ht : t.all Q) : t.all Q' := by
  obtain ⟨a, h1, h2⟩ := (Tr.all_iff t Q).1 ht
  exact (Tr.all_iff t Q').2 ⟨a, h1, h a h2⟩
/-- what every leaf keeps -/
def KeepL (p0 : ESt) (A : List SVE) (x : Ex × PSE) : Prop := (∃ l, x.2.dirty = l ++ p0.dirty) ∧ Keep x.2.dirty p0 (stOf A x.2)
theorem mkG_all {α : Type} {g : Option Bool} {x : α} {Q : α → Prop} : (mkG g (.leaf x)).all Q ↔ ((∀ b, g = some b → b = true) ∧ Q x) := by
  cases g with
  | none => simp [mkG, Tr.all]
  | some b => cases b <;> simp [mkG, Tr.all]
theorem mkG_box {α : Type} {g : Option Bool} {x : α} {Q : α → Prop} : (mkG g (.leaf x)).box Q ↔ ((∀ b, g = some b → b = true) → Q x) := by
  cases g with
  | none => simp [mkG, Tr.box]
  | some b => cases b <;> simp [mkG, Tr.box]
theorem mkG_each {α : Type} {g : Option Bool} {x : α} {Q : α → Prop} : (mkG g (.leaf x)).each Q ↔ Q x := by
  cases g <;> simp [mkG, Tr.each]
theorem joinBr_spec (hF : FOK K A inb) {p0 : ESt} (c : Bool) (a b : Tr (Ex × PSE)) (ka : a.each (KeepL p0 A)) (kb : b.each (KeepL p0 A)) :
    (joinBr A inb c a b).each (KeepL p0 A) ∧ ∀ Q, (joinBr A inb c a b).all Q → (c = true → a.all (Reach K A Q)) ∧ (c = false → b.all (Reach K A Q)) := by
  have plain : (Tr.br c a b).each (KeepL p0 A) ∧ ∀ Q, (Tr.br c a b).all Q → (c = true → a.all (Reach K A Q)) ∧ (c = false → b.all (Reach K A Q)) :=
    ⟨⟨ka, kb⟩, fun Q h => ⟨fun hc => all_mono (fun _ => Reach.of) (h.1 hc), fun hc => all_mono (fun _ => Reach.of) (h.2 hc)⟩⟩
  unfold joinBr
  split
  · rename_i g p h q hva hvb
    have ea := view_eq hva
    have eb := view_eq hvb
    rw [ea, mkG_each] at ka
    rw [eb, mkG_each] at kb
    split
    · rename_i m hm
      have hrel := fun a w => merge_rel (K := K) (A := A) (inb := inb) (a := a) (w := w) (p0 := p0) (c := c) hF ka.2 kb.2 hm
      obtain ⟨_, _, hk, hdm⟩ := hrel { tmps := #[], defers := [] } default
      refine ⟨mkG_each.2 ⟨?_, hk⟩, fun Q hall => ?_⟩
      · obtain ⟨l, hl⟩ := kb.1
        exact ⟨p.dirty ++ l, by show m.dirty = _; rw [hdm, hl, List.append_assoc]⟩
      · rw [mkG_all] at hall
        obtain ⟨hg, hQ⟩ := hall
        refine ⟨fun hc => ?_, fun hc => ?_⟩
        · rw [ea, mkG_all]
          refine ⟨fun g0 e => ?_, fun a w hr => ⟨(.normal, m), rfl, hQ, (hrel a w).1 hc hr⟩⟩
          subst e
          subst hc
          cases h with
          | none => have := hg _ rfl; simpa using this
          | some h => have := hg _ rfl; simpa using this
        · rw [eb, mkG_all]
          refine ⟨fun g0 e => ?_, fun a w hr => ⟨(.normal, m), rfl, hQ, (hrel a w).2.1 hc hr⟩⟩
          subst e
          subst hc
          cases g with
          | none => have := hg _ rfl; simpa using this
          | some h => have := hg _ rfl; simpa using this
    · exact plain
  · rename_i g p hva hvb
    split
    · rename_i hf
      have ea := view_eq hva
      have eb := isFail_eq hf
      rw [ea, mkG_each] at ka
      refine ⟨mkG_each.2 ka, fun Q hall => ?_⟩
      rw [mkG_all] at hall
      obtain ⟨hg, hQ⟩ := hall
      have hg := hg _ rfl
      refine ⟨fun hc => ?_, fun hc => ?_⟩
      · rw [ea, mkG_all]
        refine ⟨fun g0 e => ?_, Reach.of hQ⟩
        subst e; subst hc; simpa using hg
      · subst hc
        cases g <;> simp at hg
    · exact plain
  · rename_i h q hva hvb
    split
    · rename_i hf
      have eb := view_eq hvb
      have ea := isFail_eq hf
      rw [eb, mkG_each] at kb
      refine ⟨mkG_each.2 kb, fun Q hall => ?_⟩
      rw [mkG_all] at hall
      obtain ⟨hg, hQ⟩ := hall
      have hg := hg _ rfl
      refine ⟨fun hc => ?_, fun hc => ?_⟩
      · subst hc
        cases h <;> simp at hg
      · rw [eb, mkG_all]
        refine ⟨fun g0 e => ?_, Reach.of hQ⟩
        subst e; subst hc; simpa using hg
    · exact plain
  · exact plain
theorem joinT_spec (hF : FOK K A inb) {p0 : ESt} : ∀ (t : Tr (Ex × PSE)), t.each (KeepL p0 A) → (joinT A inb t).each (KeepL p0 A) ∧ ∀ Q, (joinT A inb t).all Q → t.all (Reach K A Q) := by
  intro t
  induction t with
  | leaf x => exact fun h => ⟨h, fun Q hq => Reach.of hq⟩
  | fail => exact fun _ => ⟨trivial, fun Q hq => hq⟩
  | br c a b iha ihb =>
    intro h
    obtain ⟨ka, ha⟩ := iha h.1
    obtain ⟨kb, hb⟩ := ihb h.2
    obtain ⟨h1, h2⟩ := joinBr_spec hF c _ _ ka kb
    refine ⟨h1, fun Q hq => ?_⟩
    obtain ⟨g1, g2⟩ := h2 Q hq
    exact ⟨fun hc => all_mono (fun _ => Reach.idem) (ha _ (g1 hc)), fun hc => all_mono (fun _ => Reach.idem) (hb _ (g2 hc))⟩
  | call d o k ih => exact fun h => ⟨fun x => (ih x (h x)).1, fun Q ⟨x, hx, hq⟩ => ⟨x, hx, (ih x (h x)).2 Q hq⟩⟩
  | sum o k k' ih ih' => exact fun h => ⟨⟨fun x => (ih x (h.1 x)).1, fun x => (ih' x (h.2 x)).1⟩, fun Q hq => ⟨fun x hx => (ih x (h.1 x)).2 Q (hq.1 x hx), fun x hx => (ih' x (h.2 x)).2 Q (hq.2 x hx)⟩⟩
end
/-! ## Places that vary -/
inductive Sh where
  | i (k : IntKind) | b | s | l (m : Md) (t : Ty) | n (m : Md) (t : Ty)
@[reducible] def Sh.T : Sh → Type
  | .i _ => Int
  | .b => Bool
  | .s => List UInt8
  | .l _ t => List t.T
  | .n _ t => Option (List t.T)
def Sh.inst : (h : Sh) → h.T → E
  | .i k, x => .i k x
  | .b, x => .b x
  | .s, x => .s x
  | .l m t, xs => .l m t xs
  | .n m t, o => .n m t o
def Sh.dflt : (h : Sh) → h.T
  | .i _ => (0 : Int)
  | .b => false
  | .s => ([] : List UInt8)
  | .l _ t => ([] : List t.T)
  | .n _ t => (none : Option (List t.T))
def Sh.mat : (h : Sh) → E → Option h.T
  | .i k => fun c => match c with
    | .i k' x => if k' = k then some x else none
    | _ => none
  | .b => fun c => boolOf c
  | .s => fun c => match c with
    | .s x => some x
    | _ => none
  | .l m t => fun c => match c with
    | .l m' t' xs => if m' = m then (if h : t' = t then some (h ▸ xs) else none) else none
    | _ => none
  | .n m t => fun c => match c with
    | .l m' t' xs => if m' = m then (if h : t' = t then some (some (h ▸ xs)) else none) else none
    | .n m' t' o => if m' = m then (if h : t' = t then some (h ▸ o) else none) else none
    | .nil => some none
    | _ => none
theorem Sh.mat_eq : ∀ {h : Sh} {c : E} {x : h.T}, h.mat c = some x → cE (h.inst x) = cE c
  | .i k, c, x, e => by
    simp only [Sh.mat] at e
    split at e
    · split at e
      · rename_i h; subst h; cases e; rfl
      · cases e
    · cases e
  | .b, c, x, e => (boolOf_eq e).symm
  | .s, c, x, e => by
    simp only [Sh.mat] at e
    split at e <;> cases e
    rfl
  | .l m t, c, x, e => by
    simp only [Sh.mat] at e
    split at e
    · split at e
      · rename_i h; subst h
        split at e
        · rename_i h; subst h; cases e; rfl
        · cases e
      · cases e
    · cases e
  | .n m t, c, x, e => by
    simp only [Sh.mat] at e
    split at e
    · split at e
      · rename_i h; subst h
        split at e
        · rename_i h; subst h; cases e; rfl
        · cases e
      · cases e
    · split at e
      · rename_i h; subst h
        split at e
        · rename_i h; subst h; cases e; rfl
        · cases e
      · cases e
    · cases e; rfl
    · cases e
/-- a place: a slot with one cell; a slot with a row; a cell of a box -/
inductive Pl where
  | slot (t : Nat) (h : Sh) | slotR (t : Nat) (r : Ty) | cell (k : Key) (j : Nat) (h : Sh)
@[reducible] def Pl.T : Pl → Type
  | .slot _ h => h.T
  | .slotR _ r => r.T
  | .cell _ _ h => h.T
def Pl.dflt : (p : Pl) → p.T
  | .slot _ h => h.dflt
  | .slotR _ r => r.zero
  | .cell _ _ h => h.dflt
@[reducible] def VT : List Pl → Type
  | [] => Unit
  | p :: r => match r with
    | [] => p.T
    | q :: r => p.T × VT (q :: r)
def VT.dflt : (l : List Pl) → VT l
  | [] => ()
  | [p] => p.dflt
  | p :: q :: r => (p.dflt, VT.dflt (q :: r))
def setT (t : Nat) (v : SVE) : List (Nat × SVE) → List (Nat × SVE)
  | [] => [(t, v)]
  | (u, x) :: r => match t == u with
    | true => (t, v) :: r
    | false => (u, x) :: setT t v r
def setB (k : Key) (j : Nat) (c : E) : List (Key × List E) → List (Key × List E)
  | [] => []
  | (q, x) :: r => match keqb k q with
    | true => (q, lset x j c) :: r
    | false => (q, x) :: setB k j c r
def Pl.get : (q : Pl) → PSE → Option q.T
  | .slot t h => fun p => match lkT t p.slots with
    | .one c => h.mat c
    | _ => none
  | .slotR t r => fun p => match lkT t p.slots with
    | .agg cs => rowT r cs
    | _ => none
  | .cell k j h => fun p => match lkB k p.boxes with
    | some cs => match cs[j]? with
      | some c => h.mat c
      | none => none
    | none => none
def Pl.put : (q : Pl) → q.T → PSE → PSE
  | .slot t h, x, p => { p with slots := setT t (.one (h.inst x)) p.slots }
  | .slotR t r, x, p => { p with slots := setT t (.agg (cellsT r x)) p.slots }
  | .cell k j h, x, p => { p with boxes := setB k j (h.inst x) p.boxes }
def matV : (l : List Pl) → PSE → Option (VT l)
  | [], _ => some ()
  | [q], p => q.get p
  | q :: q' :: r, p => match q.get p, matV (q' :: r) p with
    | some x, some y => some (x, y)
    | _, _ => none
def instV : (l : List Pl) → VT l → PSE → PSE
  | [], _, b => b
  | [q], x, b => q.put x b
  | q :: q' :: r, x, b => q.put x.1 (instV (q' :: r) x.2 b)
def Pl.isSlot (t : Nat) : Pl → Bool
  | .slot u _ => t == u
  | .slotR u _ => t == u
  | _ => false
def Pl.isCell (k : Key) (j : Nat) : Pl → Bool
  | .cell q i _ => keqb k q && j == i
  | _ => false
theorem lkT_set (t u : Nat) (v : SVE) : ∀ (l : List (Nat × SVE)), lkT u (setT t v l) = match u == t with | true => v | false => lkT u l
  | [] => by simp only [setT, lkT] <;> cases u == t <;> rfl
  | (q, x) :: r => by
    simp only [setT]
    cases h : t == q with
    | true =>
      have : t = q := by simpa using h
      subst this
      simp only [lkT]
      cases u == t <;> rfl
    | false =>
      simp only [lkT, lkT_set t u v r]
      cases h2 : u == q with
      | true =>
        have e : u = q := by simpa using h2
        subst e
        have : (u == t) = false := by
          cases h3 : u == t with
          | false => rfl
          | true => rw [beq_iff_eq] at h3; subst h3; rw [beq_self_eq_true] at h; cases h
        rw [this]
      | false => rfl
theorem lkB_set (k q : Key) (j : Nat) (c : E) : ∀ (l : List (Key × List E)), lkB q (setB k j c l) = match keqb q k with | true => (lkB q l).map fun x => lset x j c | false => lkB q l
  | [] => by simp only [setB, lkB]; cases keqb q k <;> rfl
  | (u, x) :: r => by
    simp only [setB]
    cases h : keqb k u with
    | true =>
      have := (keqb_iff k u).1 h
      subst this
      simp only [lkB]
      cases keqb q k <;> rfl
    | false =>
      simp only [lkB, lkB_set k q j c r]
      cases h2 : keqb q u with
      | true =>
        have e := (keqb_iff q u).1 h2
        subst e
        have : keqb q k = false := by
          cases h3 : keqb q k with
          | false => rfl
          | true => rw [(keqb_iff q k).1 h3, (keqb_iff k k).2 rfl] at h; cases h
        rw [this]
      | false => rfl
theorem Pl.put_slot (q : Pl) (x : q.T) (b : PSE) (t : Nat) (h : q.isSlot t = false) : lkT t (q.put x b).slots = lkT t b.slots := by
  cases q with
  | slot u sh => simp only [Pl.isSlot] at h; simp only [Pl.put, lkT_set, h]
  | slotR u sh => simp only [Pl.isSlot] at h; simp only [Pl.put, lkT_set, h]
  | cell k j sh => rfl
theorem Pl.put_get {q : Pl} {x : q.T} {p : PSE} (h : q.get p = some x) (b : PSE) (t : Nat) (ht : q.isSlot t = true) : cSV (lkT t (q.put x b).slots) = cSV (lkT t p.slots) := by
  cases q with
  | slot u sh =>
    simp only [Pl.isSlot] at ht
    have e : t = u := by simpa using ht
    subst e
    simp only [Pl.get] at h
    split at h
    · rename_i c hc
      simp only [Pl.put, lkT_set, ht, hc, cSV]
      rw [Sh.mat_eq h]
    · cases h
  | slotR u sh =>
    simp only [Pl.isSlot] at ht
    have e : t = u := by simpa using ht
    subst e
    simp only [Pl.get] at h
    split at h
    · rename_i c hc
      simp only [Pl.put, lkT_set, ht, hc, cSV]
      rw [cells_enc, rowT_eq h]
    · cases h
  | cell k j sh => cases ht
theorem instV_slot {p : PSE} : ∀ (l : List Pl) (y : VT l) (b : PSE), matV l p = some y → ∀ t, (l.any (Pl.isSlot t) = true ∧ cSV (lkT t (instV l y b).slots) = cSV (lkT t p.slots)) ∨ (l.any (Pl.isSlot t) = false ∧ lkT t (instV l y b).slots = lkT t b.slots)
  | [], _, b, _, t => .inr ⟨rfl, rfl⟩
  | [q], y, b, h, t => by
    simp only [List.any_cons, List.any_nil, Bool.or_false]
    cases hq : q.isSlot t with
    | true => exact .inl ⟨rfl, Pl.put_get h b t hq⟩
    | false => exact .inr ⟨rfl, Pl.put_slot q y b t hq⟩
  | q :: q' :: r, y, b, h, t => by
    simp only [matV] at h
    split at h
    · rename_i x ys h1 h2
      cases h
      rw [List.any_cons]
      cases hq : q.isSlot t with
      | true => exact .inl ⟨rfl, Pl.put_get h1 _ t hq⟩
      | false =>
        simp only [instV]
        rw [Pl.put_slot q x _ t hq]
        exact instV_slot (q' :: r) ys b h2 t
    · cases h
/-- without a match: only what is listed changes -/
theorem instV_slot' : ∀ (l : List Pl) (y : VT l) (b : PSE) (t : Nat), l.any (Pl.isSlot t) = false → lkT t (instV l y b).slots = lkT t b.slots
  | [], _, b, t, _ => rfl
  | [q], y, b, t, h => Pl.put_slot q y b t (by simpa using h)
  | q :: q' :: r, y, b, t, h => by
    rw [List.any_cons, Bool.or_eq_false_iff] at h
    simp only [instV]
    rw [Pl.put_slot q _ _ t h.1]
    exact instV_slot' (q' :: r) y.2 b t h.2
def CellsAs (l : List Pl) (k : Key) (R : Nat → E → Prop) (o o' : Option (List E)) : Prop :=
  match o, o' with
  | none, none => True
  | some bs, some cs => bs.length = cs.length ∧ ∀ j c, cs[j]? = some c → (l.any (Pl.isCell k j) = true ∧ R j c) ∨ (l.any (Pl.isCell k j) = false ∧ bs[j]? = some c)
  | _, _ => False
theorem CellsAs.step {l : List Pl} {k : Key} {R : Nat → E → Prop} {q : Pl} {x : q.T} {b b1 : PSE} (h : CellsAs l k R (lkB k b.boxes) (lkB k b1.boxes)) (hq : ∀ j sh (e : q = .cell k j sh), R j (sh.inst (by subst e; exact x))) : CellsAs (q :: l) k R (lkB k b.boxes) (lkB k (q.put x b1).boxes) := by
  have other : (∀ j, q.isCell k j = false) → lkB k (q.put x b1).boxes = lkB k b1.boxes → CellsAs (q :: l) k R (lkB k b.boxes) (lkB k (q.put x b1).boxes) := by
    intro h1 h2
    rw [h2]
    revert h
    cases lkB k b.boxes with
    | none => cases lkB k b1.boxes <;> exact fun h => h
    | some bs =>
      cases lkB k b1.boxes with
      | none => exact fun h => h
      | some cs =>
        intro h
        refine ⟨h.1, fun j c hc => ?_⟩
        rw [List.any_cons, h1 j]
        exact h.2 j c hc
  cases q with
  | slot u sh => exact other (fun _ => rfl) rfl
  | slotR u sh => exact other (fun _ => rfl) rfl
  | cell k' i sh =>
    cases hk : keqb k k' with
    | false => exact other (fun j => by simp [Pl.isCell, hk]) (by simp only [Pl.put, lkB_set, hk])
    | true =>
      have e := (keqb_iff k k').1 hk
      subst e
      simp only [Pl.put, lkB_set, hk]
      revert h
      cases lkB k b.boxes with
      | none => cases lkB k b1.boxes <;> exact fun h => h
      | some bs =>
        cases lkB k b1.boxes with
        | none => exact fun h => h
        | some cs =>
          intro h
          simp only [Option.map_some]
          refine ⟨by rw [lset_eq]; simpa using h.1, fun j c hc => ?_⟩
          rw [lset_eq] at hc
          rw [List.any_cons]
          by_cases hj : j = i
          · subst hj
            left
            have hlt : j < cs.length := by
              have := (List.getElem?_eq_some_iff.1 hc).1
              simpa using this
            rw [List.getElem?_set_self hlt] at hc
            cases hc
            exact ⟨by simp [Pl.isCell, hk], hq j sh rfl⟩
          · rw [List.getElem?_set_ne (Ne.symm hj)] at hc
            have : Pl.isCell k j (.cell k i sh) = false := by simp [Pl.isCell, hj]
            rw [this]
            exact h.2 j c hc
def CellOf (p : PSE) (k : Key) (j : Nat) (c : E) : Prop := ∃ cs c0, lkB k p.boxes = some cs ∧ cs[j]? = some c0 ∧ cE c = cE c0
theorem Pl.get_cell {k : Key} {j : Nat} {sh : Sh} {p : PSE} {x : sh.T} (h : (Pl.cell k j sh).get p = some x) : CellOf p k j (sh.inst x) := by
  simp only [Pl.get] at h
  split at h
  · rename_i cs hcs
    split at h
    · rename_i c hc
      exact ⟨cs, c, hcs, hc, Sh.mat_eq h⟩
    · cases h
  · cases h
theorem instV_box {p : PSE} (k : Key) : ∀ (l : List Pl) (y : VT l) (b : PSE), matV l p = some y → CellsAs l k (CellOf p k) (lkB k b.boxes) (lkB k (instV l y b).boxes)
  | [], _, b, _ => by
    simp only [instV, CellsAs]
    cases lkB k b.boxes with
    | none => trivial
    | some bs => exact ⟨rfl, fun j c hc => .inr ⟨rfl, hc⟩⟩
  | [q], y, b, h => by
    have h0 : CellsAs [] k (CellOf p k) (lkB k b.boxes) (lkB k b.boxes) := instV_box k [] () b rfl
    exact CellsAs.step h0 fun j sh e => by subst e; exact Pl.get_cell h
  | q :: q' :: r, y, b, h => by
    simp only [matV] at h
    split at h
    · rename_i x ys h1 h2
      cases h
      exact CellsAs.step (instV_box k (q' :: r) ys b h2) fun j sh e => by subst e; exact Pl.get_cell h1
    · cases h
theorem instV_box' (k : Key) : ∀ (l : List Pl) (y : VT l) (b : PSE), CellsAs l k (fun _ _ => True) (lkB k b.boxes) (lkB k (instV l y b).boxes)
  | [], _, b => by
    simp only [instV, CellsAs]
    cases lkB k b.boxes with
    | none => trivial
    | some bs => exact ⟨rfl, fun j c hc => .inr ⟨rfl, hc⟩⟩
  | [q], y, b => by
    have h0 : CellsAs [] k (fun _ _ => True) (lkB k b.boxes) (lkB k b.boxes) := instV_box' k [] () b
    exact CellsAs.step h0 fun j sh e => trivial
  | q :: q' :: r, y, b => CellsAs.step (instV_box' k (q' :: r) y.2 b) fun j sh e => trivial
theorem Pl.put_frz (q : Pl) (x : q.T) (b : PSE) : (q.put x b).frz = b.frz ∧ (q.put x b).dirty = b.dirty := by cases q <;> exact ⟨rfl, rfl⟩
theorem instV_frz : ∀ (l : List Pl) (y : VT l) (b : PSE), (instV l y b).frz = b.frz ∧ (instV l y b).dirty = b.dirty
  | [], _, b => ⟨rfl, rfl⟩
  | [q], y, b => Pl.put_frz q y b
  | q :: q' :: r, y, b => by
    simp only [instV]
    obtain ⟨h1, h2⟩ := Pl.put_frz q y.1 (instV (q' :: r) y.2 b)
    obtain ⟨h3, h4⟩ := instV_frz (q' :: r) y.2 b
    exact ⟨h1.trans h3, h2.trans h4⟩
end Go.Ve
/- Code: the typed evaluator, loops included; what it gives holds of the code. -/
namespace Go.Ve
open Go.Vs
/-! ## What a loop keeps -/
structure LRec where
  live : List Nat
  lbox : List Key
  vs : List Pl
structure LoopRec where
  head : LRec
  exits : List (Ex × LRec)
def isDead : E → Bool
  | .dead => true
  | _ => false
def usC (a c : E) : Bool := isDead a || (usable a && usable c)
def usCs : List E → List E → Bool
  | [], [] => true
  | a :: as, c :: cs => usC a c && usCs as cs
  | _, _ => false
def usS (v u : SVE) : Bool :=
  match v, u with
  | .undef, _ => true
  | .one a, .one c => usC a c
  | .agg as, .agg cs => usCs as cs
  | _, _ => false
def usB (l : List Pl) (d : Dirty) (k : Key) : Nat → List E → List E → Bool
  | _, [], [] => true
  | j, a :: as, c :: cs => (l.any (Pl.isCell k j) || (!part (.box k) j d && usC a c)) && usB l d k (j + 1) as cs
  | _, _, _ => false
/-- the base of a place: what of h is kept -/
def base (A : List SVE) (L : LRec) (h : PSE) : PSE := { finE (stOf A h) L.live L.lbox with dirty := [] }
def fitSlots (l : List Pl) (d : Dirty) (p : PSE) (b : List (Nat × SVE)) : Bool := b.all fun x => l.any (Pl.isSlot x.1) || (!tch (.tmp x.1) d && usS x.2 (lkT x.1 p.slots))
def fitBoxes (l : List Pl) (d : Dirty) (p : PSE) (b : List (Key × List E)) : Bool := b.all fun x => match lkB x.1 p.boxes with
  | some cs => !whole (.box x.1) d && usB l d x.1 0 x.2 cs
  | none => false
/-- the unmarked rest of p is the base's; the marked places are read -/
def fit (A : List SVE) (inb : List Key) (L : LRec) (b p : PSE) : Option (VT L.vs) :=
  let bk := b.boxes.map (·.1)
  let p1 := finE (stOf A p) (p.slots.map (·.1)) bk
  match decide (p.frz = b.frz) && okBk A inb bk && fitSlots L.vs p.dirty p1 b.slots && fitBoxes L.vs p.dirty p1 b.boxes with
  | true => matV L.vs p1
  | false => none
theorem usC_wk {z a c : E} (h : usC a c = true) (h1 : WkE z a) (h2 : WkE z c) : WkC (cE c) (cE a) := by
  simp only [usC, Bool.or_eq_true, Bool.and_eq_true] at h
  rcases h with h | ⟨h, h'⟩
  · cases a <;> first | (cases h; done) | exact .inr rfl
  · rw [usable_eq h1 h2 h h']; exact .inl rfl
theorem usCs_wk : ∀ {zs as cs : List E}, usCs as cs = true → All2 WkE zs as → All2 WkE zs cs → All2 WkC (cEs cs) (cEs as)
  | [], [], [], _, _, _ => trivial
  | z :: zs, a :: as, c :: cs, h, h1, h2 => by
    simp only [usCs, Bool.and_eq_true] at h
    exact ⟨usC_wk h.1 h1.1 h2.1, usCs_wk h.2 h1.2 h2.2⟩
  | [], _ :: _, _, _, h1, _ => h1.elim
  | _ :: _, [], _, _, h1, _ => h1.elim
  | [], [], _ :: _, _, _, h2 => h2.elim
  | _ :: _, _ :: _, [], _, _, h2 => h2.elim
theorem usS_wk {z v u : SVE} (h : usS v u = true) (h1 : WkS z v) (h2 : WkS z u) : WkSV (cSV u) (cSV v) := by
  unfold usS at h
  split at h
  · cases u <;> trivial
  · cases z with
    | one z => exact usC_wk h h1 h2
    | _ => exact h1.elim
  · cases z with
    | agg z => exact usCs_wk h h1 h2
    | _ => exact h1.elim
  · cases h
theorem usB_len {l : List Pl} {d : Dirty} {k : Key} : ∀ {as cs : List E} {j : Nat}, usB l d k j as cs = true → as.length = cs.length
  | [], [], _, _ => rfl
  | a :: as, c :: cs, j, h => by
    simp only [usB, Bool.and_eq_true] at h
    simp [usB_len h.2]
  | [], _ :: _, _, h => by cases h
  | _ :: _, [], _, h => by cases h
theorem usB_get {l : List Pl} {d : Dirty} {k : Key} : ∀ {as cs : List E} {j i : Nat} {a c : E}, usB l d k j as cs = true → as[i]? = some a → cs[i]? = some c → l.any (Pl.isCell k (j + i)) = true ∨ (part (.box k) (j + i) d = false ∧ usC a c = true)
  | a :: as, c :: cs, j, 0, x, y, h, hx, hy => by
    simp only [usB, Bool.and_eq_true, Bool.or_eq_true, Bool.not_eq_true'] at h
    simp only [List.getElem?_cons_zero, Option.some.injEq] at hx hy
    subst hx hy
    exact h.1
  | a :: as, c :: cs, j, i + 1, x, y, h, hx, hy => by
    simp only [usB, Bool.and_eq_true] at h
    rw [show j + (i + 1) = j + 1 + i by omega]
    exact usB_get h.2 (by simpa using hx) (by simpa using hy)
  | [], [], _, _, _, _, _, hx, _ => by simp at hx
  | [], _ :: _, _, _, _, _, h, _, _ => by cases h
  | _ :: _, [], _, _, _, _, h, _, _ => by cases h
theorem lkT_mem {t : Nat} : ∀ {l : List (Nat × SVE)}, lkT t l = .undef ∨ ∃ v, (t, v) ∈ l ∧ lkT t l = v
  | [] => .inl rfl
  | (u, x) :: r => by
    simp only [lkT]
    cases h : t == u with
    | true => have e : t = u := by simpa using h
              subst e; exact .inr ⟨x, by simp, rfl⟩
    | false => rcases lkT_mem (t := t) (l := r) with h | ⟨v, h1, h2⟩
               · exact .inl h
               · exact .inr ⟨v, List.mem_cons_of_mem _ h1, h2⟩
theorem lkB_mem {k : Key} : ∀ {l : List (Key × List E)} {cs : List E}, lkB k l = some cs → (k, cs) ∈ l
  | (u, x) :: r, cs, h => by
    simp only [lkB] at h
    split at h
    · rename_i hk; cases h; rw [(keqb_iff k u).1 hk]; simp
    · exact List.mem_cons_of_mem _ (lkB_mem h)
theorem lkB_none {k : Key} : ∀ {l : List (Key × List E)}, lkB k l = none → k ∉ l.map (·.1)
  | [], _ => by simp
  | (u, x) :: r, h => by
    simp only [lkB] at h
    split at h
    · cases h
    · rename_i hk
      simp only [List.map_cons, List.mem_cons, not_or]
      refine ⟨fun e => ?_, lkB_none h⟩
      rw [(keqb_iff k u).2 e] at hk
      cases hk
section
variable {K : Ctx} {A : List SVE} {inb : List Key} {a : Act} {w : World}
/-- what is fitted holds -/
theorem fit_rel (hF : FOK K A inb) {L : LRec} {h b p : PSE} {y : VT L.vs} (hk : Keep p.dirty (stOf A h) (stOf A p))
    (hs : ∀ t, L.vs.any (Pl.isSlot t) = false → WkS (lkT t h.slots) (lkT t b.slots))
    (hb : ∀ k bs, lkB k b.boxes = some bs → ∃ cs, lkB k h.boxes = some cs ∧ cs.length = bs.length ∧ ∀ j, L.vs.any (Pl.isCell k j) = false → ∀ c, bs[j]? = some c → ∃ c0, cs[j]? = some c0 ∧ WkE c0 c)
    (hfit : fit A inb L b p = some y) (hr : PRel K (cPS A p) a w) : PRel K (cPS A (instV L.vs y b)) a w := by
  unfold fit at hfit
  generalize hbk : b.boxes.map (·.1) = bk at hfit
  simp only at hfit
  split at hfit
  · rename_i hc
    simp only [Bool.and_eq_true, decide_eq_true_eq] at hc
    obtain ⟨⟨⟨hfrz, hok⟩, h3⟩, h4⟩ := hc
    have hr1 := PRel.finE hF hok (p.slots.map (·.1)) hr
    have hk1 : Keep p.dirty (stOf A h) (stOf A (finE (stOf A p) (p.slots.map (·.1)) bk)) := Keep.trans hk (finE_keep A _ (isBox_stOf A p) _ _ _)
    have hfr : (finE (stOf A p) (p.slots.map (·.1)) bk).frz = p.frz := rfl
    have hnone : ∀ k, lkB k b.boxes = none → lkB k (finE (stOf A p) (p.slots.map (·.1)) bk).boxes = none := by
      intro k hn
      simp only [finE]
      rw [lkB_finBoxes, if_neg]
      rw [← hbk]
      exact lkB_none hn
    generalize hp1 : finE (stOf A p) (p.slots.map (·.1)) bk = p1 at *
    have hmat := hfit
    refine Rel.toPRel hF.size hr1 (by rw [(instV_frz L.vs y b).1, hfr, hfrz]) (fun t => ?_) fun k => ?_
    · rcases instV_slot L.vs y b hmat t with ⟨_, h2⟩ | ⟨h1, h2⟩
      · rw [h2]
        cases hv : lkT t p1.slots with
        | one c => exact .inl rfl
        | agg cs => exact WkC.all_refl _
        | tup vs => exact All2.same (R := fun p q : Bool × List C => p.1 = q.1 ∧ All2 WkC p.2 q.2) (fun p => ⟨rfl, WkC.all_refl _⟩) _
        | undef => trivial
      · rw [h2]
        rcases lkT_mem (t := t) (l := b.slots) with hu | ⟨v, hm, hv⟩
        · rw [hu]; trivial
        · have := List.all_eq_true.1 h3 (t, v) hm
          simp only [h1, Bool.false_or, Bool.and_eq_true, Bool.not_eq_true'] at this
          obtain ⟨g1, g2⟩ := this
          have e1 := hk1.1 t g1
          rw [stOf_tmp, stOf_tmp] at e1
          have e2 := hs t h1
          rw [hv] at e2 ⊢
          exact usS_wk g2 e2 e1
    · have hib := instV_box k L.vs y b hmat
      cases hbb : lkB k b.boxes with
      | none =>
        rw [hbb] at hib
        rw [hnone k hbb]
        cases hi : lkB k (instV L.vs y b).boxes with
        | none => trivial
        | some cs => rw [hi] at hib; exact hib.elim
      | some bs =>
        rw [hbb] at hib
        have hm := lkB_mem hbb
        have := List.all_eq_true.1 h4 (k, bs) hm
        simp only at this
        cases hpb : lkB k p1.boxes with
        | none => rw [hpb] at this; cases this
        | some cs =>
          rw [hpb] at this
          simp only [Bool.and_eq_true, Bool.not_eq_true'] at this
          obtain ⟨g1, g2⟩ := this
          cases hi : lkB k (instV L.vs y b).boxes with
          | none => rw [hi] at hib; exact hib.elim
          | some ds =>
            rw [hi] at hib
            obtain ⟨f1, f2⟩ := hib
            have hlen := usB_len g2
            refine All2.of_get (by simp only [cEs_length]; omega) fun j x z hx hz => ?_
            simp only [cEs, List.getElem?_map] at hx hz
            cases hdj : ds[j]? with
            | none => rw [hdj] at hz; cases hz
            | some c' =>
              rw [hdj] at hz
              cases hz
              cases hcj : cs[j]? with
              | none => rw [hcj] at hx; cases hx
              | some c0 =>
                rw [hcj] at hx
                cases hx
                rcases f2 j c' hdj with ⟨_, cs1, c1, e1, e2, e3⟩ | ⟨e1, e2⟩
                · rw [hpb] at e1
                  cases e1
                  rw [hcj] at e2
                  cases e2
                  exact .inl e3
                · have hu := usB_get g2 e2 hcj
                  rw [Nat.zero_add] at hu
                  rcases hu with hu | ⟨hu1, hu2⟩
                  · rw [e1] at hu; cases hu
                  · obtain ⟨hs0, q1, q2, q3⟩ := hb k bs hbb
                    obtain ⟨x0, x1, x2⟩ := q3 j e1 c' e2
                    have e4 := hk1.2 k g1
                    rw [stOf_box, stOf_box, q1, hpb] at e4
                    rcases e4 with e4 | ⟨as, as', r1, r2, r3, r4⟩
                    · cases e4
                    · cases r1
                      cases r2
                      obtain ⟨z0, z1, z2⟩ := r4 j hu1 c0 hcj
                      rw [x1] at z1
                      cases z1
                      exact usC_wk hu2 x2 z2
  · cases hfit
/-- the base keeps -/
theorem base_slot (L : LRec) (h : PSE) (t : Nat) : WkS (lkT t h.slots) (lkT t (base A L h).slots) := by
  have := (finE_keep A (stOf A h) (isBox_stOf A h) L.live L.lbox []).1 t rfl
  rw [stOf_tmp, stOf_tmp] at this
  exact this
theorem base_box (L : LRec) (h : PSE) (k : Key) (bs : List E) (hk : lkB k (base A L h).boxes = some bs) : ∃ cs, lkB k h.boxes = some cs ∧ cs.length = bs.length ∧ ∀ (j : Nat) c, bs[j]? = some c → ∃ c0, cs[j]? = some c0 ∧ WkE c0 c := by
  have := (finE_keep A (stOf A h) (isBox_stOf A h) L.live L.lbox []).2 k rfl
  rw [stOf_box, stOf_box] at this
  have hk' : lkB k (finE (stOf A h) L.live L.lbox).boxes = some bs := hk
  rw [hk'] at this
  rcases this with h | ⟨cs, cs', g1, g2, g3, g4⟩
  · cases h
  · cases g2
    cases hh : lkB k h.boxes with
    | none => rw [hh] at g1; cases g1
    | some x => rw [hh] at g1; cases g1; exact ⟨_, rfl, g3, fun j c hc => g4 j rfl c hc⟩
/-- a place of the head that an exit keeps is marked there too -/
def covers (H L : LRec) : Bool := H.vs.all fun q => match q with
  | .slot t _ | .slotR t _ => L.vs.any (Pl.isSlot t) || !L.live.contains t
  | .cell k j _ => L.vs.any (Pl.isCell k j) || !L.lbox.contains k
theorem covers_slot {H L : LRec} (h : covers H L = true) {t : Nat} (hl : L.vs.any (Pl.isSlot t) = false) (ht : t ∈ L.live) : H.vs.any (Pl.isSlot t) = false := by
  cases hh : H.vs.any (Pl.isSlot t) with
  | false => rfl
  | true =>
    obtain ⟨q, hq, hqt⟩ := List.any_eq_true.1 hh
    have := List.all_eq_true.1 h q hq
    cases q with
    | slot u _ => have e : t = u := by simpa [Pl.isSlot] using hqt
                  subst e; simp [hl, ht] at this
    | slotR u _ => have e : t = u := by simpa [Pl.isSlot] using hqt
                   subst e; simp [hl, ht] at this
    | cell k j _ => cases hqt
theorem covers_cell {H L : LRec} (h : covers H L = true) {k : Key} {j : Nat} (hl : L.vs.any (Pl.isCell k j) = false) (hk : k ∈ L.lbox) : H.vs.any (Pl.isCell k j) = false := by
  cases hh : H.vs.any (Pl.isCell k j) with
  | false => rfl
  | true =>
    obtain ⟨q, hq, hqt⟩ := List.any_eq_true.1 hh
    have := List.all_eq_true.1 h q hq
    cases q with
    | slot u _ => cases hqt
    | slotR u _ => cases hqt
    | cell k' i _ =>
      simp only [Pl.isCell, Bool.and_eq_true, beq_iff_eq] at hqt
      obtain ⟨e1, rfl⟩ := hqt
      have e1 := (keqb_iff k k').1 e1
      subst e1
      simp [hl, hk] at this
theorem base_live {L : LRec} {h : PSE} {t : Nat} (ht : t ∉ L.live) : lkT t (base A L h).slots = .undef := by
  show lkT t (finSlotsE (stOf A h) L.lbox L.live) = _
  rw [lkT_finSlots, if_neg ht]
theorem base_lbox {L : LRec} {h : PSE} {k : Key} {bs : List E} (hk : lkB k (base A L h).boxes = some bs) : k ∈ L.lbox := by
  have hk : lkB k (finBoxesE (stOf A h) L.lbox L.lbox) = some bs := hk
  rw [lkB_finBoxes] at hk
  split at hk
  · assumption
  · cases hk
/-- fitting a place of a loop whose head is (H, x) -/
theorem fit_loop (hF : FOK K A inb) {H L : LRec} (hc : covers H L = true) {h p : PSE} {x : VT H.vs} {y : VT L.vs} (hk : Keep p.dirty (stOf A (instV H.vs x h)) (stOf A p))
    (hfit : fit A inb L (base A L h) p = some y) (hr : PRel K (cPS A p) a w) : PRel K (cPS A (instV L.vs y (base A L h))) a w := by
  refine fit_rel hF hk (fun t hl => ?_) (fun k bs hbs => ?_) hfit hr
  · by_cases ht : t ∈ L.live
    · rw [instV_slot' H.vs x h t (covers_slot hc hl ht)]
      exact base_slot L h t
    · rw [base_live ht]; trivial
  · have hkl := base_lbox hbs
    obtain ⟨cs, h1, h2, h3⟩ := base_box L h k bs hbs
    have hi := instV_box' k H.vs x h
    rw [h1] at hi
    cases hx : lkB k (instV H.vs x h).boxes with
    | none => rw [hx] at hi; exact hi.elim
    | some ds =>
      rw [hx] at hi
      refine ⟨ds, rfl, hi.1.symm.trans h2, fun j hl c hc' => ?_⟩
      obtain ⟨c0, g1, g2⟩ := h3 j c hc'
      have hj : j < ds.length := by rw [← hi.1]; exact (List.getElem?_eq_some_iff.1 g1).1
      rcases hi.2 j ds[j] (List.getElem?_eq_getElem hj) with ⟨f1, _⟩ | ⟨_, f2⟩
      · rw [covers_cell hc hl hkl] at f1; cases f1
      · rw [g1] at f2
        cases f2
        exact ⟨_, List.getElem?_eq_getElem hj, g2⟩
theorem fit_head (hF : FOK K A inb) {H : LRec} {h p : PSE} {x : VT H.vs} {y : VT H.vs} (hk : Keep p.dirty (stOf A (instV H.vs x h)) (stOf A p))
    (hfit : fit A inb H h p = some y) (hr : PRel K (cPS A p) a w) : PRel K (cPS A (instV H.vs y h)) a w := by
  refine fit_rel hF hk (fun t hl => ?_) (fun k bs hbs => ?_) hfit hr
  · rw [instV_slot' H.vs x h t hl]; exact WkS.same _
  · have hi := instV_box' k H.vs x h
    rw [hbs] at hi
    cases hx : lkB k (instV H.vs x h).boxes with
    | none => rw [hx] at hi; exact hi.elim
    | some ds =>
      rw [hx] at hi
      refine ⟨ds, rfl, hi.1.symm, fun j hl c hc' => ?_⟩
      have hj : j < ds.length := by rw [← hi.1]; exact (List.getElem?_eq_some_iff.1 hc').1
      rcases hi.2 j ds[j] (List.getElem?_eq_getElem hj) with ⟨f1, _⟩ | ⟨_, f2⟩
      · rw [hl] at f1; cases f1
      · rw [hc'] at f2
        cases f2
        exact ⟨_, List.getElem?_eq_getElem hj, WkE.same _⟩
end
/-! ## Going round -/
def iterN {σ ρ : Type} (f : σ → Option (σ ⊕ ρ)) : Nat → σ → Option ρ
  | 0, _ => none
  | n + 1, x => match f x with
    | some (.inl y) => iterN f n y
    | some (.inr z) => some z
    | none => none
def fuel : Nat := 340282366920938463463374607431768211456
def loopR {σ ρ : Type} (f : σ → Option (σ ⊕ ρ)) (x : σ) : Option ρ := iterN f fuel x
def ExT : List (Ex × LRec) → Type
  | [] => Unit
  | e :: r => match r with
    | [] => VT e.2.vs
    | e' :: r => VT e.2.vs ⊕ ExT (e' :: r)
def ExT.dflt : (l : List (Ex × LRec)) → ExT l
  | [] => ()
  | [e] => VT.dflt e.2.vs
  | e :: _ :: _ => .inl (VT.dflt e.2.vs)
def marks : List Pl → Dirty
  | [] => []
  | .slot t _ :: r => (.tmp t, none) :: marks r
  | .slotR t _ :: r => (.tmp t, none) :: marks r
  | .cell k j _ :: r => (.box k, some (List.replicate j false ++ [true])) :: marks r
def leafOf (A : List SVE) (h : PSE) (d : Dirty) (L : LRec) (y : VT L.vs) : PSE := { instV L.vs y (base A L h) with dirty := marks L.vs ++ d }
def exq : Ex → Ex → Bool
  | .normal, .normal => true
  | .ret, .ret => true
  | .exit i, .exit j => i == j
  | _, _ => false
def classX (A : List SVE) (inb : List Key) (H : LRec) (h p : PSE) (e : Ex) : (l : List (Ex × LRec)) → Option (ExT l)
  | [] => none
  | [x] => match exq e x.1 && covers H x.2 with
    | true => fit A inb x.2 (base A x.2 h) p
    | false => none
  | x :: y :: r => match exq e x.1 with
    | true => match covers H x.2 with
      | true => match fit A inb x.2 (base A x.2 h) p with
        | some v => some (.inl v)
        | none => none
      | false => none
    | false => match classX A inb H h p e (y :: r) with
      | some v => some (.inr v)
      | none => none
def classL (A : List SVE) (inb : List Key) (R : LoopRec) (h : PSE) (x : Ex × PSE) : Tr (VT R.head.vs ⊕ ExT R.exits) :=
  match x.1 with
  | .normal => match fit A inb R.head h x.2 with
    | some y => .leaf (.inl y)
    | none => .fail
  | e => match classX A inb R.head h x.2 e R.exits with
    | some y => .leaf (.inr y)
    | none => .fail
def dispX (A : List SVE) (h : PSE) (d : Dirty) : (l : List (Ex × LRec)) → ExT l → Tr (Ex × PSE)
  | [], _ => .fail
  | [x], y => .leaf (x.1, leafOf A h d x.2 y)
  | x :: x' :: r, s => .sum s (fun y => .leaf (x.1, leafOf A h d x.2 y)) fun z => dispX A h d (x' :: r) z
/-! ## The evaluator -/
structure VFE where
  cfg : ECfg
  keys : List Nat
  bkeys : List Key
def nl : Code → Nat
  | .seq a b => nl a + nl b
  | .cond _ a b => nl a + nl b
  | .block _ b => nl b
  | .loop b => nl b + 1
  | .scope b => nl b
  | _ => 0
def condE (c : Operand) (p : PSE) : Option E :=
  match c with
  | .tmp t => match lkT t p.slots with
    | .one c => some c
    | _ => none
  | .const (.bool b) => some (kb b)
  | _ => none
def addD (d : Dirty) (x : Ex × PSE) : Ex × PSE := (x.1, { x.2 with dirty := x.2.dirty ++ d })
def fresh (p : PSE) : PSE := { p with dirty := [] }
def endR (F : VFE) (ops : Array Oper) (draw : Bool) (x : ESt × List (List Res × List Res)) : Tr (Ex × PSE) :=
  match draw with
  | false => .leaf (.normal, finE x.1 F.keys F.bkeys)
  | true => match drawOk ops x.2 with
    | true => .leaf (.normal, finE x.1 F.keys F.bkeys)
    | false => .fail
def outOf (id : Nat) (x : Ex × PSE) : Ex × PSE :=
  match x.1 with
  | .exit i => match i == id with
    | true => (.normal, x.2)
    | false => x
  | _ => x
def evC (F : VFE) (A : List SVE) (inb : List Key) (tbl : Nat → Option LoopRec) : Code → Nat → PSE → Tr (Ex × PSE)
  | .skip, _, p => .leaf (.normal, p)
  | .exit id, _, p => .leaf (.exit id, p)
  | .ret, _, p => .leaf (.ret, p)
  | .region _ ops draw, _, p => (joinT A inb ((runE F.cfg ops ops.toList (stOf A (fresh p))).bind (endR F ops draw))).map (addD p.dirty)
  | .seq a b, n, p => (evC F A inb tbl a n p).bind fun x => match x.1 with
    | .normal => evC F A inb tbl b (n + nl a) x.2
    | _ => .leaf x
  | .cond c a b, n, p => match condE c p with
    | some .tt => evC F A inb tbl a n p
    | some .ff => evC F A inb tbl b (n + nl a) p
    | some (.b x) => (joinT A inb (.br x (evC F A inb tbl a n (fresh p)) (evC F A inb tbl b (n + nl a) (fresh p)))).map (addD p.dirty)
    | _ => .fail
  | .block id b, n, p => (joinT A inb ((evC F A inb tbl b n (fresh p)).map (outOf id))).map (addD p.dirty)
  | .scope b, n, p => evC F A inb tbl b n p
  | .loop b, n, p => match tbl n with
    | some R =>
      let h := base A R.head p
      match okBk A inb R.head.lbox, matV R.head.vs h with
      | true, some x0 => .call (ExT.dflt R.exits) (loopR (fun x => ((evC F A inb tbl b (n + 1) (instV R.head.vs x h)).bind (classL A inb R h)).run) x0) (dispX A h p.dirty R.exits)
      | _, _ => .fail
    | none => .fail
  | _, _, _ => .fail
end Go.Ve
/- What the typed evaluator gives holds of the code. -/
namespace Go.Ve
open Go.Vs
theorem all_map {α β : Type} (t : Tr α) (f : α → β) (Q : β → Prop) : (t.map f).all Q ↔ t.all fun a => Q (f a) := by
  induction t with
  | leaf a => rfl
  | fail => exact Iff.rfl
  | br c t e iht ihe => simp only [Tr.map, Tr.all, iht, ihe]
  | call d o k ih => simp only [Tr.map, Tr.all, ih]
  | sum o k k' ih ih' => simp only [Tr.map, Tr.all, ih, ih']
theorem all_bind {α β : Type} (t : Tr α) (f : α → Tr β) (Q : β → Prop) : (t.bind f).all Q ↔ t.all fun a => (f a).all Q := by
  induction t with
  | leaf a => rfl
  | fail => exact Iff.rfl
  | br c t e iht ihe => simp only [Tr.bind, Tr.all, iht, ihe]
  | call d o k ih => simp only [Tr.bind, Tr.all, ih]
  | sum o k k' ih ih' => simp only [Tr.bind, Tr.all, ih, ih']
theorem Keep.moreR {d l : Dirty} {s s' : ESt} (h : Keep d s s') : Keep (d ++ l) s s' := by
  refine ⟨fun t ht => h.1 t ?_, fun k hk => ?_⟩
  · rw [tch_append, Bool.or_eq_false_iff] at ht; exact ht.1
  · rw [whole_append, Bool.or_eq_false_iff] at hk
    rcases h.2 k hk.1 with h | ⟨cs, cs', g1, g2, g3, g4⟩
    · exact .inl h
    · refine .inr ⟨cs, cs', g1, g2, g3, fun j hj => g4 j ?_⟩
      rw [part_append, Bool.or_eq_false_iff] at hj
      exact hj.1
theorem Keep.self (A : List SVE) (p : PSE) (d : Dirty) : Keep d (stOf A p) (stOf A p) := Keep.of_get (isBox_stOf A p) (fun _ _ _ => rfl) fun k _ _ => WkB.same (isBox_stOf A p k)
theorem KeepL.self (A : List SVE) (p : PSE) (e : Ex) : KeepL (stOf A p) A (e, p) := ⟨⟨[], rfl⟩, Keep.self A p _⟩
theorem KeepL.addD {A : List SVE} {p : PSE} {x : Ex × PSE} (h : KeepL (stOf A (fresh p)) A x) : KeepL (stOf A p) A (Ve.addD p.dirty x) := ⟨⟨x.2.dirty, rfl⟩, Keep.moreR (l := p.dirty) h.2⟩
theorem KeepL.trans {A : List SVE} {p p1 : PSE} {e : Ex} {x : Ex × PSE} (h : KeepL (stOf A p) A (e, p1)) (h' : KeepL (stOf A p1) A x) : KeepL (stOf A p) A x := by
  obtain ⟨⟨l1, e1⟩, k1⟩ := h
  obtain ⟨⟨l2, e2⟩, k2⟩ := h'
  have e2 : x.2.dirty = l2 ++ p1.dirty := e2
  have e1 : p1.dirty = l1 ++ p.dirty := e1
  refine ⟨⟨l2 ++ l1, by rw [e2, e1, List.append_assoc]; rfl⟩, Keep.trans ?_ k2⟩
  rw [e2]
  exact k1.more
theorem KeepL.outOf {s : ESt} {A : List SVE} {id : Nat} {x : Ex × PSE} (h : KeepL s A x) : KeepL s A (Ve.outOf id x) := by
  unfold Ve.outOf
  split
  · split
    · exact h
    · exact h
  · exact h
theorem marks_slot {l : List Pl} {d : Dirty} {t : Nat} (h : tch (.tmp t) (marks l ++ d) = false) : l.any (Pl.isSlot t) = false := by
  rw [tch_append, Bool.or_eq_false_iff] at h
  obtain ⟨h, _⟩ := h
  induction l with
  | nil => rfl
  | cons q l ih =>
    cases q with
    | slot u _ =>
      have h : (t == u || tch (.tmp t) (marks l)) = false := h
      rw [Bool.or_eq_false_iff] at h
      simp only [List.any_cons, Pl.isSlot, h.1, ih h.2]; rfl
    | slotR u _ =>
      have h : (t == u || tch (.tmp t) (marks l)) = false := h
      rw [Bool.or_eq_false_iff] at h
      simp only [List.any_cons, Pl.isSlot, h.1, ih h.2]; rfl
    | cell k j _ =>
      have h : (false || tch (.tmp t) (marks l)) = false := h
      rw [Bool.false_or] at h
      simp only [List.any_cons, Pl.isSlot, ih h]; rfl
theorem marks_cell {l : List Pl} {d : Dirty} {k : Key} {j : Nat} (h : part (.box k) j (marks l ++ d) = false) : l.any (Pl.isCell k j) = false := by
  rw [part_append, Bool.or_eq_false_iff] at h
  obtain ⟨h, _⟩ := h
  induction l with
  | nil => rfl
  | cons q l ih =>
    cases q with
    | slot u _ =>
      have h : ((false && true) || part (.box k) j (marks l)) = false := h
      simp only [Bool.false_and, Bool.false_or] at h
      simp only [List.any_cons, Pl.isCell, ih h]; rfl
    | slotR u _ =>
      have h : ((false && true) || part (.box k) j (marks l)) = false := h
      simp only [Bool.false_and, Bool.false_or] at h
      simp only [List.any_cons, Pl.isCell, ih h]; rfl
    | cell k' i _ =>
      have h : ((keqb k k' && (List.replicate i false ++ [true]).getD j false) || part (.box k) j (marks l)) = false := h
      rw [Bool.or_eq_false_iff] at h
      obtain ⟨h1, h2⟩ := h
      simp only [List.any_cons, Pl.isCell, ih h2, Bool.or_false]
      cases hk : keqb k k' with
      | false => rfl
      | true =>
        rw [hk, Bool.true_and] at h1
        cases hj : j == i with
        | false => rfl
        | true =>
          have e : j = i := by simpa using hj
          subst e
          rw [List.getD_eq_getElem?_getD, List.getElem?_append_right (by simp)] at h1
          simp at h1
theorem leafOf_keep (A : List SVE) (H L : LRec) (p : PSE) (y : VT L.vs) (e : Ex) : KeepL (stOf A p) A (e, leafOf A (base A H p) p.dirty L y) := by
  refine ⟨⟨marks L.vs, rfl⟩, fun t ht => ?_, fun k hk => ?_⟩
  · rw [stOf_tmp, stOf_tmp]
    have hl := marks_slot (l := L.vs) (d := p.dirty) ht
    show WkS (lkT t p.slots) (lkT t (instV L.vs y (base A L (base A H p))).slots)
    rw [instV_slot' L.vs y _ t hl]
    exact WkS.trans (base_slot H p t) (base_slot L _ t)
  · rw [stOf_box, stOf_box]
    show WkB k (marks L.vs ++ p.dirty) (match lkB k p.boxes with | some cs => .agg cs | none => .undef) (match lkB k (instV L.vs y (base A L (base A H p))).boxes with | some cs => .agg cs | none => .undef)
    have hi := instV_box' k L.vs y (base A L (base A H p))
    cases h2 : lkB k (base A L (base A H p)).boxes with
    | none =>
      rw [h2] at hi
      cases h3 : lkB k (instV L.vs y (base A L (base A H p))).boxes with
      | none => exact .inl rfl
      | some ds => rw [h3] at hi; exact hi.elim
    | some bs =>
      rw [h2] at hi
      cases h3 : lkB k (instV L.vs y (base A L (base A H p))).boxes with
      | none => rw [h3] at hi; exact hi.elim
      | some ds =>
        rw [h3] at hi
        obtain ⟨cs, f1, f2, f3⟩ := base_box L _ k bs h2
        obtain ⟨as, g1, g2, g3⟩ := base_box H p k cs f1
        rw [g1]
        refine .inr ⟨as, ds, rfl, rfl, by rw [g2, f2]; exact hi.1, fun j hj c hc => ?_⟩
        have hl := marks_cell (l := L.vs) (d := p.dirty) hj
        rcases hi.2 j c hc with ⟨e1, _⟩ | ⟨_, e2⟩
        · rw [hl] at e1; cases e1
        · obtain ⟨c1, q1, q2⟩ := f3 j c e2
          obtain ⟨c0, q3, q4⟩ := g3 j c1 q1
          exact ⟨c0, q3, WkE.trans q4 q2⟩
theorem dispX_keep (A : List SVE) (H : LRec) (p : PSE) : ∀ (l : List (Ex × LRec)) (z : ExT l), (dispX A (base A H p) p.dirty l z).each (KeepL (stOf A p) A)
  | [], _ => trivial
  | [x], y => leafOf_keep A H x.2 p y x.1
  | x :: x' :: r, _ => ⟨fun y => leafOf_keep A H x.2 p y x.1, fun z => dispX_keep A H p (x' :: r) z⟩
section
variable {K : Ctx} {F : VFE} {A : List SVE} {inb : List Key} {tbl : Nat → Option LoopRec}
theorem evC_keep (hF : FOK K A inb) : ∀ (c : Code) (n : Nat) (p : PSE), (evC F A inb tbl c n p).each (KeepL (stOf A p) A) := by
  intro c
  induction c with
  | skip => intro n p; exact KeepL.self A p _
  | exit id => intro n p; exact KeepL.self A p _
  | ret => intro n p; exact KeepL.self A p _
  | region id ops draw =>
    intro n p
    simp only [evC]
    rw [Tr.each_map]
    refine Tr.each_mono (fun x hx => KeepL.addD hx) (joinT_spec hF _ ?_).1
    rw [Tr.each_bind]
    refine Tr.each_mono ?_ (runE_step F.cfg ops ops.toList (stOf A (fresh p)) (isBox_stOf A (fresh p)))
    rintro ⟨s, fps⟩ ⟨hb, ha, l, hl, hk⟩
    have leaf : KeepL (stOf A (fresh p)) A (.normal, finE s F.keys F.bkeys) := ⟨⟨l, hl⟩, Keep.trans hk (finE_keep A s hb _ _ _)⟩
    unfold endR
    cases draw with
    | false => exact leaf
    | true =>
      simp only
      split
      · exact leaf
      · trivial
  | seq a b iha ihb =>
    intro n p
    simp only [evC]
    rw [Tr.each_bind]
    refine Tr.each_mono ?_ (iha n p)
    rintro ⟨e, p1⟩ h
    cases e with
    | normal => exact Tr.each_mono (fun x hx => KeepL.trans h hx) (ihb _ p1)
    | exit i => exact h
    | ret => exact h
  | cond c a b iha ihb =>
    intro n p
    simp only [evC]
    split
    · exact iha n p
    · exact ihb _ p
    · rename_i x _
      rw [Tr.each_map]
      exact Tr.each_mono (fun x hx => KeepL.addD hx) (joinT_spec hF (.br x (evC F A inb tbl a n (fresh p)) (evC F A inb tbl b (n + nl a) (fresh p))) ⟨iha n (fresh p), ihb _ (fresh p)⟩).1
    · trivial
  | block id b ih =>
    intro n p
    simp only [evC]
    rw [Tr.each_map]
    refine Tr.each_mono (fun x hx => KeepL.addD hx) (joinT_spec hF _ ?_).1
    rw [Tr.each_map]
    exact Tr.each_mono (fun x hx => KeepL.outOf hx) (ih n (fresh p))
  | scope b ih => intro n p; exact ih n p
  | loop b ih =>
    intro n p
    simp only [evC]
    split
    · split
      · intro z; exact dispX_keep A _ p _ z
      · trivial
    · trivial
  | _ => intro n p; exact trivial
def PostE (K : Ctx) (A : List SVE) (Q : Ex × PSE → Prop) (e : Exit) (a : Act) (w : World) : Prop := ∃ x, e = exOf x.1 ∧ Q x ∧ PRel K (cPS A x.2) a w
theorem PostE.reach {Q : Ex × PSE → Prop} {e : Exit} {a : Act} {w : World} (h : PostE K A (Reach K A Q) e a w) : PostE K A Q e a w := by
  obtain ⟨x, rfl, h1, h2⟩ := h
  obtain ⟨y, g1, g2, g3⟩ := h1 a w h2
  exact ⟨y, g1, g2, g3⟩
theorem iterN_step {σ ρ : Type} {f : σ → Option (σ ⊕ ρ)} {n : Nat} {x : σ} {z : ρ} (h : iterN f (n + 1) x = some z) : (∃ y, f x = some (.inl y) ∧ iterN f n y = some z) ∨ f x = some (.inr z) := by
  simp only [iterN] at h
  split at h
  · rename_i y hy; exact .inl ⟨y, hy, h⟩
  · rename_i z' hz; cases h; exact .inr hz
  · cases h
theorem classX_spec (hF : FOK K A inb) {H : LRec} {h p : PSE} {x : VT H.vs} {e : Ex} {d : Dirty} {a : Act} {w : World} (hk : Keep p.dirty (stOf A (instV H.vs x h)) (stOf A p)) (hr : PRel K (cPS A p) a w) : ∀ (l : List (Ex × LRec)) (z : ExT l), classX A inb H h p e l = some z →
    ∀ Q, (dispX A h d l z).all Q → ∃ q, Q (e, q) ∧ PRel K (cPS A q) a w := by
  have exq_eq : ∀ {e e' : Ex}, exq e e' = true → e = e' := by
    intro e e' h
    cases e <;> cases e' <;> first | rfl | (simp [exq] at h; done) | (simp [exq] at h; rw [h])
  intro l
  induction l with
  | nil => intro z hz; cases hz
  | cons y r ih =>
    intro z hz Q hQ
    cases r with
    | nil =>
      simp only [classX] at hz
      split at hz
      · rename_i hc
        simp only [Bool.and_eq_true] at hc
        have := exq_eq hc.1
        subst this
        exact ⟨_, hQ, fit_loop hF hc.2 hk hz hr⟩
      · cases hz
    | cons y' r =>
      simp only [classX] at hz
      split at hz
      · rename_i hc
        have := exq_eq hc
        subst this
        split at hz
        · rename_i hcv
          split at hz
          · rename_i v hv
            cases hz
            exact ⟨_, hQ.1 v rfl, fit_loop hF hcv hk hv hr⟩
          · cases hz
        · cases hz
      · split at hz
        · rename_i v hv
          cases hz
          exact ih v hv Q (hQ.2 v rfl)
        · cases hz
theorem evC_sound (hC : COK K.P F.cfg.c) (hN : K.N = F.cfg.N) (hmix : K.P.follows .mixedOrders = true) (hF : FOK K A inb) (hbk : okBk A inb F.bkeys = true) :
    ∀ (c : Code) (n : Nat) (p : PSE) (Q : Ex × PSE → Prop) (a : Act) (w : World), (evC F A inb tbl c n p).all Q → PRel K (cPS A p) a w → c.wp K.P (PostE K A Q) a w := by
  obtain ⟨hok, hin⟩ := hF.bk hbk
  intro c
  induction c with
  | skip => intro n p Q a w h hp; exact wp_skip ⟨(.normal, p), rfl, h, hp⟩
  | exit id => intro n p Q a w h hp; exact wp_exit ⟨(.exit id, p), rfl, h, hp⟩
  | ret => intro n p Q a w h hp; exact wp_ret ⟨(.ret, p), rfl, h, hp⟩
  | region id ops draw =>
    intro n p Q a w h hp
    simp only [evC] at h
    rw [all_map] at h
    have hkeep : ((runE F.cfg ops ops.toList (stOf A (fresh p))).bind (endR F ops draw)).each (KeepL (stOf A (fresh p)) A) := by
      rw [Tr.each_bind]
      refine Tr.each_mono ?_ (runE_step F.cfg ops ops.toList (stOf A (fresh p)) (isBox_stOf A (fresh p)))
      rintro ⟨s, fps⟩ ⟨hb, ha, l, hl, hk⟩
      have leaf : KeepL (stOf A (fresh p)) A (.normal, finE s F.keys F.bkeys) := ⟨⟨l, hl⟩, Keep.trans hk (finE_keep A s hb _ _ _)⟩
      unfold endR
      cases draw with
      | false => exact leaf
      | true =>
        simp only
        split
        · exact leaf
        · trivial
    have h1 := (joinT_spec hF _ hkeep).2 _ h
    rw [all_bind] at h1
    have h2 := Tr.all_and (Tr.all_and h1 (runE_sim F.cfg ops ops.toList (stOf A (fresh p)))) (Tr.each_box (runE_step F.cfg ops ops.toList (stOf A (fresh p)) (isBox_stOf A (fresh p))))
    obtain ⟨⟨s, fps⟩, _, ⟨h3, h4⟩, h5⟩ := (Tr.all_iff _ _).1 h2
    simp only at h3 h4 h5
    obtain ⟨fps', h4, hsub⟩ := h4
    obtain ⟨e1, e2⟩ := runBoth_spec F.cfg.c ops _ _ _ _ h4
    have hg : Vs.Good K (cSt (stOf A (fresh p))) a w := by rw [cSt_stOf]; exact hp.1
    have hend : (draw = true → drawOk ops fps = true) ∧ Reach K A (fun x => Q (addD p.dirty x)) (.normal, finE s F.keys F.bkeys) := by
      unfold endR at h3
      cases draw with
      | false => exact ⟨fun h => (by cases h), h3⟩
      | true =>
        simp only at h3
        split at h3
        · rename_i hd; exact ⟨fun _ => hd, h3⟩
        · exact h3.elim
    refine region_sim hC hN hmix e1 (fun hd => ?_) hg fun a' w' hg' => ?_
    · have := hend.1 hd
      simp only [drawOk, Bool.and_eq_true] at this
      refine ⟨?_, this.1⟩
      unfold orderOk
      rw [e2]
      exact hsub.pairs this.2
    · obtain ⟨y, g1, g2, g3⟩ := hend.2 a' w' (finE_rel h5.2.1 hF.size hok hin hg')
      exact ⟨addD p.dirty y, g1, g2, g3⟩
  | seq x y ihx ihy =>
    intro n p Q a w h hp
    simp only [evC] at h
    rw [all_bind] at h
    refine wp_seq (wp_mono (ihx n p _ a w h hp) ?_)
    rintro e a' w' ⟨⟨ex, p'⟩, rfl, hq, hp'⟩
    cases ex with
    | normal => exact ihy _ p' Q a' w' hq hp'
    | exit i => exact ⟨_, rfl, hq, hp'⟩
    | ret => exact ⟨_, rfl, hq, hp'⟩
  | cond c x y ihx ihy =>
    intro n p Q a w h hp
    have hcv : ∀ e, condE c p = some e → ∀ b, cE e = .d (.bool b) → a.eval c = .bool b := by
      intro e he b hb
      unfold condE at he
      split at he
      · rename_i t
        split at he
        · rename_i c' hl
          cases he
          obtain ⟨β, ω, Z, hr⟩ := hp.1
          have := hr.tmps t
          rw [cPS_tmp, hl] at this
          have h2 := this.2
          rw [hb] at h2
          exact h2
        · cases he
      · rename_i b'
        cases he
        have : b' = b := by cases b' <;> cases b <;> first | rfl | (simp [kb, cE] at hb)
        subst this
        rfl
      · cases he
    simp only [evC] at h
    split at h
    · rename_i he
      exact wp_cond_split (hcv _ he true rfl) (fun _ => ihx n p Q a w h hp) (fun hb => by cases hb)
    · rename_i he
      exact wp_cond_split (hcv _ he false rfl) (fun hb => by cases hb) (fun _ => ihy _ p Q a w h hp)
    · rename_i b he
      rw [all_map] at h
      have h1 := (joinT_spec (p0 := stOf A (fresh p)) hF (.br b (evC F A inb tbl x n (fresh p)) (evC F A inb tbl y (n + nl x) (fresh p))) ⟨evC_keep (F := F) (tbl := tbl) hF x n (fresh p), evC_keep (F := F) (tbl := tbl) hF y _ (fresh p)⟩).2 _ h
      have fin : ∀ e a w, PostE K A (Reach K A fun x => Q (addD p.dirty x)) e a w → PostE K A Q e a w := by
        intro e a w hh
        obtain ⟨z, g1, g2, g3⟩ := PostE.reach hh
        exact ⟨addD p.dirty z, g1, g2, g3⟩
      exact wp_cond_split (hcv _ he b rfl) (fun hb => wp_mono (ihx n (fresh p) _ a w (h1.1 hb) hp) fun e a' w' hh => fin e a' w' hh) (fun hb => wp_mono (ihy _ (fresh p) _ a w (h1.2 hb) hp) fun e a' w' hh => fin e a' w' hh)
    · exact h.elim
  | block id b ih =>
    intro n p Q a w h hp
    simp only [evC] at h
    rw [all_map] at h
    have hkeep : ((evC F A inb tbl b n (fresh p)).map (outOf id)).each (KeepL (stOf A (fresh p)) A) := by
      rw [Tr.each_map]
      exact Tr.each_mono (fun x hx => KeepL.outOf hx) (evC_keep hF b n (fresh p))
    have h1 := (joinT_spec hF _ hkeep).2 _ h
    rw [all_map] at h1
    refine wp_block (wp_mono (ih n (fresh p) _ a w h1 hp) ?_)
    rintro e a' w' ⟨⟨ex, p'⟩, rfl, hq, hp'⟩
    have hp2 : PRel K (cPS A (outOf id (ex, p')).2) a' w' := by
      unfold outOf
      cases ex with
      | exit i => simp only; split <;> exact hp'
      | _ => exact hp'
    obtain ⟨y, g1, g2, g3⟩ := hq a' w' hp2
    have fin : PostE K A Q (exOf (outOf id (ex, p')).1) a' w' := ⟨addD p.dirty y, g1, g2, g3⟩
    cases ex with
    | normal => exact fin
    | ret => exact fin
    | exit i =>
      show if i = id then PostE K A Q .normal a' w' else PostE K A Q (.exit i) a' w'
      by_cases hi : i = id
      · rw [if_pos hi]
        unfold outOf at fin
        simp only [hi, beq_self_eq_true] at fin
        exact fin
      · rw [if_neg hi]
        have : (i == id) = false := by simpa using hi
        unfold outOf at fin
        simp only [this] at fin
        exact fin
  | scope b ih =>
    intro n p Q a w h hp
    simp only [evC] at h
    refine wp_scope_straight (wp_mono (ih n p Q a w h hp) ?_)
    rintro e a' w' ⟨⟨ex, p'⟩, rfl, hq, hp'⟩
    cases ex <;> exact ⟨_, rfl, hq, hp'⟩
  | loop b ih =>
    intro n p Q a w h hp
    simp only [evC] at h
    split at h
    · rename_i R hR
      split at h
      · rename_i x0 hx hm
        obtain ⟨z, hz, hQ⟩ := h
        generalize hh : base A R.head p = hd at *
        have hp0 : PRel K (cPS A (instV R.head.vs x0 hd)) a w := by
          have h1 : PRel K (cPS A hd) a w := by rw [← hh]; exact PRel.finE (p := p) hF hx R.head.live hp
          refine Rel.toPRel hF.size h1 (instV_frz _ _ _).1 (fun t => ?_) fun k => ?_
          · rcases instV_slot R.head.vs x0 hd hm t with ⟨_, h2⟩ | ⟨_, h2⟩
            · rw [h2]
              cases lkT t hd.slots with
              | one c => exact .inl rfl
              | agg cs => exact WkC.all_refl _
              | tup vs => exact All2.same (R := fun p q : Bool × List C => p.1 = q.1 ∧ All2 WkC p.2 q.2) (fun p => ⟨rfl, WkC.all_refl _⟩) _
              | undef => trivial
            · rw [h2]
              cases lkT t hd.slots with
              | one c => exact .inl rfl
              | agg cs => exact WkC.all_refl _
              | tup vs => exact All2.same (R := fun p q : Bool × List C => p.1 = q.1 ∧ All2 WkC p.2 q.2) (fun p => ⟨rfl, WkC.all_refl _⟩) _
              | undef => trivial
          · have hi := instV_box k R.head.vs x0 hd hm
            cases h1 : lkB k hd.boxes with
            | none =>
              rw [h1] at hi
              cases h2 : lkB k (instV R.head.vs x0 hd).boxes with
              | none => trivial
              | some cs => rw [h2] at hi; exact hi.elim
            | some bs =>
              rw [h1] at hi
              cases h2 : lkB k (instV R.head.vs x0 hd).boxes with
              | none => rw [h2] at hi; exact hi.elim
              | some cs =>
                rw [h2] at hi
                refine All2.of_get (by simpa using hi.1) fun j u c hu hc => ?_
                simp only [cEs, List.getElem?_map] at hu hc
                cases hcj : cs[j]? with
                | none => rw [hcj] at hc; cases hc
                | some c1 =>
                  rw [hcj] at hc
                  cases hc
                  cases hbj : bs[j]? with
                  | none => rw [hbj] at hu; cases hu
                  | some c0 =>
                    rw [hbj] at hu
                    cases hu
                    rcases hi.2 j c1 hcj with ⟨_, cs', c2, e1, e2, e3⟩ | ⟨_, e2⟩
                    · rw [h1] at e1
                      cases e1
                      rw [hbj] at e2
                      cases e2
                      exact .inl e3
                    · rw [hbj] at e2; cases e2; exact .inl rfl
        intro fb k cs
        have key : ∀ (m : Nat) (x : VT R.head.vs) (a : Act) (w : World), iterN (fun x => ((evC F A inb tbl b (n + 1) (instV R.head.vs x hd)).bind (classL A inb R hd)).run) m x = some z → PRel K (cPS A (instV R.head.vs x hd)) a w →
            ∃ e a' w', PostE K A Q e a' w' ∧ Arrives K.P (lone (fb.at a (.code b :: .inLoop b :: k)) cs w) fb k cs e a' w' := by
          intro m
          induction m with
          | zero => intro x a w hi; cases hi
          | succ m ihm =>
            intro x a w hi hp1
            have hstep := iterN_step hi
            -- one round
            have round : ∀ o, ((evC F A inb tbl b (n + 1) (instV R.head.vs x hd)).bind (classL A inb R hd)).run = some o → b.wp K.P (PostE K A fun y => (classL A inb R hd y).all (fun v => v = o) ∧ KeepL (stOf A (instV R.head.vs x hd)) A y) a w := by
              intro o ho
              have h1 := (Tr.all_iff _ (fun v => v = o)).2 ⟨o, ho, rfl⟩
              rw [all_bind] at h1
              exact ih (n + 1) _ _ a w (Tr.all_and h1 (Tr.each_box (evC_keep hF b (n + 1) _))) hp1
            have exit : ∀ (ex : Ex) (p' : PSE) (o : VT R.head.vs ⊕ ExT R.exits) (a₁ : Act) (w₁ : World), ex ≠ .normal → (classL A inb R hd (ex, p')).all (fun v => v = o) → KeepL (stOf A (instV R.head.vs x hd)) A (ex, p') → PRel K (cPS A p') a₁ w₁ → ∃ z', o = .inr z' ∧ ∀ Q, (dispX A hd p.dirty R.exits z').all Q → ∃ q, Q (ex, q) ∧ PRel K (cPS A q) a₁ w₁ := by
              intro ex p' o a₁ w₁ hne hcl hkeep hp'
              have hcx : (match classX A inb R.head hd p' ex R.exits with | some y => Tr.leaf (Sum.inr y) | none => Tr.fail : Tr (VT R.head.vs ⊕ ExT R.exits)).all (fun v => v = o) := by
                cases ex with
                | normal => exact absurd rfl hne
                | _ => exact hcl
              split at hcx
              · rename_i z' hz'
                exact ⟨z', hcx.symm, classX_spec hF hkeep.2 hp' R.exits z' hz'⟩
              · exact hcx.elim
            rcases hstep with ⟨x', hs, hrest⟩ | hs
            · obtain ⟨e, a₁, w₁, ⟨⟨ex, p'⟩, rfl, ⟨hcl, hkeep⟩, hp'⟩, harr⟩ := round _ hs fb (.inLoop b :: k) cs
              cases ex with
              | normal =>
                simp only [classL] at hcl
                split at hcl
                · rename_i y hy
                  have e : y = x' := by cases hcl; rfl
                  subst e
                  obtain ⟨e₂, a₂, w₂, hq₂, harr₂⟩ := ihm y a₁ w₁ hrest (fit_head hF hkeep.2 hy hp')
                  exact ⟨e₂, a₂, w₂, hq₂, .of_steps (Steps.trans harr (.one step_inLoop)) harr₂⟩
                · exact hcl.elim
              | exit i => obtain ⟨z', h1, _⟩ := exit _ p' _ a₁ w₁ (by simp) hcl hkeep hp'; cases h1
              | ret => obtain ⟨z', h1, _⟩ := exit _ p' _ a₁ w₁ (by simp) hcl hkeep hp'; cases h1
            · obtain ⟨e, a₁, w₁, ⟨⟨ex, p'⟩, rfl, ⟨hcl, hkeep⟩, hp'⟩, harr⟩ := round _ hs fb (.inLoop b :: k) cs
              have hne : ex ≠ .normal := by
                rintro rfl
                simp only [classL] at hcl
                split at hcl
                · cases hcl
                · exact hcl
              obtain ⟨z', h1, h2⟩ := exit _ p' _ a₁ w₁ hne hcl hkeep hp'
              cases h1
              obtain ⟨q, hq, hpq⟩ := h2 Q hQ
              refine ⟨_, a₁, w₁, ⟨(ex, q), rfl, hq, hpq⟩, .pass (x := .inLoop b) rfl (fun _ _ => .inl ?_) harr⟩
              cases ex <;> first | exact absurd rfl hne | simp [exOf]
        obtain ⟨e, a', w', hq, harr⟩ := key fuel x0 a w hz hp0
        exact ⟨e, a', w', hq, .of_steps (.one step_loop) harr⟩
      · exact h.elim
    · exact h.elim
  | _ => intro n p Q a w h hp; exact h.elim
end
end Go.Ve
/- Functions: what is handed over and given back, typed. -/
namespace Go.Ve
open Go.Vs
/-! ## Reading the other evaluator's values -/
def mapO {α β : Type} (f : α → Option β) : List α → Option (List β)
  | [] => some []
  | a :: r => match f a, mapO f r with
    | some b, some l => some (b :: l)
    | _, _ => none
theorem mapO_map {α β : Type} {f : α → Option β} {g : β → α} (h : ∀ b, f (g b) = some b) : ∀ (l : List β), mapO f (l.map g) = some l
  | [] => rfl
  | b :: l => by simp only [List.map_cons, mapO, h, mapO_map h l]
def decT : (t : Ty) → List D → Option (t.T × List D)
  | .int k => fun ds => match ds with
    | .int k' n :: r => if k' = k then some (n, r) else none
    | _ => none
  | .bool => fun ds => match ds with
    | .bool b :: r => some (b, r)
    | _ => none
  | .str => fun ds => match ds with
    | .str s :: r => some (s, r)
    | _ => none
  | .sl t => fun ds => match ds with
    | .nil :: r => some (none, r)
    | .sl e xs :: r => if e = t.w then (match mapO (fun x => match decT t x with | some (y, []) => some y | _ => none) xs with | some l => some (some l, r) | none => none) else none
    | _ => none
  | .pair h t => fun ds => match decT h ds with
    | some (x, r) => match decT t r with
      | some (y, r') => some ((x, y), r')
      | none => none
    | none => none
theorem decT_enc : ∀ (t : Ty) (x : t.T) (r : List D), decT t (encR t x ++ r) = some (x, r)
  | .int k, n, r => by simp [decT, encR]
  | .bool, b, r => rfl
  | .str, s, r => rfl
  | .sl t, o, r => by
    cases o with
    | none => rfl
    | some xs =>
      simp only [encR, List.cons_append, List.nil_append, decT, if_true]
      rw [mapO_map (f := fun x => match decT t x with | some (y, []) => some y | _ => none) (g := encR t) (fun b => by
        have := decT_enc t b []
        rw [List.append_nil] at this
        simp only [this])]
  | .pair h t, x, r => by
    simp only [encR, decT, List.append_assoc]
    rw [decT_enc h x.1]
    simp only
    rw [decT_enc t x.2]
def decRow (t : Ty) (ds : List D) : Option t.T := match decT t ds with | some (y, []) => some y | _ => none
theorem decRow_enc (t : Ty) (x : t.T) : decRow t (encR t x) = some x := by
  unfold decRow
  have := decT_enc t x []
  rw [List.append_nil] at this
  rw [this]
def decRows (t : Ty) (xs : List (List D)) : Option (List t.T) := mapO (decRow t) xs
theorem decRows_enc (t : Ty) (xs : List t.T) : decRows t (xs.map (encR t)) = some xs := mapO_map (decRow_enc t) xs
def Sh.dec : (h : Sh) → C → Option h.T
  | .i k => fun c => match c with
    | .d (.int k' x) => if k' = k then some x else none
    | _ => none
  | .b => fun c => match c with
    | .d (.bool x) => some x
    | _ => none
  | .s => fun c => match c with
    | .d (.str x) => some x
    | _ => none
  | .l m t => fun c => match m, c with
    | .data, .d (.sl e xs) => if e = t.w then decRows t xs else none
    | .own, .own e xs => if e = t.w then decRows t xs else none
    | _, _ => none
  | .n m t => fun c => match m, c with
    | .data, .d .nil => some none
    | .own, .d .nil => some none
    | .data, .d (.sl e xs) => if e = t.w then (decRows t xs).map some else none
    | .own, .own e xs => if e = t.w then (decRows t xs).map some else none
    | _, _ => none
/-- what can be handed over -/
def Sh.plain : Sh → Bool
  | .l (.bor ..) _ => false
  | .n (.bor ..) _ => false
  | _ => true
theorem Sh.dec_inst : ∀ {h : Sh} (x : h.T), h.plain = true → h.dec (cE (h.inst x)) = some x
  | .i k, x, _ => by simp [Sh.dec, Sh.inst, cE]
  | .b, x, _ => rfl
  | .s, x, _ => rfl
  | .l m t, x, hp => by
    cases m with
    | bor => cases hp
    | data => simp only [Sh.dec, Sh.inst, cE, lC, if_true]; exact decRows_enc t x
    | own => simp only [Sh.dec, Sh.inst, cE, lC, if_true]; exact decRows_enc t x
  | .n m t, o, hp => by
    cases m with
    | bor => cases hp
    | data =>
      cases o with
      | none => rfl
      | some x => simp only [Sh.dec, Sh.inst, cE, lC, if_true]; rw [decRows_enc t x]; rfl
    | own =>
      cases o with
      | none => rfl
      | some x => simp only [Sh.dec, Sh.inst, cE, lC, if_true]; rw [decRows_enc t x]; rfl
/-! ## Lists of cells -/
@[reducible] def HT : List Sh → Type
  | [] => Unit
  | h :: r => match r with
    | [] => h.T
    | h' :: r => h.T × HT (h' :: r)
def HT.inst : (l : List Sh) → HT l → List E
  | [], _ => []
  | [h], x => [h.inst x]
  | h :: h' :: r, x => h.inst x.1 :: HT.inst (h' :: r) x.2
def HT.mat : (l : List Sh) → List E → Option (HT l)
  | [], cs => match cs with
    | [] => some ()
    | _ => none
  | [h], cs => match cs with
    | [c] => h.mat c
    | _ => none
  | h :: h' :: r, cs => match cs with
    | c :: cs => match h.mat c, HT.mat (h' :: r) cs with
      | some x, some y => some (x, y)
      | _, _ => none
    | [] => none
def HT.dec : (l : List Sh) → List C → Option (HT l)
  | [], cs => match cs with
    | [] => some ()
    | _ => none
  | [h], cs => match cs with
    | [c] => h.dec c
    | _ => none
  | h :: h' :: r, cs => match cs with
    | c :: cs => match h.dec c, HT.dec (h' :: r) cs with
      | some x, some y => some (x, y)
      | _, _ => none
    | [] => none
theorem HT.mat_eq : ∀ (l : List Sh) (cs : List E) (x : HT l), HT.mat l cs = some x → cEs (HT.inst l x) = cEs cs
  | [], cs, x, e => by cases cs <;> first | rfl | cases e
  | [h], cs, x, e => by
    match cs with
    | [] => cases e
    | [c] => exact congrArg (fun z => [z]) (Sh.mat_eq (h := h) e)
    | _ :: _ :: _ => cases e
  | h :: h' :: r, cs, x, e => by
    cases cs with
    | nil => cases e
    | cons c cs =>
      simp only [HT.mat] at e
      split at e
      · rename_i y z h1 h2
        cases e
        show cE (h.inst y) :: cEs (HT.inst (h' :: r) z) = cE c :: cEs cs
        rw [Sh.mat_eq h1, HT.mat_eq (h' :: r) cs z h2]
      · cases e
theorem HT.dec_inst : ∀ (l : List Sh) (x : HT l), l.all Sh.plain = true → HT.dec l (cEs (HT.inst l x)) = some x
  | [], x, _ => rfl
  | [h], x, hp => Sh.dec_inst (h := h) x (by simpa using hp)
  | h :: h' :: r, x, hp => by
    rw [List.all_cons, Bool.and_eq_true] at hp
    show (match h.dec (cE (h.inst x.1)), HT.dec (h' :: r) (cEs (HT.inst (h' :: r) x.2)) with
      | some x, some y => some (x, y)
      | _, _ => none) = _
    rw [Sh.dec_inst x.1 hp.1, HT.dec_inst (h' :: r) x.2 hp.2]
def HT.dflt : (l : List Sh) → HT l
  | [] => ()
  | [h] => h.dflt
  | h :: h' :: r => (h.dflt, HT.dflt (h' :: r))
/-! ## Items -/
def capsb : List (Key × Nat) → List (Key × Nat) → Bool
  | [], [] => true
  | p :: r, p' :: r' => keqb p.1 p'.1 && p.2 == p'.2 && capsb r r'
  | _, _ => false
theorem capsb_iff : ∀ {l l' : List (Key × Nat)}, capsb l l' = true ↔ l = l'
  | [], [] => by simp [capsb]
  | [], _ :: _ => by simp [capsb]
  | _ :: _, [] => by simp [capsb]
  | (k, o) :: r, (k', o') :: r' => by
    simp only [capsb, Bool.and_eq_true, keqb_iff, beq_iff_eq, capsb_iff, List.cons.injEq, Prod.mk.injEq]
inductive It where
  | one (h : Sh) | row (t : Ty) | cells (l : List Sh) | ptr (k : Key) (off : Nat) | clo (f : FuncId) (caps : List (Key × Nat) := []) | nul (k : NK) | nls | cptr (k : Key) (off : Nat)
@[reducible] def It.T : It → Type
  | .one h => h.T
  | .row t => t.T
  | .cells l => HT l
  | .ptr _ _ => Unit
  | .clo _ _ => Unit
  | .nul _ => Unit
  | .nls => Unit
  | .cptr _ _ => Unit
def It.has : It → Bool
  | .one _ => true
  | .row _ => true
  | .cells _ => true
  | .ptr _ _ => false
  | .clo _ _ => false
  | .nul _ => false
  | .nls => false
  | .cptr _ _ => false
def It.inst : (i : It) → i.T → SVE
  | .one h, x => .one (h.inst x)
  | .row t, x => .agg (cellsT t x)
  | .cells l, x => .agg (HT.inst l x)
  | .ptr k off, _ => .one (.ptr k off)
  | .clo f caps, _ => .one (.clo f caps)
  | .nul k, _ => .one (.nul k)
  | .nls, _ => .one .nil
  | .cptr k off, _ => .agg [.ptr k off]
def It.mat : (i : It) → SVE → Option i.T
  | .one h => fun v => match v with
    | .one c => h.mat c
    | _ => none
  | .row t => fun v => match v with
    | .agg cs => rowT t cs
    | _ => none
  | .cells l => fun v => match v with
    | .agg cs => HT.mat l cs
    | _ => none
  | .ptr k off => fun v => match v with
    | .one (.ptr k' off') => match keqb k k' && off == off' with
      | true => some ()
      | false => none
    | _ => none
  | .clo f caps => fun v => match v with
    | .one (.clo f' l) => match f == f' && capsb caps l with
      | true => some ()
      | false => none
    | _ => none
  | .nul k => fun v => match v with
    | .one (.nul k') => if k = k' then some () else none
    | _ => none
  | .nls => fun v => match v with
    | .one .nil => some ()
    | _ => none
  | .cptr k off => fun v => match v with
    | .agg [.ptr k' off'] => match keqb k k' && off == off' with
      | true => some ()
      | false => none
    | _ => none
def unDs : List C → Option (List D)
  | [] => some []
  | .d x :: r => match unDs r with
    | some l => some (x :: l)
    | none => none
  | _ => none
theorem unDs_map : ∀ (l : List D), unDs (l.map .d) = some l
  | [] => rfl
  | d :: l => by simp only [List.map_cons, unDs, unDs_map l]
def It.dec : (i : It) → SV → Option i.T
  | .one h => fun v => match v with
    | .one c => h.dec c
    | _ => none
  | .row t => fun v => match v with
    | .agg cs => match unDs cs with
      | some ds => decRow t ds
      | none => none
    | _ => none
  | .cells l => fun v => match v with
    | .agg cs => HT.dec l cs
    | _ => none
  | .ptr k off => fun v => match v with
    | .one (.ptr k' off') => if k = k' ∧ off = off' then some () else none
    | _ => none
  | .clo f caps => fun v => match v with
    | .one (.clo f' l) => if f = f' ∧ l = caps then some () else none
    | _ => none
  | .nul k => fun v => match v with
    | .one (.d (.nul k')) => if k = k' then some () else none
    | _ => none
  | .nls => fun v => match v with
    | .one (.d .nil) => some ()
    | _ => none
  | .cptr k off => fun v => match v with
    | .agg [.ptr k' off'] => if k = k' ∧ off = off' then some () else none
    | _ => none
def It.ok : It → Bool
  | .one h => h.plain
  | .cells l => l.all Sh.plain
  | .ptr (.inb _) _ => true
  | .ptr _ _ => false
  | _ => true
def It.dflt : (i : It) → i.T
  | .one h => h.dflt
  | .row t => t.zero
  | .cells l => HT.dflt l
  | .ptr _ _ => ()
  | .clo _ _ => ()
  | .nul _ => ()
  | .nls => ()
  | .cptr _ _ => ()
theorem It.mat_eq : ∀ {i : It} {v : SVE} {x : i.T}, i.mat v = some x → cSV (i.inst x) = cSV v
  | .one h, v, x, e => by
    cases v with
    | one c => exact congrArg SV.one (Sh.mat_eq (h := h) e)
    | _ => cases e
  | .row t, v, x, e => by
    cases v with
    | agg cs =>
      have e : rowT t cs = some x := e
      show SV.agg (cEs (cellsT t x)) = SV.agg (cEs cs)
      rw [cells_enc, rowT_eq e]
    | _ => cases e
  | .cells l, v, x, e => by
    cases v with
    | agg cs => exact congrArg SV.agg (HT.mat_eq l cs x e)
    | _ => cases e
  | .ptr k off, v, x, e => by
    simp only [It.mat] at e
    split at e
    · split at e
      · rename_i h
        simp only [Bool.and_eq_true, beq_iff_eq, keqb_iff] at h
        obtain ⟨rfl, rfl⟩ := h
        rfl
      · cases e
    · cases e
  | .clo f caps, v, x, e => by
    simp only [It.mat] at e
    split at e
    · split at e
      · rename_i h
        simp only [Bool.and_eq_true, beq_iff_eq, capsb_iff] at h
        obtain ⟨rfl, rfl⟩ := h
        rfl
      · cases e
    · cases e
  | .nul k, v, x, e => by
    simp only [It.mat] at e
    split at e
    · split at e
      · rename_i h; subst h; rfl
      · cases e
    · cases e
  | .nls, v, x, e => by
    simp only [It.mat] at e
    split at e
    · rfl
    · cases e
  | .cptr k off, v, x, e => by
    simp only [It.mat] at e
    split at e
    · split at e
      · rename_i h
        simp only [Bool.and_eq_true, beq_iff_eq, keqb_iff] at h
        obtain ⟨rfl, rfl⟩ := h
        rfl
      · cases e
    · cases e
theorem It.dec_inst : ∀ {i : It} (x : i.T), i.ok = true → i.dec (cSV (i.inst x)) = some x
  | .one h, x, hp => Sh.dec_inst (h := h) x hp
  | .row t, x, _ => by
    show (match unDs (cEs (cellsT t x)) with | some ds => decRow t ds | none => none) = _
    rw [cells_enc, unDs_map]
    exact decRow_enc t x
  | .cells l, x, hp => HT.dec_inst l x hp
  | .ptr k off, x, _ => by simp [It.dec, It.inst, cSV, cE]
  | .clo f caps, x, _ => by simp [It.dec, It.inst, cSV, cE]
  | .nul k, x, _ => by simp [It.dec, It.inst, cSV, cE]
  | .nls, x, _ => by simp [It.dec, It.inst, cSV, cE]
  | .cptr k off, x, _ => by simp [It.dec, It.inst, cSV, cEs, cE]
/-! ## Lists of items; those without content are left out of the type -/
def hasT (l : List It) : Bool := l.any It.has
@[reducible] def T2 (b : Bool) (α β : Type) : Type := match b with
  | true => α × β
  | false => α
def T2.fst {α β : Type} : (b : Bool) → T2 b α β → α
  | true, x => x.1
  | false, x => x
def T2.snd {α β : Type} : (b : Bool) → β → T2 b α β → β
  | true, _, x => x.2
  | false, d, _ => d
def T2.mk {α β : Type} : (b : Bool) → α → β → T2 b α β
  | true, x, y => (x, y)
  | false, x, _ => x
theorem T2.fst_mk {α β : Type} (b : Bool) (x : α) (y : β) : T2.fst b (T2.mk b x y) = x := by cases b <;> rfl
theorem T2.mk_eta {α β : Type} (b : Bool) (d : β) (z : T2 b α β) : T2.mk b (T2.fst b z) (T2.snd b d z) = z := by cases b <;> rfl
@[reducible] def IT : List It → Type
  | [] => Unit
  | i :: r => match i.has with
    | true => T2 (hasT r) i.T (IT r)
    | false => IT r
def IT.hd : (i : It) → (r : List It) → IT (i :: r) → i.T
  | .one _, r => fun x => T2.fst (hasT r) x
  | .row _, r => fun x => T2.fst (hasT r) x
  | .cells _, r => fun x => T2.fst (hasT r) x
  | .ptr _ _, _ => fun _ => ()
  | .clo _ _, _ => fun _ => ()
  | .nul _, _ => fun _ => ()
  | .nls, _ => fun _ => ()
  | .cptr _ _, _ => fun _ => ()
def IT.tl (d : (r : List It) → IT r) : (i : It) → (r : List It) → IT (i :: r) → IT r
  | .one _, r => fun x => T2.snd (hasT r) (d r) x
  | .row _, r => fun x => T2.snd (hasT r) (d r) x
  | .cells _, r => fun x => T2.snd (hasT r) (d r) x
  | .ptr _ _, _ => fun x => x
  | .clo _ _, _ => fun x => x
  | .nul _, _ => fun x => x
  | .nls, _ => fun x => x
  | .cptr _ _, _ => fun x => x
def IT.cons : (i : It) → (r : List It) → i.T → IT r → IT (i :: r)
  | .one _, r => fun x y => T2.mk (hasT r) x y
  | .row _, r => fun x y => T2.mk (hasT r) x y
  | .cells _, r => fun x y => T2.mk (hasT r) x y
  | .ptr _ _, _ => fun _ y => y
  | .clo _ _, _ => fun _ y => y
  | .nul _, _ => fun _ y => y
  | .nls, _ => fun _ y => y
  | .cptr _ _, _ => fun _ y => y
def IT.dflt : (l : List It) → IT l
  | [] => ()
  | i :: r => IT.cons i r i.dflt (IT.dflt r)
def IT.inst : (l : List It) → IT l → List SVE
  | [], _ => []
  | i :: r, x => i.inst (IT.hd i r x) :: IT.inst r (IT.tl IT.dflt i r x)
def IT.mat : (l : List It) → List SVE → Option (IT l)
  | [], vs => match vs with
    | [] => some ()
    | _ => none
  | i :: r, vs => match vs with
    | v :: vs => match i.mat v, IT.mat r vs with
      | some x, some y => some (IT.cons i r x y)
      | _, _ => none
    | [] => none
def IT.dec : (l : List It) → List SV → Option (IT l)
  | [], vs => match vs with
    | [] => some ()
    | _ => none
  | i :: r, vs => match vs with
    | v :: vs => match i.dec v, IT.dec r vs with
      | some x, some y => some (IT.cons i r x y)
      | _, _ => none
    | [] => none
theorem IT.unit : ∀ (l : List It), hasT l = false → ∀ x y : IT l, x = y
  | [], _, _, _ => rfl
  | i :: r, h, x, y => by
    have h2 : i.has = false ∧ hasT r = false := by
      simp only [hasT, List.any_cons, Bool.or_eq_false_iff] at h
      exact h
    cases i with
    | one _ => cases h2.1
    | row _ => cases h2.1
    | cells _ => cases h2.1
    | ptr _ _ => exact IT.unit r h2.2 x y
    | clo _ _ => exact IT.unit r h2.2 x y
    | nul _ => exact IT.unit r h2.2 x y
    | nls => exact IT.unit r h2.2 x y
    | cptr _ _ => exact IT.unit r h2.2 x y
theorem T2.snd_mk (r : List It) {α : Type} (x : α) (y d : IT r) : T2.snd (hasT r) d (T2.mk (hasT r) x y) = y := by
  have : ∀ b, hasT r = b → T2.snd b d (T2.mk b x y) = y := by
    intro b hb
    cases b with
    | true => rfl
    | false => exact IT.unit r hb d y
  exact this _ rfl
theorem IT.hd_cons (i : It) (r : List It) (x : i.T) (y : IT r) : IT.hd i r (IT.cons i r x y) = x := by
  cases i <;> first | exact T2.fst_mk (hasT r) x y | rfl
theorem IT.tl_cons (i : It) (r : List It) (x : i.T) (y : IT r) : IT.tl IT.dflt i r (IT.cons i r x y) = y := by
  cases i <;> first | exact T2.snd_mk r x y _ | rfl
theorem IT.cons_eta (i : It) (r : List It) (z : IT (i :: r)) : IT.cons i r (IT.hd i r z) (IT.tl IT.dflt i r z) = z := by
  cases i <;> first | exact T2.mk_eta (hasT r) _ z | rfl
theorem IT.mat_eq : ∀ (l : List It) (vs : List SVE) (x : IT l), IT.mat l vs = some x → (IT.inst l x).map cSV = vs.map cSV
  | [], vs, x, e => by cases vs <;> first | rfl | cases e
  | i :: r, vs, x, e => by
    cases vs with
    | nil => cases e
    | cons v vs =>
      simp only [IT.mat] at e
      split at e
      · rename_i y z h1 h2
        cases e
        simp only [IT.inst, List.map_cons]
        rw [IT.hd_cons, IT.tl_cons, It.mat_eq h1, IT.mat_eq r vs z h2]
      · cases e
theorem IT.dec_inst : ∀ (l : List It) (x : IT l), l.all It.ok = true → IT.dec l ((IT.inst l x).map cSV) = some x
  | [], x, _ => rfl
  | i :: r, x, hp => by
    rw [List.all_cons, Bool.and_eq_true] at hp
    simp only [IT.inst, List.map_cons, IT.dec]
    rw [It.dec_inst _ hp.1, IT.dec_inst r _ hp.2]
    simp only
    rw [IT.cons_eta]
end Go.Ve
/- Functions: the contract from the typed evaluator. -/
namespace Go.Ve
open Go.Vs
/-! ## What can be read is what was laid -/
theorem mapO_some {α β : Type} {f : α → Option β} {g : β → α} (h : ∀ a b, f a = some b → a = g b) : ∀ (l : List α) (r : List β), mapO f l = some r → l = r.map g
  | [], r, e => by cases e; rfl
  | a :: l, r, e => by
    simp only [mapO] at e
    split at e
    · rename_i b r' h1 h2
      cases e
      rw [h a b h1, mapO_some h l r' h2]
      rfl
    · cases e
theorem decT_some : ∀ (t : Ty) (ds : List D) (x : t.T) (r : List D), decT t ds = some (x, r) → ds = encR t x ++ r
  | .int k, ds, x, r, e => by
    simp only [decT] at e
    split at e
    · split at e
      · rename_i h; subst h; cases e; rfl
      · cases e
    · cases e
  | .bool, ds, x, r, e => by
    simp only [decT] at e
    split at e <;> cases e
    rfl
  | .str, ds, x, r, e => by
    simp only [decT] at e
    split at e <;> cases e
    rfl
  | .sl t, ds, x, r, e => by
    simp only [decT] at e
    split at e
    · cases e; rfl
    · split at e
      · rename_i h
        subst h
        split at e
        · rename_i l hl
          cases e
          have := mapO_some (g := encR t) (fun a b hab => by
            split at hab
            · rename_i y hy
              cases hab
              have := decT_some t a _ [] hy
              simpa using this
            · cases hab) _ _ hl
          rw [this]
          rfl
        · cases e
      · cases e
    · cases e
  | .pair h t, ds, x, r, e => by
    simp only [decT] at e
    split at e
    · rename_i y r1 h1
      split at e
      · rename_i z r2 h2
        cases e
        rw [decT_some h ds y r1 h1, decT_some t r1 z r h2]
        simp [encR]
      · cases e
    · cases e
theorem decRow_some {t : Ty} {ds : List D} {x : t.T} (h : decRow t ds = some x) : ds = encR t x := by
  unfold decRow at h
  split at h
  · rename_i y hy
    cases h
    have := decT_some t ds _ [] hy
    simpa using this
  · cases h
theorem decRows_some {t : Ty} {ds : List (List D)} {xs : List t.T} (h : decRows t ds = some xs) : ds = xs.map (encR t) := mapO_some (fun _ _ => decRow_some) ds xs h
theorem Sh.dec_some : ∀ {h : Sh} {c : C} {x : h.T}, h.dec c = some x → c = cE (h.inst x)
  | .i k, c, x, e => by
    simp only [Sh.dec] at e
    split at e
    · split at e
      · rename_i h; subst h; cases e; rfl
      · cases e
    · cases e
  | .b, c, x, e => by
    simp only [Sh.dec] at e
    split at e <;> cases e
    rfl
  | .s, c, x, e => by
    simp only [Sh.dec] at e
    split at e <;> cases e
    rfl
  | .l m t, c, x, e => by
    simp only [Sh.dec] at e
    split at e
    · split at e
      · rename_i h; subst h; rw [decRows_some e]; rfl
      · cases e
    · split at e
      · rename_i h; subst h; rw [decRows_some e]; rfl
      · cases e
    · cases e
  | .n m t, c, x, e => by
    simp only [Sh.dec] at e
    split at e
    · cases e; rfl
    · cases e; rfl
    · split at e
      · rename_i h; subst h
        obtain ⟨y, h1, rfl⟩ := Option.map_eq_some_iff.1 e
        rw [decRows_some h1]; rfl
      · cases e
    · split at e
      · rename_i h; subst h
        obtain ⟨y, h1, rfl⟩ := Option.map_eq_some_iff.1 e
        rw [decRows_some h1]; rfl
      · cases e
    · cases e
theorem HT.dec_some : ∀ (l : List Sh) (cs : List C) (x : HT l), HT.dec l cs = some x → cs = cEs (HT.inst l x)
  | [], cs, x, e => by cases cs <;> first | rfl | cases e
  | [h], cs, x, e => by
    match cs with
    | [] => cases e
    | [c] => exact congrArg (fun z => [z]) (Sh.dec_some (h := h) e)
    | _ :: _ :: _ => cases e
  | h :: h' :: r, cs, x, e => by
    cases cs with
    | nil => cases e
    | cons c cs =>
      simp only [HT.dec] at e
      split at e
      · rename_i y z h1 h2
        cases e
        show c :: cs = cE (h.inst y) :: cEs (HT.inst (h' :: r) z)
        rw [← Sh.dec_some h1, ← HT.dec_some (h' :: r) cs z h2]
      · cases e
theorem unDs_some : ∀ {cs : List C} {l : List D}, unDs cs = some l → cs = l.map .d
  | [], l, e => by cases e; rfl
  | c :: cs, l, e => by
    cases c with
    | d x =>
      simp only [unDs] at e
      split at e
      · rename_i l' h; cases e; rw [unDs_some h]; rfl
      · cases e
    | _ => cases e
theorem It.dec_some : ∀ {i : It} {v : SV} {x : i.T}, i.dec v = some x → v = cSV (i.inst x)
  | .one h, v, x, e => by
    cases v with
    | one c => exact congrArg SV.one (Sh.dec_some (h := h) e)
    | _ => cases e
  | .row t, v, x, e => by
    cases v with
    | agg cs =>
      simp only [It.dec] at e
      split at e
      · rename_i ds hd
        show SV.agg cs = SV.agg (cEs (cellsT t x))
        rw [cells_enc, ← decRow_some e, unDs_some hd]
      · cases e
    | _ => cases e
  | .cells l, v, x, e => by
    cases v with
    | agg cs => exact congrArg SV.agg (HT.dec_some l cs x e)
    | _ => cases e
  | .ptr k off, v, x, e => by
    simp only [It.dec] at e
    split at e
    · split at e
      · rename_i h; obtain ⟨rfl, rfl⟩ := h; rfl
      · cases e
    · cases e
  | .clo f caps, v, x, e => by
    simp only [It.dec] at e
    split at e
    · split at e
      · rename_i h; obtain ⟨rfl, rfl⟩ := h; rfl
      · cases e
    · cases e
  | .nul k, v, x, e => by
    simp only [It.dec] at e
    split at e
    · split at e
      · rename_i h; subst h; rfl
      · cases e
    · cases e
  | .nls, v, x, e => by
    simp only [It.dec] at e
    split at e
    · rfl
    · cases e
  | .cptr k off, v, x, e => by
    simp only [It.dec] at e
    split at e
    · split at e
      · rename_i h; obtain ⟨rfl, rfl⟩ := h; rfl
      · cases e
    · cases e
theorem IT.dec_some : ∀ (l : List It) (vs : List SV) (x : IT l), IT.dec l vs = some x → vs = (IT.inst l x).map cSV
  | [], vs, x, e => by cases vs <;> first | rfl | cases e
  | i :: r, vs, x, e => by
    cases vs with
    | nil => cases e
    | cons v vs =>
      simp only [IT.dec] at e
      split at e
      · rename_i y z h1 h2
        cases e
        simp only [IT.inst, List.map_cons]
        rw [IT.hd_cons, IT.tl_cons, ← It.dec_some h1, ← IT.dec_some r vs z h2]
      · cases e
/-! ## The beginning -/
def startSlotsE : Nat → List SVE → List (Nat × SVE)
  | _, [] => []
  | i, v :: vs => (i, RVE.copy { v } (.arg i)) :: startSlotsE (i + 1) vs
def startBoxesE : Nat → List (List E) → List (Key × List E)
  | _, [] => []
  | i, b :: bs => (.inb i, b) :: startBoxesE (i + 1) bs
def startE (A : List SVE) (B : List (List E)) : PSE := { slots := startSlotsE 0 A, boxes := startBoxesE 0 B, frz := [], dirty := [] }
theorem startSlotsE_eq : ∀ (A : List SVE) (i : Nat), (startSlotsE i A).map (fun x => (x.1, cSV x.2)) = startSlots i (A.map cSV)
  | [], i => rfl
  | v :: A, i => by
    simp only [startSlotsE, List.map_cons, startSlots, startSV]
    rw [startSlotsE_eq A (i + 1)]
    congr 2
    exact copy_eq { v } (.arg i)
theorem startBoxesE_eq : ∀ (B : List (List E)) (i : Nat), (startBoxesE i B).map (fun x => (x.1, cEs x.2)) = startBoxes i (B.map cEs)
  | [], i => rfl
  | b :: B, i => by simp only [startBoxesE, List.map_cons, startBoxes]; rw [startBoxesE_eq B (i + 1)]
theorem cPS_start (A : List SVE) (B : List (List E)) : cPS A (startE A B) = startPS (A.map cSV) (B.map cEs) := by
  simp only [cPS, startE, startPS, startSlotsE_eq, startBoxesE_eq, frzArgsE]
/-! ## The end -/
def readRE (cfg : Cfg) : ResultVar → PE SVE
  | .tmp t => evE (.tmp t)
  | .cell a t => match cfg.ti t with
    | some i => do loadE i (← ev1E (.tmp a))
    | none => .fail
def readRsE (cfg : Cfg) : List ResultVar → PE (List SVE)
  | [] => .ret []
  | r :: rs => do let v ← readRE cfg r; let vs ← readRsE cfg rs; .ret (v :: vs)
def arg1E : E → PE E
  | .l (.bor (.arg i) j hv cv k) t xs => toDE (.l (.bor (.arg i) j hv cv k) t xs)
  | .n (.bor (.arg i) j hv cv k) t o => toDE (.n (.bor (.arg i) j hv cv k) t o)
  | c => .ret c
def argE (c : E) : PE E := arg1E c
def argsE : List E → PE (List E)
  | [] => .ret []
  | c :: cs => do let c' ← argE c; let r ← argsE cs; .ret (c' :: r)
def argSVE : SVE → PE SVE
  | .one c => do .ret (.one (← argE c))
  | .agg cs => do .ret (.agg (← argsE cs))
  | _ => .fail
def argSVsE : List SVE → PE (List SVE)
  | [] => .ret []
  | v :: vs => do let v' ← argSVE v; let r ← argSVsE vs; .ret (v' :: r)
def easyE : E → Bool
  | .ptr _ _ => true
  | c => plainE c
theorem easy_eq {cs : List E} (h : cs.all easyE = true) : (cEs cs).all easy = true := by
  simp only [cEs, List.all_map, List.all_eq_true, Function.comp_apply] at h ⊢
  intro c hc
  have := h c hc
  cases c with
  | ptr k off => rfl
  | l m t xs => cases m <;> first | rfl | cases this
  | n m t o => cases m <;> cases o <;> first | rfl | cases this
  | _ => first | rfl | cases this
def settleE (k : Key) : PE Unit :=
  .get (.box k) fun x => match x.v with
    | .agg cs => match cs.all easyE with
      | true => .ret ()
      | false => .fail
    | _ => .fail
def settlesE : List Key → PE Unit
  | [] => .ret ()
  | k :: ks => do settleE k; settlesE ks
def tupOf (v : SVE) : Bool × List E := match v with | .one c => (false, [c]) | .agg cs => (true, cs) | _ => (false, [])
def outVE : List SVE → SVE
  | [v] => v
  | vs => .tup (vs.map tupOf)
def outCE (ks : List Key) : E → PE E
  | .ptr k off => do sure (ks.any (keqb k)); .ret (.ptr (.inb (idx k ks)) off)
  | .clo f caps => do sure caps.isEmpty; .ret (.clo f [])
  | c => match plainE c with
    | true => .ret c
    | false => .fail
def outCsE (ks : List Key) : List E → PE (List E)
  | [] => .ret []
  | c :: cs => do let c' ← outCE ks c; let r ← outCsE ks cs; .ret (c' :: r)
def outTupE (ks : List Key) : List (Bool × List E) → PE (List (Bool × List E))
  | [] => .ret []
  | (b, cs) :: vs => do let cs' ← outCsE ks cs; let r ← outTupE ks vs; .ret ((b, cs') :: r)
def outSVE (ks : List Key) : SVE → PE SVE
  | .one c => do .ret (.one (← outCE ks c))
  | .agg cs => do .ret (.agg (← outCsE ks cs))
  | .tup vs => do .ret (.tup (← outTupE ks vs))
  | .undef => .fail
def outKeysE (nb : Nat) (cs : List E) : List Key := inbs nb ++ (dedup (keysOfE cs)).filter fun k => !k.isIn
def exitE (cfg : Cfg) (res : List ResultVar) (nb : Nat) : PE (SVE × List (List E)) := do
  let vs ← readRsE cfg res
  let ks := outKeysE nb (vs.flatMap SVE.cells)
  settlesE ks
  let vs1 ← argSVsE vs
  let v2 ← stashSVE (.tmp 0) (outTake cfg.outd) (outVE vs1)
  let bs ← getBoxesE ks ks
  let v3 ← outSVE ks v2
  .ret (v3, bs)
theorem readRE_sim (cfg : Cfg) (r : ResultVar) (s : ESt) : Sim s (readRE cfg r) cSV (readR cfg r) := by
  cases r with
  | tmp t => exact evE_sim (.tmp t) s
  | cell a t =>
    simp only [readRE, readR]
    cases cfg.ti t with
    | none => exact Sim.fail
    | some i =>
      simp only [bindE_eq, bind_eq]
      exact Sim.bind (ev1E_sim _ s) fun c s1 => loadE_sim i c s1
theorem readRsE_sim (cfg : Cfg) : ∀ (rs : List ResultVar) (s : ESt), Sim s (readRsE cfg rs) (List.map cSV) (readRs cfg rs)
  | [], s => Sim.ret rfl
  | r :: rs, s => by
    simp only [readRsE, readRs, bindE_eq, bind_eq]
    exact Sim.bind (readRE_sim cfg r s) fun v s1 => Sim.bind (readRsE_sim cfg rs s1) fun vs s2 => Sim.ret rfl
theorem argE_sim (c : E) (s : ESt) : Sim s (argE c) cE (argC (cE c)) := by
  unfold argE
  cases c with
  | l m t xs =>
    cases m with
    | bor r j hv cv k =>
      cases r with
      | arg i =>
        simp only [arg1E, argC, cE, lC, bind_eq]
        exact data_sim (toDE_sim (.l (.bor (.arg i) j hv cv k) t xs) s) (toDE_data _ s)
      | _ => exact Sim.ret rfl
    | _ => exact Sim.ret rfl
  | n m t o =>
    cases m with
    | bor r j hv cv k =>
      cases r with
      | arg i =>
        have h := data_sim (toDE_sim (.n (.bor (.arg i) j hv cv k) t o) s) (toDE_data _ s)
        cases o with
        | none => exact h
        | some xs => simp only [arg1E, argC, cE, lC, bind_eq]; exact h
      | _ => cases o <;> exact Sim.ret rfl
    | _ => cases o <;> exact Sim.ret rfl
  | gone b => cases b <;> exact Sim.ret rfl
  | _ => exact Sim.ret rfl
theorem argsE_sim : ∀ (cs : List E) (s : ESt), Sim s (argsE cs) cEs (argCs (cEs cs))
  | [], s => Sim.ret rfl
  | c :: cs, s => by
    show Sim s (argsE (c :: cs)) cEs (argCs (cE c :: cEs cs))
    simp only [argsE, argCs, bindE_eq, bind_eq]
    exact Sim.bind (argE_sim c s) fun c' s1 => Sim.bind (argsE_sim cs s1) fun cs' s2 => Sim.ret rfl
theorem argSVE_sim (v : SVE) (s : ESt) : Sim s (argSVE v) cSV (argSV (cSV v)) := by
  cases v with
  | one c =>
    show Sim s (argSVE (.one c)) cSV (argSV (.one (cE c)))
    simp only [argSVE, argSV, bindE_eq, bind_eq]
    exact Sim.bind (argE_sim c s) fun c' s1 => Sim.ret rfl
  | agg cs =>
    show Sim s (argSVE (.agg cs)) cSV (argSV (.agg (cEs cs)))
    simp only [argSVE, argSV, bindE_eq, bind_eq]
    exact Sim.bind (argsE_sim cs s) fun c' s1 => Sim.ret rfl
  | _ => exact Sim.fail
theorem argSVsE_sim : ∀ (vs : List SVE) (s : ESt), Sim s (argSVsE vs) (List.map cSV) (argSVs (vs.map cSV))
  | [], s => Sim.ret rfl
  | v :: vs, s => by
    simp only [List.map_cons, argSVsE, argSVs, bindE_eq, bind_eq]
    exact Sim.bind (argSVE_sim v s) fun c' s1 => Sim.bind (argSVsE_sim vs s1) fun cs' s2 => Sim.ret rfl
theorem settleE_sim (k : Key) (s : ESt) : Sim s (settleE k) (fun _ => ()) (Vs.settle k) := by
  unfold settleE Vs.settle
  refine Sim.get ?_
  cases hv : (s.get (.box k)).v with
  | agg cs =>
    simp only [cRV, hv, cSV]
    cases hp : cs.all easyE with
    | false => exact Sim.fail
    | true => rw [if_pos (easy_eq hp)]; exact Sim.ret rfl
  | _ => simp only [cRV, hv, cSV]; exact Sim.fail
theorem settlesE_sim : ∀ (ks : List Key) (s : ESt), Sim s (settlesE ks) (fun _ => ()) (settles ks)
  | [], s => Sim.ret rfl
  | k :: ks, s => by
    simp only [settlesE, settles, bindE_eq, bind_eq]
    exact Sim.bind (settleE_sim k s) fun _ s1 => settlesE_sim ks s1
theorem outVE_eq (vs : List SVE) : cSV (outVE vs) = outV (vs.map cSV) := by
  match vs with
  | [] => rfl
  | [v] => rfl
  | v :: u :: r =>
    show SV.tup (cTup ((v :: u :: r).map tupOf)) = SV.tup (((v :: u :: r).map cSV).map fun v => match v with | .one c => (false, [c]) | .agg cs => (true, cs) | _ => (false, []))
    congr 1
    generalize v :: u :: r = l
    induction l with
    | nil => rfl
    | cons x l ih =>
      show ((tupOf x).1, cEs (tupOf x).2) :: cTup (l.map tupOf) = _
      rw [ih]
      cases x <;> rfl
theorem outCE_sim (ks : List Key) (c : E) (s : ESt) : Sim s (outCE ks c) cE (outC ks (cE c)) := by
  cases c with
  | l m t xs => cases m <;> first | exact Sim.ret rfl | exact Sim.fail
  | n m t o => cases m <;> cases o <;> first | exact Sim.ret rfl | exact Sim.fail
  | ptr k off =>
    simp only [outCE, outC, cE, bindE_eq, bind_eq]
    refine Sim.sure fun h => ?_
    rw [any_keqb] at h
    rw [need_bind (by simpa using h)]
    exact Sim.ret rfl
  | clo f caps =>
    simp only [outCE, outC, cE, bindE_eq, bind_eq]
    refine Sim.sure fun h => ?_
    rw [need_bind (by simpa using h)]
    exact Sim.ret rfl
  | ea => exact Sim.fail
  | da => exact Sim.fail
  | dead => exact Sim.fail
  | gone b => exact Sim.fail
  | _ => exact Sim.ret rfl
theorem outCsE_sim (ks : List Key) : ∀ (cs : List E) (s : ESt), Sim s (outCsE ks cs) cEs (outCs ks (cEs cs))
  | [], s => Sim.ret rfl
  | c :: cs, s => by
    show Sim s (outCsE ks (c :: cs)) cEs (outCs ks (cE c :: cEs cs))
    simp only [outCsE, outCs, bindE_eq, bind_eq]
    exact Sim.bind (outCE_sim ks c s) fun c' s1 => Sim.bind (outCsE_sim ks cs s1) fun cs' s2 => Sim.ret rfl
theorem outTupE_sim (ks : List Key) : ∀ (vs : List (Bool × List E)) (s : ESt), Sim s (outTupE ks vs) cTup (outTup ks (cTup vs))
  | [], s => Sim.ret rfl
  | (b, cs) :: vs, s => by
    show Sim s (outTupE ks ((b, cs) :: vs)) cTup (outTup ks ((b, cEs cs) :: cTup vs))
    simp only [outTupE, outTup, bindE_eq, bind_eq]
    exact Sim.bind (outCsE_sim ks cs s) fun c' s1 => Sim.bind (outTupE_sim ks vs s1) fun cs' s2 => Sim.ret rfl
theorem outSVE_sim (ks : List Key) (v : SVE) (s : ESt) : Sim s (outSVE ks v) cSV (outSV ks (cSV v)) := by
  cases v with
  | one c =>
    show Sim s (outSVE ks (.one c)) cSV (outSV ks (.one (cE c)))
    simp only [outSVE, outSV, bindE_eq, bind_eq]
    exact Sim.bind (outCE_sim ks c s) fun c' s1 => Sim.ret rfl
  | agg cs =>
    show Sim s (outSVE ks (.agg cs)) cSV (outSV ks (.agg (cEs cs)))
    simp only [outSVE, outSV, bindE_eq, bind_eq]
    exact Sim.bind (outCsE_sim ks cs s) fun c' s1 => Sim.ret rfl
  | tup vs =>
    show Sim s (outSVE ks (.tup vs)) cSV (outSV ks (.tup (cTup vs)))
    simp only [outSVE, outSV, bindE_eq, bind_eq]
    exact Sim.bind (outTupE_sim ks vs s) fun c' s1 => Sim.ret rfl
  | undef => exact Sim.fail
theorem exitE_sim (cfg : Cfg) (res : List ResultVar) (nb : Nat) (s : ESt) : Sim s (exitE cfg res nb) (fun x => (cSV x.1, x.2.map cEs)) (exitP cfg res nb) := by
  simp only [exitE, exitP, bindE_eq, bind_eq]
  refine Sim.bind (readRsE_sim cfg res s) fun vs s1 => ?_
  have hk : outKeys nb ((vs.map cSV).flatMap SV.cells) = outKeysE nb (vs.flatMap SVE.cells) := by unfold outKeys outKeysE; rw [flat_eq, keysOf_eq]
  rw [hk]
  refine Sim.bind (settlesE_sim _ s1) fun _ s2 => Sim.bind (argSVsE_sim vs s2) fun vs1 s3 => ?_
  rw [← outVE_eq]
  exact Sim.bind (stashSVE_sim _ _ _ s3) fun v2 s4 => Sim.bind (getBoxesE_sim _ _ s4) fun bs s5 => Sim.bind (outSVE_sim _ v2 s5) fun v3 s6 => Sim.ret rfl
theorem each_true {α : Type} (t : Tr α) : t.each fun _ => True := by
  induction t with
  | leaf a => trivial
  | fail => trivial
  | br c t e iht ihe => exact ⟨iht, ihe⟩
  | call d o k ih => exact ih
  | sum o k k' ih ih' => exact ⟨ih, ih'⟩
/-- giving back reads alone -/
theorem outE_same (ks : List Key) (v : SVE) (s : ESt) : ((outSVE ks v).both s).each fun x => x.2.1 = s := by
  have one : ∀ (c : E) (s : ESt), ((outCE ks c).both s).each fun x => x.2.1 = s := by
    intro c s
    cases c with
    | ptr k off =>
      show (((sure _).bind fun _ => PE.ret _).both s).each _
      cases ks.any (keqb k) <;> first | exact trivial | exact rfl
    | clo f caps =>
      show (((sure _).bind fun _ => PE.ret _).both s).each _
      cases caps.isEmpty <;> first | exact trivial | exact rfl
    | l m t xs => cases m <;> first | exact rfl | exact trivial
    | n m t o => cases m <;> first | exact rfl | exact trivial
    | _ => first | exact rfl | exact trivial
  have many : ∀ (cs : List E) (s : ESt), ((outCsE ks cs).both s).each fun x => x.2.1 = s := by
    intro cs
    induction cs with
    | nil => intro s; exact rfl
    | cons c cs ih =>
      intro s
      simp only [outCsE, bindE_eq]
      rw [bothE_bind, Tr.each_bind]
      refine Tr.each_mono ?_ (one c s)
      rintro ⟨a, s', f, g⟩ h
      rw [Tr.each_map, bothE_bind, Tr.each_bind]
      refine Tr.each_mono ?_ (ih s')
      rintro ⟨b, s'', f', g'⟩ h'
      exact h'.trans h
  have tup : ∀ (vs : List (Bool × List E)) (s : ESt), ((outTupE ks vs).both s).each fun x => x.2.1 = s := by
    intro vs
    induction vs with
    | nil => intro s; exact rfl
    | cons p vs ih =>
      intro s
      obtain ⟨b, cs⟩ := p
      simp only [outTupE, bindE_eq]
      rw [bothE_bind, Tr.each_bind]
      refine Tr.each_mono ?_ (many cs s)
      rintro ⟨a, s', f, g⟩ h
      rw [Tr.each_map, bothE_bind, Tr.each_bind]
      refine Tr.each_mono ?_ (ih s')
      rintro ⟨b, s'', f', g'⟩ h'
      exact h'.trans h
  cases v with
  | one c =>
    simp only [outSVE, bindE_eq]
    rw [bothE_bind, Tr.each_bind]
    exact Tr.each_mono (fun x hx => hx) (one c s)
  | agg cs =>
    simp only [outSVE, bindE_eq]
    rw [bothE_bind, Tr.each_bind]
    exact Tr.each_mono (fun x hx => hx) (many cs s)
  | tup vs =>
    simp only [outSVE, bindE_eq]
    rw [bothE_bind, Tr.each_bind]
    exact Tr.each_mono (fun x hx => hx) (tup vs s)
  | undef => exact trivial
theorem getBoxesE_each (kk : List Key) : ∀ (ks : List Key) (s : ESt), ((getBoxesE kk ks).both s).each fun x => x.2.1 = s ∧ Holds kk s ks x.1
  | [], s => ⟨rfl, trivial⟩
  | k :: ks, s => by
    simp only [getBoxesE, PE.both, Tr.each_map, bindE_eq]
    cases hv : (s.get (.box k)).v with
    | agg cs =>
      cases hp : cs.all (tokE kk) with
      | false => simp only [hp]; exact trivial
      | true =>
        simp only [hp]
        show (((getBoxesE kk ks).bind fun r => PE.ret (cs.map (tcE kk) :: r)).both s).each _
        rw [bothE_bind, Tr.each_bind]
        refine Tr.each_mono ?_ (getBoxesE_each kk ks s)
        rintro ⟨a, s', f, g⟩ ⟨h1, h2⟩
        simp only at h1 h2
        subst h1
        exact ⟨rfl, ⟨cs, hv, hp, rfl⟩, h2⟩
    | _ => exact trivial
/-- what is given back of the boxes is what they hold -/
theorem exitE_holds (cfg : Cfg) (res : List ResultVar) (nb : Nat) (s : ESt) : ((exitE cfg res nb).both s).each fun x => ∃ ks, Holds (inbs nb ++ ks) x.2.1 (inbs nb ++ ks) x.1.2 := by
  simp only [exitE, bindE_eq]
  rw [bothE_bind, Tr.each_bind]
  refine Tr.each_mono ?_ (each_true _)
  rintro ⟨vs, s1, f1, g1⟩ _
  rw [Tr.each_map, bothE_bind, Tr.each_bind]
  refine Tr.each_mono ?_ (each_true _)
  rintro ⟨_, s2, f2, g2⟩ _
  rw [Tr.each_map, bothE_bind, Tr.each_bind]
  refine Tr.each_mono ?_ (each_true _)
  rintro ⟨vs1, s3, f3, g3⟩ _
  rw [Tr.each_map, bothE_bind, Tr.each_bind]
  refine Tr.each_mono ?_ (each_true _)
  rintro ⟨v2, s4, f4, g4⟩ _
  rw [Tr.each_map, bothE_bind, Tr.each_bind]
  refine Tr.each_mono ?_ (getBoxesE_each _ _ s4)
  rintro ⟨bs, s5, f5, g5⟩ ⟨h1, h2⟩
  simp only at h1
  subst h1
  rw [Tr.each_map, bothE_bind, Tr.each_bind]
  refine Tr.each_mono ?_ (outE_same _ v2 s5)
  rintro ⟨v3, s6, f6, g6⟩ h3
  simp only at h3
  subst h3
  exact ⟨_, h2⟩
end Go.Ve
/- A function's contract from the typed evaluator. -/
namespace Go.Ve
open Go.Vs
structure Sig where
  args : List It
  boxes : List It := []
  res : List It
  rbox : List (List (Option Sh)) := []
  frz : List (Nat × Nat) := []
def boxCells (v : SVE) : List E := match v with | .agg cs => cs | _ => []
abbrev Sig.X (S : Sig) : Type := IT (S.args ++ S.boxes)
def Sig.instA (S : Sig) (x : S.X) : List SVE := (IT.inst (S.args ++ S.boxes) x).take S.args.length
def Sig.instB (S : Sig) (x : S.X) : List (List E) := ((IT.inst (S.args ++ S.boxes) x).drop S.args.length).map boxCells
def someSh : List (Option Sh) → List It
  | [] => []
  | none :: r => someSh r
  | some h :: r => .one h :: someSh r
def Sig.rcells (S : Sig) : List It := S.rbox.flatMap someSh
abbrev Sig.Y (S : Sig) : Type := IT (S.res ++ S.rcells)
def takeCell (v : SVE) : E := match v with | .one c => c | _ => .dead
def fill1 : List (Option Sh) → List E → List (Option E) × List E
  | [], cs => ([], cs)
  | none :: r, cs => let f := fill1 r cs; (none :: f.1, f.2)
  | some _ :: r, cs => match cs with
    | c :: cs => let f := fill1 r cs; (some c :: f.1, f.2)
    | [] => ([], [])
def fillB : List (List (Option Sh)) → List E → List (List (Option E))
  | [], _ => []
  | o :: os, cs => let f := fill1 o cs; f.1 :: fillB os f.2
def Sig.out (S : Sig) (y : S.Y) : SVE × List (List (Option E)) :=
  let l := IT.inst (S.res ++ S.rcells) y
  (outVE (l.take S.res.length), fillB S.rbox ((l.drop S.res.length).map takeCell))
def Sig.mat (S : Sig) (args : List SVE) (boxes : List (List E)) : Option S.X :=
  match args.length == S.args.length with
  | true => IT.mat (S.args ++ S.boxes) (args ++ boxes.map .agg)
  | false => none
def Sig.dec (S : Sig) (args : List SV) (boxes : List (List C)) : Option S.X :=
  if args.length = S.args.length then IT.dec (S.args ++ S.boxes) (args ++ boxes.map .agg) else none
def Sig.F (S : Sig) (sh : S.X → Option S.Y) : AFun := fun args boxes =>
  match S.dec args boxes with
  | some x => match sh x with
    | some y => some { v := cSV (S.out y).1, boxes := (newBoxes (S.instB x) (S.out y).2).map cEs, frz := S.frz }
    | none => none
  | none => none
def isBoxIt : It → Bool
  | .row _ => true
  | .cells _ => true
  | .cptr _ _ => true
  | _ => false
/-- the pointers in boxes lead to boxes -/
def ptrIn (n : Nat) : It → Bool
  | .cptr (.inb i) _ => Nat.ble (i + 1) n
  | .cptr _ _ => false
  | _ => true
def Sig.ok (S : Sig) : Bool := S.args.all It.ok && S.boxes.all It.ok && (S.boxes.all isBoxIt && S.boxes.all (ptrIn S.boxes.length))
theorem IT.inst_get : ∀ (l : List It) (x : IT l) (m : Nat) (v : SVE), (IT.inst l x)[m]? = some v → ∃ i y, l[m]? = some i ∧ v = It.inst i y
  | [], _, m, v, h => by simp [IT.inst] at h
  | i :: r, x, 0, v, h => by
    simp only [IT.inst, List.getElem?_cons_zero, Option.some.injEq] at h
    exact ⟨i, _, rfl, h.symm⟩
  | i :: r, x, m + 1, v, h => by
    simp only [IT.inst, List.getElem?_cons_succ] at h
    obtain ⟨i', y, h1, h2⟩ := IT.inst_get r _ m v h
    exact ⟨i', y, by simpa using h1, h2⟩
theorem HT.noPtr : ∀ (l : List Sh) (x : HT l) (c : E), c ∈ HT.inst l x → ∀ k off, c ≠ .ptr k off
  | [], _, c, h => by simp [HT.inst] at h
  | [sh], x, c, h => by
    simp only [HT.inst, List.mem_singleton] at h
    subst h
    cases sh <;> simp [Sh.inst]
  | sh :: sh' :: r, x, c, h => by
    simp only [HT.inst, List.mem_cons] at h
    rcases h with rfl | h
    · cases sh <;> simp [Sh.inst]
    · exact HT.noPtr (sh' :: r) _ c (by simpa [HT.inst] using h)
theorem cellsT_noPtr : ∀ (t : Ty) (x : t.T) (c : E), c ∈ cellsT t x → ∀ k off, c ≠ .ptr k off
  | .pair a b, x, c, h => by
    simp only [cellsT, List.mem_append] at h
    rcases h with h | h
    · exact cellsT_noPtr a _ c h
    · exact cellsT_noPtr b _ c h
  | .int k, x, c, h => by simp only [cellsT, List.mem_singleton] at h; subst h; simp
  | .bool, x, c, h => by simp only [cellsT, List.mem_singleton] at h; subst h; simp
  | .str, x, c, h => by simp only [cellsT, List.mem_singleton] at h; subst h; simp
  | .sl r, x, c, h => by simp only [cellsT, List.mem_singleton] at h; subst h; simp
theorem instB_ptr {S : Sig} (hok : S.ok = true) (x : S.X) : ∀ b ∈ S.instB x, ∀ c ∈ b, ∀ k off, c = .ptr k off → ∃ i, k = .inb i ∧ i < S.boxes.length := by
  intro b hb c hc k off hcp
  obtain ⟨v, hv, rfl⟩ := List.mem_map.1 hb
  obtain ⟨m, hm⟩ := List.getElem?_of_mem hv
  rw [List.getElem?_drop] at hm
  obtain ⟨i, y, h1, h2⟩ := IT.inst_get _ _ _ _ hm
  rw [List.getElem?_append_right (by omega)] at h1
  have hi : i ∈ S.boxes := List.mem_of_getElem? h1
  simp only [Sig.ok, Bool.and_eq_true] at hok
  have hb2 := List.all_eq_true.1 hok.2.1 i hi
  have hp := List.all_eq_true.1 hok.2.2 i hi
  subst h2
  cases i with
  | row t => exact absurd hcp (cellsT_noPtr t y c hc k off)
  | cells l => exact absurd hcp (HT.noPtr l y c hc k off)
  | cptr q o =>
    have hc' : c ∈ [E.ptr q o] := hc
    simp only [List.mem_singleton] at hc'
    rw [hcp] at hc'
    cases hc'
    cases k with
    | inb i => exact ⟨i, rfl, by have := Nat.le_of_ble_eq_true hp; omega⟩
    | loc t => cases hp
    | esc t i => cases hp
  | _ => cases hb2
theorem IT.inst_length : ∀ (l : List It) (x : IT l), (IT.inst l x).length = l.length
  | [], _ => rfl
  | i :: r, x => by simp [IT.inst, IT.inst_length r]
theorem boxIt_agg {i : It} (h : isBoxIt i = true) (x : i.T) : ∃ cs, i.inst x = .agg cs := by
  cases i <;> first | exact ⟨_, rfl⟩ | cases h
theorem inst_boxes : ∀ (l : List It) (x : IT l), l.all isBoxIt = true → ((IT.inst l x).map boxCells).map SVE.agg = IT.inst l x
  | [], _, _ => rfl
  | i :: r, x, h => by
    rw [List.all_cons, Bool.and_eq_true] at h
    simp only [IT.inst, List.map_cons]
    obtain ⟨cs, e⟩ := boxIt_agg h.1 (IT.hd i r x)
    rw [inst_boxes r _ h.2, e]
    rfl
theorem IT.inst_append (l m : List It) (x : IT (l ++ m)) : ∃ y : IT m, (IT.inst (l ++ m) x).drop l.length = IT.inst m y := by
  induction l with
  | nil => exact ⟨x, rfl⟩
  | cons i l ih => exact ih (IT.tl IT.dflt i (l ++ m) x)
theorem map_agg_inj : ∀ {a b : List (List C)}, a.map SV.agg = b.map SV.agg → a = b
  | [], [], _ => rfl
  | [], _ :: _, h => by simp at h
  | _ :: _, [], h => by simp at h
  | x :: a, y :: b, h => by
    simp only [List.map_cons, List.cons.injEq, SV.agg.injEq] at h
    rw [h.1, map_agg_inj h.2]
section
variable (S : Sig)
theorem Sig.instA_length (x : S.X) : (S.instA x).length = S.args.length := by simp [Sig.instA, IT.inst_length]
theorem Sig.instB_length (x : S.X) : (S.instB x).length = S.boxes.length := by simp [Sig.instB, IT.inst_length]
theorem Sig.inst_eq (hok : S.ok = true) (x : S.X) : S.instA x ++ (S.instB x).map SVE.agg = IT.inst (S.args ++ S.boxes) x := by
  simp only [Sig.ok, Bool.and_eq_true] at hok
  obtain ⟨y, hy⟩ := IT.inst_append S.args S.boxes x
  have : (S.instB x).map SVE.agg = (IT.inst (S.args ++ S.boxes) x).drop S.args.length := by
    unfold Sig.instB
    rw [hy]
    exact inst_boxes S.boxes y hok.2.1
  rw [this]
  exact List.take_append_drop _ _
theorem Sig.dec_some (hok : S.ok = true) {args : List SV} {boxes : List (List C)} {x : S.X} (h : S.dec args boxes = some x) : args = (S.instA x).map cSV ∧ boxes = (S.instB x).map cEs := by
  unfold Sig.dec at h
  split at h
  · rename_i hl
    have e := IT.dec_some _ _ _ h
    rw [← Sig.inst_eq S hok x, List.map_append] at e
    have := List.append_inj e (by rw [List.length_map, Sig.instA_length, hl])
    refine ⟨this.1, ?_⟩
    have h2 := this.2
    rw [List.map_map] at h2
    have h3 : boxes.map SV.agg = ((S.instB x).map cEs).map SV.agg := by rw [h2, List.map_map]; rfl
    exact map_agg_inj h3
  · cases h
theorem Sig.dec_inst (hok : S.ok = true) (x : S.X) : S.dec ((S.instA x).map cSV) ((S.instB x).map cEs) = some x := by
  have e : (S.instA x).map cSV ++ ((S.instB x).map cEs).map SV.agg = (IT.inst (S.args ++ S.boxes) x).map cSV := by
    rw [← Sig.inst_eq S hok x, List.map_append, List.map_map, List.map_map]; rfl
  unfold Sig.dec
  rw [if_pos (by rw [List.length_map, Sig.instA_length]), e]
  simp only [Sig.ok, Bool.and_eq_true] at hok
  exact IT.dec_inst _ x (by rw [List.all_append, hok.1.1, hok.1.2]; rfl)
theorem Sig.mat_eq (hok : S.ok = true) {args : List SVE} {boxes : List (List E)} {x : S.X} (h : S.mat args boxes = some x) : args.map cSV = (S.instA x).map cSV ∧ boxes.map cEs = (S.instB x).map cEs := by
  unfold Sig.mat at h
  split at h
  · rename_i hl
    have e := IT.mat_eq _ _ _ h
    rw [← Sig.inst_eq S hok x, List.map_append, List.map_append] at e
    have := List.append_inj e (by rw [List.length_map, List.length_map, Sig.instA_length]; exact (beq_iff_eq.1 hl).symm)
    refine ⟨this.1.symm, ?_⟩
    have h2 := this.2
    rw [List.map_map, List.map_map] at h2
    have h3 : (boxes.map cEs).map SV.agg = ((S.instB x).map cEs).map SV.agg := by rw [List.map_map, List.map_map]; exact h2.symm
    exact map_agg_inj h3
  · cases h
end
/-! ## The contract, handed to callers -/
theorem overE_cEs {o : List (Option E)} : ∀ {a b : List E}, cEs a = cEs b → cEs (overE a o) = cEs (overE b o) := by
  induction o with
  | nil => intro a b h; cases a <;> cases b <;> simp_all [overE]
  | cons x o ih =>
    intro a b h
    cases a with
    | nil => cases b with
      | nil => rfl
      | cons y b => simp [cEs] at h
    | cons z a =>
      cases b with
      | nil => simp [cEs] at h
      | cons y b =>
        have h1 : cE z = cE y ∧ cEs a = cEs b := by simpa [cEs] using h
        show cE (match x with | some x => x | none => z) :: cEs (overE a o) = cE (match x with | some x => x | none => y) :: cEs (overE b o)
        rw [ih h1.2]
        cases x with
        | none => rw [h1.1]
        | some x => rfl
theorem newBoxes_cEs : ∀ {a b : List (List E)} (os : List (List (Option E))), a.map cEs = b.map cEs → (newBoxes a os).map cEs = (newBoxes b os).map cEs
  | [], [], os, _ => rfl
  | [], _ :: _, _, h => by simp at h
  | _ :: _, [], _, h => by simp at h
  | x :: a, y :: b, [], h => by simpa [newBoxes] using h
  | x :: a, y :: b, o :: os, h => by
    have h1 : cEs x = cEs y ∧ a.map cEs = b.map cEs := by simpa using h
    simp only [newBoxes, List.map_cons]
    rw [overE_cEs h1.1, newBoxes_cEs os h1.2]
def Sig.dY (S : Sig) : S.Y := IT.dflt _
def Sig.con (S : Sig) (hok : S.ok = true) (sh : S.X → Option S.Y) : Con where
  A := S.X
  R := S.Y
  d := S.dY
  mat := S.mat
  sh := sh
  out := fun _ y => S.out y
  frz := S.frz
  F := S.F sh
  ok := by
    intro args boxes x y hm hs
    obtain ⟨h1, h2⟩ := Sig.mat_eq S hok hm
    have : (boxes.map fun l => cEs l) = (S.instB x).map cEs := h2
    unfold Sig.F
    rw [h1, this, Sig.dec_inst S hok x]
    simp only [hs]
    rw [newBoxes_cEs _ h2]
/-! ## What the code gives -/
def splitV : Nat → SVE → Option (List SVE)
  | 1, v => some [v]
  | n, .tup vs => match vs.length == n with
    | true => mapO (fun p => match p.1, p.2 with
      | true, cs => some (.agg cs)
      | false, [c] => some (.one c)
      | false, _ => none) vs
    | false => none
  | _, _ => none
/-- the changed cells of a box that was there -/
def coll (d : Dirty) (k : Key) : Nat → List (Option Sh) → List E → Option (List E)
  | _, [], [] => some []
  | j, none :: o, c :: cs => match !part (.box k) j d && usable c with
    | true => coll d k (j + 1) o cs
    | false => none
  | j, some _ :: o, c :: cs => match coll d k (j + 1) o cs with
    | some l => some (c :: l)
    | none => none
  | _, _, _ => none
def collNew : List (Option Sh) → List E → Option (List E)
  | [], [] => some []
  | some _ :: o, c :: cs => match collNew o cs with
    | some l => some (c :: l)
    | none => none
  | _, _ => none
def collB (d : Dirty) : Nat → List (List E) → List (List (Option Sh)) → List (List E) → Option (List E)
  | i, b :: B, o :: os, c :: cs => match b.length == c.length && !whole (.box (.inb i)) d, coll d (.inb i) 0 o c, collB d (i + 1) B os cs with
    | true, some l, some l' => some (l ++ l')
    | _, _, _ => none
  | i, [], o :: os, c :: cs => match collNew o c, collB d (i + 1) [] os cs with
    | some l, some l' => some (l ++ l')
    | _, _ => none
  | _, [], [], [] => some []
  | _, _, _, _ => none
def Sig.matY (S : Sig) (d : Dirty) (B : List (List E)) (v : SVE) (bs : List (List E)) : Option S.Y :=
  match splitV S.res.length v, collB d 0 B S.rbox bs with
  | some vs, some cs => match vs.length == S.res.length with
    | true => IT.mat (S.res ++ S.rcells) (vs ++ cs.map .one)
    | false => none
  | _, _ => none
def finX (F : VFE) (A : List SVE) (B : List (List E)) (res : List ResultVar) (S : Sig) (x : Ex × PSE) : Tr S.Y :=
  match x.1 with
  | .exit _ => .fail
  | _ => ((exitE F.cfg.c res B.length).both (stOf A x.2)).bind fun y =>
    match decide (y.2.1.frz = S.frz) with
    | true => match S.matY y.2.1.dirty B y.1.1 y.1.2 with
      | some z => .leaf z
      | none => .fail
    | false => .fail
/-- what a function gives, as a tree -/
def evF (F : VFE) (tbl : Nat → Option LoopRec) (c : Code) (res : List ResultVar) (S : Sig) (x : S.X) : Tr S.Y :=
  (evC F (S.instA x) (inbs S.boxes.length) tbl c 0 (startE (S.instA x) (S.instB x))).bind (finX F (S.instA x) (S.instB x) res S)
/-! ## What is matched is what is given -/
theorem splitV_eq {n : Nat} {v : SVE} {vs : List SVE} (h : splitV n v = some vs) (hl : vs.length = n) : outVE vs = v := by
  unfold splitV at h
  split at h
  · cases h; rfl
  · rename_i n ws hn
    split at h
    · have e := mapO_some (g := tupOf) (f := fun p : Bool × List E => match p.1, p.2 with
        | true, cs => some (SVE.agg cs)
        | false, [c] => some (.one c)
        | false, _ => none) (fun a b hab => by
          obtain ⟨b1, cs⟩ := a
          cases b1 with
          | true => cases hab; rfl
          | false =>
            match cs, hab with
            | [c], hab => cases hab; rfl
            | [], hab => cases hab
            | _ :: _ :: _, hab => cases hab) ws vs h
      rw [e]
      match vs, hl with
      | [], _ => rfl
      | [u], hl => exact absurd hl.symm hn
      | _ :: _ :: _, _ => rfl
    · cases h
  · cases h
theorem coll_fill {d : Dirty} {k : Key} : ∀ (o : List (Option Sh)) (j : Nat) (c b l : List E), coll d k j o c = some l → b.length = c.length →
    (∀ i x y, part (.box k) (j + i) d = false → b[i]? = some x → c[i]? = some y → usable y = true → y = x) →
    ∀ l' rest, cEs l' = cEs l → ∃ os, fill1 o (l' ++ rest) = (os, rest) ∧ cEs (overE b os) = cEs c
  | [], j, [], b, l, h, hb, hk, l', rest, hl => by
    cases h
    cases b with
    | nil =>
      cases l' with
      | nil => exact ⟨[], rfl, rfl⟩
      | cons x r => simp [cEs] at hl
    | cons x b => simp at hb
  | none :: o, j, c :: cs, b, l, h, hb, hk, l', rest, hl => by
    simp only [coll] at h
    split at h
    · rename_i hc
      simp only [Bool.and_eq_true, Bool.not_eq_true'] at hc
      cases b with
      | nil => simp at hb
      | cons x b =>
        obtain ⟨os, h1, h2⟩ := coll_fill o (j + 1) cs b l h (by simpa using hb) (fun i y z hp hy hz hu => hk (i + 1) y z (by rw [show j + (i + 1) = j + 1 + i by omega]; exact hp) (by simpa using hy) (by simpa using hz) hu) l' rest hl
        refine ⟨none :: os, by simp only [fill1, h1], ?_⟩
        have e := hk 0 x c (by simpa using hc.1) rfl rfl hc.2
        show cE x :: cEs (overE b os) = cE c :: cEs cs
        rw [h2, e]
    · cases h
  | some sh :: o, j, c :: cs, b, l, h, hb, hk, l', rest, hl => by
    simp only [coll] at h
    split at h
    · rename_i l1 h1
      cases h
      cases b with
      | nil => simp at hb
      | cons x b =>
        cases l' with
        | nil => simp [cEs] at hl
        | cons z l' =>
          have hl2 : cE z = cE c ∧ cEs l' = cEs l1 := by simpa [cEs] using hl
          obtain ⟨os, h2, h3⟩ := coll_fill o (j + 1) cs b l1 h1 (by simpa using hb) (fun i y z hp hy hz hu => hk (i + 1) y z (by rw [show j + (i + 1) = j + 1 + i by omega]; exact hp) (by simpa using hy) (by simpa using hz) hu) l' rest hl2.2
          refine ⟨some z :: os, by simp only [List.cons_append, fill1, h2], ?_⟩
          show cE z :: cEs (overE b os) = cE c :: cEs cs
          rw [h3, hl2.1]
    · cases h
  | [], j, c :: cs, b, l, h, _, _, _, _, _ => by cases h
  | none :: o, j, [], b, l, h, _, _, _, _, _ => by cases h
  | some _ :: o, j, [], b, l, h, _, _, _, _, _ => by cases h
theorem collNew_fill : ∀ (o : List (Option Sh)) (c l : List E), collNew o c = some l → ∀ l' rest, cEs l' = cEs l → ∃ os, fill1 o (l' ++ rest) = (os, rest) ∧ cEs (unS os) = cEs c
  | [], [], l, h, l', rest, hl => by
    cases h
    cases l' with
    | nil => exact ⟨[], rfl, rfl⟩
    | cons x r => simp [cEs] at hl
  | some sh :: o, c :: cs, l, h, l', rest, hl => by
    simp only [collNew] at h
    split at h
    · rename_i l1 h1
      cases h
      cases l' with
      | nil => simp [cEs] at hl
      | cons z l' =>
        have hl2 : cE z = cE c ∧ cEs l' = cEs l1 := by simpa [cEs] using hl
        obtain ⟨os, h2, h3⟩ := collNew_fill o cs l1 h1 l' rest hl2.2
        refine ⟨some z :: os, by simp only [List.cons_append, fill1, h2], ?_⟩
        show cE z :: cEs (unS os) = cE c :: cEs cs
        rw [h3, hl2.1]
    · cases h
  | [], _ :: _, l, h, _, _, _ => by cases h
  | none :: o, _, l, h, _, _, _ => by cases h
  | some _ :: o, [], l, h, _, _, _ => by cases h
theorem cEs_split {l a b : List E} (h : cEs l = cEs (a ++ b)) : ∃ l1 l2, l = l1 ++ l2 ∧ cEs l1 = cEs a ∧ cEs l2 = cEs b := by
  refine ⟨l.take a.length, l.drop a.length, (List.take_append_drop _ _).symm, ?_, ?_⟩
  · have := congrArg (List.take a.length) h
    simpa [cEs, ← List.map_take] using this
  · have := congrArg (List.drop a.length) h
    simpa [cEs, ← List.map_drop] using this
theorem collB_fill {d : Dirty} : ∀ (os : List (List (Option Sh))) (i : Nat) (B bs : List (List E)) (l : List E), collB d i B os bs = some l →
    (∀ m b c, B[m]? = some b → bs[m]? = some c → whole (.box (.inb (i + m))) d = false → ∀ j x y, part (.box (.inb (i + m))) j d = false → b[j]? = some x → c[j]? = some y → usable y = true → y = x) →
    ∀ l', cEs l' = cEs l → (newBoxes B (fillB os l')).map cEs = bs.map cEs
  | [], i, [], [], l, h, _, l', hl => rfl
  | o :: os, i, b :: B, c :: bs, l, h, hk, l', hl => by
    simp only [collB] at h
    split at h
    · rename_i l1 l2 h1 h2 h3
      cases h
      simp only [Bool.and_eq_true, beq_iff_eq, Bool.not_eq_true'] at h1
      obtain ⟨l1', l2', rfl, e1, e2⟩ := cEs_split hl
      obtain ⟨ws, g1, g2⟩ := coll_fill o 0 c b l1 h2 h1.1 (fun j x y hp hx hy hu => hk 0 b c rfl rfl (by simpa using h1.2) j x y (by simpa using hp) hx hy hu) l1' l2' e1
      have ih := collB_fill os (i + 1) B bs l2 h3 (fun m b c hb hc hw j x y hp hx hy hu => hk (m + 1) b c (by simpa using hb) (by simpa using hc) (by rw [show i + (m + 1) = i + 1 + m by omega]; exact hw) j x y (by rw [show i + (m + 1) = i + 1 + m by omega]; exact hp) hx hy hu) l2' e2
      simp only [fillB, g1, newBoxes, List.map_cons]
      rw [g2, ih]
    · cases h
  | o :: os, i, [], c :: bs, l, h, hk, l', hl => by
    simp only [collB] at h
    split at h
    · rename_i l1 l2 h2 h3
      cases h
      obtain ⟨l1', l2', rfl, e1, e2⟩ := cEs_split hl
      obtain ⟨ws, g1, g2⟩ := collNew_fill o c l1 h2 l1' l2' e1
      have ih := collB_fill os (i + 1) [] bs l2 h3 (fun m b c hb => by simp at hb) l2' e2
      simp only [fillB, g1]
      show cEs (unS ws) :: (newBoxes [] (fillB os l2')).map cEs = cEs c :: bs.map cEs
      rw [g2, ih]
    · cases h
  | [], i, b :: B, bs, l, h, _, _, _ => by cases bs <;> simp [collB] at h
  | [], i, [], c :: bs, l, h, _, _, _ => by simp [collB] at h
  | o :: os, i, B, [], l, h, _, _, _ => by cases B <;> simp [collB] at h
theorem matY_eq {S : Sig} {d : Dirty} {B bs : List (List E)} {v : SVE} {y : S.Y} (h : S.matY d B v bs = some y)
    (hk : ∀ m b c, B[m]? = some b → bs[m]? = some c → whole (.box (.inb m)) d = false → ∀ j x z, part (.box (.inb m)) j d = false → b[j]? = some x → c[j]? = some z → usable z = true → z = x) :
    cSV v = cSV (S.out y).1 ∧ bs.map cEs = (newBoxes B (S.out y).2).map cEs := by
  unfold Sig.matY at h
  split at h
  · rename_i vs cs h1 h2
    split at h
    · rename_i h3
      have hl : vs.length = S.res.length := by simpa using h3
      have e := IT.mat_eq _ _ _ h
      rw [List.map_append] at e
      have ht : ((IT.inst (S.res ++ S.rcells) y).take S.res.length).map cSV = vs.map cSV := by
        have := congrArg (List.take S.res.length) e
        rw [List.take_append_of_le_length (by rw [List.length_map]; omega), List.take_of_length_le (l := vs.map cSV) (by rw [List.length_map]; omega), ← List.map_take] at this
        exact this
      have hd : ((IT.inst (S.res ++ S.rcells) y).drop S.res.length).map cSV = (cs.map SVE.one).map cSV := by
        have := congrArg (List.drop S.res.length) e
        rw [List.drop_append_of_le_length (by rw [List.length_map]; omega), List.drop_of_length_le (l := vs.map cSV) (by rw [List.length_map]; omega), ← List.map_drop, List.nil_append] at this
        exact this
      constructor
      · show cSV v = cSV (outVE ((IT.inst (S.res ++ S.rcells) y).take S.res.length))
        rw [outVE_eq, ht, ← outVE_eq, splitV_eq h1 hl]
      · symm
        refine collB_fill S.rbox 0 B bs cs h2 (by simpa using hk) _ ?_
        generalize (IT.inst (S.res ++ S.rcells) y).drop S.res.length = l at hd
        clear h2 h e ht
        induction l generalizing cs with
        | nil => cases cs <;> first | rfl | simp at hd
        | cons u l ih =>
          cases cs with
          | nil => simp at hd
          | cons c cs =>
            simp only [List.map_cons, List.cons.injEq] at hd
            show cE (takeCell u) :: cEs (l.map takeCell) = cE c :: cEs cs
            rw [ih cs hd.2]
            congr 1
            cases u with
            | one x => have := hd.1; simp only [cSV, SV.one.injEq] at this; exact this
            | _ => have := hd.1; simp [cSV] at this
    · cases h
  · cases h
end Go.Ve
/- A FUNCTION's CONTRACT, from the typed evaluator. -/
namespace Go.Ve
open Go.Vs
theorem frz1_eq (v : SVE) (j : Nat) : frz1 (cSV v) j = cSV (frz1E v j) := by
  have hat : (cSV v).cells.getD j .dead = cE (v.cells.getD j .dead) := by rw [cells_eq]; exact getD_map cE _ j .dead
  unfold frz1 frz1E
  rw [hat]
  cases hc : v.cells.getD j .dead with
  | l m t xs =>
    cases m with
    | own => simp only [cE, lC]; rw [setCell_eq]; rfl
    | _ => rfl
  | n m t o =>
    cases m with
    | own =>
      cases o with
      | none =>
        simp only [cE]
        rw [setCell_eq]
        symm
        have hlt : j < (cSV v).cells.length := by
          rw [cells_eq, cEs_length]
          by_cases h : j < v.cells.length
          · exact h
          · rw [List.getD_eq_getElem?_getD, List.getElem?_eq_none (by omega)] at hc; cases hc
        have := setCell_same (cSV v) j hlt
        rw [hat, hc] at this
        exact this
      | some xs => simp only [cE, lC]; rw [setCell_eq]; rfl
    | _ => cases o <;> rfl
  | gone b => cases b <;> rfl
  | _ => rfl
theorem frzArgs_eq : ∀ (l : List (Nat × Nat)) (A : List SVE), frzArgs l (A.map cSV) = (frzArgsE l A).map cSV
  | [], A => rfl
  | (i, j) :: r, A => by
    simp only [frzArgs, frzArgsE]
    rw [← frzArgs_eq r, lset_eq, List.map_set]
    congr 2
    have : (A.map cSV).getD i .undef = cSV (A.getD i .undef) := getD_map cSV A i .undef
    rw [this]
    exact frz1_eq _ j
theorem It.nrm_inst {i : It} (h : i.ok = true) (x : i.T) : ∀ c ∈ (i.inst x).cells, nrm c = c := by
  have shn : ∀ {h : Sh} (x : h.T), h.plain = true → nrm (h.inst x) = h.inst x := by
    intro h x hp
    cases h with
    | l m t => cases m <;> first | rfl | cases hp
    | n m t => cases m <;> first | rfl | cases hp
    | _ => rfl
  have rown : ∀ (t : Ty) (x : t.T), ∀ c ∈ cellsT t x, nrm c = c := by
    intro t
    induction t with
    | pair h t ih1 ih2 =>
      intro x c hc
      simp only [cellsT, List.mem_append] at hc
      rcases hc with hc | hc
      · exact ih1 _ c hc
      · exact ih2 _ c hc
    | _ => intro x c hc; simp only [cellsT, List.mem_singleton] at hc; subst hc; rfl
  have hts : ∀ (l : List Sh) (x : HT l), l.all Sh.plain = true → ∀ c ∈ HT.inst l x, nrm c = c := by
    intro l
    induction l with
    | nil => intro x _ c hc; cases hc
    | cons h r ih =>
      intro x hp c hc
      rw [List.all_cons, Bool.and_eq_true] at hp
      cases r with
      | nil => simp only [HT.inst, List.mem_singleton] at hc; subst hc; exact shn _ hp.1
      | cons h' r =>
        simp only [HT.inst, List.mem_cons] at hc
        rcases hc with rfl | hc
        · exact shn _ hp.1
        · exact ih _ hp.2 c hc
  cases i with
  | one h => intro c hc; simp only [It.inst, SVE.cells, List.mem_singleton] at hc; subst hc; exact shn x h
  | row t => exact rown t x
  | cells l => exact hts l x h
  | _ => intro c hc; simp only [It.inst, SVE.cells, List.mem_singleton] at hc; subst hc; rfl
theorem IT.nrm_inst : ∀ (l : List It) (x : IT l), l.all It.ok = true → ∀ v ∈ IT.inst l x, ∀ c ∈ v.cells, nrm c = c
  | [], _, _ => fun v hv => by cases hv
  | i :: r, x, h => by
    rw [List.all_cons, Bool.and_eq_true] at h
    intro v hv
    simp only [IT.inst, List.mem_cons] at hv
    rcases hv with rfl | hv
    · exact It.nrm_inst h.1 _
    · exact IT.nrm_inst r _ h.2 v hv
theorem idx_app {k : Key} : ∀ {l r : List Key}, k ∈ l → idx k (l ++ r) = idx k l
  | q :: l, r, h => by
    show (if k = q then 0 else idx k (l ++ r) + 1) = if k = q then 0 else idx k l + 1
    by_cases e : k = q
    · rw [if_pos e, if_pos e]
    · rw [if_neg e, if_neg e, idx_app (by rcases List.mem_cons.1 h with h | h; exact absurd h e; exact h)]
theorem idx_inbs {i n : Nat} {r : List Key} (h : i < n) : idx (.inb i) (inbs n ++ r) = i := by
  have hm : Key.inb i ∈ inbs n := List.mem_map.2 ⟨i, List.mem_range.2 h, rfl⟩
  rw [idx_app hm]
  exact idx_get (inbs_nodup n) (inbs_get h)
theorem instB_nrm {S : Sig} (hok : S.ok = true) (x : S.X) : ∀ b ∈ S.instB x, ∀ c ∈ b, nrm c = c := by
  intro b hb c hc
  obtain ⟨v, hv, rfl⟩ := List.mem_map.1 hb
  simp only [Sig.ok, Bool.and_eq_true] at hok
  refine IT.nrm_inst _ x (by rw [List.all_append, hok.1.1, hok.1.2]; rfl) v (List.mem_of_mem_drop hv) c ?_
  cases v <;> first | exact hc | (simp [boxCells] at hc)
theorem startBoxes_get (A : List SVE) (B : List (List E)) (m : Nat) : (stOf A (startE A B)).get (.box (.inb m)) = { v := match B[m]? with | some b => .agg b | none => .undef } := by
  rw [stOf_box]
  have : ∀ (B : List (List E)) (i m : Nat), lkB (.inb m) (startBoxesE i B) = if i ≤ m then B[m - i]? else none := by
    intro B
    induction B with
    | nil => intro i m; simp [startBoxesE, lkB]
    | cons b B ih =>
      intro i m
      simp only [startBoxesE, lkB, keqb]
      by_cases h : m = i
      · subst h; simp
      · rw [show (m == i) = false by simpa using h, ih]
        by_cases h2 : i ≤ m
        · rw [if_pos (by omega), if_pos h2, show m - i = (m - (i + 1)) + 1 by omega]; simp
        · rw [if_neg (by omega), if_neg h2]
  show ({ v := match lkB (.inb m) (startBoxesE 0 B) with | some cs => .agg cs | none => .undef } : RVE) = _
  rw [this B 0 m]
  simp
def bodyOf (fn : Func) : Code := match fn.body with | some c => c | none => .skip
theorem fn_sig0 {P : Program} {f : FuncId} {fn : Func} {c : Code} {F : VFE} {tbl : Nat → Option LoopRec} {S : Sig} {sh : S.X → Option S.Y} (hf : P.funcs[f]? = some fn) (hb : fn.body = some c) (hmix : P.follows .mixedOrders = true) (hC : COK P F.cfg.c)
    (hN : fn.ntmps = F.cfg.N) (hok : S.ok = true) (hargs : S.args.length ≤ F.cfg.N) (hbk : ∀ x, okBk (S.instA x) (inbs S.boxes.length) F.bkeys = true) (hrun : ∀ x y, sh x = some y → (evF F tbl c fn.results.toList S x).run = some y) : FnCalls P f (S.F sh) := by
  intro args boxes r hF w vals β ω Z hsz hokA hpl hent
  unfold Sig.F at hF
  split at hF
  · rename_i x hx
    split at hF
    · rename_i y hy
      cases hF
      obtain ⟨rfl, rfl⟩ := Sig.dec_some S hok hx
      have hrun := hrun x y hy
      refine calls_of_wp hf hb ?_
      have hlenA : ((S.instA x).map cSV).length = S.args.length := by rw [List.length_map, Sig.instA_length]
      have hlenB : ((S.instB x).map cEs).length = S.boxes.length := by rw [List.length_map, Sig.instB_length]
      have hstart := start_rel (N := fn.ntmps) hent hsz hokA hpl (by rw [hN, hlenA]; exact hargs)
      have hek := entry_keys hent
      have hfok : FOK (ctxOf P fn.ntmps w vals β ω Z) (S.instA x) (inbs S.boxes.length) := by
        refine ⟨by show vals.size = _; rw [hsz, List.length_map], fun k b hk => ?_⟩
        obtain ⟨i, hi, rfl⟩ := hek k b hk
        rw [hlenB] at hi
        exact List.mem_map.2 ⟨i, List.mem_range.2 hi, rfl⟩
      have hall := (Tr.all_iff _ (fun z => z = y)).2 ⟨y, hrun, rfl⟩
      unfold evF at hall
      rw [all_bind] at hall
      have hall2 := Tr.all_and hall (Tr.each_box (evC_keep (F := F) (tbl := tbl) hfok c 0 (startE (S.instA x) (S.instB x))))
      have hp0 : PRel (ctxOf P fn.ntmps w vals β ω Z) (cPS (S.instA x) (startE (S.instA x) (S.instB x))) { tmps := vals ++ Array.replicate (fn.ntmps - vals.size) undef, defers := [] } w := by
        rw [cPS_start]
        exact ⟨⟨β, ω, Z, hstart⟩, by show ((S.instA x).map cSV).length = vals.size; omega⟩
      refine wp_mono (evC_sound (K := ctxOf P fn.ntmps w vals β ω Z) (tbl := tbl) hC hN hmix hfok (hbk x) c 0 _ _ _ w hall2 hp0) ?_
      rintro e a w' ⟨⟨ex, p'⟩, rfl, ⟨hfin, hkeep⟩, hpr⟩
      have hex : ex = .normal ∨ ex = .ret := by
        cases ex with
        | exit i => exact hfin.elim
        | normal => exact .inl rfl
        | ret => exact .inr rfl
      have hfin2 : (((exitE F.cfg.c fn.results.toList (S.instB x).length).both (stOf (S.instA x) p')).bind fun y =>
          match decide (y.2.1.frz = S.frz) with
          | true => match S.matY y.2.1.dirty (S.instB x) y.1.1 y.1.2 with
            | some z => Tr.leaf z
            | none => .fail
          | false => .fail).all (fun z => z = y) := by
        rcases hex with rfl | rfl <;> exact hfin
      rw [all_bind] at hfin2
      have h1 := Tr.all_and (Tr.all_and (Tr.all_and hfin2 (exitE_sim F.cfg.c fn.results.toList (S.instB x).length (stOf (S.instA x) p'))) (Tr.each_box (exitE_holds F.cfg.c fn.results.toList (S.instB x).length (stOf (S.instA x) p')))) (Tr.each_box (both_step (exitE F.cfg.c fn.results.toList (S.instB x).length) (stOf (S.instA x) p') (isBox_stOf _ p')))
      obtain ⟨⟨⟨v, bs⟩, s', fr, fw⟩, _, ⟨⟨h2, h3⟩, h4⟩, h5⟩ := (Tr.all_iff _ _).1 h1
      simp only at h2 h3 h4 h5
      split at h2
      · rename_i hfz
        have hfz : s'.frz = S.frz := of_decide_eq_true hfz
        split at h2
        · rename_i z hz
          have e : z = y := h2
          subst e
          obtain ⟨ks, hholds⟩ := h4
          -- the whole run keeps what it does not mark
          obtain ⟨_, hargs', l, hl, hk5⟩ := h5
          obtain ⟨⟨l0, hl0⟩, hk0⟩ := hkeep
          have hkall : Keep s'.dirty (stOf (S.instA x) (startE (S.instA x) (S.instB x))) s' := by
            refine Keep.trans ?_ hk5
            rw [hl]
            exact hk0.more
          have hmat := matY_eq hz (fun m b c hb hc hw j u v hp hu hv huv => by
            have hm : m < S.boxes.length := by
              have := (List.getElem?_eq_some_iff.1 hb).1
              rwa [Sig.instB_length] at this
            have hhold : ∃ o, (s'.get (.box (.inb m))).v = .agg o ∧ o.all (tokE (inbs (S.instB x).length ++ ks)) = true ∧ c = o.map (tcE (inbs (S.instB x).length ++ ks)) := by
              have gen : ∀ (kk ks : List Key) (bs : List (List E)) (i : Nat) (k : Key) (c : List E), Holds kk s' ks bs → ks[i]? = some k → bs[i]? = some c → ∃ o, (s'.get (.box k)).v = .agg o ∧ o.all (tokE kk) = true ∧ c = o.map (tcE kk) := by
                intro kk ks
                induction ks with
                | nil => intro bs i k c _ h; simp at h
                | cons q ks ih =>
                  intro bs i k c hh hk hc
                  cases bs with
                  | nil => exact hh.elim
                  | cons b bs =>
                    cases i with
                    | zero => simp only [List.getElem?_cons_zero, Option.some.injEq] at hk hc; subst hk hc; exact hh.1
                    | succ i => exact ih bs i k c hh.2 (by simpa using hk) (by simpa using hc)
              refine gen _ _ bs m _ c hholds ?_ hc
              rw [Sig.instB_length, List.getElem?_append_left (by simpa [inbs] using hm)]
              simp [inbs, List.getElem?_range hm]
            obtain ⟨orig, hhold, htok, rfl⟩ := hhold
            have hkb := hkall.2 (.inb m) hw
            rw [startBoxes_get, hb, hhold] at hkb
            rcases hkb with hkb | ⟨cs, cs', g1, g2, g3, g4⟩
            · cases hkb
            · cases g1
              cases g2
              rw [List.getElem?_map] at hv
              cases hvo : orig[j]? with
              | none => rw [hvo] at hv; cases hv
              | some v0 =>
                rw [hvo] at hv
                simp only [Option.map_some, Option.some.injEq] at hv
                obtain ⟨u', q1, q2⟩ := g4 j hp v0 hvo
                rw [hu] at q1
                cases q1
                have hn := instB_nrm hok x b (List.mem_of_getElem? hb) u (List.mem_of_getElem? hu)
                have hv0 : usable v0 = true := by
                  cases v0 with
                  | ptr k off => rfl
                  | _ => rw [← hv] at huv; exact huv
                have e := usable_wk q2 hv0
                rw [hn] at e
                subst e
                rw [← hv]
                cases v0 with
                | ptr k off =>
                  obtain ⟨i, rfl, hi⟩ := instB_ptr hok x b (List.mem_of_getElem? hb) _ (List.mem_of_getElem? hu) k off rfl
                  show E.ptr (.inb (idx (.inb i) (inbs (S.instB x).length ++ ks))) off = _
                  rw [idx_inbs (by rw [Sig.instB_length]; exact hi)]
                | _ => rfl)
          obtain ⟨hv, hbs⟩ := hmat
          obtain ⟨β1, ω1, Z1, hr⟩ := hpr.1
          have hexec : (exitP F.cfg.c fn.results.toList S.boxes.length).exec (cPS (S.instA x) p').st = some ((cSV v, bs.map cEs), cSt s') := by
            obtain ⟨fr, fw, h3, _, _⟩ := h3
            have h3 : (exitP F.cfg.c fn.results.toList (S.instB x).length).both (cSt (stOf (S.instA x) p')) = some ((cSV v, bs.map cEs), cSt s', fr, fw) := h3
            rw [cSt_stOf, both_spec, Sig.instB_length] at h3
            cases hx : (exitP F.cfg.c fn.results.toList S.boxes.length).exec (cPS (S.instA x) p').st with
            | none => rw [hx] at h3; cases h3
            | some q => rw [hx] at h3; simp only [Option.map_some, Option.some.injEq, Prod.mk.injEq] at h3; obtain ⟨e1, e2, _⟩ := h3; cases q; simp only at e1 e2; rw [e1, e2]
          rw [hv, hbs] at hexec
          have hek2 : ∀ k b, β k = some b → ∃ i, i < S.boxes.length ∧ k = .inb i := by
            intro k b hk
            obtain ⟨i, hi, h⟩ := hek k b hk
            exact ⟨i, by rw [← hlenB]; exact hi, h⟩
          obtain ⟨u, β', ω', Z', g1, g2⟩ := exit_good (r := { v := cSV (S.out z).1, boxes := (newBoxes (S.instB x) (S.out z).2).map cEs, frz := S.frz }) hC.tabs hr hsz hokA hent.args hek2 hexec (fun i hi => by
            show (cRV (s'.get (.arg i))).v = (frzArgs S.frz ((S.instA x).map cSV)).getD i .undef
            rw [frzArgs_eq, ← hfz]
            have : ((frzArgsE s'.frz (S.instA x)).map cSV).getD i .undef = cSV ((frzArgsE s'.frz (S.instA x)).getD i .undef) := getD_map cSV _ i .undef
            rw [this]
            show cSV ((frzArgsE s'.frz s'.args).getD i .undef) = _
            rw [hargs']
            rfl)
          have hbp : bodyPost P fn (fun e w' => ∃ v β' ω' Z', e = .returned v ∧ Rel (ctxOf P 1 w vals β ω Z) β' ω' Z' (exitSt ((S.instA x).map cSV) { v := cSV (S.out z).1, boxes := (newBoxes (S.instB x) (S.out z).2).map cEs, frz := S.frz }) { tmps := #[v], defers := [] } w') .ret a w' :=
            ⟨hr.defers, u, g1, u, β', ω', Z', rfl, g2⟩
          rcases hex with rfl | rfl
          · exact hbp
          · exact hbp
        · exact h2.elim
      · exact h2.elim
    · cases hF
  · cases hF
def hasBody (fn : Func) : Bool := match fn.body with | some _ => true | none => false
/-- what the function gives, as the typed evaluator sees it -/
def gives (F : VFE) (tbl : Nat → Option LoopRec) (fn : Func) (S : Sig) (x : S.X) : Option S.Y := (evF F tbl (bodyOf fn) fn.results.toList S x).run
theorem fn_sig {P : Program} {f : FuncId} {fn : Func} {F : VFE} {tbl : Nat → Option LoopRec} {S : Sig} {sh : S.X → Option S.Y} (hf : P.funcs[f]? = some fn) (hb : hasBody fn = true) (hmix : P.follows .mixedOrders = true) (hC : COK P F.cfg.c)
    (hN : fn.ntmps = F.cfg.N) (hok : S.ok = true) (hargs : S.args.length ≤ F.cfg.N) (hbk : ∀ x, okBk (S.instA x) (inbs S.boxes.length) F.bkeys = true) (hrun : ∀ x, gives F tbl fn S x = sh x) : FnCalls P f (S.F sh) := by
  have hc : fn.body = some (bodyOf fn) := by
    unfold hasBody at hb
    unfold bodyOf
    cases h : fn.body with
    | none => rw [h] at hb; cases hb
    | some c => rfl
  exact fn_sig0 hf hc hmix hC hN hok hargs hbk fun x y h => (hrun x).trans h
theorem con_good {P : Program} {f : FuncId} {fn : Func} {S : Sig} {sh : S.X → Option S.Y} (hf : P.funcs[f]? = some fn) (hname : (fn.name == "runtime.NumGoroutine") = false) (hb : hasBody fn = true) (h : FnCalls P f (S.F sh)) : CallOK P f (S.F sh) := by
  have hc : fn.body = some (bodyOf fn) := by
    unfold hasBody at hb
    unfold bodyOf
    cases h : fn.body with
    | none => rw [h] at hb; cases hb
    | some c => rfl
  exact fn_ok hf hname hc h
end Go.Ve
/- Tables of contracts; laws. -/
namespace Go.Ve
open Go.Vs
/-! ## Tables -/
def lkF (f : FuncId) : List (FuncId × Con) → Option Con
  | [] => none
  | (g, K) :: r => match f == g with
    | true => some K
    | false => lkF f r
theorem lkF_mem {f : FuncId} : ∀ {l : List (FuncId × Con)} {K : Con}, lkF f l = some K → (f, K) ∈ l
  | (g, K') :: r, K, h => by
    simp only [lkF] at h
    split at h
    · rename_i e; cases h; have : f = g := by simpa using e
      subst this; simp
    · exact List.mem_cons_of_mem _ (lkF_mem h)
def Good1 (P : Program) (x : FuncId × Con) : Prop := CallOK P x.1 x.2.F
theorem cok_list {P : Program} {e : ECfg} {l : List (FuncId × Con)} (hT : Tabs P e.c) (hcon : e.con = fun _ f => lkF f l) (h : ∀ x ∈ l, Good1 P x) : COK P e.c := by
  refine ⟨hT, fun t f F hf => ?_⟩
  have hf : (match e.con t f with | some K => some K.F | none => none) = some F := hf
  rw [hcon] at hf
  simp only at hf
  split at hf
  · rename_i K hK
    cases hf
    exact h _ (lkF_mem hK)
  · cases hf
/-- contracts picked by the call's place -/
def lkS (t : Nat) (f : FuncId) (l : List (FuncId × Con)) : List (Nat × FuncId × Con) → Option Con
  | [] => lkF f l
  | (u, g, K) :: r => match t == u && f == g with
    | true => some K
    | false => lkS t f l r
theorem lkS_mem {t : Nat} {f : FuncId} {l : List (FuncId × Con)} : ∀ {s : List (Nat × FuncId × Con)} {K : Con}, lkS t f l s = some K → (f, K) ∈ l ∨ (t, f, K) ∈ s
  | [], K, h => .inl (lkF_mem h)
  | (u, g, K') :: r, K, h => by
    simp only [lkS] at h
    split at h
    · rename_i e
      simp only [Bool.and_eq_true, beq_iff_eq] at e
      cases h
      obtain ⟨rfl, rfl⟩ := e
      exact .inr (List.mem_cons_self ..)
    · rcases lkS_mem h with h | h
      · exact .inl h
      · exact .inr (List.mem_cons_of_mem _ h)
theorem cok_sites {P : Program} {e : ECfg} {l : List (FuncId × Con)} {s : List (Nat × FuncId × Con)} (hT : Tabs P e.c) (hcon : e.con = fun t f => lkS t f l s) (h : ∀ x ∈ l, Good1 P x) (hs : ∀ x ∈ s, Good1 P x.2) : COK P e.c := by
  refine ⟨hT, fun t f F hf => ?_⟩
  have hf : (match e.con t f with | some K => some K.F | none => none) = some F := hf
  rw [hcon] at hf
  simp only at hf
  split at hf
  · rename_i K hK
    cases hf
    rcases lkS_mem hK with h' | h'
    · exact h _ h'
    · exact hs _ h'
  · cases hf
theorem good_of {P : Program} {f : FuncId} {fn : Func} {S : Sig} {hok : S.ok = true} {sh : S.X → Option S.Y} (hf : P.funcs[f]? = some fn) (hname : (fn.name == "runtime.NumGoroutine") = false) (hb : hasBody fn = true) (h : FnCalls P f (S.F sh)) : Good1 P (f, S.con hok sh) := con_good hf hname hb h
/-! ## Types of data -/
def tyFs (f : TypeId → Option Ty) : List (Nat × TypeId) → Option Ty
  | [] => none
  | (_, t) :: r => match r with
    | [] => f t
    | x :: r => match f t, tyFs f (x :: r) with
      | some a, some b => some (.pair a b)
      | _, _ => none
def tyOf (cfg : Cfg) : Nat → TypeId → Option Ty
  | 0, _ => none
  | n + 1, t => match cfg.ti t with
    | some { kind := .bool, .. } => some .bool
    | some { kind := .int k, .. } => some (.int k)
    | some { kind := .str, .. } => some .str
    | some { kind := .slice e, .. } => match cfg.ti e, tyOf cfg n e with
      | some i, some r => if i.size = r.w then some (.sl r) else none
      | _, _ => none
    | some { kind := .struct fs, .. } => tyFs (tyOf cfg n) fs
    | _ => none
def Wf : (t : Ty) → t.T → Prop
  | .int k, x => k.min ≤ x ∧ x ≤ k.max
  | .bool, _ => True
  | .str, _ => True
  | .sl r, o => match o with
    | none => True
    | some xs => ∀ x ∈ xs, Wf r x
  | .pair h t, x => Wf h x.1 ∧ Wf t x.2
def bulkT : (t : Ty) → t.T → Nat
  | .int _, _ => 1
  | .bool, _ => 1
  | .str, s => s.length + 1
  | .sl r, o => match o with
    | none => 1
    | some xs => (xs.map (bulkT r)).sum + 1
  | .pair h t, x => bulkT h x.1 + bulkT t x.2
theorem bulkT_eq : ∀ (t : Ty) (x : t.T), bulkL (encR t x) = bulkT t x
  | .int _, _ => rfl
  | .bool, _ => rfl
  | .str, s => by simp [encR, bulkL, bulkD, bulkT]
  | .sl r, o => by
    cases o with
    | none => rfl
    | some xs =>
      simp only [encR, bulkL, bulkD, bulkT, Nat.add_zero]
      congr 1
      induction xs with
      | nil => rfl
      | cons x xs ih => simp only [List.map_cons, bulkLL, List.sum_cons, bulkT_eq r x, ih]
  | .pair h t, x => by simp only [encR, bulkL_append, bulkT_eq h x.1, bulkT_eq t x.2, bulkT]
theorem wf_fs {W : TypeId → List D → Prop} {f : TypeId → Option Ty} (h : ∀ t ds ty, W t ds → f t = some ty → ∃ x : ty.T, ds = encR ty x ∧ Wf ty x) : ∀ (fs : List (Nat × TypeId)) (ds : List D) (ty : Ty), WfFs W fs ds → tyFs f fs = some ty → ∃ x : ty.T, ds = encR ty x ∧ Wf ty x
  | [], ds, ty, _, e => by cases e
  | (o, t) :: r, ds, ty, hw, e => by
    obtain ⟨a, b, rfl, h1, h2⟩ := hw
    cases r with
    | nil =>
      have h2 : b = [] := h2
      subst h2
      rw [List.append_nil]
      exact h t a ty h1 e
    | cons y r =>
      simp only [tyFs] at e
      split at e
      · rename_i ta tb e1 e2
        cases e
        obtain ⟨x, rfl, w1⟩ := h t a ta h1 e1
        obtain ⟨z, rfl, w2⟩ := wf_fs h (y :: r) b tb h2 e2
        exact ⟨(x, z), rfl, w1, w2⟩
      · cases e
theorem wf_data {cfg : Cfg} : ∀ (n : Nat) (t : TypeId) (ds : List D) (ty : Ty), WfD cfg n t ds → tyOf cfg n t = some ty → ∃ x : ty.T, ds = encR ty x ∧ Wf ty x := by
  intro n
  induction n with
  | zero => intro t ds ty h; exact h.elim
  | succ n ih =>
    intro t ds ty h e
    simp only [WfD] at h
    simp only [tyOf] at e
    split at e
    · rename_i hti; rw [hti] at h; cases e; obtain ⟨b, rfl⟩ := h; exact ⟨b, rfl, trivial⟩
    · rename_i hti; rw [hti] at h; cases e; obtain ⟨x, rfl, h2⟩ := h; exact ⟨x, rfl, h2⟩
    · rename_i hti; rw [hti] at h; cases e; obtain ⟨x, rfl, _⟩ := h; exact ⟨x, rfl, trivial⟩
    · rename_i et _ hti
      rw [hti] at h
      simp only at h
      split at e
      · rename_i i r hi hr
        rw [hi] at h
        simp only at h
        split at e
        · rename_i hw
          cases e
          rcases h with rfl | ⟨xs, rfl, hlen, hx⟩
          · exact ⟨none, rfl, trivial⟩
          · have : ∃ ys : List r.T, xs = ys.map (encR r) ∧ ∀ y ∈ ys, Wf r y := by
              clear hlen
              induction xs with
              | nil => exact ⟨[], rfl, by simp⟩
              | cons x xs ihx =>
                obtain ⟨y, e1, w1⟩ := ih et x r (hx x (List.mem_cons_self ..)) hr
                obtain ⟨ys, e2, w2⟩ := ihx fun z hz => hx z (List.mem_cons_of_mem _ hz)
                exact ⟨y :: ys, by rw [e1, e2]; rfl, by
                  intro z hz
                  simp only [List.mem_cons] at hz
                  rcases hz with rfl | hz
                  · exact w1
                  · exact w2 z hz⟩
            obtain ⟨ys, rfl, hw2⟩ := this
            exact ⟨some ys, by rw [hw]; rfl, hw2⟩
        · cases e
      · cases e
    · rename_i fs _ hti
      rw [hti] at h
      exact wf_fs (fun t ds ty => ih t ds ty) fs ds ty h e
    · cases e
/-! ## The arguments of a law -/
def itemOf (cfg : Cfg) (n : Nat) (t : TypeId) : Option It :=
  match cfg.ti t with
  | some i => match i.kind.agg, tyOf cfg n t with
    | true, some ty => some (.row ty)
    | false, some (.int k) => some (.one (.i k))
    | false, some .bool => some (.one .b)
    | false, some .str => some (.one .s)
    | false, some (.sl r) => some (.one (.n .data r))
    | _, _ => none
  | none => none
def itemsOf (cfg : Cfg) (n : Nat) : List TypeId → Option (List It)
  | [] => some []
  | t :: r => match itemOf cfg n t, itemsOf cfg n r with
    | some i, some l => some (i :: l)
    | _, _ => none
def WfS : (h : Sh) → h.T → Prop
  | .i k, x => k.min ≤ x ∧ x ≤ k.max
  | .b, _ => True
  | .s, _ => True
  | .l _ t, xs => ∀ x ∈ xs, Wf t x
  | .n _ t, o => Wf (.sl t) o
def bulkS : (h : Sh) → h.T → Nat
  | .i _, _ => 1
  | .b, _ => 1
  | .s, x => x.length + 1
  | .l _ t, xs => (xs.map (bulkT t)).sum + 1
  | .n _ t, o => bulkT (.sl t) o
def WfI : (i : It) → i.T → Prop
  | .one h, x => WfS h x
  | .row t, x => Wf t x
  | _, _ => True
def bulkI : (i : It) → i.T → Nat
  | .one h, x => bulkS h x
  | .row t, x => bulkT t x
  | _, _ => 0
def WfIT : (l : List It) → IT l → Prop
  | [], _ => True
  | i :: r, x => WfI i (IT.hd i r x) ∧ WfIT r (IT.tl IT.dflt i r x)
def bulkIT : (l : List It) → IT l → Nat
  | [], _ => 0
  | i :: r, x => bulkI i (IT.hd i r x) + bulkIT r (IT.tl IT.dflt i r x)
theorem wf_item {cfg : Cfg} {n : Nat} {t : TypeId} {ds : List D} {i : It} (h : WfD cfg n t ds) (e : itemOf cfg n t = some i) : ∃ x : i.T, toSV cfg t ds = cSV (i.inst x) ∧ WfI i x ∧ bulkI i x = bulkL ds := by
  unfold itemOf at e
  unfold toSV
  split at e
  · rename_i ti hti
    rw [hti]
    simp only
    split at e
    · rename_i ty ha hty
      cases e
      obtain ⟨x, rfl, hw⟩ := wf_data n t ds ty h hty
      rw [if_pos ha]
      refine ⟨x, ?_, hw, (bulkT_eq ty x).symm⟩
      show _ = SV.agg (cEs (cellsT ty x))
      rw [cells_enc]
    · rename_i k ha hty
      cases e
      obtain ⟨x, rfl, hw⟩ := wf_data n t ds _ h hty
      rw [if_neg (by simp [ha])]
      exact ⟨x, rfl, hw, rfl⟩
    · rename_i ha hty
      cases e
      obtain ⟨x, rfl, hw⟩ := wf_data n t ds _ h hty
      rw [if_neg (by simp [ha])]
      exact ⟨x, rfl, hw, rfl⟩
    · rename_i ha hty
      cases e
      obtain ⟨x, rfl, hw⟩ := wf_data n t ds _ h hty
      rw [if_neg (by simp [ha])]
      exact ⟨x, rfl, hw, (bulkT_eq .str x).symm⟩
    · rename_i r ha hty
      cases e
      obtain ⟨x, rfl, hw⟩ := wf_data n t ds _ h hty
      rw [if_neg (by simp [ha])]
      refine ⟨x, ?_, hw, (bulkT_eq (.sl r) x).symm⟩
      cases x <;> rfl
    · cases e
  · cases e
theorem itemOf_has {cfg : Cfg} {n : Nat} {t : TypeId} {i : It} (e : itemOf cfg n t = some i) : i.has = true := by
  unfold itemOf at e
  split at e
  · split at e <;> first | (cases e; rfl) | (cases e; done)
  · cases e
theorem wf_items {cfg : Cfg} {n : Nat} : ∀ (ts : List TypeId) (dss : List (List D)) (l : List It), dss.length = ts.length → Vs.All2 (fun t x => WfD cfg n t x) ts dss → itemsOf cfg n ts = some l → ∃ x : IT l, svsOf cfg ts dss = (IT.inst l x).map cSV ∧ WfIT l x ∧ bulkIT l x = bulkLL dss
  | [], [], l, _, _, e => by cases e; exact ⟨(), rfl, trivial, rfl⟩
  | t :: ts, ds :: dss, l, hl, hw, e => by
    simp only [itemsOf] at e
    split at e
    · rename_i i r h1 h2
      cases e
      obtain ⟨x, e1, w1, b1⟩ := wf_item hw.1 h1
      obtain ⟨y, e2, w2, b2⟩ := wf_items ts dss r (by simpa using hl) hw.2 h2
      refine ⟨IT.cons i r x y, ?_, ?_, ?_⟩
      · simp only [svsOf, IT.inst, List.map_cons, IT.hd_cons, IT.tl_cons, e1, e2]
      · simp only [WfIT, IT.hd_cons, IT.tl_cons]; exact ⟨w1, w2⟩
      · simp only [bulkIT, IT.hd_cons, IT.tl_cons, bulkLL, b1, b2]
    · cases e
  | [], _ :: _, _, h, _, _ => by simp at h
  | _ :: _, [], _, h, _, _ => by simp at h
/-! ## Laws -/
open Go.ChangeShapes in
/-- THE LAW's CONTRACT, from what the law's typed function gives. -/
theorem law_typed {H : Type} {enc : TypeId × Value → H} {P : Program} {W : World} {cfg : Cfg} {base : Nat} {args : Array Value} {ds gs : List (DataW H)} {before : List MemPlace} {f : FuncId} {fn : Func} {sp : ChangeSpec} {n m : Nat} {ts : List TypeId} {tb : TypeId} {l : List It}
    {sh : IT (l ++ []) → Option Bool} (hok : Sig.ok { args := l, res := [.one .b] } = true) (hF : FnCalls P f (Sig.F { args := l, res := [.one .b] } sh)) (hT : Tabs P cfg) (hvars : sp.vars = []) (hparams : fn.params.toList = ts) (hrt : fn.resultTypes = #[tb]) (hbool : P.underlying tb = some .bool)
    (hitems : itemsOf cfg n ts = some l)
    (hplain : ∀ t ∈ ts, plainT cfg n t = true) (hlaid : laidOutB P = true) (hread : ∀ t ∈ ts, P.readableRec t = true ∧ t < P.types.size) (B : Bulk H) (hm : B.all ds ≤ m)
    (hlaw : ∀ x : IT l, WfIT l x → bulkIT l x ≤ m → ∃ y : IT (l ++ []), IT.inst (l ++ []) y = IT.inst l x ∧ sh y = some true)
    (hfn : ∀ ds : List (DataW H), ds.length = ts.length → sp.fn H (ds ++ []) = { results := [.lit (.bool true)], args := ds })
    (hval : ∀ (j : Nat) t v, fn.params[j]? = some t → args[j]? = some v → Value.okWide P W .any base t v)
    (hW : DataW.Whole enc P fn.params.toList sp.vars false W args.toList ds gs before) :
    Calls P f args W fun e W' => ∃ v, e = .returned v ∧ sp.post enc P fn false true false false W args v W' := by
  refine law_contract hF hT hvars hparams hrt hbool hplain hlaid hread B (fun dss h1 h2 h3 => ?_) hfn hval hW
  obtain ⟨x, e1, w1, b1⟩ := wf_items ts dss l h1 h2 hitems
  obtain ⟨y, hy, hs⟩ := hlaw x w1 (by omega)
  have hd := Sig.dec_inst { args := l, res := [.one .b] } hok y
  have hA : (Sig.instA { args := l, res := [.one .b] } y) = IT.inst l x := by
    show (IT.inst (l ++ []) y).take l.length = _
    rw [hy, List.take_of_length_le (by rw [IT.inst_length]; exact Nat.le_refl _)]
  have hB : (Sig.instB { args := l, res := [.one .b] } y) = [] := by
    show ((IT.inst (l ++ []) y).drop l.length).map boxCells = _
    rw [hy, List.drop_of_length_le (by rw [IT.inst_length]; exact Nat.le_refl _)]
    rfl
  rw [hA, hB] at hd
  rw [e1]
  unfold Sig.F
  rw [show ([] : List (List C)) = ([] : List (List E)).map cEs from rfl, hd]
  simp only [hs, hB]
  rfl
end Go.Ve
/- Plain laws about what the evaluator prints: loops, calls, wrapped sums. -/
namespace Go.Ve
open Go.Vs
@[simp] theorem callO_some {ρ α : Type} (x : ρ) (k : ρ → Option α) : callO (some x) k = k x := rfl
@[simp] theorem callO_none {ρ α : Type} (k : ρ → Option α) : callO none k = none := rfl
@[simp] theorem sumO_inl {ρ σ α : Type} (x : ρ) (k : ρ → Option α) (k' : σ → Option α) : sumO (.inl x) k k' = k x := rfl
@[simp] theorem sumO_inr {ρ σ α : Type} (x : σ) (k : ρ → Option α) (k' : σ → Option α) : sumO (.inr x) k k' = k' x := rfl
theorem callO_id {ρ : Type} (o : Option ρ) : (callO o fun x => some x) = o := by cases o <;> rfl
theorem wrap_i64 {n : Int} (h0 : -9223372036854775808 ≤ n) (h1 : n ≤ 9223372036854775807) : IntKind.i64.wrap n = n := by
  simp only [IntKind.wrap, IntKind.bits, IntKind.signed]
  simp
  omega
theorem wrap_succ {i n : Nat} (h : i < n) (hn2 : n ≤ 4611686018427387904) : IntKind.i64.wrap ((i : Int) + 1) = ((i + 1 : Nat) : Int) := by
  rw [wrap_i64 (by omega) (by omega)]; omega
@[simp] theorem lenI_eq {α : Type} (l : List α) : lenI l = (l.length : Int) := rfl
/-! ## Loops -/
theorem iterN_inv {σ ρ : Type} {f : σ → Option (σ ⊕ ρ)} (I : σ → Prop) (m : σ → Nat) (Q : ρ → Prop)
    (step : ∀ x, I x → match f x with | some (.inl y) => I y ∧ m y < m x | some (.inr r) => Q r | none => False) : ∀ (n : Nat) (x : σ), I x → m x < n → ∃ r, iterN f n x = some r ∧ Q r
  | 0, _, _, h => absurd h (Nat.not_lt_zero _)
  | n + 1, x, hI, h => by
    have hs := step x hI
    unfold iterN
    split <;> rename_i e
    · rename_i y
      rw [e] at hs
      exact iterN_inv I m Q step n y hs.1 (by omega)
    · rename_i r
      rw [e] at hs
      exact ⟨r, rfl, hs⟩
    · rw [e] at hs
      exact hs.elim
theorem loopR_inv {σ ρ : Type} {f : σ → Option (σ ⊕ ρ)} (I : σ → Prop) (m : σ → Nat) (Q : ρ → Prop)
    (step : ∀ x, I x → match f x with | some (.inl y) => I y ∧ m y < m x | some (.inr r) => Q r | none => False) (x : σ) (hI : I x) (hm : m x < fuel) : ∃ r, loopR f x = some r ∧ Q r :=
  iterN_inv I m Q step fuel x hI hm
/-- a loop through a list, from front to back: with an end before its end -/
def foldO {α β ρ : Type} (g : β → α → Option (β ⊕ ρ)) (fin : β → Option ρ) : List α → β → Option ρ
  | [], b => fin b
  | a :: r, b => match g b a with
    | some (.inl b') => foldO g fin r b'
    | some (.inr x) => some x
    | none => none
theorem iterN_fold {σ ρ α β : Type} {f : σ → Option (σ ⊕ ρ)} {g : β → α → Option (β ⊕ ρ)} {fin : β → Option ρ} (mk : β → Nat → σ) (xs : List α)
    (step : ∀ b i (h : i < xs.length), f (mk b i) = match g b xs[i] with | some (.inl b') => some (.inl (mk b' (i + 1))) | some (.inr r) => some (.inr r) | none => none)
    (stop : ∀ b, f (mk b xs.length) = match fin b with | some r => some (.inr r) | none => none) :
    ∀ (k i : Nat) (b : β), i + k = xs.length → ∀ n, k < n → iterN f n (mk b i) = foldO g fin (xs.drop i) b
  | 0, i, b, hk, n, hn => by
    obtain ⟨n, rfl⟩ : ∃ m, n = m + 1 := ⟨n - 1, by omega⟩
    have hi : i = xs.length := by omega
    subst hi
    rw [List.drop_length]
    unfold iterN
    rw [stop b]
    unfold foldO
    cases fin b <;> rfl
  | k + 1, i, b, hk, n, hn => by
    obtain ⟨n, rfl⟩ : ∃ m, n = m + 1 := ⟨n - 1, by omega⟩
    have hi : i < xs.length := by omega
    rw [List.drop_eq_getElem_cons hi]
    unfold iterN
    rw [step b i hi]
    rw [foldO]
    cases e : g b xs[i] with
    | none => rfl
    | some u => cases u with
      | inl b' => exact iterN_fold mk xs step stop k (i + 1) b' (by omega) n (by omega)
      | inr r => rfl
theorem loopR_fold {σ ρ α β : Type} {f : σ → Option (σ ⊕ ρ)} (g : β → α → Option (β ⊕ ρ)) (fin : β → Option ρ) (mk : β → Nat → σ) (xs : List α)
    (step : ∀ b i (h : i < xs.length), f (mk b i) = match g b xs[i] with | some (.inl b') => some (.inl (mk b' (i + 1))) | some (.inr r) => some (.inr r) | none => none)
    (stop : ∀ b, f (mk b xs.length) = match fin b with | some r => some (.inr r) | none => none) (hl : xs.length < fuel) (b : β) :
    loopR f (mk b 0) = foldO g fin xs b := by
  have := iterN_fold mk xs step stop xs.length 0 b (by omega) fuel hl
  rw [List.drop_zero] at this
  exact this
/-- two loops that go side by side -/
theorem iterN_sim {σ τ ρ : Type} {f : σ → Option (σ ⊕ ρ)} {g : τ → Option (τ ⊕ ρ)} (R : σ → τ → Prop)
    (step : ∀ x y, R x y → match f x, g y with | some (.inl x'), some (.inl y') => R x' y' | some (.inr r), some (.inr r') => r = r' | none, none => True | _, _ => False) :
    ∀ (n : Nat) (x : σ) (y : τ), R x y → iterN f n x = iterN g n y
  | 0, _, _, _ => rfl
  | n + 1, x, y, h => by
    have hs := step x y h
    unfold iterN
    cases hf : f x with
    | none =>
      cases hg : g y with
      | none => rfl
      | some z => rw [hf, hg] at hs; exact hs.elim
    | some u =>
      cases hg : g y with
      | none => rw [hf, hg] at hs; cases u <;> exact hs.elim
      | some z =>
        rw [hf, hg] at hs
        cases u with
        | inl u => cases z with
          | inl z => exact iterN_sim R step n u z hs
          | inr z => exact hs.elim
        | inr u => cases z with
          | inl z => exact hs.elim
          | inr z => exact congrArg some hs
theorem loopR_sim {σ τ ρ : Type} {f : σ → Option (σ ⊕ ρ)} {g : τ → Option (τ ⊕ ρ)} (R : σ → τ → Prop)
    (step : ∀ x y, R x y → match f x, g y with | some (.inl x'), some (.inl y') => R x' y' | some (.inr r), some (.inr r') => r = r' | none, none => True | _, _ => False) (x : σ) (y : τ) (h : R x y) : loopR f x = loopR g y :=
  iterN_sim R step fuel x y h
/-- a loop that looks at its numbers one by one and ends at the first that fails -/
theorem loopR_all {σ ρ : Type} {f : σ → Option (σ ⊕ ρ)} (mk : Nat → σ) (n : Nat) (P : Nat → Prop) (bad good : ρ)
    (yes : ∀ i, i < n → P i → f (mk i) = some (.inl (mk (i + 1)))) (no : ∀ i, i < n → ¬ P i → f (mk i) = some (.inr bad)) (stop : f (mk n) = some (.inr good)) (hn : n < fuel) :
    ((∀ i, i < n → P i) → loopR f (mk 0) = some good) ∧ ((¬ ∀ i, i < n → P i) → loopR f (mk 0) = some bad) := by
  have key : ∀ (k i : Nat), i + k = n → ∀ m, k < m → ((∀ j, i ≤ j → j < n → P j) → iterN f m (mk i) = some good) ∧ ((¬ ∀ j, i ≤ j → j < n → P j) → iterN f m (mk i) = some bad) := by
    intro k
    induction k with
    | zero =>
      intro i hi m hm
      obtain ⟨m, rfl⟩ : ∃ q, m = q + 1 := ⟨m - 1, by omega⟩
      have : i = n := by omega
      subst this
      refine ⟨fun _ => by unfold iterN; rw [stop], fun h => absurd (fun j h1 h2 => by omega) h⟩
    | succ k ih =>
      intro i hi m hm
      obtain ⟨m, rfl⟩ : ∃ q, m = q + 1 := ⟨m - 1, by omega⟩
      by_cases hp : P i
      · obtain ⟨g1, g2⟩ := ih (i + 1) (by omega) m (by omega)
        unfold iterN
        rw [yes i (by omega) hp]
        refine ⟨fun h => g1 fun j h1 h2 => h j (by omega) h2, fun h => g2 fun h' => h fun j h1 h2 => ?_⟩
        rcases Nat.lt_or_ge i j with hj | hj
        · exact h' j hj h2
        · have : j = i := by omega
          subst this; exact hp
      · unfold iterN
        rw [no i (by omega) hp]
        exact ⟨fun h => absurd (h i (Nat.le_refl _) (by omega)) hp, fun _ => rfl⟩
  obtain ⟨h1, h2⟩ := key n 0 (by omega) fuel hn
  exact ⟨fun h => h1 fun j _ hj => h j hj, fun h => h2 fun h' => h fun j hj => h' j (Nat.zero_le _) hj⟩
theorem foldO_total {α β ρ : Type} {g : β → α → Option (β ⊕ ρ)} {fin : β → Option ρ} (hg : ∀ b a, (g b a).isSome = true) (hf : ∀ b, (fin b).isSome = true) : ∀ (l : List α) (b : β), ∃ r, foldO g fin l b = some r
  | [], b => Option.isSome_iff_exists.1 (hf b)
  | a :: l, b => by
    obtain ⟨x, e⟩ := Option.isSome_iff_exists.1 (hg b a)
    rw [foldO, e]
    cases x with
    | inl b' => exact foldO_total hg hf l b'
    | inr r => exact ⟨r, rfl⟩
theorem guard_nlt {α : Type} {xs : List α} {i : Int} : (decide (0 ≤ i ∧ i < lenI xs) && nlt i.toNat xs.length) = decide (0 ≤ i ∧ i < lenI xs) := by
  by_cases h : 0 ≤ i ∧ i < lenI xs
  · have : nlt i.toNat xs.length = true := (nlt_iff _ _).2 (by have := lenI_eq xs; omega)
    rw [this, Bool.and_true]
  · rw [decide_eq_false h]; rfl
/-! ## A range loop's head -/
theorem rangeIn {α β : Type} {xs : List α} {k : Nat} (h : k < xs.length) {A B C : Option β} :
    (if decide ((k : Int) < lenI xs) = true then (if decide (0 ≤ (k : Int) ∧ (k : Int) < lenI xs) = true then A else B) else C) = A := by
  have h2 : (k : Int) < lenI xs := by rw [lenI_eq]; omega
  rw [if_pos (decide_eq_true h2), if_pos (decide_eq_true ⟨by omega, h2⟩)]
theorem rangeIn1 {α β : Type} {xs : List α} {k : Nat} (h : k < xs.length) {A C : Option β} : (if decide ((k : Int) < lenI xs) = true then A else C) = A := by
  have h2 : (k : Int) < lenI xs := by rw [lenI_eq]; omega
  rw [if_pos (decide_eq_true h2)]
theorem rangeOut {α β : Type} {xs : List α} {A C : Option β} : (if decide ((xs.length : Int) < lenI xs) = true then A else C) = C := by
  have h2 : ¬ (xs.length : Int) < lenI xs := by rw [lenI_eq]; omega
  rw [decide_eq_false h2]; rfl
theorem getD_at {α : Type} {xs : List α} {k : Nat} {d : α} (h : k < xs.length) : xs.getD ((k : Int)).toNat d = xs[k] := by
  rw [Int.toNat_natCast, List.getD_eq_getElem?_getD, List.getElem?_eq_getElem h]; rfl
/-! ## What surely comes out -/
def Ok {α : Type} (o : Option α) (Q : α → Prop) : Prop := ∃ x, o = some x ∧ Q x
namespace Ok
variable {α β : Type} {Q : α → Prop}
theorem ret {x : α} (h : Q x) : Ok (some x) Q := ⟨x, rfl, h⟩
theorem mono {o : Option α} {R : α → Prop} (h : Ok o R) (hi : ∀ x, R x → Q x) : Ok o Q := by obtain ⟨x, e, hx⟩ := h; exact ⟨x, e, hi x hx⟩
theorem of_eq {o : Option α} {x : α} (e : o = some x) (h : Q x) : Ok o Q := ⟨x, e, h⟩
theorem call {ρ : Type} {o : Option ρ} {k : ρ → Option α} {R : ρ → Prop} (h : Ok o R) (hk : ∀ x, R x → Ok (k x) Q) : Ok (callO o k) Q := by
  obtain ⟨x, rfl, hx⟩ := h
  exact hk x hx
theorem ite {c : Prop} [Decidable c] {a b : Option α} (ht : c → Ok a Q) (he : ¬ c → Ok b Q) : Ok (if c then a else b) Q := by
  split
  · exact ht ‹_›
  · exact he ‹_›
theorem pos {c : Prop} [Decidable c] {a b : Option α} (h : c) (ht : Ok a Q) : Ok (if c then a else b) Q := by rw [if_pos h]; exact ht
theorem neg {c : Prop} [Decidable c] {a b : Option α} (h : ¬ c) (he : Ok b Q) : Ok (if c then a else b) Q := by rw [if_neg h]; exact he
/-- a guard that is a decided statement -/
theorem grd {c : Prop} [Decidable c] {a b : Option α} (h : c) (ht : Ok a Q) : Ok (if decide c = true then a else b) Q := by rw [if_pos (decide_eq_true h)]; exact ht
theorem dec {c : Prop} [Decidable c] {a b : Option α} (ht : c → Ok a Q) (he : ¬ c → Ok b Q) : Ok (if decide c = true then a else b) Q :=
  ite (fun h => ht (of_decide_eq_true h)) (fun h => he (fun hc => h (decide_eq_true hc)))
theorem loop {σ ρ : Type} {f : σ → Option (σ ⊕ ρ)} {R : ρ → Prop} (I : σ → Prop) (m : σ → Nat) {x : σ} (hI : I x) (hm : m x < fuel)
    (step : ∀ x, I x → Ok (f x) (fun y => match y with | .inl y => I y ∧ m y < m x | .inr r => R r)) : Ok (loopR f x) R := by
  refine loopR_inv I m R (fun x hx => ?_) x hI hm
  obtain ⟨y, e, hy⟩ := step x hx
  rw [e]
  cases y <;> exact hy
/-- a list that is there or nil: appending to it -/
theorem app {γ : Type} {o : Option (List γ)} {A B : Option α} {k : Prop} (hs : ∀ xs, o = some xs → Ok A Q) (hn : o = none → Ok B Q) [Decidable k] (hk : k ↔ o.isSome = true) : Ok (if k then A else B) Q := by
  cases o with
  | none => rw [if_neg (by simp [hk])]; exact hn rfl
  | some xs => rw [if_pos (by simp [hk])]; exact hs xs rfl
end Ok
end Go.Ve
/- A law's statement (bounded in bulk) from its typed function. -/
namespace Go.Ve
open Go.Vs
theorem bulk_append {H : Type} (B : Bulk H) : ∀ (a b : List (DataW H)), B.all a ≤ B.all (a ++ b)
  | [], b => by rw [B.nil]; exact Nat.zero_le _
  | x :: a, b => by rw [List.cons_append, B.cons, B.cons]; exact Nat.add_le_add_left (bulk_append B a b) _
theorem bulkT_pos : ∀ (t : Ty) (x : t.T), 1 ≤ bulkT t x
  | .int _, _ => Nat.le_refl _
  | .bool, _ => Nat.le_refl _
  | .str, s => Nat.le_add_left _ _
  | .sl r, o => by
    cases o with
    | none => exact Nat.le_refl _
    | some xs => exact Nat.le_add_left _ _
  | .pair h t, x => Nat.le_trans (bulkT_pos h x.1) (Nat.le_add_right _ _)
theorem sum_len {α : Type} {f : α → Nat} (h : ∀ x, 1 ≤ f x) : ∀ l : List α, l.length ≤ (l.map f).sum
  | [] => Nat.le_refl _
  | a :: l => by have := sum_len h l; have := h a; simp only [List.map_cons, List.sum_cons, List.length_cons]; omega
/-- a list is no longer than its bulk -/
theorem bulk_sl {r : Ty} (o : Option (List r.T)) : (o.getD []).length ≤ bulkT (.sl r) o := by
  cases o with
  | none => exact Nat.zero_le _
  | some xs => exact Nat.le_trans (sum_len (bulkT_pos r) xs) (Nat.le_add_right _ _)
theorem bulk_str (s : List UInt8) : s.length ≤ bulkT .str s := Nat.le_add_right _ _
theorem bulk_hd {i : It} {r : List It} {x : IT (i :: r)} {m : Nat} (h : bulkIT (i :: r) x ≤ m) : bulkI i (IT.hd i r x) ≤ m := Nat.le_trans (Nat.le_add_right _ _) h
theorem bulk_tl {i : It} {r : List It} {x : IT (i :: r)} {m : Nat} (h : bulkIT (i :: r) x ≤ m) : bulkIT r (IT.tl IT.dflt i r x) ≤ m := Nat.le_trans (Nat.le_add_left _ _) h
theorem len_sl {r : Ty} {o : Option (List r.T)} {m : Nat} (h : bulkT (.sl r) o ≤ m) : (o.getD []).length ≤ m := Nat.le_trans (bulk_sl o) h
end Go.Ve
/- Equality of flat structs. -/
namespace Go.Vs
def fitTy : Option TypeDesc → Sc → Bool
  | some (.int k'), .int k => decide (k' = k)
  | some .bool, .bool => true
  | some .string, .str => true
  | _, _ => false
/-- fields that are scalars, one behind the other -/
def flatF (P : Program) : List Field → List Sc → Nat → Bool
  | [], [], _ => true
  | f :: fs, k :: sh, j => f.name != "_" && f.offset == j && fitTy (P.underlying f.type) k && flatF P fs sh (j + 1)
  | _, _, _ => false
theorem all2_drop {w : World} {Z : Nat → Prop} {us : List Value} {j : Nat} {d : D} {ds : List D} (h : DL w Z (us.drop j) (d :: ds)) : ∃ v, us[j]? = some v ∧ DRel w Z d v ∧ DL w Z (us.drop (j + 1)) ds := by
  have e : (us.drop j)[0]? = us[j]? := by rw [List.getElem?_drop, Nat.add_zero]
  have e2 : us.drop (j + 1) = (us.drop j).drop 1 := by rw [List.drop_drop]
  rw [← e, e2]
  generalize us.drop j = l at h
  match l, h with
  | v :: l, h => exact ⟨v, rfl, h.1, h.2⟩
theorem eqFields_flat {P : Program} {w : World} {Z : Nat → Prop} (d : Nat) (xs ys : Array Value) : ∀ (fs : List Field) (sh : List Sc) (j : Nat) (ds es : List D), flatF P fs sh j = true → fitSc sh ds = true → fitSc sh es = true →
    DL w Z (xs.toList.drop j) ds → DL w Z (ys.toList.drop j) es → (Op.eqFields (d + 1) xs ys fs).run P w = .ok (eqDs ds es) w
  | [], sh, j, ds, es, hf, h1, h2, _, _ => by
    cases sh with
    | cons => cases hf
    | nil =>
      cases ds with
      | cons => cases h1
      | nil =>
        cases es with
        | cons => cases h2
        | nil => simp [Op.eqFields, eqDs]
  | f :: fs, sh, j, ds, es, hf, h1, h2, h3, h4 => by
    cases sh with
    | nil => cases hf
    | cons k sh =>
      simp only [flatF, Bool.and_eq_true, bne_iff_ne, beq_iff_eq] at hf
      obtain ⟨⟨⟨f1, f2⟩, f3⟩, f4⟩ := hf
      cases ds with
      | nil => cases k <;> cases h1
      | cons a ds =>
        cases es with
        | nil => cases k <;> cases h2
        | cons b es =>
          obtain ⟨u, u1, u2, u3⟩ := all2_drop h3
          obtain ⟨v, v1, v2, v3⟩ := all2_drop h4
          have hu : xs[f.offset]? = some u := by rw [f2]; simpa using u1
          have hv : ys[f.offset]? = some v := by rw [f2]; simpa using v1
          have key : P.plainKey f.type = true → (∀ (r : Bool), r = eqD a b → (Op.equalIn (d + 1) f.type u v).run P w = .ok r w) → fitSc sh ds = true → fitSc sh es = true → (Op.eqFields (d + 1) xs ys (f :: fs)).run P w = .ok (eqDs (a :: ds) (b :: es)) w := by
            intro hp hr g1 g2
            have ih := eqFields_flat d xs ys fs sh (j + 1) ds es f4 g1 g2 u3 v3
            simp only [Op.eqFields, ne_eq, f1, not_false_eq_true, if_true, Sem.run_bind, run_part_plain w hp hu, run_part_plain w hp hv, Result.andThen_ok, hr _ rfl]
            cases hq : eqD a b with
            | true => simp [eqDs, hq, ih]
            | false => simp [eqDs, hq]
          cases k with
          | int k =>
            cases a <;> simp only [fitSc, Bool.and_eq_true, decide_eq_true_eq, Bool.false_eq_true] at h1
            cases b <;> simp only [fitSc, Bool.and_eq_true, decide_eq_true_eq, Bool.false_eq_true] at h2
            obtain ⟨rfl, g1⟩ := h1
            obtain ⟨e, g2⟩ := h2
            subst e
            cases hty : P.underlying f.type with
            | none => rw [hty] at f3; cases f3
            | some ty =>
              rw [hty] at f3
              cases ty <;> first | (simp only [fitTy, Bool.false_eq_true] at f3; done) | skip
              refine key (by simp [Program.plainKey, hty]) (fun r hr => ?_) g1 g2
              have u2 : u = _ := u2
              have v2 : v = _ := v2
              subst hr; rw [u2, v2, run_equalIn_int w d f.type _ _ _ _ hty]; rfl
          | bool =>
            cases a <;> simp only [fitSc, Bool.false_eq_true] at h1
            cases b <;> simp only [fitSc, Bool.false_eq_true] at h2
            cases hty : P.underlying f.type with
            | none => rw [hty] at f3; cases f3
            | some ty =>
              rw [hty] at f3
              cases ty <;> first | (simp only [fitTy, Bool.false_eq_true] at f3; done) | skip
              refine key (by simp [Program.plainKey, hty]) (fun r hr => ?_) h1 h2
              have u2 : u = _ := u2
              have v2 : v = _ := v2
              subst hr; rw [u2, v2, run_equalIn_bool' w d f.type _ _ hty]; rfl
          | str =>
            cases a <;> simp only [fitSc, Bool.false_eq_true] at h1
            cases b <;> simp only [fitSc, Bool.false_eq_true] at h2
            cases hty : P.underlying f.type with
            | none => rw [hty] at f3; cases f3
            | some ty =>
              rw [hty] at f3
              cases ty <;> first | (simp only [fitTy, Bool.false_eq_true] at f3; done) | skip
              refine key (by simp [Program.plainKey, hty]) (fun r hr => ?_) h1 h2
              have u2 : u = _ := u2
              have v2 : v = _ := v2
              subst hr; rw [u2, v2, run_equalIn_string w d f.type _ _ hty, ByteArray.toList_eq, ByteArray.toList_eq]
              simp only [eqD]
              congr 1
              rw [Bool.eq_iff_iff]
              simp
theorem eqOk_flat {P : Program} {t : TypeId} {sh : List Sc} (h1 : P.underlying t = some (.struct (P.fieldsOf t))) (h2 : P.stoodInHeld t = false) (h3 : P.eqGuardType P.depth t = false) (h4 : flatF P (P.fieldsOf t).toList sh 0 = true) : EqOk P t sh := by
  intro w Z xs ys ds es x y hx hy f1 f2 op hop
  have hE : (Op.equalIn 10000 t (.agg xs) (.agg ys)).run P w = .ok (eqDs ds es) w := by
    rw [show (10000 : Nat) = 9998 + 1 + 1 from rfl, run_equalIn_struct w (9998 + 1) t xs ys h1 h2]
    exact eqFields_flat 9998 xs ys _ sh 0 ds es h4 f1 f2 (by simpa using hx) (by simpa using hy)
  rw [Sem.run_bind, run_eqGuard_agg w op t x y xs ys h3, Result.andThen_ok]
  rcases hop with rfl | rfl
  · rw [run_eql_struct, hE]; rfl
  · rw [run_neq_struct, hE]; rfl
end Go.Vs
/- Calls that run at once and give back scalars. -/
namespace Go.Vs
def scalarD : D → Bool
  | .sl _ _ => false
  | _ => true
def scalarC : C → Bool
  | .d x => scalarD x
  | _ => false
def scalar (v : SV) : Bool := v.cells.all scalarC
theorem drel_scalar {w w' : World} {Z Z' : Nat → Prop} {d : D} {v : Value} (hd : scalarD d = true) (h : DRel w Z d v) : DRel w' Z' d v := by
  cases d <;> first | (cases hd; done) | exact h
theorem crel_scalar {K K' : Ctx} {β β' : Key → Option Nat} {Z Z' : Nat → Prop} {s s' : St} {a a' : Act} {w w' : World} {c : C} {u : Value} (hc : scalarC c = true) (h : CRel K β Z s a w c u) : CRel K' β' Z' s' a' w' c u := by
  cases c <;> first | (cases hc; done) | exact drel_scalar hc h
section
variable {P : Program} {w : World} {vals : Array Value} {β : Key → Option Nat} {ω : Nat → Option Holder} {Z : Nat → Prop} {args : List SV}
theorem exit_scalar (hent : Rel (ctxOf P 0 w vals β ω Z) β ω Z (entrySt args []) { tmps := #[], defers := [] } w) (hok : args.all argOk = true) {w' : World} {v : Value} {r : CallRes} (hos : w'.os = w.os) (htape : w'.tape = w.tape) (hout : w'.output = w.output)
    (hsize : w.heap.size ≤ w'.heap.size) (hframe : ∀ b, b < w.heap.size → ω b = none → w'.heap[b]? = w.heap[b]?) {K₀ : Ctx} {β₀ : Key → Option Nat} {Z₀ : Nat → Prop} {s₀ : St} {a₀ : Act} {w₀ : World}
    (hv : SVRel (CRel K₀ β₀ Z₀ s₀ a₀ w₀) v r.v) (hsc : scalar r.v = true) (hb : r.boxes = []) (hf : r.frz = []) :
    Rel (ctxOf P 1 w vals β ω Z) (fun _ => none) (fun _ => none) Z (exitSt args r) { tmps := #[v], defers := [] } w' := by
  have hzf : ∀ b, Z b → w'.heap[b]? = w.heap[b]? := fun b hz => hframe b (hent.zin b hz) (by
    cases hω : ω b with
    | none => rfl
    | some g => exact absurd hz (hent.ωok b g hω).1)
  have hkeys := entry_keys hent
  have hboxv : ∀ k, (exitSt args r (.box k)).v = .undef := by
    intro k
    cases k with
    | inb i => simp [exitSt, hb]
    | loc t => rfl
    | esc t i => rfl
  have hargv : ∀ i, (exitSt args r (.arg i)).v = args.getD i .undef := by intro i; simp [exitSt, hf, frzArgs]
  refine ⟨rfl, rfl, hos, htape, hout, hsize, ?_, fun b hz => Nat.lt_of_lt_of_le (hent.zin b hz) hsize, fun _ h => h, fun b hz => .inl hz, ?_, ?_, ?_, ?_, ?_, ?_, ?_⟩
  · intro b hlt hE
    exact hframe b hlt (by simpa [ctxOf] using hE)
  · intro t
    cases t with
    | zero => exact SVRel.mono (fun c u hc hr => crel_scalar (List.all_eq_true.1 hsc c hc) hr) hv
    | succ t => trivial
  · intro i
    rw [hargv]
    refine SVRel.monoI (fun j c u hc hu hr => ?_) (hent.args i)
    have hokc := argOk_get hok hc
    cases c with
    | d x => exact DRel.mono (fun b hz => ⟨hzf b hz, hz⟩) _ _ hr
    | own e xs =>
      obtain ⟨ad, cap, h1, h2, h3, h4⟩ := hr
      subst h1
      obtain ⟨g1, g2⟩ := hent.argown i j e xs ad _ cap hc hu
      exact ⟨ad, cap, rfl, h2, h3, RowsRel.mono (fun b hz => ⟨hzf b hz, hz⟩) e xs _ _ (hframe _ g1 (by simpa [ctxOf] using g2)) h4⟩
    | ptr k off =>
      obtain ⟨b, g1, _⟩ := hr
      obtain ⟨i, hi, _⟩ := hkeys k b g1
      simp at hi
    | clo f caps =>
      obtain ⟨vs, g1, g2⟩ := hr
      refine ⟨vs, g1, g2.mono_mem fun u p hp ⟨b, q1, _⟩ => ?_⟩
      obtain ⟨i, hi, _⟩ := hkeys p.1 b q1
      simp at hi
    | _ => cases hokc
  · intro k
    rw [hboxv]
    exact rfl
  · intro q j e xs ad len cap hr hc hh
    exfalso
    cases q with
    | tmp t =>
      cases t with
      | zero =>
        have hm : C.own e xs ∈ r.v.cells := List.mem_of_getElem? hc
        have := List.all_eq_true.1 hsc _ hm
        cases this
      | succ t => simp [exitSt, SV.cells] at hc
    | arg i => simp [Res.isArg] at hr
    | box k => rw [hboxv] at hc; simp [SV.cells] at hc
  · intro i j e xs ad len cap hc hh
    rw [hargv] at hc
    exact hent.argown i j e xs ad len cap hc hh
  · intro b g h; cases h
  · intro k b h
    obtain ⟨i, hi, _⟩ := hkeys k b h
    simp at hi
end
end Go.Vs
