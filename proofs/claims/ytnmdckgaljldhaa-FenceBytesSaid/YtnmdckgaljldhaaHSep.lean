/- A small separation logic over the heap: pieces that stand apart, and what is older stays. -/
import Derived.Test.YtnmdckgaljldhaaWMore
import Derived.Test.YtnmdckgaljldhaaWShare
import Derived.Test.YtnmdckgaljldhaaWLast
set_option linter.unusedVariables false
namespace Go.Proofs.Ytnmdckgaljldhaa.Sep
open Go Go.RowKit Go.Proofs.YtnmdckgaljldhaaW.PrintWords Go.Proofs.YtnmdckgaljldhaaW.PrintLast Go.Proofs.YtnmdckgaljldhaaW.PrintMore

/-- A piece: what is said of a world, by the blocks that it stands on. -/
structure HP where
  p : World → List Nat → Prop
  loc : ∀ {w w' : World} {bs : List Nat}, p w bs → (∀ b, b ∈ bs → w'.heap[b]? = w.heap[b]?) → p w' bs

def SepL (w : World) : List HP → List Nat → Prop
  | [], bs => bs = []
  | p :: ps, bs => ∃ b1 b2, bs = b1 ++ b2 ∧ p.p w b1 ∧ SepL w ps b2

/-- The pieces stand apart in W, at blocks that are younger than w0; what is older is as it was. -/
def Sep (w0 w : World) (ps : List HP) : Prop :=
  Below w0.heap.size w0 w ∧ ∃ bs, SepL w ps bs ∧ bs.Nodup ∧ ∀ b, b ∈ bs → w0.heap.size ≤ b ∧ b < w.heap.size

theorem SepL.move {w w' : World} : ∀ {ps : List HP} {bs : List Nat}, SepL w ps bs → (∀ b, b ∈ bs → w'.heap[b]? = w.heap[b]?) → SepL w' ps bs
  | [], bs, h, _ => h
  | p :: ps, bs, ⟨b1, b2, e, hp, hs⟩, hm => ⟨b1, b2, e, p.loc hp (fun b hb => hm b (by rw [e]; exact List.mem_append_left _ hb)), SepL.move hs (fun b hb => hm b (by rw [e]; exact List.mem_append_right _ hb))⟩

theorem SepL.append {w : World} : ∀ {qs ps : List HP} {b1 b2 : List Nat}, SepL w qs b1 → SepL w ps b2 → SepL w (qs ++ ps) (b1 ++ b2)
  | [], ps, b1, b2, h, h2 => by cases h; simpa using h2
  | q :: qs, ps, b1, b2, ⟨c1, c2, e, hp, hs⟩, h2 => ⟨c1, c2 ++ b2, by rw [e, List.append_assoc], hp, SepL.append hs h2⟩
theorem SepL.split {w : World} : ∀ {qs ps : List HP} {bs : List Nat}, SepL w (qs ++ ps) bs → ∃ b1 b2, bs = b1 ++ b2 ∧ SepL w qs b1 ∧ SepL w ps b2
  | [], ps, bs, h => ⟨[], bs, rfl, rfl, h⟩
  | q :: qs, ps, bs, ⟨c1, c2, e, hp, hs⟩ => by
    obtain ⟨d1, d2, e2, h1, h2⟩ := SepL.split hs
    exact ⟨c1 ++ d1, d2, by rw [e, e2, List.append_assoc], ⟨c1, d1, rfl, hp, h1⟩, h2⟩

theorem SepL.perm {w : World} {ps qs : List HP} (h : ps.Perm qs) : ∀ {bs : List Nat}, SepL w ps bs → ∃ bs', bs.Perm bs' ∧ SepL w qs bs' := by
  induction h with
  | nil => intro bs h; exact ⟨bs, List.Perm.refl _, h⟩
  | cons x _ ih =>
    rintro bs ⟨b1, b2, e, hp, hs⟩
    obtain ⟨b2', hb, hs'⟩ := ih hs
    exact ⟨b1 ++ b2', by rw [e]; exact List.Perm.append_left _ hb, b1, b2', rfl, hp, hs'⟩
  | swap x y l =>
    rintro bs ⟨b1, b2, e, hp, b3, b4, e2, hq, hs⟩
    refine ⟨b3 ++ (b1 ++ b4), ?_, b3, b1 ++ b4, rfl, hq, b1, b4, rfl, hp, hs⟩
    rw [e, e2, ← List.append_assoc, ← List.append_assoc]
    exact List.Perm.append_right _ List.perm_append_comm
  | trans _ _ ih1 ih2 =>
    intro bs h
    obtain ⟨b1, h1, s1⟩ := ih1 h
    obtain ⟨b2, h2, s2⟩ := ih2 s1
    exact ⟨b2, h1.trans h2, s2⟩

theorem Sep.perm {w0 w : World} {ps qs : List HP} (h : Sep w0 w ps) (hp : ps.Perm qs) : Sep w0 w qs := by
  obtain ⟨hb, bs, hs, hn, hr⟩ := h
  obtain ⟨bs', hbp, hs'⟩ := SepL.perm hp hs
  exact ⟨hb, bs', hs', hbp.nodup_iff.1 hn, fun b hb => hr b (hbp.mem_iff.2 hb)⟩

theorem Sep.tail {w0 w : World} {p : HP} {ps : List HP} (h : Sep w0 w (p :: ps)) : Sep w0 w ps := by
  obtain ⟨hb, bs, ⟨b1, b2, e, hp, hs⟩, hn, hr⟩ := h
  exact ⟨hb, b2, hs, (List.nodup_append.1 (e ▸ hn)).2.1, fun b hb => hr b (by rw [e]; exact List.mem_append_right _ hb)⟩

/-- What changes the first piece alone, and makes new blocks. -/
theorem Sep.step {w0 w w' : World} {ps qs rs : List HP} (h : Sep w0 w (ps ++ rs)) (hq : Below 0 w w')
    (k : ∀ b1, SepL w ps b1 → (∀ b, b ∈ b1 → w0.heap.size ≤ b ∧ b < w.heap.size) → b1.Nodup → ∃ b1', SepL w' qs b1' ∧ b1'.Nodup ∧ (∀ b, b ∈ b1' → (b ∈ b1 ∨ w.heap.size ≤ b) ∧ b < w'.heap.size) ∧ ∀ j, j < w.heap.size → j ∉ b1 → w'.heap[j]? = w.heap[j]?) :
    Sep w0 w' (qs ++ rs) := by
  obtain ⟨hb, bs, hs, hn, hr⟩ := h
  obtain ⟨b1, b2, rfl, h1, h2⟩ := SepL.split hs
  obtain ⟨hn1, hn2, hn3⟩ := List.nodup_append.1 hn
  obtain ⟨c1, hc, hcn, hcr, hsame⟩ := k b1 h1 (fun b hb => hr b (List.mem_append_left _ hb)) hn1
  have hlt2 : ∀ b, b ∈ b2 → b < w.heap.size := fun b hb => (hr b (List.mem_append_right _ hb)).2
  have hm2 : ∀ b, b ∈ b2 → w'.heap[b]? = w.heap[b]? := fun b hb => hsame b (hlt2 b hb) (fun h => hn3 b h b hb rfl)
  refine ⟨⟨hq.os.trans hb.os, hq.tape.trans hb.tape, hq.output.trans hb.output, Nat.le_trans hb.size hq.size, fun j hj => ?_⟩, c1 ++ b2, SepL.append hc (SepL.move h2 hm2), ?_, ?_⟩
  · rw [hsame j (Nat.lt_of_lt_of_le hj hb.size) (fun h => absurd hj (Nat.not_lt.2 (hr j (List.mem_append_left _ h)).1)), hb.block j hj]
  · refine List.nodup_append.2 ⟨hcn, hn2, fun a ha b hb e => ?_⟩
    subst e
    rcases (hcr a ha).1 with h | h
    · exact hn3 a h a hb rfl
    · exact absurd (hlt2 a hb) (Nat.not_lt.2 h)
  · intro b hb'
    rcases List.mem_append.1 hb' with h | h
    · refine ⟨?_, (hcr b h).2⟩
      rcases (hcr b h).1 with h' | h'
      · exact (hr b (List.mem_append_left _ h')).1
      · exact Nat.le_trans hb.size h'
    · exact ⟨(hr b (List.mem_append_right _ h)).1, Nat.lt_of_lt_of_le (hlt2 b h) hq.size⟩

theorem Sep.below {w0 w w' : World} {ps : List HP} (h : Sep w0 w ps) (hb : Below w.heap.size w w') : Sep w0 w' ps := by
  have := Sep.step (ps := []) (qs := []) (rs := ps) h ⟨hb.os, hb.tape, hb.output, hb.size, fun j hj => absurd hj (Nat.not_lt_zero j)⟩ (fun b1 h1 _ _ => ⟨[], rfl, List.nodup_nil, (fun b hb => by cases hb), fun j hj _ => hb.block j hj⟩)
  exact this
theorem Sep.drew {w0 w : World} {ps : List HP} (h : Sep w0 w ps) : Sep w0 w.drew ps := h.below (below_drew (Below.refl _ _))
theorem Sep.drewN {w0 w : World} {ps : List HP} (h : Sep w0 w ps) (n : Nat) : Sep w0 (w.drewN n) ps := h.below (pw_below_drewN (Below.refl _ _) n)
theorem Sep.start (w : World) : Sep w w [] := ⟨Below.refl _ _, [], rfl, List.nodup_nil, fun b hb => by cases hb⟩

/-! ### pieces, moved -/
theorem Sep.pick1 {w0 w : World} {a x : HP} {ps : List HP} (h : Sep w0 w (a :: x :: ps)) : Sep w0 w (x :: a :: ps) := h.perm (List.perm_middle (l₁ := [a]) (a := x) (l₂ := ps))
theorem Sep.put1 {w0 w : World} {a x : HP} {ps : List HP} (h : Sep w0 w (x :: a :: ps)) : Sep w0 w (a :: x :: ps) := h.perm (List.perm_middle (l₁ := [a]) (a := x) (l₂ := ps)).symm
theorem Sep.pick2 {w0 w : World} {a b x : HP} {ps : List HP} (h : Sep w0 w (a :: b :: x :: ps)) : Sep w0 w (x :: a :: b :: ps) := h.perm (List.perm_middle (l₁ := [a, b]) (a := x) (l₂ := ps))
theorem Sep.put2 {w0 w : World} {a b x : HP} {ps : List HP} (h : Sep w0 w (x :: a :: b :: ps)) : Sep w0 w (a :: b :: x :: ps) := h.perm (List.perm_middle (l₁ := [a, b]) (a := x) (l₂ := ps)).symm
theorem Sep.pick3 {w0 w : World} {a b c x : HP} {ps : List HP} (h : Sep w0 w (a :: b :: c :: x :: ps)) : Sep w0 w (x :: a :: b :: c :: ps) := h.perm (List.perm_middle (l₁ := [a, b, c]) (a := x) (l₂ := ps))
theorem Sep.put3 {w0 w : World} {a b c x : HP} {ps : List HP} (h : Sep w0 w (x :: a :: b :: c :: ps)) : Sep w0 w (a :: b :: c :: x :: ps) := h.perm (List.perm_middle (l₁ := [a, b, c]) (a := x) (l₂ := ps)).symm
theorem Sep.pick4 {w0 w : World} {a b c d x : HP} {ps : List HP} (h : Sep w0 w (a :: b :: c :: d :: x :: ps)) : Sep w0 w (x :: a :: b :: c :: d :: ps) := h.perm (List.perm_middle (l₁ := [a, b, c, d]) (a := x) (l₂ := ps))
theorem Sep.put4 {w0 w : World} {a b c d x : HP} {ps : List HP} (h : Sep w0 w (x :: a :: b :: c :: d :: ps)) : Sep w0 w (a :: b :: c :: d :: x :: ps) := h.perm (List.perm_middle (l₁ := [a, b, c, d]) (a := x) (l₂ := ps)).symm
theorem Sep.pick5 {w0 w : World} {a b c d e x : HP} {ps : List HP} (h : Sep w0 w (a :: b :: c :: d :: e :: x :: ps)) : Sep w0 w (x :: a :: b :: c :: d :: e :: ps) := h.perm (List.perm_middle (l₁ := [a, b, c, d, e]) (a := x) (l₂ := ps))
theorem Sep.put5 {w0 w : World} {a b c d e x : HP} {ps : List HP} (h : Sep w0 w (x :: a :: b :: c :: d :: e :: ps)) : Sep w0 w (a :: b :: c :: d :: e :: x :: ps) := h.perm (List.perm_middle (l₁ := [a, b, c, d, e]) (a := x) (l₂ := ps)).symm
theorem Sep.pick6 {w0 w : World} {a b c d e f x : HP} {ps : List HP} (h : Sep w0 w (a :: b :: c :: d :: e :: f :: x :: ps)) : Sep w0 w (x :: a :: b :: c :: d :: e :: f :: ps) := h.perm (List.perm_middle (l₁ := [a, b, c, d, e, f]) (a := x) (l₂ := ps))
theorem Sep.put6 {w0 w : World} {a b c d e f x : HP} {ps : List HP} (h : Sep w0 w (x :: a :: b :: c :: d :: e :: f :: ps)) : Sep w0 w (a :: b :: c :: d :: e :: f :: x :: ps) := h.perm (List.perm_middle (l₁ := [a, b, c, d, e, f]) (a := x) (l₂ := ps)).symm
theorem Sep.pick7 {w0 w : World} {a b c d e f g x : HP} {ps : List HP} (h : Sep w0 w (a :: b :: c :: d :: e :: f :: g :: x :: ps)) : Sep w0 w (x :: a :: b :: c :: d :: e :: f :: g :: ps) := h.perm (List.perm_middle (l₁ := [a, b, c, d, e, f, g]) (a := x) (l₂ := ps))
theorem Sep.put7 {w0 w : World} {a b c d e f g x : HP} {ps : List HP} (h : Sep w0 w (x :: a :: b :: c :: d :: e :: f :: g :: ps)) : Sep w0 w (a :: b :: c :: d :: e :: f :: g :: x :: ps) := h.perm (List.perm_middle (l₁ := [a, b, c, d, e, f, g]) (a := x) (l₂ := ps)).symm
theorem Sep.dropR {w0 w : World} {R ps : List HP} (h : Sep w0 w (R ++ ps)) : Sep w0 w ps := by
  induction R with
  | nil => exact h
  | cons r R ih => exact ih h.tail
/-- Pieces behind the first one that are needed no more. -/
theorem Sep.pickR0 {w0 w : World} {x : HP} {ps : List HP} (R : List HP) (h : Sep w0 w (x :: (R ++ ps))) : Sep w0 w (x :: ps) := (h.perm List.perm_middle.symm).dropR
theorem Sep.pickR {w0 w : World} {x : HP} {R ps : List HP} (h : Sep w0 w (R ++ x :: ps)) : Sep w0 w (x :: (R ++ ps)) := h.perm List.perm_middle
theorem Sep.putR {w0 w : World} {x : HP} {R ps : List HP} (h : Sep w0 w (x :: (R ++ ps))) : Sep w0 w (R ++ x :: ps) := h.perm List.perm_middle.symm


/-! ### a block whose cells are told -/
def blk (g : Nat) (cs : Array Value) (T : TypeId) : HP where
  p := fun w bs => bs = [g] ∧ w.heap[g]? = some (.cells cs T (0, 0))
  loc := fun {w w' bs} h hm => ⟨h.1, by rw [hm g (by rw [h.1]; exact List.mem_singleton.2 rfl)]; exact h.2⟩

theorem Sep.blk_at {w0 w : World} {g : Nat} {cs : Array Value} {T : TypeId} {ps : List HP} (h : Sep w0 w (blk g cs T :: ps)) : w.heap[g]? = some (.cells cs T (0, 0)) ∧ w0.heap.size ≤ g ∧ g < w.heap.size := by
  obtain ⟨hb, bs, ⟨b1, b2, e, ⟨e1, hp⟩, hs⟩, hn, hr⟩ := h
  exact ⟨hp, hr g (by rw [e, e1]; simp)⟩
theorem Sep.alloc {w0 w : World} {ps : List HP} (h : Sep w0 w ps) (cs : Array Value) (T : TypeId) : Sep w0 (w.alloc (.cells cs T (0, 0))) (blk w.heap.size cs T :: ps) := by
  have hb := below_alloc (Below.refl w.heap.size w) (.cells cs T (0, 0))
  have := Sep.step (ps := []) (qs := [blk w.heap.size cs T]) (rs := ps) h ⟨hb.os, hb.tape, hb.output, hb.size, fun j hj => absurd hj (Nat.not_lt_zero j)⟩
    (fun b1 h1 _ _ => ⟨[w.heap.size], ⟨[w.heap.size], [], rfl, ⟨rfl, (show (w.heap.push _)[w.heap.size]? = _ from by simp)⟩, rfl⟩, by simp, fun b hb => by
      rw [List.mem_singleton.1 hb]; exact ⟨.inr (Nat.le_refl _), (show w.heap.size < (w.heap.push _).size from by simp)⟩, fun j hj _ => hb.block j hj⟩)
  exact this
theorem Sep.set {w0 w : World} {g : Nat} {cs : Array Value} {T : TypeId} {ps : List HP} (h : Sep w0 w (blk g cs T :: ps)) (i : Nat) (v : Value) : Sep w0 (w.setCell ⟨g, i, none⟩ v) (blk g (cs.setIfInBounds i v) T :: ps) := by
  obtain ⟨hg, hg0, hlt⟩ := h.blk_at
  have hsz : (w.setCell ⟨g, i, none⟩ v).heap.size = w.heap.size := by simp [World.setCell]
  have hq : Below 0 w (w.setCell ⟨g, i, none⟩ v) := ⟨by simp [World.setCell], by simp [World.setCell], by simp [World.setCell], by rw [hsz]; exact Nat.le_refl _, fun j hj => absurd hj (Nat.not_lt_zero j)⟩
  have hat : (w.setCell ⟨g, i, none⟩ v).heap[g]? = some (.cells (cs.setIfInBounds i v) T (0, 0)) := by
    simp [World.setCell, Array.getElem?_modify, hg]
  have := Sep.step (ps := [blk g cs T]) (qs := [blk g (cs.setIfInBounds i v) T]) (rs := ps) h hq (fun b1 h1 _ _ => by
    obtain ⟨c1, c2, e, ⟨e1, _⟩, e2⟩ := h1
    cases e2
    subst e1
    rw [e]
    refine ⟨[g], ⟨[g], [], rfl, ⟨rfl, hat⟩, rfl⟩, by simp, fun b hb => ⟨.inl (by simpa using hb), by rw [List.mem_singleton.1 hb, hsz]; exact hlt⟩, fun j hj hne => ?_⟩
    exact Below.heap_setCell w ⟨g, i, none⟩ v j (fun e => hne (by simp [e])))
  exact this
theorem Sep.cell {w0 w : World} {g : Nat} {cs : Array Value} {T : TypeId} {ps : List HP} (h : Sep w0 w (blk g cs T :: ps)) (i : Nat) : w.cell? ⟨g, i, none⟩ = cs[i]? := by
  obtain ⟨hg, _, _⟩ := h.blk_at
  exact blk_cell hg i
theorem Sep.frozen {w0 w : World} {g : Nat} {cs : Array Value} {T : TypeId} {ps : List HP} (h : Sep w0 w (blk g cs T :: ps)) (i : Nat) : w.frozen? ⟨g, i, none⟩ = false := by
  obtain ⟨hg, _, _⟩ := h.blk_at
  exact blk_frozen hg i

/-! ### a row of its own, with all that it leads to -/
def row {α : Type} (d : Kd α) (e : Nat) (v : Value) (xs : List α) : HP where
  p := fun w bs => d.R e w 0 (fun k => k ∈ bs) v xs
  loc := fun {w w' bs} h hm => Kd.R_move h hm

theorem Sep.row_open {α : Type} {d : Kd α} {w0 W : World} {e : Nat} {v : Value} {xs : List α} {ps : List HP} (h : Sep w0 W (row d e v xs :: ps)) :
    ∃ bs : List Nat, d.R e W 0 (fun k => k ∈ bs) v xs ∧ ∀ (w1 : World) (v1 : Value) (xs1 : List α), d.R e w1 0 (fun k => k ∈ bs ∨ W.heap.size ≤ k) v1 xs1 → W.grownBy w1 v.ownBlock → Sep w0 w1 (row d e v1 xs1 :: ps) := by
  obtain ⟨hb, bs, ⟨b1, b2, e1, hp, hs⟩, hn, hr⟩ := h
  refine ⟨b1, hp, fun w1 v1 xs1 h1 hg => ?_⟩
  have h : Sep w0 W ([row d e v xs] ++ ps) := ⟨hb, bs, ⟨b1, b2, e1, hp, hs⟩, hn, hr⟩
  have hlt : ∀ k, k ∈ b1 → k < W.heap.size := fun k hk => (hr k (by rw [e1]; exact List.mem_append_left _ hk)).2
  have hge : ∀ k, k ∈ b1 → w0.heap.size ≤ k := fun k hk => (hr k (by rw [e1]; exact List.mem_append_left _ hk)).1
  have hn1 : b1.Nodup := (List.nodup_append.1 (e1 ▸ hn)).1
  have hdis : ∀ k, k ∈ b1 → k ∉ b2 := fun k hk hk2 => (List.nodup_append.1 (e1 ▸ hn)).2.2 k hk k hk2 rfl
  have hsz : W.heap.size ≤ w1.heap.size := hg.size
  have hmem : ∀ k, (k ∈ b1 ∨ W.heap.size ≤ k) ∧ k < w1.heap.size → k ∈ b1 ++ List.range' W.heap.size (w1.heap.size - W.heap.size) := fun k hk => by
    rcases hk.1 with h2 | h2
    · exact List.mem_append_left _ h2
    · exact List.mem_append_right _ (List.mem_range'_1.2 ⟨h2, by omega⟩)
  have hR : d.R e w1 0 (fun k => k ∈ b1 ++ List.range' W.heap.size (w1.heap.size - W.heap.size)) v1 xs1 := Kd.R_mono (Kd.R_bound h1) (fun k hk => hmem k ⟨hk.1, hk.2.2.1⟩)
  have hblk : ∀ j, j < W.heap.size → j ∉ b1 → w1.heap[j]? = W.heap[j]? := fun j hj hne => hg.block j hj (fun e => hne (hp.1 j e.symm))
  refine ⟨⟨hg.os.trans hb.os, hg.tape.trans hb.tape, hg.output.trans hb.output, Nat.le_trans hb.size hsz, fun j hj => ?_⟩, (b1 ++ List.range' W.heap.size (w1.heap.size - W.heap.size)) ++ b2, ⟨_, b2, rfl, hR, SepL.move hs (fun k hk => hblk k (hr k (by rw [e1]; exact List.mem_append_right _ hk)).2 (fun h => hdis k h hk))⟩, ?_, ?_⟩
  · rw [hblk j (Nat.lt_of_lt_of_le hj hb.size) (fun h => absurd hj (Nat.not_lt.2 (hge j h))), hb.block j hj]
  · refine List.nodup_append.2 ⟨List.nodup_append.2 ⟨hn1, List.nodup_range', fun a ha b hb e => ?_⟩, (List.nodup_append.1 (e1 ▸ hn)).2.1, fun a ha b hb e => ?_⟩
    · subst e; have := hlt a ha; have := (List.mem_range'_1.1 hb).1; omega
    · subst e
      rcases List.mem_append.1 ha with h | h
      · exact hdis a h hb
      · have := (hr a (by rw [e1]; exact List.mem_append_right _ hb)).2; have := (List.mem_range'_1.1 h).1; omega
  · intro k hk
    rcases List.mem_append.1 hk with h | h
    · rcases List.mem_append.1 h with h | h
      · exact ⟨hge k h, Nat.lt_of_lt_of_le (hlt k h) hsz⟩
      · have h2 := List.mem_range'_1.1 h
        exact ⟨Nat.le_trans hb.size h2.1, by omega⟩
    · have h2 := hr k (by rw [e1]; exact List.mem_append_right _ h)
      exact ⟨h2.1, Nat.lt_of_lt_of_le h2.2 hsz⟩
/-- A row that a call has made. -/
theorem Sep.row_new {α : Type} {d : Kd α} {w0 W w1 : World} {e : Nat} {ok : Nat → Prop} {v : Value} {xs : List α} {ps : List HP} (h : Sep w0 W ps) (hb : Below W.heap.size W w1) (ho : d.R e w1 W.heap.size ok v xs) : Sep w0 w1 (row d e v xs :: ps) := by
  have hR : d.R e w1 0 (fun k => k ∈ List.range' W.heap.size (w1.heap.size - W.heap.size)) v xs := Kd.R_lower (Kd.R_mono (Kd.R_bound ho) (fun k hk => List.mem_range'_1.2 ⟨hk.2.1, by have := hk.2.2.1; omega⟩)) (Nat.zero_le _)
  have := Sep.step (ps := []) (qs := [row d e v xs]) (rs := ps) h ⟨hb.os, hb.tape, hb.output, hb.size, fun j hj => absurd hj (Nat.not_lt_zero j)⟩ (fun b1 h1 _ _ =>
    ⟨_, ⟨_, [], by rw [List.append_nil], hR, rfl⟩, List.nodup_range', fun k hk => by
      have h2 := List.mem_range'_1.1 hk
      have := hb.size
      exact ⟨.inr h2.1, by omega⟩, fun j hj _ => hb.block j hj⟩)
  exact this
theorem Sep.row_nil {α : Type} (d : Kd α) {w0 W : World} (e : Nat) {ps : List HP} (h : Sep w0 W ps) : Sep w0 W (row d e (.slice none 0 0) [] :: ps) :=
  Sep.row_new h (Below.refl _ _) (Kd.R_nil d e W W.heap.size (fun _ => True))
theorem Sep.row_R {α : Type} {d : Kd α} {w0 W : World} {e : Nat} {v : Value} {xs : List α} {ps : List HP} (h : Sep w0 W (row d e v xs :: ps)) : ∃ bs : List Nat, d.R e W 0 (fun k => k ∈ bs) v xs := by
  obtain ⟨bs, h1, _⟩ := h.row_open
  exact ⟨bs, h1⟩

/-- A row of numbers that has been made, as a printed contract tells it. -/
theorem Sep.row_out {k : IntKind} {w0 W : World} {e : Nat} {v : Value} {xs : List Int} {ps : List HP} (h : Sep w0 W (row (Kd.int k) e v xs :: ps)) : (Kd.int k).R e W w0.heap.size (fun _ => True) v xs ∧ Below w0.heap.size w0 W := by
  obtain ⟨hb, bs, ⟨b1, b2, e1, hp, hs⟩, hn, hr⟩ := h
  exact ⟨Kd.R_raise (b := 0) (fun _ _ _ _ hm => hm) (Kd.R_mono hp (fun _ _ => trivial)) (fun j hj => (hr j (by rw [e1]; exact List.mem_append_left _ (hp.1 j hj))).1), hb⟩
section
variable {P : Program} {ops : Array Oper} {rest : List Oper} {o : Oper} {a : Act} {Q : Exit → Act → World → Prop}
/-- A parameter or a struct that is put into memory. -/
theorem Sep.box_event {w0 W : World} {ps : List HP} (hgd : o.guard = none) {N : Tmp} (_hd : o.dst = some N) {cs : Array Value} {t : TypeId} (hS : Sep w0 W ps)
    (hrun : (execOp a.eval o).run P W = .ok (.value (.pointer (some ⟨W.heap.size, 0, none⟩))) (W.alloc (.cells cs t (0, 0))))
    (h : ∀ g w1, Sep w0 w1 (blk g cs t :: ps) → wpList P ops Q rest (a.put o.dst (.pointer (some ⟨g, 0, none⟩))) w1) : wpList P ops Q (o :: rest) a W :=
  Kd.event_run hgd hrun (h _ _ (hS.alloc cs t))
end

end Go.Proofs.Ytnmdckgaljldhaa.Sep
