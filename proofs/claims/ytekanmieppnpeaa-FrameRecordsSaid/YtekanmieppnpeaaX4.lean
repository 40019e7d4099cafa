/- Texts of a claim, one behind the other (shake.py): what it does not use is left out. -/
import Derived.Test.YtekanmieppnpeaaX3
import Derived.Laws.Bits64b
import Derived.Deep.MidRow
import Derived.Lib.BytesEntry
import Derived.Lib.SliceRun
import Derived.Lib.Hide
import Derived.Tactics2
set_option linter.unusedVariables false
set_option linter.unusedSimpArgs false
set_option maxHeartbeats 16000000
set_option maxRecDepth 100000
section
namespace Go.Proofs.Ytekanmieppnpeaa.Sep
open Go Go.RowKit Go.Proofs.YtekanmieppnpeaaW.PrintWords Go.Proofs.YtekanmieppnpeaaW.PrintLast Go.Proofs.YtekanmieppnpeaaW.PrintMore
structure HP where
 p : World → List Nat → Prop
 loc : ∀ {w w' : World} {bs : List Nat}, p w bs → (∀ b, b ∈ bs → w'.heap[b]? = w.heap[b]?) → p w' bs
def SepL (w : World) : List HP → List Nat → Prop
 | [], bs => bs = []
 | p :: ps, bs => ∃ b1 b2, bs = b1 ++ b2 ∧ p.p w b1 ∧ SepL w ps b2
def Sep (w0 w : World) (ps : List HP) : Prop :=
 Below w0.heap.size w0 w ∧ ∃ bs, SepL w ps bs ∧ bs.Nodup ∧ ∀ b, b ∈ bs → w0.heap.size ≤ b ∧ b < w.heap.size
theorem SepL.move {w w' : World} : ∀ {ps : List HP} {bs : List Nat}, SepL w ps bs → (∀ b, b ∈ bs → w'.heap[b]? = w.heap[b]?) → SepL w' ps bs
 | [], bs, h, _ => h
 | p :: ps, bs, ⟨b1, b2, e, hp, hs⟩, hm => ⟨b1, b2, e, p.loc hp (fun b hb => hm b (by rw [e]; exact List.mem_append_left _ hb)), SepL.move hs (fun b hb => hm b (by rw [e]; exact List.mem_append_right _ hb))⟩
theorem SepL.append {w : World} : ∀ {qs ps : List HP} {b1 b2 : List Nat}, SepL w qs b1 → SepL w ps b2 → SepL w (qs ++ ps) (b1 ++ b2)
 | [], ps, b1, b2, h, h2 => by cases h; simpa using h2
 | q :: qs, ps, b1, b2, ⟨c1, c2, e, hp, hs⟩, h2 => ⟨c1, c2 ++ b2, by rw [e, List.append_assoc], hp, SepL.append hs h2⟩
theorem SepL.split {w : World} : ∀ {qs ps : List HP} {bs : List Nat}, SepL w (qs ++ ps) bs → ∃ b1 b2, bs = b1 ++ b2 ∧ SepL w qs b1 ∧ SepL w ps b2
 | [], ps, bs, h => ⟨[], bs, rfl, rfl, h⟩
 | q :: qs, ps, bs, ⟨c1, c2, e, hp, hs⟩ => by
  obtain ⟨d1, d2, e2, h1, h2⟩ := SepL.split hs
  exact ⟨c1 ++ d1, d2, by rw [e, e2, List.append_assoc], ⟨c1, d1, rfl, hp, h1⟩, h2⟩
theorem SepL.perm {w : World} {ps qs : List HP} (h : ps.Perm qs) : ∀ {bs : List Nat}, SepL w ps bs → ∃ bs', bs.Perm bs' ∧ SepL w qs bs' := by
 induction h with
 | nil => intro bs h; exact ⟨bs, List.Perm.refl _, h⟩
 | cons x _ ih =>
  rintro bs ⟨b1, b2, e, hp, hs⟩
  obtain ⟨b2', hb, hs'⟩ := ih hs
  exact ⟨b1 ++ b2', by rw [e]; exact List.Perm.append_left _ hb, b1, b2', rfl, hp, hs'⟩
 | swap x y l =>
  rintro bs ⟨b1, b2, e, hp, b3, b4, e2, hq, hs⟩
  refine ⟨b3 ++ (b1 ++ b4), ?_, b3, b1 ++ b4, rfl, hq, b1, b4, rfl, hp, hs⟩
  rw [e, e2, ← List.append_assoc, ← List.append_assoc]
  exact List.Perm.append_right _ List.perm_append_comm
 | trans _ _ ih1 ih2 =>
  intro bs h
  obtain ⟨b1, h1, s1⟩ := ih1 h
  obtain ⟨b2, h2, s2⟩ := ih2 s1
  exact ⟨b2, h1.trans h2, s2⟩
theorem Sep.perm {w0 w : World} {ps qs : List HP} (h : Sep w0 w ps) (hp : ps.Perm qs) : Sep w0 w qs := by
 obtain ⟨hb, bs, hs, hn, hr⟩ := h
 obtain ⟨bs', hbp, hs'⟩ := SepL.perm hp hs
 exact ⟨hb, bs', hs', hbp.nodup_iff.1 hn, fun b hb => hr b (hbp.mem_iff.2 hb)⟩
theorem Sep.tail {w0 w : World} {p : HP} {ps : List HP} (h : Sep w0 w (p :: ps)) : Sep w0 w ps := by
 obtain ⟨hb, bs, ⟨b1, b2, e, hp, hs⟩, hn, hr⟩ := h
 exact ⟨hb, b2, hs, (List.nodup_append.1 (e ▸ hn)).2.1, fun b hb => hr b (by rw [e]; exact List.mem_append_right _ hb)⟩
theorem Sep.step {w0 w w' : World} {ps qs rs : List HP} (h : Sep w0 w (ps ++ rs)) (hq : Below 0 w w')
  (k : ∀ b1, SepL w ps b1 → (∀ b, b ∈ b1 → w0.heap.size ≤ b ∧ b < w.heap.size) → b1.Nodup → ∃ b1', SepL w' qs b1' ∧ b1'.Nodup ∧ (∀ b, b ∈ b1' → (b ∈ b1 ∨ w.heap.size ≤ b) ∧ b < w'.heap.size) ∧ ∀ j, j < w.heap.size → j ∉ b1 → w'.heap[j]? = w.heap[j]?) :
  Sep w0 w' (qs ++ rs) := by
 obtain ⟨hb, bs, hs, hn, hr⟩ := h
 obtain ⟨b1, b2, rfl, h1, h2⟩ := SepL.split hs
 obtain ⟨hn1, hn2, hn3⟩ := List.nodup_append.1 hn
 obtain ⟨c1, hc, hcn, hcr, hsame⟩ := k b1 h1 (fun b hb => hr b (List.mem_append_left _ hb)) hn1
 have hlt2 : ∀ b, b ∈ b2 → b < w.heap.size := fun b hb => (hr b (List.mem_append_right _ hb)).2
 have hm2 : ∀ b, b ∈ b2 → w'.heap[b]? = w.heap[b]? := fun b hb => hsame b (hlt2 b hb) (fun h => hn3 b h b hb rfl)
 refine ⟨⟨hq.os.trans hb.os, hq.tape.trans hb.tape, hq.output.trans hb.output, Nat.le_trans hb.size hq.size, fun j hj => ?_⟩, c1 ++ b2, SepL.append hc (SepL.move h2 hm2), ?_, ?_⟩
 ·
  rw [hsame j (Nat.lt_of_lt_of_le hj hb.size) (fun h => absurd hj (Nat.not_lt.2 (hr j (List.mem_append_left _ h)).1)), hb.block j hj]
 ·
  refine List.nodup_append.2 ⟨hcn, hn2, fun a ha b hb e => ?_⟩
  subst e
  rcases (hcr a ha).1 with h | h
  ·
   exact hn3 a h a hb rfl
  ·
   exact absurd (hlt2 a hb) (Nat.not_lt.2 h)
 ·
  intro b hb'
  rcases List.mem_append.1 hb' with h | h
  ·
   refine ⟨?_, (hcr b h).2⟩
   rcases (hcr b h).1 with h' | h'
   ·
    exact (hr b (List.mem_append_left _ h')).1
   ·
    exact Nat.le_trans hb.size h'
  ·
   exact ⟨(hr b (List.mem_append_right _ h)).1, Nat.lt_of_lt_of_le (hlt2 b h) hq.size⟩
theorem Sep.below {w0 w w' : World} {ps : List HP} (h : Sep w0 w ps) (hb : Below w.heap.size w w') : Sep w0 w' ps := by
 have := Sep.step (ps := []) (qs := []) (rs := ps) h ⟨hb.os, hb.tape, hb.output, hb.size, fun j hj => absurd hj (Nat.not_lt_zero j)⟩ (fun b1 h1 _ _ => ⟨[], rfl, List.nodup_nil, (fun b hb => by cases hb), fun j hj _ => hb.block j hj⟩)
 exact this
theorem Sep.drew {w0 w : World} {ps : List HP} (h : Sep w0 w ps) : Sep w0 w.drew ps := h.below (below_drew (Below.refl _ _))
theorem Sep.drewN {w0 w : World} {ps : List HP} (h : Sep w0 w ps) (n : Nat) : Sep w0 (w.drewN n) ps := h.below (pw_below_drewN (Below.refl _ _) n)
theorem Sep.start (w : World) : Sep w w [] := ⟨Below.refl _ _, [], rfl, List.nodup_nil, fun b hb => by cases hb⟩
theorem Sep.pick1 {w0 w : World} {a x : HP} {ps : List HP} (h : Sep w0 w (a :: x :: ps)) : Sep w0 w (x :: a :: ps) := h.perm (List.perm_middle (l₁ := [a]) (a := x) (l₂ := ps))
theorem Sep.put1 {w0 w : World} {a x : HP} {ps : List HP} (h : Sep w0 w (x :: a :: ps)) : Sep w0 w (a :: x :: ps) := h.perm (List.perm_middle (l₁ := [a]) (a := x) (l₂ := ps)).symm
theorem Sep.pick2 {w0 w : World} {a b x : HP} {ps : List HP} (h : Sep w0 w (a :: b :: x :: ps)) : Sep w0 w (x :: a :: b :: ps) := h.perm (List.perm_middle (l₁ := [a, b]) (a := x) (l₂ := ps))
theorem Sep.put2 {w0 w : World} {a b x : HP} {ps : List HP} (h : Sep w0 w (x :: a :: b :: ps)) : Sep w0 w (a :: b :: x :: ps) := h.perm (List.perm_middle (l₁ := [a, b]) (a := x) (l₂ := ps)).symm
theorem Sep.pick3 {w0 w : World} {a b c x : HP} {ps : List HP} (h : Sep w0 w (a :: b :: c :: x :: ps)) : Sep w0 w (x :: a :: b :: c :: ps) := h.perm (List.perm_middle (l₁ := [a, b, c]) (a := x) (l₂ := ps))
theorem Sep.put3 {w0 w : World} {a b c x : HP} {ps : List HP} (h : Sep w0 w (x :: a :: b :: c :: ps)) : Sep w0 w (a :: b :: c :: x :: ps) := h.perm (List.perm_middle (l₁ := [a, b, c]) (a := x) (l₂ := ps)).symm
theorem Sep.dropR {w0 w : World} {R ps : List HP} (h : Sep w0 w (R ++ ps)) : Sep w0 w ps := by
 induction R with
 | nil => exact h
 | cons r R ih => exact ih h.tail
theorem Sep.pickR0 {w0 w : World} {x : HP} {ps : List HP} (R : List HP) (h : Sep w0 w (x :: (R ++ ps))) : Sep w0 w (x :: ps) := (h.perm List.perm_middle.symm).dropR
def blk (g : Nat) (cs : Array Value) (T : TypeId) : HP where
 p := fun w bs => bs = [g] ∧ w.heap[g]? = some (.cells cs T (0, 0))
 loc := fun {w w' bs} h hm => ⟨h.1, by rw [hm g (by rw [h.1]; exact List.mem_singleton.2 rfl)]; exact h.2⟩
theorem Sep.blk_at {w0 w : World} {g : Nat} {cs : Array Value} {T : TypeId} {ps : List HP} (h : Sep w0 w (blk g cs T :: ps)) : w.heap[g]? = some (.cells cs T (0, 0)) ∧ w0.heap.size ≤ g ∧ g < w.heap.size := by
 obtain ⟨hb, bs, ⟨b1, b2, e, ⟨e1, hp⟩, hs⟩, hn, hr⟩ := h
 exact ⟨hp, hr g (by rw [e, e1]; simp)⟩
theorem Sep.alloc {w0 w : World} {ps : List HP} (h : Sep w0 w ps) (cs : Array Value) (T : TypeId) : Sep w0 (w.alloc (.cells cs T (0, 0))) (blk w.heap.size cs T :: ps) := by
 have hb := below_alloc (Below.refl w.heap.size w) (.cells cs T (0, 0))
 have := Sep.step (ps := []) (qs := [blk w.heap.size cs T]) (rs := ps) h ⟨hb.os, hb.tape, hb.output, hb.size, fun j hj => absurd hj (Nat.not_lt_zero j)⟩
  (fun b1 h1 _ _ => ⟨[w.heap.size], ⟨[w.heap.size], [], rfl, ⟨rfl, (show (w.heap.push _)[w.heap.size]? = _ from by simp)⟩, rfl⟩, by simp, fun b hb => by
   rw [List.mem_singleton.1 hb]; exact ⟨.inr (Nat.le_refl _), (show w.heap.size < (w.heap.push _).size from by simp)⟩, fun j hj _ => hb.block j hj⟩)
 exact this
theorem Sep.set {w0 w : World} {g : Nat} {cs : Array Value} {T : TypeId} {ps : List HP} (h : Sep w0 w (blk g cs T :: ps)) (i : Nat) (v : Value) : Sep w0 (w.setCell ⟨g, i, none⟩ v) (blk g (cs.setIfInBounds i v) T :: ps) := by
 obtain ⟨hg, hg0, hlt⟩ := h.blk_at
 have hsz : (w.setCell ⟨g, i, none⟩ v).heap.size = w.heap.size := by simp [World.setCell]
 have hq : Below 0 w (w.setCell ⟨g, i, none⟩ v) := ⟨by simp [World.setCell], by simp [World.setCell], by simp [World.setCell], by rw [hsz]; exact Nat.le_refl _, fun j hj => absurd hj (Nat.not_lt_zero j)⟩
 have hat : (w.setCell ⟨g, i, none⟩ v).heap[g]? = some (.cells (cs.setIfInBounds i v) T (0, 0)) := by
  simp [World.setCell, Array.getElem?_modify, hg]
 have := Sep.step (ps := [blk g cs T]) (qs := [blk g (cs.setIfInBounds i v) T]) (rs := ps) h hq (fun b1 h1 _ _ => by
  obtain ⟨c1, c2, e, ⟨e1, _⟩, e2⟩ := h1
  cases e2
  subst e1
  rw [e]
  refine ⟨[g], ⟨[g], [], rfl, ⟨rfl, hat⟩, rfl⟩, by simp, fun b hb => ⟨.inl (by simpa using hb), by rw [List.mem_singleton.1 hb, hsz]; exact hlt⟩, fun j hj hne => ?_⟩
  exact Below.heap_setCell w ⟨g, i, none⟩ v j (fun e => hne (by simp [e])))
 exact this
theorem Sep.cell {w0 w : World} {g : Nat} {cs : Array Value} {T : TypeId} {ps : List HP} (h : Sep w0 w (blk g cs T :: ps)) (i : Nat) : w.cell? ⟨g, i, none⟩ = cs[i]? := by
 obtain ⟨hg, _, _⟩ := h.blk_at
 exact blk_cell hg i
theorem Sep.frozen {w0 w : World} {g : Nat} {cs : Array Value} {T : TypeId} {ps : List HP} (h : Sep w0 w (blk g cs T :: ps)) (i : Nat) : w.frozen? ⟨g, i, none⟩ = false := by
 obtain ⟨hg, _, _⟩ := h.blk_at
 exact blk_frozen hg i
def row {α : Type} (d : Kd α) (e : Nat) (v : Value) (xs : List α) : HP where
 p := fun w bs => d.R e w 0 (fun k => k ∈ bs) v xs
 loc := fun {w w' bs} h hm => Kd.R_move h hm
theorem Sep.row_open {α : Type} {d : Kd α} {w0 W : World} {e : Nat} {v : Value} {xs : List α} {ps : List HP} (h : Sep w0 W (row d e v xs :: ps)) :
  ∃ bs : List Nat, d.R e W 0 (fun k => k ∈ bs) v xs ∧ ∀ (w1 : World) (v1 : Value) (xs1 : List α), d.R e w1 0 (fun k => k ∈ bs ∨ W.heap.size ≤ k) v1 xs1 → W.grownBy w1 v.ownBlock → Sep w0 w1 (row d e v1 xs1 :: ps) := by
 obtain ⟨hb, bs, ⟨b1, b2, e1, hp, hs⟩, hn, hr⟩ := h
 refine ⟨b1, hp, fun w1 v1 xs1 h1 hg => ?_⟩
 have h : Sep w0 W ([row d e v xs] ++ ps) := ⟨hb, bs, ⟨b1, b2, e1, hp, hs⟩, hn, hr⟩
 have hlt : ∀ k, k ∈ b1 → k < W.heap.size := fun k hk => (hr k (by rw [e1]; exact List.mem_append_left _ hk)).2
 have hge : ∀ k, k ∈ b1 → w0.heap.size ≤ k := fun k hk => (hr k (by rw [e1]; exact List.mem_append_left _ hk)).1
 have hn1 : b1.Nodup := (List.nodup_append.1 (e1 ▸ hn)).1
 have hdis : ∀ k, k ∈ b1 → k ∉ b2 := fun k hk hk2 => (List.nodup_append.1 (e1 ▸ hn)).2.2 k hk k hk2 rfl
 have hsz : W.heap.size ≤ w1.heap.size := hg.size
 have hmem : ∀ k, (k ∈ b1 ∨ W.heap.size ≤ k) ∧ k < w1.heap.size → k ∈ b1 ++ List.range' W.heap.size (w1.heap.size - W.heap.size) := fun k hk => by
  rcases hk.1 with h2 | h2
  ·
   exact List.mem_append_left _ h2
  ·
   exact List.mem_append_right _ (List.mem_range'_1.2 ⟨h2, by omega⟩)
 have hR : d.R e w1 0 (fun k => k ∈ b1 ++ List.range' W.heap.size (w1.heap.size - W.heap.size)) v1 xs1 := Kd.R_mono (Kd.R_bound h1) (fun k hk => hmem k ⟨hk.1, hk.2.2.1⟩)
 have hblk : ∀ j, j < W.heap.size → j ∉ b1 → w1.heap[j]? = W.heap[j]? := fun j hj hne => hg.block j hj (fun e => hne (hp.1 j e.symm))
 refine ⟨⟨hg.os.trans hb.os, hg.tape.trans hb.tape, hg.output.trans hb.output, Nat.le_trans hb.size hsz, fun j hj => ?_⟩, (b1 ++ List.range' W.heap.size (w1.heap.size - W.heap.size)) ++ b2, ⟨_, b2, rfl, hR, SepL.move hs (fun k hk => hblk k (hr k (by rw [e1]; exact List.mem_append_right _ hk)).2 (fun h => hdis k h hk))⟩, ?_, ?_⟩
 ·
  rw [hblk j (Nat.lt_of_lt_of_le hj hb.size) (fun h => absurd hj (Nat.not_lt.2 (hge j h))), hb.block j hj]
 ·
  refine List.nodup_append.2 ⟨List.nodup_append.2 ⟨hn1, List.nodup_range', fun a ha b hb e => ?_⟩, (List.nodup_append.1 (e1 ▸ hn)).2.1, fun a ha b hb e => ?_⟩
  ·
   subst e; have := hlt a ha; have := (List.mem_range'_1.1 hb).1; omega
  ·
   subst e
   rcases List.mem_append.1 ha with h | h
   ·
    exact hdis a h hb
   ·
    have := (hr a (by rw [e1]; exact List.mem_append_right _ hb)).2; have := (List.mem_range'_1.1 h).1; omega
 ·
  intro k hk
  rcases List.mem_append.1 hk with h | h
  ·
   rcases List.mem_append.1 h with h | h
   ·
    exact ⟨hge k h, Nat.lt_of_lt_of_le (hlt k h) hsz⟩
   ·
    have h2 := List.mem_range'_1.1 h
    exact ⟨Nat.le_trans hb.size h2.1, by omega⟩
  ·
   have h2 := hr k (by rw [e1]; exact List.mem_append_right _ h)
   exact ⟨h2.1, Nat.lt_of_lt_of_le h2.2 hsz⟩
theorem Sep.row_new {α : Type} {d : Kd α} {w0 W w1 : World} {e : Nat} {ok : Nat → Prop} {v : Value} {xs : List α} {ps : List HP} (h : Sep w0 W ps) (hb : Below W.heap.size W w1) (ho : d.R e w1 W.heap.size ok v xs) : Sep w0 w1 (row d e v xs :: ps) := by
 have hR : d.R e w1 0 (fun k => k ∈ List.range' W.heap.size (w1.heap.size - W.heap.size)) v xs := Kd.R_lower (Kd.R_mono (Kd.R_bound ho) (fun k hk => List.mem_range'_1.2 ⟨hk.2.1, by have := hk.2.2.1; omega⟩)) (Nat.zero_le _)
 have := Sep.step (ps := []) (qs := [row d e v xs]) (rs := ps) h ⟨hb.os, hb.tape, hb.output, hb.size, fun j hj => absurd hj (Nat.not_lt_zero j)⟩ (fun b1 h1 _ _ =>
  ⟨_, ⟨_, [], by rw [List.append_nil], hR, rfl⟩, List.nodup_range', fun k hk => by
   have h2 := List.mem_range'_1.1 hk
   have := hb.size
   exact ⟨.inr h2.1, by omega⟩, fun j hj _ => hb.block j hj⟩)
 exact this
theorem Sep.row_nil {α : Type} (d : Kd α) {w0 W : World} (e : Nat) {ps : List HP} (h : Sep w0 W ps) : Sep w0 W (row d e (.slice none 0 0) [] :: ps) :=
 Sep.row_new h (Below.refl _ _) (Kd.R_nil d e W W.heap.size (fun _ => True))
theorem Sep.row_R {α : Type} {d : Kd α} {w0 W : World} {e : Nat} {v : Value} {xs : List α} {ps : List HP} (h : Sep w0 W (row d e v xs :: ps)) : ∃ bs : List Nat, d.R e W 0 (fun k => k ∈ bs) v xs := by
 obtain ⟨bs, h1, _⟩ := h.row_open
 exact ⟨bs, h1⟩
theorem Sep.row_out {k : IntKind} {w0 W : World} {e : Nat} {v : Value} {xs : List Int} {ps : List HP} (h : Sep w0 W (row (Kd.int k) e v xs :: ps)) : (Kd.int k).R e W w0.heap.size (fun _ => True) v xs ∧ Below w0.heap.size w0 W := by
 obtain ⟨hb, bs, ⟨b1, b2, e1, hp, hs⟩, hn, hr⟩ := h
 exact ⟨Kd.R_raise (b := 0) (fun _ _ _ _ hm => hm) (Kd.R_mono hp (fun _ _ => trivial)) (fun j hj => (hr j (by rw [e1]; exact List.mem_append_left _ (hp.1 j hj))).1), hb⟩
section
variable {P : Program} {ops : Array Oper} {rest : List Oper} {o : Oper} {a : Act} {Q : Exit → Act → World → Prop}
theorem Sep.box_event {w0 W : World} {ps : List HP} (hgd : o.guard = none) {N : Tmp} (_hd : o.dst = some N) {cs : Array Value} {t : TypeId} (hS : Sep w0 W ps)
  (hrun : (execOp a.eval o).run P W = .ok (.value (.pointer (some ⟨W.heap.size, 0, none⟩))) (W.alloc (.cells cs t (0, 0))))
  (h : ∀ g w1, Sep w0 w1 (blk g cs t :: ps) → wpList P ops Q rest (a.put o.dst (.pointer (some ⟨g, 0, none⟩))) w1) : wpList P ops Q (o :: rest) a W :=
 Kd.event_run hgd hrun (h _ _ (hS.alloc cs t))
end
end Go.Proofs.Ytekanmieppnpeaa.Sep
end
section
namespace Go.Proofs.Ytekanmieppnpeaa.Rol
open Go Go.RowKit Go.Proofs.YtekanmieppnpeaaW.PrintWords Go.Proofs.YtekanmieppnpeaaW.PrintLast Go.Proofs.YtekanmieppnpeaaW.PrintMore Go.Proofs.Ytekanmieppnpeaa.PureKit
def rol (W n x : Nat) : Nat := x * 2 ^ n % 2 ^ W + x / 2 ^ (W - n)
theorem rol_char (W n q r : Nat) (hn : n ≤ W) (hr : r < 2 ^ (W - n)) : rol W n (q * 2 ^ (W - n) + r) = r * 2 ^ n + q := by
 have hp : 2 ^ W = 2 ^ (W - n) * 2 ^ n := by rw [← Nat.pow_add, Nat.sub_add_cancel hn]
 unfold rol
 rw [hp]
 generalize 2 ^ (W - n) = A at *
 have hB : 0 < 2 ^ n := Nat.two_pow_pos n
 generalize 2 ^ n = B at *
 have h1 : (q * A + r) * B = r * B + (A * B) * q := by rw [Nat.add_mul, Nat.mul_assoc, Nat.mul_comm q, Nat.add_comm]
 rw [h1, Nat.add_mul_mod_self_left, Nat.mod_eq_of_lt (Nat.mul_lt_mul_of_pos_right hr hB), Nat.mul_comm q A, Nat.mul_add_div (by omega), Nat.div_eq_of_lt hr, Nat.add_zero]
theorem rol_split (W n x : Nat) (hn : n ≤ W) (hx : x < 2 ^ W) : ∃ q r, x = q * 2 ^ (W - n) + r ∧ r < 2 ^ (W - n) ∧ q < 2 ^ n := by
 have hp : 2 ^ W = 2 ^ (W - n) * 2 ^ n := by rw [← Nat.pow_add, Nat.sub_add_cancel hn]
 have hA : 0 < 2 ^ (W - n) := Nat.two_pow_pos _
 exact ⟨x / 2 ^ (W - n), x % 2 ^ (W - n), by rw [Nat.mul_comm]; exact (Nat.div_add_mod x _).symm, Nat.mod_lt _ hA, Nat.div_lt_of_lt_mul (by rw [← hp]; exact hx)⟩
theorem rol_lt (W n x : Nat) (hn : n ≤ W) (hx : x < 2 ^ W) : rol W n x < 2 ^ W := by
 obtain ⟨q, r, rfl, hr, hq⟩ := rol_split W n x hn hx
 rw [rol_char W n q r hn hr]
 have hp : 2 ^ W = 2 ^ (W - n) * 2 ^ n := by rw [← Nat.pow_add, Nat.sub_add_cancel hn]
 rw [hp]
 calc r * 2 ^ n + q < r * 2 ^ n + 2 ^ n := by omega
  _ = (r + 1) * 2 ^ n := by rw [Nat.add_mul, Nat.one_mul]
  _ ≤ 2 ^ (W - n) * 2 ^ n := Nat.mul_le_mul_right _ hr
theorem rol_zero (W x : Nat) (hx : x < 2 ^ W) : rol W 0 x = x := by
 unfold rol
 rw [Nat.pow_zero, Nat.mul_one, Nat.sub_zero, Nat.mod_eq_of_lt hx, Nat.div_eq_of_lt hx, Nat.add_zero]
theorem rol_succ (W n x : Nat) (hn : n + 1 ≤ W) (hx : x < 2 ^ W) : rol W (n + 1) x = 2 * rol W n x % 2 ^ W + rol W n x / 2 ^ (W - 1) := by
 obtain ⟨q, r, rfl, hr, hq⟩ := rol_split W n x (by omega) hx
 rw [rol_char W n q r (by omega) hr]
 have hA : 2 ^ (W - n) = 2 * 2 ^ (W - (n + 1)) := by rw [← Nat.pow_succ', show W - n = W - (n + 1) + 1 by omega]
 have hW : 2 ^ (W - 1) = 2 ^ (W - (n + 1)) * 2 ^ n := by rw [← Nat.pow_add]; congr 1; omega
 have hW2 : 2 ^ W = 2 * (2 ^ (W - (n + 1)) * 2 ^ n) := by rw [← hW, ← Nat.pow_succ']; congr 1; omega
 have hchar := rol_char W (n + 1) (2 * q + r / 2 ^ (W - (n + 1))) (r % 2 ^ (W - (n + 1))) hn (Nat.mod_lt _ (Nat.two_pow_pos _))
 have hB1 : 2 ^ (n + 1) = 2 * 2 ^ n := by rw [Nat.pow_succ']
 rw [hB1] at hchar
 have hB : 0 < 2 ^ n := Nat.two_pow_pos n
 have hA1 : 0 < 2 ^ (W - (n + 1)) := Nat.two_pow_pos _
 rw [hW2, hW, hA]
 rw [hA] at hr
 generalize 2 ^ (W - (n + 1)) = A at *
 generalize 2 ^ n = B at *
 have hdm := Nat.div_add_mod r A
 have hd2 : r / A < 2 := Nat.div_lt_of_lt_mul (by omega)
 have hm : r % A < A := Nat.mod_lt _ hA1
 generalize r / A = b at *
 generalize r % A = r' at *
 have e0 : q * (2 * A) + r = (2 * q + b) * A + r' := by
  rw [← hdm, Nat.add_mul, ← Nat.mul_assoc, Nat.mul_comm q 2, Nat.mul_comm A b, Nat.add_assoc]
 rw [e0, hchar, ← hdm]
 have e1 : (A * b + r') * B + q = b * (A * B) + (r' * B + q) := by
  rw [Nat.add_mul, Nat.mul_comm A b, Nat.mul_assoc, Nat.add_assoc]
 have hlt : r' * B + q < A * B := by
  calc r' * B + q < r' * B + B := by omega
   _ = (r' + 1) * B := by rw [Nat.add_mul, Nat.one_mul]
   _ ≤ A * B := Nat.mul_le_mul_right _ hm
 have hX : r' * (2 * B) = 2 * (r' * B) := by rw [Nat.mul_left_comm]
 rw [e1, hX]
 generalize r' * B = Y at *
 generalize A * B = Z at *
 rcases (show b = 0 ∨ b = 1 by omega) with rfl | rfl
 ·
  rw [Nat.zero_mul, Nat.zero_add, Nat.div_eq_of_lt hlt, Nat.mod_eq_of_lt (by omega)]
  omega
 ·
  rw [Nat.one_mul, show (Z + (Y + q)) / Z = 1 from by rw [Nat.add_div_left _ (by omega), Nat.div_eq_of_lt hlt], show 2 * (Z + (Y + q)) = 2 * (Y + q) + 2 * Z by omega, Nat.add_mod_right, Nat.mod_eq_of_lt (by omega)]
  omega
theorem rol_or (W n x : Nat) (hn : n ≤ W) (hx : x < 2 ^ W) : (x * 2 ^ n % 2 ^ W) ||| (x / 2 ^ (W - n)) = rol W n x := by
 obtain ⟨q, r, rfl, hr, hq⟩ := rol_split W n x hn hx
 have h := rol_char W n q r hn hr
 have hp : 2 ^ W = 2 ^ (W - n) * 2 ^ n := by rw [← Nat.pow_add, Nat.sub_add_cancel hn]
 have e2 : (q * 2 ^ (W - n) + r) / 2 ^ (W - n) = q := by rw [Nat.mul_comm, Nat.mul_add_div (Nat.two_pow_pos _), Nat.div_eq_of_lt hr, Nat.add_zero]
 have e1 : (q * 2 ^ (W - n) + r) * 2 ^ n % 2 ^ W = 2 ^ n * r := by
  have : (q * 2 ^ (W - n) + r) * 2 ^ n % 2 ^ W + q = r * 2 ^ n + q := by rw [← h]; unfold rol; rw [e2]
  rw [Nat.mul_comm (2 ^ n) r]
  omega
 rw [h, e1, e2, ← Nat.two_pow_add_eq_or_of_lt hq, Nat.mul_comm]
theorem and63 (n : Nat) (h : n < 64) : bits .and .u64 (IntKind.u64.wrap (n : Int)) 63 = n := by
 rw [wu64 (by omega) (by omega)]
 have := bits_and_u64_nat n 63 (by omega) (by omega)
 rw [show (63 : Nat) = 2 ^ 6 - 1 from rfl, Nat.and_two_pow_sub_one_eq_mod, Nat.mod_eq_of_lt (by omega)] at this
 exact this
def leb : List Int → Nat
 | [] => 0
 | b :: bs => b.toNat + 256 * leb bs
theorem leb_lt : ∀ (l : List Int), Bytes l → leb l < 256 ^ l.length
 | [], _ => by simp [leb]
 | b :: bs, h => by
  have := leb_lt bs h.tail
  have hb := h.head
  simp only [leb, List.length_cons, Nat.pow_succ]
  omega
theorem leb_lt4 (l : List Int) (h : Bytes l) (n : Nat) (hn : l.length ≤ n) : leb l < 256 ^ n := Nat.lt_of_lt_of_le (leb_lt l h) (Nat.pow_le_pow_right (by omega) hn)
end Go.Proofs.Ytekanmieppnpeaa.Rol
namespace Go.Proofs.Ytekanmieppnpeaa.Rol
open Go Go.RowKit Go.Proofs.YtekanmieppnpeaaW.PrintWords Go.Proofs.YtekanmieppnpeaaW.PrintLast Go.Proofs.YtekanmieppnpeaaW.PrintMore Go.Proofs.Ytekanmieppnpeaa.PureKit
def win (x y : Nat) : Nat := rol 64 31 ((x + y * 14029467366897019727) % 18446744073709551616) * 11400714785074694791 % 18446744073709551616
def wstep (l : List Int) (i : Nat) (vs : List Nat) : List Nat := vs.set i (win (vs.getD i 0) (leb ((l.drop (8 * i)).take 8)))
def wpart (l : List Int) (vs : List Nat) : Nat → List Nat
 | 0 => vs
 | i + 1 => wstep l i (wpart l vs i)
def wstripes : Nat → List Nat → List Int → List Nat
 | 0, vs, _ => vs
 | n + 1, vs, l => wstripes n (wpart l vs 4) (l.drop 32)
def winit (s : Nat) : List Nat := [(s + 11400714785074694791 + 14029467366897019727) % 18446744073709551616, (s + 14029467366897019727) % 18446744073709551616, s, (s + 18446744073709551616 - 11400714785074694791) % 18446744073709551616]
def wmerge (h x : Nat) : Nat := ((h ^^^ win 0 x) * 11400714785074694791 + 9650029242287828579) % 18446744073709551616
def wout (v : List Nat) : Nat := v.foldl wmerge ((rol 64 1 (v.getD 0 0) + rol 64 7 (v.getD 1 0) + rol 64 12 (v.getD 2 0) + rol 64 18 (v.getD 3 0)) % 18446744073709551616)
def wbeg (s : Nat) (vs : List Nat) (n : Nat) : Nat := if n < 32 then (s + 2870177450012600261) % 18446744073709551616 else wout vs
def weight (h : Nat) (l : List Int) : Nat := (rol 64 27 (h ^^^ win 0 (leb (l.take 8))) * 11400714785074694791 + 9650029242287828579) % 18446744073709551616
def weights : Nat → Nat → List Int → Nat
 | 0, h, _ => h
 | n + 1, h, l => weights n (weight h l) (l.drop 8)
def wfour (h : Nat) (l : List Int) : Nat := (rol 64 23 (h ^^^ (leb (l.take 4) * 11400714785074694791 % 18446744073709551616)) * 14029467366897019727 + 1609587929392839161) % 18446744073709551616
def wbyte (h : Nat) (b : Int) : Nat := rol 64 11 (h ^^^ (b.toNat * 2870177450012600261 % 18446744073709551616)) * 11400714785074694791 % 18446744073709551616
def wbytes : Nat → List Int → Nat
 | h, [] => h
 | h, b :: bs => wbytes (wbyte h b) bs
def wmix (n x : Nat) : Nat := x ^^^ (x / 2 ^ n)
def wfin (h : Nat) : Nat := wmix 32 (wmix 29 (wmix 33 h * 14029467366897019727 % 18446744073709551616) * 1609587929392839161 % 18446744073709551616)
def wrest (l : List Int) : List Int := l.drop (32 * (l.length / 32))
def wlast (h : Nat) (r : List Int) : Nat := if r.length < 4 then wbytes h r else wbytes (wfour h r) (r.drop 4)
def wtail (h : Nat) (r : List Int) : Nat := wlast (weights (r.length / 8) h r) (r.drop (8 * (r.length / 8)))
def wvs (s : Nat) (l : List Int) : List Nat := wstripes (l.length / 32) (winit s) l
def wstart (s : Nat) (l : List Int) : Nat := wbeg s (wvs s l) l.length
def wsum (s : Nat) (l : List Int) : Nat := wfin (wtail ((wstart s l + l.length) % 18446744073709551616) (wrest l))
theorem win_lt (x y : Nat) : win x y < 18446744073709551616 := Nat.mod_lt _ (by omega)
theorem wstep_len (l : List Int) (i : Nat) (vs : List Nat) : (wstep l i vs).length = vs.length := by simp [wstep]
theorem wpart_len (l : List Int) (vs : List Nat) : ∀ i, (wpart l vs i).length = vs.length
 | 0 => rfl
 | i + 1 => by rw [wpart, wstep_len, wpart_len l vs i]
def Small8 (vs : List Nat) : Prop := ∀ v ∈ vs, v < 18446744073709551616
theorem Small8.at {vs : List Nat} (h : Small8 vs) (i : Nat) : vs.getD i 0 < 18446744073709551616 := by
 rw [List.getD_eq_getElem?_getD]
 rcases hv : vs[i]? with _ | v
 ·
  rw [Option.getD_none]; exact Nat.zero_lt_succ 18446744073709551615
 ·
  rw [Option.getD_some]; exact h v (List.mem_of_getElem? hv)
theorem wstep_small (l : List Int) (i : Nat) (vs : List Nat) (h : Small8 vs) : Small8 (wstep l i vs) := fun v hv => by
 rcases List.mem_or_eq_of_mem_set hv with hv | rfl
 ·
  exact h v hv
 ·
  exact win_lt _ _
theorem wpart_small (l : List Int) (vs : List Nat) (h : Small8 vs) : ∀ i, Small8 (wpart l vs i)
 | 0 => h
 | i + 1 => wstep_small l i _ (wpart_small l vs h i)
theorem winit_small (s : Nat) (h : s < 18446744073709551616) : Small8 (winit s) := by
 intro v hv
 simp only [winit, List.mem_cons, List.not_mem_nil, or_false] at hv
 rcases hv with h1 | h1 | h1 | h1 <;> rw [h1]
 ·
  exact Nat.mod_lt _ (by omega)
 ·
  exact Nat.mod_lt _ (by omega)
 ·
  exact h
 ·
  exact Nat.mod_lt _ (by omega)
theorem wstripes_succ (l : List Int) : ∀ (n : Nat) (vs : List Nat), wstripes (n + 1) vs l = wpart (l.drop (32 * n)) (wstripes n vs l) 4 := by
 intro n
 induction n generalizing l with
 | zero => intro vs; simp [wstripes]
 | succ n ih =>
  intro vs
  rw [wstripes, ih, wstripes, List.drop_drop]
  congr 2
  omega
theorem wstripes_len (l : List Int) (vs : List Nat) : ∀ n, (wstripes n vs l).length = vs.length
 | 0 => rfl
 | n + 1 => by rw [wstripes_succ, wpart_len, wstripes_len l vs n]
theorem wstripes_small (l : List Int) (vs : List Nat) (h : Small8 vs) : ∀ n, Small8 (wstripes n vs l)
 | 0 => h
 | n + 1 => by rw [wstripes_succ]; exact wpart_small _ _ (wstripes_small l vs h n) 4
theorem wpart_take (l m : List Int) (vs : List Nat) (i : Nat) (h : 8 * i ≤ l.length) : wpart (l ++ m) vs i = wpart l vs i := by
 induction i with
 | zero => rfl
 | succ i ih =>
  have e : (((l ++ m).drop (8 * i)).take 8) = ((l.drop (8 * i)).take 8) := by
   rw [List.drop_append_of_le_length (by omega), List.take_append_of_le_length (by rw [List.length_drop]; omega)]
  rw [wpart, wpart, ih (by omega), wstep, wstep, e]
theorem wstripes_take (m : List Int) : ∀ (n : Nat) (l : List Int) (vs : List Nat), 32 * n ≤ l.length → wstripes n vs (l ++ m) = wstripes n vs l
 | 0, _, _, _ => rfl
 | n + 1, l, vs, h => by
  rw [wstripes, wstripes, wpart_take l m vs 4 (by omega), List.drop_append_of_le_length (by omega), wstripes_take m n (l.drop 32) _ (by rw [List.length_drop]; omega)]
theorem wstripes_add (l : List Int) (vs : List Nat) (n : Nat) : ∀ k, wstripes (n + k) vs l = wstripes k (wstripes n vs l) (l.drop (32 * n)) := by
 intro k
 induction n generalizing l vs with
 | zero => simp [wstripes]
 | succ n ih =>
  rw [show n + 1 + k = (n + k) + 1 by omega, wstripes, ih, wstripes, List.drop_drop]
  congr 2
  omega
theorem wvs_append (s : Nat) (a l : List Int) : wvs s (a ++ l) = wstripes ((wrest a ++ l).length / 32) (wvs s a) (wrest a ++ l) := by
 have e : wrest a ++ l = (a ++ l).drop (32 * (a.length / 32)) := by unfold wrest; rw [List.drop_append_of_le_length (by omega)]
 have e2 : (wrest a ++ l).length / 32 + a.length / 32 = (a ++ l).length / 32 := by
  unfold wrest
  simp only [List.length_append, List.length_drop]
  omega
 unfold wvs
 rw [← e2, Nat.add_comm, wstripes_add, wstripes_take l _ a _ (by omega), ← e]
theorem wrest_append (a l : List Int) : wrest (a ++ l) = (wrest a ++ l).drop (32 * ((wrest a ++ l).length / 32)) := by
 have e : wrest a ++ l = (a ++ l).drop (32 * (a.length / 32)) := by unfold wrest; rw [List.drop_append_of_le_length (by omega)]
 have e2 : (wrest a ++ l).length / 32 + a.length / 32 = (a ++ l).length / 32 := by
  unfold wrest
  simp only [List.length_append, List.length_drop]
  omega
 obtain ⟨q, hq⟩ : ∃ q, (wrest a ++ l).length / 32 = q := ⟨_, rfl⟩
 rw [hq] at e2 ⊢
 rw [e, List.drop_drop]
 unfold wrest
 rw [← e2]
 congr 1
 omega
theorem wrest_len (a : List Int) : (wrest a).length < 32 := by unfold wrest; rw [List.length_drop]; omega
theorem weights_succ (l : List Int) : ∀ (n h : Nat), weights (n + 1) h l = weight (weights n h l) (l.drop (8 * n)) := by
 intro n
 induction n generalizing l with
 | zero => intro h; simp [weights]
 | succ n ih =>
  intro h
  rw [weights, ih, weights, List.drop_drop]
  congr 2
  omega
theorem weight_lt (h : Nat) (l : List Int) : weight h l < 18446744073709551616 := Nat.mod_lt _ (by omega)
theorem weights_lt (l : List Int) (h : Nat) (hh : h < 18446744073709551616) : ∀ n, weights n h l < 18446744073709551616
 | 0 => hh
 | n + 1 => by rw [weights_succ]; exact weight_lt _ _
theorem wfour_lt (h : Nat) (l : List Int) : wfour h l < 18446744073709551616 := Nat.mod_lt _ (by omega)
theorem wbyte_lt (h : Nat) (b : Int) : wbyte h b < 18446744073709551616 := Nat.mod_lt _ (by omega)
theorem wbytes_append : ∀ (a b : List Int) (h : Nat), wbytes h (a ++ b) = wbytes (wbytes h a) b
 | [], _, _ => rfl
 | x :: xs, b, h => by simp only [List.cons_append, wbytes, wbytes_append xs b]
theorem wbytes_take (l : List Int) (h i : Nat) (hi : i < l.length) : wbytes h (l.take (i + 1)) = wbyte (wbytes h (l.take i)) l[i] := by
 rw [List.take_succ_eq_append_getElem hi, wbytes_append]
 rfl
theorem wbytes_lt (h : Nat) (hh : h < 18446744073709551616) : ∀ (l : List Int), wbytes h l < 18446744073709551616 := by
 intro l
 induction l generalizing h with
 | nil => exact hh
 | cons b bs ih => exact ih _ (wbyte_lt _ _)
theorem wmix_lt (n x : Nat) (h : x < 18446744073709551616) : wmix n x < 18446744073709551616 :=
 Nat.xor_lt_two_pow (n := 64) h (Nat.lt_of_le_of_lt (Nat.div_le_self _ _) h)
theorem wmerge_lt (h x : Nat) : wmerge h x < 18446744073709551616 := Nat.mod_lt _ (by omega)
theorem wmerges_lt (vs : List Nat) (h : Nat) (hh : h < 18446744073709551616) : vs.foldl wmerge h < 18446744073709551616 := by
 induction vs generalizing h with
 | nil => exact hh
 | cons v vs ih => rw [List.foldl_cons]; exact ih (wmerge h v) (wmerge_lt h v)
theorem wout_lt (v : List Nat) : wout v < 18446744073709551616 := wmerges_lt v _ (Nat.mod_lt _ (by omega))
theorem wbeg_lt (s : Nat) (vs : List Nat) (n : Nat) : wbeg s vs n < 18446744073709551616 := by
 unfold wbeg
 split
 ·
  exact Nat.mod_lt _ (by omega)
 ·
  exact wout_lt _
theorem wstart_lt (s : Nat) (l : List Int) : wstart s l < 18446744073709551616 := wbeg_lt _ _ _
theorem wfin_lt (h : Nat) : wfin h < 18446744073709551616 := wmix_lt 32 _ (Nat.mod_lt _ (by omega))
theorem wsum_lt (s : Nat) (l : List Int) : wsum s l < 18446744073709551616 := wfin_lt _
theorem wvs_small (s : Nat) (l : List Int) (h : s < 18446744073709551616) : Small8 (wvs s l) := wstripes_small _ _ (winit_small s h) _
theorem wvs_len (s : Nat) (l : List Int) : (wvs s l).length = 4 := wstripes_len _ _ _
end Go.Proofs.Ytekanmieppnpeaa.Rol
namespace Go.Proofs.Ytekanmieppnpeaa.G
open Go Go.RowKit Go.Proofs.YtekanmieppnpeaaW.PrintWords Go.Proofs.YtekanmieppnpeaaW.PrintLast Go.Proofs.YtekanmieppnpeaaW.PrintMore Go.Proofs.Ytekanmieppnpeaa.PureKit Go.Proofs.Ytekanmieppnpeaa.Sep Go.Proofs.Ytekanmieppnpeaa.Rol
theorem mod_lt64 (x : Nat) : x % 18446744073709551616 < 18446744073709551616 := Nat.mod_lt _ (by decide)
theorem wrap_nat64 (x : Nat) : IntKind.u64.wrap (x : Int) = ((x % 18446744073709551616 : Nat) : Int) := by rw [IntKind.wrap_u64]; omega
theorem rot64_eq (x n : Nat) (hx : x < 18446744073709551616) (h0 : 0 < n) (hn : n < 64) : bits_RotateLeft64.f (x : Int) (n : Int) = some ((rol 64 n x : Nat) : Int) := by
 have e : IntKind.u64.wrap (64 - (n : Int)) = ((64 - n : Nat) : Int) := by rw [wu64 (by omega) (by omega)]; omega
 have h := rol_or 64 n x (by omega) hx
 unfold bits_RotateLeft64.f
 rw [and63 n hn, e, if_pos (by omega), if_pos (by omega)]
 unfold shl shr
 rw [show min ((n : Int).toNat) (IntKind.u64.bits) = n from by show min _ 64 = _; omega, show min (((64 - n : Nat) : Int).toNat) (IntKind.u64.bits) = 64 - n from by show min _ 64 = _; omega]
 have e1 : IntKind.u64.wrap ((x : Int) * 2 ^ n) = ((x * 2 ^ n % 2 ^ 64 : Nat) : Int) := by
  have := wrap_nat64 (x * 2 ^ n)
  rw [Int.natCast_mul, Int.natCast_pow] at this
  exact this
 have e2 : (x : Int) / 2 ^ (64 - n) = ((x / 2 ^ (64 - n) : Nat) : Int) := by simp
 rw [e1, e2, bits_or_u64_nat _ _ (Nat.mod_lt _ (by decide)) (Nat.lt_of_le_of_lt (Nat.div_le_self _ _) hx), h]
theorem rot64 (w : World) (x n : Nat) (a b : Int) (ha : a = (x : Int)) (hb : b = (n : Int)) (hx : x < 18446744073709551616) (h0 : 0 < n) (hn : n < 64) :
  Calls Try.prog 146 #[.int .u64 a, .int .i64 b] w fun e w' => e = .returned (.int .u64 ((rol 64 n x : Nat) : Int)) ∧ Drawn0 w w' := by
 subst ha
 subst hb
 exact bits_RotateLeft64.calls _ _ _ w (rot64_eq x n hx h0 hn)
theorem rol64_lt (n x : Nat) (hn : n ≤ 64) (hx : x < 18446744073709551616) : rol 64 n x < 18446744073709551616 := rol_lt 64 n x hn hx
theorem win_step (x y : Nat) : IntKind.u64.wrap ((x : Int) + IntKind.u64.wrap ((y : Int) * 14029467366897019727)) = (((x + y * 14029467366897019727) % 18446744073709551616 : Nat) : Int) := by
 rw [IntKind.wrap_u64, IntKind.wrap_u64]
 omega
theorem mul_step (z p : Nat) : IntKind.u64.wrap ((z : Int) * (p : Int)) = ((z * p % 18446744073709551616 : Nat) : Int) := by
 rw [← Int.natCast_mul, wrap_nat64]
theorem win_eq (x y : Nat) (hx : x < 18446744073709551616) (hy : y < 18446744073709551616) : wide_into.f (x : Int) (y : Int) = some ((win x y : Nat) : Int) := by
 unfold wide_into.f win
 rw [win_step, show (31 : Int) = ((31 : Nat) : Int) from rfl, rot64_eq _ 31 (mod_lt64 _) (by decide) (by decide), Option.bind_some]
 have := mul_step (rol 64 31 ((x + y * 14029467366897019727) % 18446744073709551616)) 11400714785074694791
 exact congrArg some this
theorem win_calls (w : World) (x y : Nat) (a b : Int) (ha : a = (x : Int)) (hb : b = (y : Int)) (hx : x < 18446744073709551616) (hy : y < 18446744073709551616) :
  Calls Try.prog 143 #[.int .u64 a, .int .u64 b] w fun e w' => e = .returned (.int .u64 ((win x y : Nat) : Int)) ∧ Drawn0 w w' := by
 subst ha
 subst hb
 exact wide_into.calls _ _ _ w (win_eq x y hx hy)
theorem leb_snoc : ∀ (l : List Int) (b : Int), leb (l ++ [b]) = leb l + 2 ^ (8 * l.length) * b.toNat
 | [], b => by simp [leb]
 | x :: xs, b => by
  rw [List.cons_append, leb, leb_snoc xs b, leb, List.length_cons, show 8 * (xs.length + 1) = 8 + 8 * xs.length by omega, Nat.pow_add, Nat.mul_add, Nat.mul_assoc, Nat.add_assoc]
theorem leb_take_succ (l : List Int) (i : Nat) (h : i < l.length) : leb (l.take (i + 1)) = leb (l.take i) + 2 ^ (8 * i) * (l[i]).toNat := by
 rw [List.take_succ_eq_append_getElem h, leb_snoc, List.length_take, Nat.min_eq_left (by omega)]
theorem num_l0 (l : List Int) (hb : Bytes l) (n : Nat) (hn : n ≤ 8) (hl : n ≤ l.length) (hmax : l.length ≤ 9223372036854775807) : ∀ (d i : Nat), i + d = n → Ev (fun k => wide_num.l0 k l ((leb (l.take i) : Nat) : Int) (n : Int) (i : Int)) ((leb (l.take n) : Nat) : Int) := by
 intro d
 induction d with
 | zero =>
  intro i hi
  refine Ev.step (f := fun _ => some ((leb (l.take n) : Nat) : Int)) (fun k => ?_) (Ev.now _)
  simp only [wide_num.l0]
  rw [if_neg (by omega), show i = n by omega]
 | succ d ih =>
  intro i hi
  refine Ev.step (fun k => ?_) (ih (i + 1) (by omega))
  have hby := hb l[i] (List.getElem_mem (by omega))
  have hlt := leb_lt (l.take i) (hb.take _)
  rw [List.length_take, Nat.min_eq_left (by omega)] at hlt
  have hlt2 : leb (l.take i) < 2 ^ (8 * i) := by rw [show (256 : Nat) = 2 ^ 8 from rfl, ← Nat.pow_mul] at hlt; exact hlt
  have hpw : (2 : Nat) ^ (8 * i) ≤ 2 ^ 56 := Nat.pow_le_pow_right (by decide) (by omega)
  simp only [wide_num.l0]
  rw [if_pos (by omega), if_pos (by omega), if_pos (by omega), w64 (x := 8 * (i : Int)) (by omega) (by omega), if_pos (by omega), rd_at l i (by omega), leb_take_succ l i (by omega)]
  obtain ⟨b, hb'⟩ := Int.eq_ofNat_of_zero_le hby.1
  rw [hb', Int.toNat_natCast, wu64 (x := (b : Int)) (by omega) (by omega), w64 (by omega) (by omega)]
  have hb2 : b ≤ 255 := by omega
  have e1 : shl .u64 (b : Int) (8 * (i : Int)) = ((2 ^ (8 * i) * b : Nat) : Int) := by
   unfold shl
   rw [show min ((8 * (i : Int)).toNat) (IntKind.u64.bits) = 8 * i from by show min _ 64 = _; omega]
   have h3 : (2 : Nat) ^ (8 * i) * b ≤ 2 ^ 56 * 255 := Nat.mul_le_mul hpw hb2
   have h4 := wrap_nat64 (b * 2 ^ (8 * i))
   rw [Int.natCast_mul, Int.natCast_pow] at h4
   rw [Nat.mul_comm (2 ^ (8 * i)) b] at h3 ⊢
   rw [Nat.mod_eq_of_lt (by omega)] at h4
   exact h4
  rw [e1, bits_or_u64_nat _ _ (by omega) (by have h3 : (2 : Nat) ^ (8 * i) * b ≤ 2 ^ 56 * 255 := Nat.mul_le_mul hpw hb2; omega), Nat.or_comm, ← Nat.two_pow_add_eq_or_of_lt hlt2 b, Nat.add_comm]
  rfl
theorem num_calls (w : World) (A : Option Addr) (c n : Nat) (l : List Int) (m k : Nat) (b : Int) (hm : m = l.length) (hb' : b = (k : Int)) (hC : Kd.C (Kd.int .u8) w A l.length l) (hc : l.length ≤ c) (hb : Bytes l) (hk : k ≤ 8) (hl : k ≤ l.length) :
  Calls Try.prog 144 #[.slice A m c, .int .i64 b] w fun e w' => e = .returned (.int .u64 ((leb (l.take k) : Nat) : Int)) ∧ Drawn0 w w' := by
 subst hm
 subst hb'
 have h := num_l0 l hb k hk hl (Kd.C_max hC) k 0 (by omega)
 obtain ⟨q, hq⟩ := h.rounds
 exact wide_num.calls q A c l _ _ w hC hc hq
end Go.Proofs.Ytekanmieppnpeaa.G
namespace Go.Proofs.Ytekanmieppnpeaa.G
open Go Go.RowKit Go.Proofs.YtekanmieppnpeaaW.PrintWords Go.Proofs.YtekanmieppnpeaaW.PrintLast Go.Proofs.YtekanmieppnpeaaW.PrintMore Go.Proofs.Ytekanmieppnpeaa.PureKit Go.Proofs.Ytekanmieppnpeaa.Sep Go.Proofs.Ytekanmieppnpeaa.Rol
def nat64 (vs : List Nat) : List Value := vs.map (fun (x : Nat) => Value.int .u64 (x : Int))
def wcells (s : Nat) (vs : List Nat) (v : Value) (n : Nat) : Array Value := (Value.int .u64 (s : Int) :: (nat64 vs ++ [v, Value.int .u64 (n : Int)])).toArray
theorem wcells_seed (s : Nat) (vs : List Nat) (v : Value) (n : Nat) : (wcells s vs v n)[0]? = some (.int .u64 (s : Int)) := rfl
theorem wcells_v (s : Nat) (vs : List Nat) (v : Value) (n j x : Nat) (h : vs[j]? = some x) : (wcells s vs v n)[j + 1]? = some (.int .u64 (x : Int)) := by
 unfold wcells nat64
 have hj := (List.getElem?_eq_some_iff.1 h).1
 rw [List.getElem?_toArray, List.getElem?_cons_succ, List.getElem?_append_left (by simpa using hj), List.getElem?_map, h]
 rfl
theorem wcells_set (s : Nat) (vs : List Nat) (v : Value) (n j x k : Nat) (y : Int) (hk : k = j + 1) (hy : y = (x : Int)) (h : j < vs.length) : (wcells s vs v n).setIfInBounds k (.int .u64 y) = wcells s (vs.set j x) v n := by
 subst hk
 subst hy
 unfold wcells nat64
 rw [List.setIfInBounds_toArray, List.set_cons_succ, List.set_append_left _ _ (by simpa using h), List.map_set]
theorem wcells_rest (s : Nat) (vs : List Nat) (v : Value) (n : Nat) (h : vs.length = 4) : (wcells s vs v n)[5]? = some v ∧ (wcells s vs v n)[6]? = some (.int .u64 (n : Int)) := by
 rcases vs with _ | ⟨a, _ | ⟨b, _ | ⟨c, _ | ⟨d, _ | ⟨e, r⟩⟩⟩⟩⟩ <;> simp at h
 exact ⟨rfl, rfl⟩
theorem wcells_set5 (s : Nat) (vs : List Nat) (v u : Value) (n : Nat) (h : vs.length = 4) : (wcells s vs v n).setIfInBounds 5 u = wcells s vs u n := by
 rcases vs with _ | ⟨a, _ | ⟨b, _ | ⟨c, _ | ⟨d, _ | ⟨e, r⟩⟩⟩⟩⟩ <;> simp at h
 rfl
theorem wcells_set6 (s : Nat) (vs : List Nat) (v : Value) (n m : Nat) (h : vs.length = 4) : (wcells s vs v n).setIfInBounds 6 (.int .u64 (m : Int)) = wcells s vs v m := by
 rcases vs with _ | ⟨a, _ | ⟨b, _ | ⟨c, _ | ⟨d, _ | ⟨e, r⟩⟩⟩⟩⟩ <;> simp at h
 rfl
def wst (g : Nat) (s : Nat) (a : List Int) : HP where
 p := fun w bs => ∃ v bs', bs = g :: bs' ∧ w.heap[g]? = some (.cells (wcells s (wvs s a) v a.length) 181 (0, 0)) ∧ Kd.R (Kd.int .u8) 5 w 0 (fun k => k ∈ bs') v (wrest a)
 loc := by
  rintro w w' bs ⟨v, bs', e, h1, h2⟩ hm
  exact ⟨v, bs', e, by rw [hm g (by rw [e]; simp)]; exact h1, Kd.R_move h2 (fun k hk => hm k (by rw [e]; exact List.mem_cons_of_mem _ hk))⟩
theorem wst_open {w0 w : World} {g s : Nat} {a : List Int} {ps : List HP} (h : Sep.Sep w0 w (wst g s a :: ps)) : ∃ v, Sep.Sep w0 w (blk g (wcells s (wvs s a) v a.length) 181 :: row (Kd.int .u8) 5 v (wrest a) :: ps) := by
 obtain ⟨hb, bs, ⟨b1, b2, e, ⟨v, bs', e1, h1, h2⟩, hs⟩, hn, hr⟩ := h
 exact ⟨v, hb, bs, ⟨[g], bs' ++ b2, by rw [e, e1]; simp, ⟨rfl, h1⟩, bs', b2, rfl, h2, hs⟩, hn, hr⟩
theorem wst_close {w0 w : World} {g s : Nat} {a : List Int} {v : Value} {ps : List HP} (h : Sep.Sep w0 w (blk g (wcells s (wvs s a) v a.length) 181 :: row (Kd.int .u8) 5 v (wrest a) :: ps)) : Sep.Sep w0 w (wst g s a :: ps) := by
 obtain ⟨hb, bs, ⟨b1, b2, e, ⟨e1, h1⟩, b3, b4, e2, h2, hs⟩, hn, hr⟩ := h
 exact ⟨hb, bs, ⟨g :: b3, b4, by rw [e, e1, e2]; simp, ⟨v, b3, rfl, h1, h2⟩, hs⟩, hn, hr⟩
theorem wnew_q (s q1 q2 q3 q4 : Nat) (h1 : (s + 11400714785074694791) % 18446744073709551616 = q1) (h2 : (q1 + 14029467366897019727) % 18446744073709551616 = q2) (h3 : (s + 14029467366897019727) % 18446744073709551616 = q3)
  (h4 : (s + 18446744073709551616 - 11400714785074694791) % 18446744073709551616 = q4) : wvs s [] = [q2, q3, s, q4] := by
 have e : (s + 11400714785074694791 + 14029467366897019727) % 18446744073709551616 = q2 := by rw [← h2, ← h1, Nat.mod_add_mod]
 show winit s = _
 unfold winit
 rw [e, h3, h4]
theorem wide_new (w0 w : World) (ps : List HP) (s : Nat) (a : Int) (ha : a = (s : Int)) (hs : Sep.Sep w0 w ps) (hl : s < 18446744073709551616) :
  Calls Try.prog 114 #[.int .u64 a] w fun e w' => ∃ g, e = .returned (.pointer (some ⟨g, 0, none⟩)) ∧ Sep.Sep w0 w' (wst g s [] :: ps) := by
 subst ha
 have hS := Aside0.mk hs
 clear hs
 obtain ⟨q1, hq1⟩ : ∃ q : Nat, (s + 11400714785074694791) % 18446744073709551616 = q := ⟨_, rfl⟩
 have fq1 : IntKind.u64.wrap ((s : Int) + 11400714785074694791) = (q1 : Int) := by rw [IntKind.wrap_u64]; omega
 obtain ⟨q2, hq2⟩ : ∃ q : Nat, (q1 + 14029467366897019727) % 18446744073709551616 = q := ⟨_, rfl⟩
 have fq2 : IntKind.u64.wrap ((q1 : Int) + 14029467366897019727) = (q2 : Int) := by rw [IntKind.wrap_u64]; omega
 obtain ⟨q3, hq3⟩ : ∃ q : Nat, (s + 14029467366897019727) % 18446744073709551616 = q := ⟨_, rfl⟩
 have fq3 : IntKind.u64.wrap ((s : Int) + 14029467366897019727) = (q3 : Int) := by rw [IntKind.wrap_u64]; omega
 obtain ⟨q4, hq4⟩ : ∃ q : Nat, (s + 18446744073709551616 - 11400714785074694791) % 18446744073709551616 = q := ⟨_, rfl⟩
 have fq4 : IntKind.u64.wrap ((s : Int) - 11400714785074694791) = (q4 : Int) := by rw [IntKind.wrap_u64]; omega
 have hv : Aside0 (wvs s [] = [q2, q3, s, q4]) := ⟨wnew_q s q1 q2 q3 q4 hq1 hq2 hq3 hq4⟩
 clear hq1 hq2 hq3 hq4
 go_enter Try.func114, Try.ntmps114
 go_wp2_with (first | ((with_reducible refine gate_dst (N := 6) rfl ?_); refine Sep.box_event ?hg (N := 6) ?hd (cs := #[.int .u64 (s : Int), .int .u64 0, .int .u64 0, .int .u64 0, .int .u64 0, .slice none 0 0, .int .u64 0]) (t := 181) hS.out ?hr ?_; (case hd => rfl); (case hg => rfl); (case hr => first | (go_simp; done) | (go_simp; rfl)); intro g1 wb1 hsb1; have hcb1_0 : wb1.cell? ⟨g1, 0, none⟩ = some (.int .u64 (s : Int)) := ((hsb1).cell 0).trans rfl; have hcb1_1 : wb1.cell? ⟨g1, 1, none⟩ = some (.int .u64 0) := ((hsb1).cell 1).trans rfl; have hcb1_2 : wb1.cell? ⟨g1, 2, none⟩ = some (.int .u64 0) := ((hsb1).cell 2).trans rfl; have hcb1_3 : wb1.cell? ⟨g1, 3, none⟩ = some (.int .u64 0) := ((hsb1).cell 3).trans rfl; have hcb1_4 : wb1.cell? ⟨g1, 4, none⟩ = some (.int .u64 0) := ((hsb1).cell 4).trans rfl; have hcb1_5 : wb1.cell? ⟨g1, 5, none⟩ = some (.slice none 0 0) := ((hsb1).cell 5).trans rfl; have hcb1_6 : wb1.cell? ⟨g1, 6, none⟩ = some (.int .u64 0) := ((hsb1).cell 6).trans rfl; have hSb1 := Aside0.mk hsb1; clear hsb1; have hz1 := hSb1.out.frozen 1; have hz2 := hSb1.out.frozen 2; have hz3 := hSb1.out.frozen 3; have hz4 := hSb1.out.frozen 4))
 have hB := hSb1.out
 rw [show (#[.int .u64 (s : Int), .int .u64 0, .int .u64 0, .int .u64 0, .int .u64 0, .slice none 0 0, .int .u64 0] : Array Value) = wcells s [0, 0, 0, 0] (.slice none 0 0) 0 from rfl] at hB
 have hS2a := (((hB.set 1 (.int .u64 (s : Int))).set 2 (.int .u64 (s : Int))).set 3 (.int .u64 (s : Int))).set 4 (.int .u64 (s : Int))
 rw [wcells_set _ _ _ _ 0 s 1 _ rfl rfl (by simp), wcells_set _ _ _ _ 1 s 2 _ rfl rfl (by simp), wcells_set _ _ _ _ 2 s 3 _ rfl rfl (by simp), wcells_set _ _ _ _ 3 s 4 _ rfl rfl (by simp)] at hS2a
 have hS2 := Aside0.mk hS2a
 clear hS2a
 generalize (((wb1.setCell ⟨g1, 1, none⟩ (.int .u64 (s : Int))).setCell ⟨g1, 2, none⟩ (.int .u64 (s : Int))).setCell ⟨g1, 3, none⟩ (.int .u64 (s : Int))).setCell ⟨g1, 4, none⟩ (.int .u64 (s : Int)) = w2 at hS2 ⊢
 simp only [List.set_cons_zero, List.set_cons_succ] at hS2
 clear hB hSb1
 clear hcb1_0 hcb1_1 hcb1_2 hcb1_3 hcb1_4 hcb1_5 hcb1_6 hz1 hz2 hz3 hz4
 have hc0 : w2.drew.cell? ⟨g1, 1, none⟩ = some (.int .u64 (s : Int)) := (hS2.out.drew.cell 1).trans (wcells_v _ _ _ _ 0 s rfl)
 refine start_ (n := 10) (S := fun w' => w'.cell? ⟨g1, 1, none⟩ = some (.int .u64 (s : Int))) (ds := [9]) #[false, false, false, false, false, false, false, false, false, false] (by kernel_rfl) rfl rfl (hc0) (fun hHeld => ?_)
 refine pure_ (i := 0) (N := some 15) (v := ?_) (a' := ?_) #[true, false, false, false, false, false, false, false, false, false] rfl rfl (by kernel_rfl) (fun _ _ _ h => h) (Or.inl ⟨by rfl, ?_⟩) ?_ ?_
 rotate_left
 ·
  intro w'
  go_simp
  with_reducible rfl
 rotate_left
 ·
  simp only [Act.put, List.setIfInBounds_toArray, List.set_cons_zero, List.set_cons_succ, i64_w, i32_w]
  rfl
 refine pure_ (i := 1) (N := some 16) (v := ?_) (a' := ?_) #[true, true, false, false, false, false, false, false, false, false] rfl rfl (by kernel_rfl) (fun _ _ _ h => h) (Or.inl ⟨by rfl, ?_⟩) ?_ ?_
 rotate_left
 ·
  intro w'
  go_simp
  with_reducible rfl
 rotate_left
 ·
  simp only [Act.put, List.setIfInBounds_toArray, List.set_cons_zero, List.set_cons_succ, i64_w, i32_w]
  rfl
 refine pure_ (i := 2) (N := some 17) (v := ?_) (a' := ?_) #[true, true, true, false, false, false, false, false, false, false] rfl rfl (by kernel_rfl) (fun _ _ _ h => h) (Or.inl ⟨by rfl, ?_⟩) ?_ ?_
 rotate_left
 ·
  intro w'
  go_simp
  with_reducible rfl
 rotate_left
 ·
  simp only [Act.put, List.setIfInBounds_toArray, List.set_cons_zero, List.set_cons_succ, i64_w, i32_w]
  rfl
 refine pure_ (i := 3) (N := some 18) (v := ?_) (a' := ?_) #[true, true, true, true, false, false, false, false, false, false] rfl rfl (by kernel_rfl) (fun _ _ _ h => h) (Or.inl ⟨by rfl, ?_⟩) ?_ ?_
 rotate_left
 ·
  intro w'
  go_simp
  with_reducible rfl
 rotate_left
 ·
  simp only [Act.put, List.setIfInBounds_toArray, List.set_cons_zero, List.set_cons_succ, i64_w, i32_w]
  rfl
 refine pure_ (i := 6) (N := some 21) (v := ?_) (a' := ?_) #[true, true, true, true, false, false, true, false, false, false] rfl rfl (by kernel_rfl) (fun _ _ _ h => h) (Or.inl ⟨by rfl, ?_⟩) ?_ ?_
 rotate_left
 ·
  intro w'
  go_simp
  with_reducible rfl
 rotate_left
 ·
  simp only [Act.put, List.setIfInBounds_toArray, List.set_cons_zero, List.set_cons_succ, i64_w, i32_w]
  rfl
 refine pure_ (i := 7) (N := some 22) (v := ?_) (a' := ?_) #[true, true, true, true, false, false, true, true, false, false] rfl rfl (by kernel_rfl) (fun _ _ _ h => h) (Or.inl ⟨by rfl, ?_⟩) ?_ ?_
 rotate_left
 ·
  intro w'
  go_simp
  with_reducible rfl
 rotate_left
 ·
  simp only [Act.put, List.setIfInBounds_toArray, List.set_cons_zero, List.set_cons_succ, i64_w, i32_w]
  rfl
 refine take_ (i := 4) (N := some 19) (v := ?_) (a' := ?_) #[true, true, true, true, true, false, true, true, false, false] rfl rfl (by kernel_rfl) (fun _ _ _ h => h) (Or.inl ⟨by rfl, ?_⟩) hHeld ?_ ?_
 rotate_left
 ·
  intro w' s0
  go_simp
  with_reducible rfl
 rotate_left
 ·
  simp only [Act.put, List.setIfInBounds_toArray, List.set_cons_zero, List.set_cons_succ, i64_w, i32_w]
  rfl
 refine pure_ (i := 5) (N := some 20) (v := ?_) (a' := ?_) #[true, true, true, true, true, true, true, true, false, false] rfl rfl (by kernel_rfl) (fun _ _ _ h => h) (Or.inl ⟨by rfl, ?_⟩) ?_ ?_
 rotate_left
 ·
  intro w'
  go_simp
  with_reducible rfl
 rotate_left
 ·
  simp only [Act.put, List.setIfInBounds_toArray, List.set_cons_zero, List.set_cons_succ, i64_w, i32_w]
  rfl
 refine pure_ (i := 8) (N := some 23) (v := ?_) (a' := ?_) #[true, true, true, true, true, true, true, true, true, false] rfl rfl (by kernel_rfl) (fun _ _ _ h => h) (Or.inl ⟨by rfl, ?_⟩) ?_ ?_
 rotate_left
 ·
  intro w'
  go_simp
  with_reducible rfl
 rotate_left
 ·
  simp only [Act.put, List.setIfInBounds_toArray, List.set_cons_zero, List.set_cons_succ, i64_w, i32_w]
  rfl
 refine last_ (i := 9) (N := none) #[true, true, true, true, true, true, true, true, true, true] rfl rfl (by kernel_rfl) (by decide) (fun K hK => ?_)
 have hcw : w2.cell? ⟨g1, 1, none⟩ = some (.int .u64 (s : Int)) := (hS2.out.cell 1).trans (wcells_v _ _ _ _ 0 s rfl)
 have hfw : w2.frozen? ⟨g1, 1, none⟩ = false := hS2.out.frozen 1
 refine skip_ (w1 := ?_) (by kernel_rfl) rfl ?_ ?_
 rotate_left
 ·
  go_simp
  rfl
 refine hK.out _ _ ?_
 clear hK K
 refine done_ (by kernel_rfl) ?_
 clear hc0 hcw hfw hHeld
 have hz := (hS2.out.set 1 (.int .u64 (q1 : Int))).drew
 rw [wcells_set _ _ _ _ 0 q1 1 _ rfl rfl (by simp)] at hz
 simp only [List.set_cons_zero, List.set_cons_succ] at hz
 have hS3 := Aside0.mk hz
 clear hz hS2
 generalize (w2.setCell ⟨g1, 1, none⟩ (.int .u64 (q1 : Int))).drew = w3 at hS3 ⊢
 go_wp2
 have hc0 : w3.drew.cell? ⟨g1, 1, none⟩ = some (.int .u64 (q1 : Int)) := (hS3.out.drew.cell 1).trans (wcells_v _ _ _ _ 0 q1 rfl)
 refine start_ (n := 10) (S := fun w' => w'.cell? ⟨g1, 1, none⟩ = some (.int .u64 (q1 : Int))) (ds := [9]) #[false, false, false, false, false, false, false, false, false, false] (by kernel_rfl) rfl rfl (hc0) (fun hHeld => ?_)
 refine pure_ (i := 0) (N := some 24) (v := ?_) (a' := ?_) #[true, false, false, false, false, false, false, false, false, false] rfl rfl (by kernel_rfl) (fun _ _ _ h => h) (Or.inl ⟨by rfl, ?_⟩) ?_ ?_
 rotate_left
 ·
  intro w'
  go_simp
  with_reducible rfl
 rotate_left
 ·
  simp only [Act.put, List.setIfInBounds_toArray, List.set_cons_zero, List.set_cons_succ, i64_w, i32_w]
  rfl
 refine pure_ (i := 1) (N := some 25) (v := ?_) (a' := ?_) #[true, true, false, false, false, false, false, false, false, false] rfl rfl (by kernel_rfl) (fun _ _ _ h => h) (Or.inl ⟨by rfl, ?_⟩) ?_ ?_
 rotate_left
 ·
  intro w'
  go_simp
  with_reducible rfl
 rotate_left
 ·
  simp only [Act.put, List.setIfInBounds_toArray, List.set_cons_zero, List.set_cons_succ, i64_w, i32_w]
  rfl
 refine pure_ (i := 2) (N := some 26) (v := ?_) (a' := ?_) #[true, true, true, false, false, false, false, false, false, false] rfl rfl (by kernel_rfl) (fun _ _ _ h => h) (Or.inl ⟨by rfl, ?_⟩) ?_ ?_
 rotate_left
 ·
  intro w'
  go_simp
  with_reducible rfl
 rotate_left
 ·
  simp only [Act.put, List.setIfInBounds_toArray, List.set_cons_zero, List.set_cons_succ, i64_w, i32_w]
  rfl
 refine pure_ (i := 3) (N := some 27) (v := ?_) (a' := ?_) #[true, true, true, true, false, false, false, false, false, false] rfl rfl (by kernel_rfl) (fun _ _ _ h => h) (Or.inl ⟨by rfl, ?_⟩) ?_ ?_
 rotate_left
 ·
  intro w'
  go_simp
  with_reducible rfl
 rotate_left
 ·
  simp only [Act.put, List.setIfInBounds_toArray, List.set_cons_zero, List.set_cons_succ, i64_w, i32_w]
  rfl
 refine pure_ (i := 6) (N := some 30) (v := ?_) (a' := ?_) #[true, true, true, true, false, false, true, false, false, false] rfl rfl (by kernel_rfl) (fun _ _ _ h => h) (Or.inl ⟨by rfl, ?_⟩) ?_ ?_
 rotate_left
 ·
  intro w'
  go_simp
  with_reducible rfl
 rotate_left
 ·
  simp only [Act.put, List.setIfInBounds_toArray, List.set_cons_zero, List.set_cons_succ, i64_w, i32_w]
  rfl
 refine pure_ (i := 7) (N := some 31) (v := ?_) (a' := ?_) #[true, true, true, true, false, false, true, true, false, false] rfl rfl (by kernel_rfl) (fun _ _ _ h => h) (Or.inl ⟨by rfl, ?_⟩) ?_ ?_
 rotate_left
 ·
  intro w'
  go_simp
  with_reducible rfl
 rotate_left
 ·
  simp only [Act.put, List.setIfInBounds_toArray, List.set_cons_zero, List.set_cons_succ, i64_w, i32_w]
  rfl
 refine take_ (i := 4) (N := some 28) (v := ?_) (a' := ?_) #[true, true, true, true, true, false, true, true, false, false] rfl rfl (by kernel_rfl) (fun _ _ _ h => h) (Or.inl ⟨by rfl, ?_⟩) hHeld ?_ ?_
 rotate_left
 ·
  intro w' s0
  go_simp
  with_reducible rfl
 rotate_left
 ·
  simp only [Act.put, List.setIfInBounds_toArray, List.set_cons_zero, List.set_cons_succ, i64_w, i32_w]
  rfl
 refine pure_ (i := 5) (N := some 29) (v := ?_) (a' := ?_) #[true, true, true, true, true, true, true, true, false, false] rfl rfl (by kernel_rfl) (fun _ _ _ h => h) (Or.inl ⟨by rfl, ?_⟩) ?_ ?_
 rotate_left
 ·
  intro w'
  go_simp
  with_reducible rfl
 rotate_left
 ·
  simp only [Act.put, List.setIfInBounds_toArray, List.set_cons_zero, List.set_cons_succ, i64_w, i32_w]
  rfl
 refine pure_ (i := 8) (N := some 32) (v := ?_) (a' := ?_) #[true, true, true, true, true, true, true, true, true, false] rfl rfl (by kernel_rfl) (fun _ _ _ h => h) (Or.inl ⟨by rfl, ?_⟩) ?_ ?_
 rotate_left
 ·
  intro w'
  go_simp
  with_reducible rfl
 rotate_left
 ·
  simp only [Act.put, List.setIfInBounds_toArray, List.set_cons_zero, List.set_cons_succ, i64_w, i32_w]
  rfl
 refine last_ (i := 9) (N := none) #[true, true, true, true, true, true, true, true, true, true] rfl rfl (by kernel_rfl) (by decide) (fun K hK => ?_)
 have hcw : w3.cell? ⟨g1, 1, none⟩ = some (.int .u64 (q1 : Int)) := (hS3.out.cell 1).trans (wcells_v _ _ _ _ 0 q1 rfl)
 have hfw : w3.frozen? ⟨g1, 1, none⟩ = false := hS3.out.frozen 1
 refine skip_ (w1 := ?_) (by kernel_rfl) rfl ?_ ?_
 rotate_left
 ·
  go_simp
  rfl
 refine hK.out _ _ ?_
 clear hK K
 refine done_ (by kernel_rfl) ?_
 clear hc0 hcw hfw hHeld
 have hz := (hS3.out.set 1 (.int .u64 (q2 : Int))).drew
 rw [wcells_set _ _ _ _ 0 q2 1 _ rfl rfl (by simp)] at hz
 simp only [List.set_cons_zero, List.set_cons_succ] at hz
 have hS4 := Aside0.mk hz
 clear hz hS3
 generalize (w3.setCell ⟨g1, 1, none⟩ (.int .u64 (q2 : Int))).drew = w4 at hS4 ⊢
 go_wp2
 have hc0 : w4.drew.cell? ⟨g1, 2, none⟩ = some (.int .u64 (s : Int)) := (hS4.out.drew.cell 2).trans (wcells_v _ _ _ _ 1 s rfl)
 refine start_ (n := 10) (S := fun w' => w'.cell? ⟨g1, 2, none⟩ = some (.int .u64 (s : Int))) (ds := [9]) #[false, false, false, false, false, false, false, false, false, false] (by kernel_rfl) rfl rfl (hc0) (fun hHeld => ?_)
 refine pure_ (i := 0) (N := some 33) (v := ?_) (a' := ?_) #[true, false, false, false, false, false, false, false, false, false] rfl rfl (by kernel_rfl) (fun _ _ _ h => h) (Or.inl ⟨by rfl, ?_⟩) ?_ ?_
 rotate_left
 ·
  intro w'
  go_simp
  with_reducible rfl
 rotate_left
 ·
  simp only [Act.put, List.setIfInBounds_toArray, List.set_cons_zero, List.set_cons_succ, i64_w, i32_w]
  rfl
 refine pure_ (i := 1) (N := some 34) (v := ?_) (a' := ?_) #[true, true, false, false, false, false, false, false, false, false] rfl rfl (by kernel_rfl) (fun _ _ _ h => h) (Or.inl ⟨by rfl, ?_⟩) ?_ ?_
 rotate_left
 ·
  intro w'
  go_simp
  with_reducible rfl
 rotate_left
 ·
  simp only [Act.put, List.setIfInBounds_toArray, List.set_cons_zero, List.set_cons_succ, i64_w, i32_w]
  rfl
 refine pure_ (i := 2) (N := some 35) (v := ?_) (a' := ?_) #[true, true, true, false, false, false, false, false, false, false] rfl rfl (by kernel_rfl) (fun _ _ _ h => h) (Or.inl ⟨by rfl, ?_⟩) ?_ ?_
 rotate_left
 ·
  intro w'
  go_simp
  with_reducible rfl
 rotate_left
 ·
  simp only [Act.put, List.setIfInBounds_toArray, List.set_cons_zero, List.set_cons_succ, i64_w, i32_w]
  rfl
 refine pure_ (i := 3) (N := some 36) (v := ?_) (a' := ?_) #[true, true, true, true, false, false, false, false, false, false] rfl rfl (by kernel_rfl) (fun _ _ _ h => h) (Or.inl ⟨by rfl, ?_⟩) ?_ ?_
 rotate_left
 ·
  intro w'
  go_simp
  with_reducible rfl
 rotate_left
 ·
  simp only [Act.put, List.setIfInBounds_toArray, List.set_cons_zero, List.set_cons_succ, i64_w, i32_w]
  rfl
 refine pure_ (i := 6) (N := some 39) (v := ?_) (a' := ?_) #[true, true, true, true, false, false, true, false, false, false] rfl rfl (by kernel_rfl) (fun _ _ _ h => h) (Or.inl ⟨by rfl, ?_⟩) ?_ ?_
 rotate_left
 ·
  intro w'
  go_simp
  with_reducible rfl
 rotate_left
 ·
  simp only [Act.put, List.setIfInBounds_toArray, List.set_cons_zero, List.set_cons_succ, i64_w, i32_w]
  rfl
 refine pure_ (i := 7) (N := some 40) (v := ?_) (a' := ?_) #[true, true, true, true, false, false, true, true, false, false] rfl rfl (by kernel_rfl) (fun _ _ _ h => h) (Or.inl ⟨by rfl, ?_⟩) ?_ ?_
 rotate_left
 ·
  intro w'
  go_simp
  with_reducible rfl
 rotate_left
 ·
  simp only [Act.put, List.setIfInBounds_toArray, List.set_cons_zero, List.set_cons_succ, i64_w, i32_w]
  rfl
 refine take_ (i := 4) (N := some 37) (v := ?_) (a' := ?_) #[true, true, true, true, true, false, true, true, false, false] rfl rfl (by kernel_rfl) (fun _ _ _ h => h) (Or.inl ⟨by rfl, ?_⟩) hHeld ?_ ?_
 rotate_left
 ·
  intro w' s0
  go_simp
  with_reducible rfl
 rotate_left
 ·
  simp only [Act.put, List.setIfInBounds_toArray, List.set_cons_zero, List.set_cons_succ, i64_w, i32_w]
  rfl
 refine pure_ (i := 5) (N := some 38) (v := ?_) (a' := ?_) #[true, true, true, true, true, true, true, true, false, false] rfl rfl (by kernel_rfl) (fun _ _ _ h => h) (Or.inl ⟨by rfl, ?_⟩) ?_ ?_
 rotate_left
 ·
  intro w'
  go_simp
  with_reducible rfl
 rotate_left
 ·
  simp only [Act.put, List.setIfInBounds_toArray, List.set_cons_zero, List.set_cons_succ, i64_w, i32_w]
  rfl
 refine pure_ (i := 8) (N := some 41) (v := ?_) (a' := ?_) #[true, true, true, true, true, true, true, true, true, false] rfl rfl (by kernel_rfl) (fun _ _ _ h => h) (Or.inl ⟨by rfl, ?_⟩) ?_ ?_
 rotate_left
 ·
  intro w'
  go_simp
  with_reducible rfl
 rotate_left
 ·
  simp only [Act.put, List.setIfInBounds_toArray, List.set_cons_zero, List.set_cons_succ, i64_w, i32_w]
  rfl
 refine last_ (i := 9) (N := none) #[true, true, true, true, true, true, true, true, true, true] rfl rfl (by kernel_rfl) (by decide) (fun K hK => ?_)
 have hcw : w4.cell? ⟨g1, 2, none⟩ = some (.int .u64 (s : Int)) := (hS4.out.cell 2).trans (wcells_v _ _ _ _ 1 s rfl)
 have hfw : w4.frozen? ⟨g1, 2, none⟩ = false := hS4.out.frozen 2
 refine skip_ (w1 := ?_) (by kernel_rfl) rfl ?_ ?_
 rotate_left
 ·
  go_simp
  rfl
 refine hK.out _ _ ?_
 clear hK K
 refine done_ (by kernel_rfl) ?_
 clear hc0 hcw hfw hHeld
 have hz := (hS4.out.set 2 (.int .u64 (q3 : Int))).drew
 rw [wcells_set _ _ _ _ 1 q3 2 _ rfl rfl (by simp)] at hz
 simp only [List.set_cons_zero, List.set_cons_succ] at hz
 have hS5 := Aside0.mk hz
 clear hz hS4
 generalize (w4.setCell ⟨g1, 2, none⟩ (.int .u64 (q3 : Int))).drew = w5 at hS5 ⊢
 go_wp2
 have hc0 : w5.drew.cell? ⟨g1, 4, none⟩ = some (.int .u64 (s : Int)) := (hS5.out.drew.cell 4).trans (wcells_v _ _ _ _ 3 s rfl)
 refine start_ (n := 10) (S := fun w' => w'.cell? ⟨g1, 4, none⟩ = some (.int .u64 (s : Int))) (ds := [9]) #[false, false, false, false, false, false, false, false, false, false] (by kernel_rfl) rfl rfl (hc0) (fun hHeld => ?_)
 refine pure_ (i := 0) (N := some 42) (v := ?_) (a' := ?_) #[true, false, false, false, false, false, false, false, false, false] rfl rfl (by kernel_rfl) (fun _ _ _ h => h) (Or.inl ⟨by rfl, ?_⟩) ?_ ?_
 rotate_left
 ·
  intro w'
  go_simp
  with_reducible rfl
 rotate_left
 ·
  simp only [Act.put, List.setIfInBounds_toArray, List.set_cons_zero, List.set_cons_succ, i64_w, i32_w]
  rfl
 refine pure_ (i := 1) (N := some 43) (v := ?_) (a' := ?_) #[true, true, false, false, false, false, false, false, false, false] rfl rfl (by kernel_rfl) (fun _ _ _ h => h) (Or.inl ⟨by rfl, ?_⟩) ?_ ?_
 rotate_left
 ·
  intro w'
  go_simp
  with_reducible rfl
 rotate_left
 ·
  simp only [Act.put, List.setIfInBounds_toArray, List.set_cons_zero, List.set_cons_succ, i64_w, i32_w]
  rfl
 refine pure_ (i := 2) (N := some 44) (v := ?_) (a' := ?_) #[true, true, true, false, false, false, false, false, false, false] rfl rfl (by kernel_rfl) (fun _ _ _ h => h) (Or.inl ⟨by rfl, ?_⟩) ?_ ?_
 rotate_left
 ·
  intro w'
  go_simp
  with_reducible rfl
 rotate_left
 ·
  simp only [Act.put, List.setIfInBounds_toArray, List.set_cons_zero, List.set_cons_succ, i64_w, i32_w]
  rfl
 refine pure_ (i := 3) (N := some 45) (v := ?_) (a' := ?_) #[true, true, true, true, false, false, false, false, false, false] rfl rfl (by kernel_rfl) (fun _ _ _ h => h) (Or.inl ⟨by rfl, ?_⟩) ?_ ?_
 rotate_left
 ·
  intro w'
  go_simp
  with_reducible rfl
 rotate_left
 ·
  simp only [Act.put, List.setIfInBounds_toArray, List.set_cons_zero, List.set_cons_succ, i64_w, i32_w]
  rfl
 refine pure_ (i := 6) (N := some 48) (v := ?_) (a' := ?_) #[true, true, true, true, false, false, true, false, false, false] rfl rfl (by kernel_rfl) (fun _ _ _ h => h) (Or.inl ⟨by rfl, ?_⟩) ?_ ?_
 rotate_left
 ·
  intro w'
  go_simp
  with_reducible rfl
 rotate_left
 ·
  simp only [Act.put, List.setIfInBounds_toArray, List.set_cons_zero, List.set_cons_succ, i64_w, i32_w]
  rfl
 refine pure_ (i := 7) (N := some 49) (v := ?_) (a' := ?_) #[true, true, true, true, false, false, true, true, false, false] rfl rfl (by kernel_rfl) (fun _ _ _ h => h) (Or.inl ⟨by rfl, ?_⟩) ?_ ?_
 rotate_left
 ·
  intro w'
  go_simp
  with_reducible rfl
 rotate_left
 ·
  simp only [Act.put, List.setIfInBounds_toArray, List.set_cons_zero, List.set_cons_succ, i64_w, i32_w]
  rfl
 refine take_ (i := 4) (N := some 46) (v := ?_) (a' := ?_) #[true, true, true, true, true, false, true, true, false, false] rfl rfl (by kernel_rfl) (fun _ _ _ h => h) (Or.inl ⟨by rfl, ?_⟩) hHeld ?_ ?_
 rotate_left
 ·
  intro w' s0
  go_simp
  with_reducible rfl
 rotate_left
 ·
  simp only [Act.put, List.setIfInBounds_toArray, List.set_cons_zero, List.set_cons_succ, i64_w, i32_w]
  rfl
 refine pure_ (i := 5) (N := some 47) (v := ?_) (a' := ?_) #[true, true, true, true, true, true, true, true, false, false] rfl rfl (by kernel_rfl) (fun _ _ _ h => h) (Or.inl ⟨by rfl, ?_⟩) ?_ ?_
 rotate_left
 ·
  intro w'
  go_simp
  with_reducible rfl
 rotate_left
 ·
  simp only [Act.put, List.setIfInBounds_toArray, List.set_cons_zero, List.set_cons_succ, i64_w, i32_w]
  rfl
 refine pure_ (i := 8) (N := some 50) (v := ?_) (a' := ?_) #[true, true, true, true, true, true, true, true, true, false] rfl rfl (by kernel_rfl) (fun _ _ _ h => h) (Or.inl ⟨by rfl, ?_⟩) ?_ ?_
 rotate_left
 ·
  intro w'
  go_simp
  with_reducible rfl
 rotate_left
 ·
  simp only [Act.put, List.setIfInBounds_toArray, List.set_cons_zero, List.set_cons_succ, i64_w, i32_w]
  rfl
 refine last_ (i := 9) (N := none) #[true, true, true, true, true, true, true, true, true, true] rfl rfl (by kernel_rfl) (by decide) (fun K hK => ?_)
 have hcw : w5.cell? ⟨g1, 4, none⟩ = some (.int .u64 (s : Int)) := (hS5.out.cell 4).trans (wcells_v _ _ _ _ 3 s rfl)
 have hfw : w5.frozen? ⟨g1, 4, none⟩ = false := hS5.out.frozen 4
 refine skip_ (w1 := ?_) (by kernel_rfl) rfl ?_ ?_
 rotate_left
 ·
  go_simp
  rfl
 refine hK.out _ _ ?_
 clear hK K
 refine done_ (by kernel_rfl) ?_
 clear hc0 hcw hfw hHeld
 have hz := (hS5.out.set 4 (.int .u64 (q4 : Int))).drew
 rw [wcells_set _ _ _ _ 3 q4 4 _ rfl rfl (by simp)] at hz
 simp only [List.set_cons_zero, List.set_cons_succ] at hz
 have hS6 := Aside0.mk hz
 clear hz hS5
 generalize (w5.setCell ⟨g1, 4, none⟩ (.int .u64 (q4 : Int))).drew = w6 at hS6 ⊢
 go_wp2
 go_ret
 refine ⟨g1, rfl, wst_close (v := .slice none 0 0) ?_⟩
 have := (hS6.out.row_nil (Kd.int .u8) 5).perm (List.Perm.swap _ _ _)
 rw [← hv.out] at this
 exact this
end Go.Proofs.Ytekanmieppnpeaa.G
namespace Go.Proofs.Ytekanmieppnpeaa.G
open Go Go.RowKit Go.Proofs.YtekanmieppnpeaaW.PrintWords Go.Proofs.YtekanmieppnpeaaW.PrintLast Go.Proofs.YtekanmieppnpeaaW.PrintMore Go.Proofs.Ytekanmieppnpeaa.PureKit Go.Proofs.Ytekanmieppnpeaa.Sep Go.Proofs.Ytekanmieppnpeaa.Rol
theorem winfo8 : (Try.prog.info? 5).map (fun i => (i.zero, i.size, i.bytes)) = some (some (.int .u8 0), 1, 1) := by kernel_rfl
theorem wide_write (w0 w : World) (g s : Nat) (a l : List Int) (ps : List HP) (A : Option Addr) (c n : Nat) (hn : n = l.length) (hs : Sep.Sep w0 w (wst g s a :: ps)) (hC : ∀ w', Sep.Sep w0 w' ps → (∀ b, b ≠ g → w'.heap[b]? = w.heap[b]?) → Kd.C (Kd.int .u8) w' A l.length l) (hc : l.length ≤ c) (hba : Bytes a) (hb : Bytes l)
  (hsl : s < 18446744073709551616) (hal : a.length ≤ 1000000000000) (hl : l.length ≤ 1000000000000) :
  Calls Try.prog 115 #[.pointer (some ⟨g, 0, none⟩), .slice A n c] w fun e w' => e = .returned (.pointer (some ⟨g, 0, none⟩)) ∧ Sep.Sep w0 w' (wst g s (a ++ l) :: ps) := by
 subst hn
 obtain ⟨v, hO⟩ := wst_open hs
 have hvl : (wvs s a).length = 4 := wvs_len s a
 have hvs : Small8 (wvs s a) := wvs_small s a hsl
 obtain ⟨bs0, hR0⟩ := hO.tail.row_R
 obtain ⟨Av, cv, rfl⟩ := Kd.R_slice hR0
 clear hR0
 have hcell5 : w.cell? ⟨g, 5, none⟩ = some (.slice Av (wrest a).length cv) := (hO.cell 5).trans (wcells_rest _ _ _ _ hvl).1
 have hcell6 : w.cell? ⟨g, 6, none⟩ = some (.int .u64 (a.length : Int)) := (hO.cell 6).trans (wcells_rest _ _ _ _ hvl).2
 have hz6 : w.frozen? ⟨g, 6, none⟩ = false := hO.frozen 6
 have fn : IntKind.u64.wrap ((a.length : Int) + (l.length : Int)) = (a.length : Int) + (l.length : Int) := wu64 (by omega) (by omega)
 have fl : IntKind.u64.wrap (l.length : Int) = (l.length : Int) := wu64 (by omega) (by omega)
 have hO6 := hO.set 6 (.int .u64 ((a.length : Int) + (l.length : Int)))
 rw [show ((a.length : Int) + (l.length : Int)) = (((a ++ l).length : Nat) : Int) by rw [List.length_append]; omega, wcells_set6 _ _ _ _ _ hvl, show (((a ++ l).length : Nat) : Int) = ((a.length : Int) + (l.length : Int)) by rw [List.length_append]; omega] at hO6
 obtain ⟨bs, hRr, hGr⟩ := (hO6.perm (List.Perm.swap _ _ _)).row_open
 have hR := Aside0.mk hRr
 have hG := Aside0.mk hGr
 have hC6 := Aside0.mk (hC _ hO6.tail.tail (fun b hb => Below.heap_setCell w ⟨g, 6, none⟩ _ b hb))
 clear hRr hGr hO6 hC
 obtain ⟨m, hm⟩ : ∃ m, wrest a ++ l = m := ⟨_, rfl⟩
 have hml : m.length ≤ 1000000000100 := by rw [← hm, List.length_append]; have := wrest_len a; omega
 have hmb : Bytes m := by
  rw [← hm]
  intro y hy
  rcases List.mem_append.1 hy with h | h
  ·
   exact hba y (List.mem_of_mem_drop h)
  ·
   exact hb y h
 have hmA := Aside0.mk hm
 have hrl := Aside0.mk (wrest_len a)
 have hcA := Aside0.mk hc
 have hlA := Aside0.mk hl
 have halA := Aside0.mk hal
 have hmlA := Aside0.mk hml
 have hvlA := Aside0.mk hvl
 clear hs hO hc hl hal hml hm
 go_enter Try.func115, Try.ntmps115
 go_wp2_with (first | ((with_reducible refine gate_builtin (b := .append) (xs := #[.tmp 20, .tmp 21]) rfl ?_); at_builtin; refine Kd.R_append_rows (Kd.int .u8) (w0 := w.setCell ⟨g, 6, none⟩ (.int .u64 ((a.length : Int) + (l.length : Int)))) 0 rfl (.tmp 20) (.tmp 21) 39 5 (.int .u8 0) 1 rfl Try.underlying39 winfo8 rfl (by decide) (by omega) (.slice Av (wrest a).length cv) (wrest a) l _ _ _ (fun k => k ∈ bs ∨ (w.setCell ⟨g, 6, none⟩ (.int .u64 ((a.length : Int) + (l.length : Int)))).heap.size ≤ k) (fun _ => False) rfl rfl ?aO ?aR (fun _ _ h => h) (fun _ h => h.elim) ?aF ?aB ?aS ?aL ?_; (case aO => exact Kd.R_mono hR.out (fun _ h => .inl h)); (case aR => exact hC6.out); (case aF => exact (fun _ h => .inr h)); (case aB => exact Below.refl _ _); (case aS => exact Nat.zero_le _); (case aL => have := hlA.out; have := hrl.out; omega); intro v1 w1 ho hb1 hg hat; have hO7r := (hG.out w1 _ _ ho hg).perm (List.Perm.swap _ _ _); rw [hmA.out] at ho hO7r; obtain ⟨A1, c1, e1⟩ := Kd.R_slice ho; subst e1; have hO7 := Aside0.mk hO7r; have hc1 := Aside0.mk (Kd.R_reads' ho).2.1; clear ho hb1 hg hat hO7r))
 clear hcell5 hcell6 hz6 fn hG hR hC6
 go_loopg [5] (m.length / 32) (fun kq v5 w' => ∃ (i : Nat) (A2 : Option Addr) (c2 : Nat), v5 = .slice A2 (m.drop (32 * i)).length c2 ∧ Aside0 ((∀ W, Kd.C (Kd.int .u8) W A1 m.length m → Kd.C (Kd.int .u8) W A2 (m.drop (32 * i)).length (m.drop (32 * i))) ∧ (m.drop (32 * i)).length ≤ c2 ∧ i + kq = m.length / 32) ∧ Aside0 (Sep.Sep w0 w' (blk g (wcells s (wstripes i (wvs s a) m) (.slice Av (wrest a).length cv) (a ++ l).length) 181 :: row (Kd.int .u8) 5 (.slice A1 m.length c1) m :: ps)))
 case atStart => exact ⟨0, A1, c1, rfl, ⟨fun W h => h, hc1.out, by omega⟩, hO7⟩
 case round =>
  obtain ⟨i, A2, c2, rfl, hA, hS⟩ := hrel
  clear hO7
  by_cases hin : i < m.length / 32
  ·
   have hlen : (m.drop (32 * i)).length = m.length - 32 * i := by rw [List.length_drop]
   have h32 : 32 ≤ (m.drop (32 * i)).length := by omega
   have hb1 : Bytes (m.drop (32 * i)) := hmb.drop _
   have hvs2 : Small8 (wstripes i (wvs s a) m) := wstripes_small _ _ hvs _
   have hvl2 : (wstripes i (wvs s a) m).length = 4 := by rw [wstripes_len, hvl]
   have hd : decide (((m.drop (32 * i)).length : Int) ≥ 32) = true := decide_eq_true (by omega)
   obtain ⟨k1, rfl⟩ : ∃ k1, gk = k1 + 1 := ⟨gk - 1, by have := hA.out; omega⟩
   have hl1l : (m.drop (32 * i)).length ≤ 1000000000100 := by have := hmlA.out; omega
   have hmA2 : Aside0 (∀ W, Kd.C (Kd.int .u8) W A2 (m.drop (32 * i)).length (m.drop (32 * i)) → True) := ⟨fun _ _ => trivial⟩
   generalize hll : m.drop (32 * i) = l1 at *
   generalize hvv : wstripes i (wvs s a) m = vs at *
   have hlenA := Aside0.mk hlen
   have h32A := Aside0.mk h32
   have hl1A := Aside0.mk hl1l
   clear hlen h32 hl1l hmA2
   go_wp2
   go_loopg [26] 4 (fun kq v26 w' => ∃ (j : Nat), v26 = .int .i64 j ∧ Aside0 (j + kq = 4) ∧ Aside0 (Sep.Sep w0 w' (blk g (wcells s (wpart l1 vs j) (.slice Av (wrest a).length cv) (a ++ l).length) 181 :: row (Kd.int .u8) 5 (.slice A1 m.length c1) m :: ps)))
   case atStart => exact ⟨0, rfl, ⟨by omega⟩, hS⟩
   case round =>
    obtain ⟨j, rfl, hj, hS2⟩ := hrel
    clear hS
    by_cases hjn : j < 4
    ·
     have hd2 : decide ((j : Int) < 4) = true := decide_eq_true (by omega)
     obtain ⟨k2, rfl⟩ : ∃ k2, gk = k2 + 1 := ⟨gk - 1, by have := hj.out; omega⟩
     have p0 : ((0 : Int) ≤ (j : Int)) = True := eq_true (by omega)
     have q0 : ((j : Int) < 4) = True := eq_true (by omega)
     have hul : (wpart l1 vs j).length = 4 := by rw [wpart_len, hvl2]
     have hus : Small8 (wpart l1 vs j) := wpart_small _ _ hvs2 j
     obtain ⟨x, hx⟩ : ∃ x, (wpart l1 vs j).getD j 0 = x := ⟨_, rfl⟩
     have hxl : x < 18446744073709551616 := by rw [← hx]; exact hus.at j
     have hux : (wpart l1 vs j)[j]? = some x := by rw [← hx, List.getD_eq_getElem?_getD, List.getElem?_eq_getElem (by omega)]; rfl
     have hcell : (wcells s (wpart l1 vs j) (.slice Av (wrest a).length cv) (a ++ l).length)[1 + j]? = some (.int .u64 (x : Int)) := by rw [Nat.add_comm]; exact wcells_v _ _ _ _ j x hux
     generalize hu : wpart l1 vs j = us at *
     have hxA := Aside0.mk hx
     have hulA := Aside0.mk hul
     clear hx hul hux
     go_wp2
     have hS3 := hS2.out.drew
     have hc0 : wr.drew.cell? ⟨g, 1 + j, none⟩ = some (.int .u64 (x : Int)) := (hS3.cell (1 + j)).trans hcell
     obtain ⟨i0, hi0, _, hsz, _⟩ := info_parts winfo8
     have hl4 : ((8 * (j : Int)).toNat) = 8 * j := by omega
     have hcut := cut_from (P := Try.prog) 39 5 .i64 Try.underlying39 hi0 1 hsz A2 l1.length c2 (8 * (j : Int)) (by omega) (by have := h32A.out; omega)
     obtain ⟨A4, hA4⟩ : ∃ A4, A4 = (if c2 = 8 * j then A2 else A2.map (·.add (8 * j * 1))) := ⟨_, rfl⟩
     rw [hl4, ← hA4] at hcut
     have hC4 : Aside0 (∀ W, Kd.C (Kd.int .u8) W A1 m.length m → Kd.C (Kd.int .u8) W A4 (l1.drop (8 * j)).length (l1.drop (8 * j))) := ⟨fun W h => by
      rw [hA4]
      exact Kd.C_drop (m := 8 * j) (c := c2) (hA.out.1 W h) (by have := h32A.out; omega) hA.out.2.1⟩
     have hw8 : wrap64 (8 * (j : Int)) = 8 * (j : Int) := w64 (by omega) (by omega)
     have hS3 := Aside0.mk hS3
     clear hA4 hl4
     obtain ⟨y, hy⟩ : ∃ y, leb ((l1.drop (8 * j)).take 8) = y := ⟨_, rfl⟩
     have hyl : y < 18446744073709551616 := by
      rw [← hy]
      exact leb_lt4 _ ((hb1.drop _).take _) 8 (by rw [List.length_take]; omega)
     have hyA := Aside0.mk hy
     clear hy
     refine start_ (n := 18) (S := fun w' => w'.cell? ⟨g, 1 + j, none⟩ = some (.int .u64 (x : Int))) (ds := [17]) #[false, false, false, false, false, false, false, false, false, false, false, false, false, false, false, false, false, false] (by kernel_rfl) rfl rfl (hc0) (fun hHeld => ?_)
     refine pure_ (i := 0) (N := some 29) (v := ?_) (a' := ?_) #[true, false, false, false, false, false, false, false, false, false, false, false, false, false, false, false, false, false] rfl rfl (by kernel_rfl) (fun _ _ _ h => h) (Or.inl ⟨by rfl, ?_⟩) ?_ ?_
     rotate_left
     ·
      intro w'
      go_simp
      with_reducible rfl
     rotate_left
     ·
      simp only [Act.put, List.setIfInBounds_toArray, List.set_cons_zero, List.set_cons_succ, i64_w, i32_w]
      rfl
     refine pure_ (i := 1) (N := some 30) (v := ?_) (a' := ?_) #[true, true, false, false, false, false, false, false, false, false, false, false, false, false, false, false, false, false] rfl rfl (by kernel_rfl) (fun _ _ _ h => h) (Or.inl ⟨by rfl, ?_⟩) ?_ ?_
     rotate_left
     ·
      intro w'
      go_simp
      with_reducible rfl
     rotate_left
     ·
      simp only [Act.put, List.setIfInBounds_toArray, List.set_cons_zero, List.set_cons_succ, i64_w, i32_w]
      rfl
     refine pure_ (i := 2) (N := some 31) (v := ?_) (a' := ?_) #[true, true, true, false, false, false, false, false, false, false, false, false, false, false, false, false, false, false] rfl rfl (by kernel_rfl) (fun _ _ _ h => h) (Or.inl ⟨by rfl, ?_⟩) ?_ ?_
     rotate_left
     ·
      intro w'
      go_simp
      with_reducible rfl
     rotate_left
     ·
      simp only [Act.put, List.setIfInBounds_toArray, List.set_cons_zero, List.set_cons_succ, i64_w, i32_w]
      rfl
     refine pure_ (i := 3) (N := some 32) (v := ?_) (a' := ?_) #[true, true, true, true, false, false, false, false, false, false, false, false, false, false, false, false, false, false] rfl rfl (by kernel_rfl) (fun _ _ _ h => h) (Or.inl ⟨by rfl, ?_⟩) ?_ ?_
     rotate_left
     ·
      intro w'
      go_simp
      with_reducible rfl
     rotate_left
     ·
      simp only [Act.put, List.setIfInBounds_toArray, List.set_cons_zero, List.set_cons_succ, i64_w, i32_w]
      rfl
     refine pure_ (i := 4) (N := some 33) (v := ?_) (a' := ?_) #[true, true, true, true, true, false, false, false, false, false, false, false, false, false, false, false, false, false] rfl rfl (by kernel_rfl) (fun _ _ _ h => h) (Or.inl ⟨by rfl, ?_⟩) ?_ ?_
     rotate_left
     ·
      intro w'
      go_simp
      with_reducible rfl
     rotate_left
     ·
      simp only [Act.put, List.setIfInBounds_toArray, List.set_cons_zero, List.set_cons_succ, i64_w, i32_w]
      rfl
     refine pure_ (i := 5) (N := some 34) (v := ?_) (a' := ?_) #[true, true, true, true, true, true, false, false, false, false, false, false, false, false, false, false, false, false] rfl rfl (by kernel_rfl) (fun _ _ _ h => h) (Or.inl ⟨by rfl, ?_⟩) ?_ ?_
     rotate_left
     ·
      intro w'
      go_simp
      with_reducible rfl
     rotate_left
     ·
      simp only [Act.put, List.setIfInBounds_toArray, List.set_cons_zero, List.set_cons_succ, i64_w, i32_w]
      rfl
     refine pure_ (i := 6) (N := some 35) (v := ?_) (a' := ?_) #[true, true, true, true, true, true, true, false, false, false, false, false, false, false, false, false, false, false] rfl rfl (by kernel_rfl) (fun _ _ _ h => h) (Or.inl ⟨by rfl, ?_⟩) ?_ ?_
     rotate_left
     ·
      intro w'
      go_simp
      with_reducible rfl
     rotate_left
     ·
      simp only [Act.put, List.setIfInBounds_toArray, List.set_cons_zero, List.set_cons_succ, i64_w, i32_w]
      rfl
     refine pure_ (i := 8) (N := some 37) (v := ?_) (a' := ?_) #[true, true, true, true, true, true, true, false, true, false, false, false, false, false, false, false, false, false] rfl rfl (by kernel_rfl) (fun _ _ _ h => h) (Or.inl ⟨by rfl, ?_⟩) ?_ ?_
     rotate_left
     ·
      intro w'
      go_simp
      with_reducible rfl
     rotate_left
     ·
      simp only [Act.put, List.setIfInBounds_toArray, List.set_cons_zero, List.set_cons_succ, i64_w, i32_w]
      rfl
     refine pure_ (i := 9) (N := some 38) (v := ?_) (a' := ?_) #[true, true, true, true, true, true, true, false, true, true, false, false, false, false, false, false, false, false] rfl rfl (by kernel_rfl) (fun _ _ _ h => h) (Or.inl ⟨by rfl, ?_⟩) ?_ ?_
     rotate_left
     ·
      intro w'
      go_simp
      with_reducible rfl
     rotate_left
     ·
      simp only [Act.put, List.setIfInBounds_toArray, List.set_cons_zero, List.set_cons_succ, i64_w, i32_w]
      rfl
     refine pure_ (i := 10) (N := some 39) (v := ?_) (a' := ?_) #[true, true, true, true, true, true, true, false, true, true, true, false, false, false, false, false, false, false] rfl rfl (by kernel_rfl) (fun _ _ _ h => h) (Or.inl ⟨by rfl, ?_⟩) ?_ ?_
     rotate_left
     ·
      intro w'
      go_simp
      with_reducible rfl
     rotate_left
     ·
      simp only [Act.put, List.setIfInBounds_toArray, List.set_cons_zero, List.set_cons_succ, i64_w, i32_w]
      rfl
     refine pure_ (i := 11) (N := some 40) (v := ?_) (a' := ?_) #[true, true, true, true, true, true, true, false, true, true, true, true, false, false, false, false, false, false] rfl rfl (by kernel_rfl) (fun _ _ _ h => h) (Or.inl ⟨by rfl, ?_⟩) ?_ ?_
     rotate_left
     ·
      intro w'
      go_simp
      with_reducible rfl
     rotate_left
     ·
      simp only [Act.put, List.setIfInBounds_toArray, List.set_cons_zero, List.set_cons_succ, i64_w, i32_w]
      rfl
     refine pure_ (i := 14) (N := some 43) (v := ?_) (a' := ?_) #[true, true, true, true, true, true, true, false, true, true, true, true, false, false, true, false, false, false] rfl rfl (by kernel_rfl) (fun _ _ _ h => h) (Or.inl ⟨by rfl, ?_⟩) ?_ ?_
     rotate_left
     ·
      intro w'
      go_simp
      with_reducible rfl
     rotate_left
     ·
      simp only [Act.put, List.setIfInBounds_toArray, List.set_cons_zero, List.set_cons_succ, i64_w, i32_w]
      rfl
     refine pure_ (i := 15) (N := some 44) (v := ?_) (a' := ?_) #[true, true, true, true, true, true, true, false, true, true, true, true, false, false, true, true, false, false] rfl rfl (by kernel_rfl) (fun _ _ _ h => h) (Or.inl ⟨by rfl, ?_⟩) ?_ ?_
     rotate_left
     ·
      intro w'
      go_simp
      with_reducible rfl
     rotate_left
     ·
      simp only [Act.put, List.setIfInBounds_toArray, List.set_cons_zero, List.set_cons_succ, i64_w, i32_w]
      rfl
     refine take_ (i := 7) (N := some 36) (v := ?_) (a' := ?_) #[true, true, true, true, true, true, true, true, true, true, true, true, false, false, true, true, false, false] rfl rfl (by kernel_rfl) (fun _ _ _ h => h) (Or.inl ⟨by rfl, ?_⟩) hHeld ?_ ?_
     rotate_left
     ·
      intro w' s0
      go_simp
      with_reducible rfl
     rotate_left
     ·
      simp only [Act.put, List.setIfInBounds_toArray, List.set_cons_zero, List.set_cons_succ, i64_w, i32_w]
      rfl
     refine one_ (i := 12) (N := some 41) #[true, true, true, true, true, true, true, true, true, true, true, true, true, false, true, true, false, false] rfl rfl (by kernel_rfl) (by decide) (fun K hK => ?_)
     refine goes_ Try.func144 (by kernel_rfl) rfl #[.slice A4 (l1.length - 8 * j) (c2 - 8 * j), .int .i64 8] (by rfl) rfl rfl (by (try simp only [List.map_toArray, List.map_cons, List.map_nil]); first | done | rfl) ?_
     have hCm : Kd.C (Kd.int .u8) wr.drew A1 m.length m := (Kd.R_reads' hS3.out.tail.row_R.choose_spec).2.2
     have hnum := num_calls wr.drew A4 (c2 - 8 * j) (l1.length - 8 * j) (l1.drop (8 * j)) (l1.length - 8 * j) 8 8 (by rw [List.length_drop]) rfl (hC4.out _ hCm) (by rw [List.length_drop]; have := hA.out.2.1; omega) (hb1.drop _) (by decide) (by rw [List.length_drop]; have := h32A.out; omega)
     rw [hyA.out] at hnum
     refine hnum.mono ?_
     clear hnum hCm
     rintro e w3 ⟨rfl, ⟨nd, rfl⟩⟩
     refine ⟨_, rfl, ?_⟩
     have hS4 := Aside0.mk (hS3.out.drewN nd)
     have hc4 := (hS4.out.cell (1 + j)).trans hcell
     refine hK.out _ _ (hc4) (fun hHeld => ?_)
     clear hK K
     refine norm_ (a' := ?_) ?_ ?_
     rotate_left
     ·
      show Act.put _ (some 41) _ = _
      simp only [Act.put, List.setIfInBounds_toArray, List.set_cons_zero, List.set_cons_succ, i64_w, i32_w]
      rfl
     refine one_ (i := 13) (N := some 42) #[true, true, true, true, true, true, true, true, true, true, true, true, true, true, true, true, false, false] rfl rfl (by kernel_rfl) (by decide) (fun K hK => ?_)
     refine goes_ Try.func143 (by kernel_rfl) rfl #[.int .u64 (x : Int), .int .u64 (y : Int)] (by rfl) rfl rfl (by (try simp only [List.map_toArray, List.map_cons, List.map_nil]); first | done | rfl) ?_
     refine (win_calls _ x y _ _ rfl rfl hxl hyl).mono ?_
     rintro e w4 ⟨rfl, ⟨nd2, rfl⟩⟩
     refine ⟨_, rfl, ?_⟩
     have hS5 := Aside0.mk (hS4.out.drewN nd2)
     have hc5 := (hS5.out.cell (1 + j)).trans hcell
     have hf5 := hS5.out.frozen (1 + j)
     refine hK.out _ _ (hc5) (fun hHeld => ?_)
     clear hK K
     refine norm_ (a' := ?_) ?_ ?_
     rotate_left
     ·
      show Act.put _ (some 42) _ = _
      simp only [Act.put, List.setIfInBounds_toArray, List.set_cons_zero, List.set_cons_succ, i64_w, i32_w]
      rfl
     refine pure_ (i := 16) (N := some 45) (v := ?_) (a' := ?_) #[true, true, true, true, true, true, true, true, true, true, true, true, true, true, true, true, true, false] rfl rfl (by kernel_rfl) (fun _ _ _ h => h) (Or.inl ⟨by rfl, ?_⟩) ?_ ?_
     rotate_left
     ·
      intro w'
      go_simp
      with_reducible rfl
     rotate_left
     ·
      simp only [Act.put, List.setIfInBounds_toArray, List.set_cons_zero, List.set_cons_succ, i64_w, i32_w]
      rfl
     refine last_ (i := 17) (N := none) #[true, true, true, true, true, true, true, true, true, true, true, true, true, true, true, true, true, true] rfl rfl (by kernel_rfl) (by decide) (fun K hK => ?_)
     have hcw : wr.cell? ⟨g, 1 + j, none⟩ = some (.int .u64 (x : Int)) := (hS2.out.cell (1 + j)).trans hcell
     have hfw : wr.frozen? ⟨g, 1 + j, none⟩ = false := hS2.out.frozen (1 + j)
     refine skip_ (w1 := ?_) (by kernel_rfl) rfl ?_ ?_
     rotate_left
     ·
      go_simp
      rfl
     refine hK.out _ _ ?_
     clear hK K
     refine done_ (by kernel_rfl) ?_
     clear hc0 hcut hC4
     go_wp2
     go_roundg k2
     case measure => omega
     case rel =>
      refine ⟨j + 1, by simp, ⟨by have := hj.out; omega⟩, ⟨?_⟩⟩
      have hq := (hS2.out.drewN (1 + nd + nd2)).set (1 + j) (.int .u64 ((win x y : Nat) : Int))
      rw [wcells_set _ _ _ _ j (win x y) (1 + j) _ (Nat.add_comm 1 j) rfl (by have := hulA.out; omega)] at hq
      rw [show wpart l1 vs (j + 1) = us.set j (win x y) by rw [wpart, hu, wstep, hxA.out, hyA.out]]
      exact hq
    ·
     have hj4 : j = 4 := by have := hj.out; omega
     subst hj4
     have hd2 : decide (((4 : Nat) : Int) < 4) = false := rfl
     obtain ⟨i0, hi0, _, hsz, _⟩ := info_parts winfo8
     have hcut := cut_from (P := Try.prog) 39 5 .i64 Try.underlying39 hi0 1 hsz A2 l1.length c2 32 (by omega) (by have := h32A.out; omega)
     obtain ⟨A4, hA4⟩ : ∃ A4, A4 = (if c2 = 32 then A2 else A2.map (·.add (32 * 1))) := ⟨_, rfl⟩
     rw [show ((32 : Int).toNat) = 32 from rfl, ← hA4] at hcut
     have hC4 : Aside0 (∀ W, Kd.C (Kd.int .u8) W A1 m.length m → Kd.C (Kd.int .u8) W A4 (l1.drop 32).length (l1.drop 32)) := ⟨fun W h => by
      rw [hA4]
      exact Kd.C_drop (m := 32) (c := c2) (hA.out.1 W h) h32A.out hA.out.2.1⟩
     clear hA4
     go_wp2
     go_roundg k1
     case measure => omega
     case rel =>
      have e : m.drop (32 * (i + 1)) = l1.drop 32 := by rw [← hll, List.drop_drop]; congr 1
      refine ⟨i + 1, A4, c2 - 32, ?_, ?_, ?_⟩
      ·
       rw [e, List.length_drop]
      ·
       rw [e]
       exact ⟨hC4.out, by rw [List.length_drop]; have := hA.out.2.1; omega, by have := hA.out; omega⟩
      ·
       rw [wstripes_succ, hll, hvv]
       exact hS2
  ·
   have hie : i = m.length / 32 := by have := hA.out; omega
   have hlen : (m.drop (32 * i)).length = m.length - 32 * i := by rw [List.length_drop]
   have hd : decide (((m.drop (32 * i)).length : Int) ≥ 32) = false := decide_eq_false (by omega)
   have hCr := Aside0.mk (hA.out.1 wr (Kd.R_reads' hS.out.tail.row_R.choose_spec).2.2)
   have hr : Aside0 (m.drop (32 * i) = wrest (a ++ l)) := ⟨by rw [wrest_append, hmA.out, ← hie]⟩
   have hv2 : Aside0 (wstripes i (wvs s a) m = wvs s (a ++ l)) := ⟨by rw [wvs_append, hmA.out, ← hie]⟩
   have hl2 : (m.drop (32 * i)).length ≤ 100 := by omega
   generalize hll : m.drop (32 * i) = l1 at *
   have hl2A := Aside0.mk hl2
   clear hlen hl2 hll
   go_wp2_with (first | ((with_reducible refine gate_builtin (b := .append) (xs := #[.const (.slice none 0 0), .tmp 50]) rfl ?_); at_builtin; refine Kd.R_append_rows (Kd.int .u8) (w0 := wr) wr.heap.size rfl (.const (.slice none 0 0)) (.tmp 50) 39 5 (.int .u8 0) 1 rfl Try.underlying39 winfo8 rfl (by decide) (by omega) (.slice none 0 0) [] l1 _ _ _ (fun _ => True) (fun _ => False) rfl rfl ?aO ?aR (fun _ _ h => h) (fun _ h => h.elim) ?aF ?aB ?aS ?aL ?_; (case aO => exact Kd.R_nil _ _ _ _ _); (case aR => exact hCr.out); (case aF => exact (fun _ _ => trivial)); (case aB => exact Below.refl _ _); (case aS => exact Nat.le_refl _); (case aL => have := hl2A.out; simp; omega); intro v9 w9 ho hb9 hg9 hat9; rw [List.nil_append] at ho; obtain ⟨A9, c9, e9⟩ := Kd.R_slice ho; subst e9; have hS9 := Aside0.mk ((Sep.row_new hS.out hb9 ho).perm (List.Perm.swap _ _ _)); clear ho hb9 hg9 hat9; have hc9 : w9.cell? ⟨g, 5, none⟩ = some (.slice Av (wrest a).length cv) := (hS9.out.cell 5).trans (wcells_rest _ _ _ _ (by rw [wstripes_len, hvl])).1; have hz9 := hS9.out.frozen 5))
   go_ret
   refine ⟨rfl, wst_close (v := .slice A9 l1.length c9) ?_⟩
   have h1 := hS9.out.set 5 (.slice A9 l1.length c9)
   rw [wcells_set5 _ _ _ _ _ (by rw [wstripes_len, hvl]), hv2.out] at h1
   rw [← hr.out]
   exact h1.pick2.tail
end Go.Proofs.Ytekanmieppnpeaa.G
namespace Go.Proofs.Ytekanmieppnpeaa.G
open Go Go.RowKit Go.Proofs.YtekanmieppnpeaaW.PrintWords Go.Proofs.YtekanmieppnpeaaW.PrintLast Go.Proofs.YtekanmieppnpeaaW.PrintMore Go.Proofs.Ytekanmieppnpeaa.PureKit Go.Proofs.Ytekanmieppnpeaa.Sep Go.Proofs.Ytekanmieppnpeaa.Rol
def wby (j : Nat) : Nat := match j with | 0 => 1 | 1 => 7 | 2 => 12 | _ => 18
def wturns (v : List Nat) : Nat → Nat
 | 0 => 0
 | j + 1 => (wturns v j + rol 64 (wby j) (v.getD j 0)) % 18446744073709551616
theorem wturns_succ (v : List Nat) (j : Nat) : (wturns v j + rol 64 (wby j) (v.getD j 0)) % 18446744073709551616 = wturns v (j + 1) := by rw [wturns]
theorem wturns_lt (v : List Nat) (j : Nat) : wturns v j < 18446744073709551616 := by
 cases j with
 | zero => exact Nat.zero_lt_succ 18446744073709551615
 | succ j => rw [wturns]; exact mod_lt64 _
theorem sum4 (a b c d : Nat) : (a + b + c + d) % 18446744073709551616 = ((((0 + a) % 18446744073709551616 + b) % 18446744073709551616 + c) % 18446744073709551616 + d) % 18446744073709551616 := by
 omega
theorem merge_step (h x y : Nat) (hh : h < 18446744073709551616) (hy : y < 18446744073709551616) (hq : y = win 0 x) : ∃ z1 z2 z3 : Nat, bits .xor .u64 (h : Int) (y : Int) = (z1 : Int) ∧ IntKind.u64.wrap ((z1 : Int) * 11400714785074694791) = (z2 : Int) ∧ IntKind.u64.wrap ((z2 : Int) + 9650029242287828579) = (z3 : Int) ∧ wmerge h x = z3 := by
 refine ⟨h ^^^ y, (h ^^^ y) * 11400714785074694791 % 18446744073709551616, wmerge h x, bits_xor_u64_nat h y hh hy, mul_step (h ^^^ y) 11400714785074694791, ?_, rfl⟩
 subst hq
 unfold wmerge
 generalize (h ^^^ win 0 x) * 11400714785074694791 = z
 rw [IntKind.wrap_u64]
 omega
theorem reps_turns (W : World) {base : Nat} {okp : Nat → Prop} : Reps ((Kd.int .i64).M W base okp) (Kd.int .i64).sz ([1, 7, 12, 18] : List Int) [.int .i64 1, .int .i64 7, .int .i64 12, .int .i64 18] :=
 (((Reps.none _ _).snoc (p := 1) (c := [.int .i64 1]) rfl rfl).snoc (p := 7) (c := [.int .i64 7]) rfl rfl |>.snoc (p := 12) (c := [.int .i64 12]) rfl rfl).snoc (p := 18) (c := [.int .i64 18]) rfl rfl
theorem index_arr (W : World) (x0 x1 x2 x3 j x : Nat) (hx : [x0, x1, x2, x3][j]? = some x) : (Instr.index 179 (.agg #[.int .u64 (x0 : Int), .int .u64 (x1 : Int), .int .u64 (x2 : Int), .int .u64 (x3 : Int)]) (.int .i64 (j : Int))).run Try.prog W = .ok (.int .u64 (x : Int)) W := by
 have hj : j < 4 := (List.getElem?_eq_some_iff.1 hx).1
 have hu := Try.underlying179
 rcases (show j = 0 ∨ j = 1 ∨ j = 2 ∨ j = 3 by omega) with rfl | rfl | rfl | rfl <;> (cases hx; simp [Instr.index, run_underlying hu, asIntOf, go_sem]; done)
theorem wout_turns (v : List Nat) : wout v = v.foldl wmerge (wturns v 4) := by
 unfold wout
 rw [sum4, wturns, wturns, wturns, wturns, wturns, show wby 0 = 1 from rfl, show wby 1 = 7 from rfl, show wby 2 = 12 from rfl, show wby 3 = 18 from rfl]
theorem take4 (x0 x1 x2 x3 : Nat) : [x0, x1, x2, x3].take 4 = [x0, x1, x2, x3] := rfl
theorem rd_turns (j : Nat) (h : j < 4) : rd [1, 7, 12, 18] (j : Int) = ((wby j : Nat) : Int) := by
 rcases (show j = 0 ∨ j = 1 ∨ j = 2 ∨ j = 3 by omega) with rfl | rfl | rfl | rfl <;> rfl
theorem wby_lt (j : Nat) : 0 < wby j ∧ wby j < 64 := by
 unfold wby
 split <;> omega
theorem wide_start (w0 w : World) (g s : Nat) (a : List Int) (ps : List HP) (hs : Sep.Sep w0 w (wst g s a :: ps)) (hsl : s < 18446744073709551616) (hal : a.length ≤ 1000000000000) :
  Calls Try.prog 145 #[.pointer (some ⟨g, 0, none⟩)] w fun e w' => e = .returned (.int .u64 ((wstart s a : Nat) : Int)) ∧ Below w.heap.size w w' := by
 obtain ⟨v, hO⟩ := wst_open hs
 have hvl : (wvs s a).length = 4 := wvs_len s a
 have hvs : Small8 (wvs s a) := wvs_small s a hsl
 have hcell0 : w.cell? ⟨g, 0, none⟩ = some (.int .u64 (s : Int)) := (hO.cell 0).trans (wcells_seed _ _ _ _)
 have hcell6 : w.cell? ⟨g, 6, none⟩ = some (.int .u64 (a.length : Int)) := (hO.cell 6).trans (wcells_rest _ _ _ _ hvl).2
 have hsA := Aside0.mk hs
 have halA := Aside0.mk hal
 have hvlA := Aside0.mk hvl
 obtain ⟨q5, hq5⟩ : ∃ q : Nat, (s + 2870177450012600261) % 18446744073709551616 = q := ⟨_, rfl⟩
 have fq5 : IntKind.u64.wrap ((s : Int) + 2870177450012600261) = (q5 : Int) := by rw [IntKind.wrap_u64]; omega
 have hq5A := Aside0.mk hq5
 clear hs hal hvl hq5
 by_cases hsh : a.length < 32
 ·
  have hd : decide ((a.length : Int) < 32) = true := decide_eq_true (by omega)
  clear hO
  go_enter Try.func145, Try.ntmps145
  go_wp2
  go_ret
  refine ⟨?_, Below.refl _ _⟩
  unfold wstart wbeg
  rw [if_pos hsh, hq5A.out]
  rfl
 ·
  have hd : decide ((a.length : Int) < 32) = false := decide_eq_false (by omega)
  have hOA := Aside0.mk hO
  have hshA := Aside0.mk hsh
  clear hO hsh
  go_enter Try.func145, Try.ntmps145
  go_wp2_with (first | ((with_reducible refine gate_dst (N := 18) rfl ?_); refine Kd.R_lit (Kd.int .i64) w.heap.size 3 ?hg (N := 18) ?hd (xs := ([1, 7, 12, 18] : List Int)) (inner := [.int .i64 1, .int .i64 7, .int .i64 12, .int .i64 18]) (ok := fun _ => True) (okp := fun _ => True) ?hr ?hp (fun _ hk => hk) trivial (Below.refl _ _) (Nat.le_refl _) (by simp) ?_; (case hd => rfl); (case hg => rfl); (case hr => first | (go_simp; done) | (go_simp; rfl)); (case hp => exact reps_turns _); intro v9 w9 ho hb9 hg9 hat9; have hS9 := Aside0.mk (Sep.row_new hOA.out hb9 ho); obtain ⟨A9, c9, e9⟩ := Kd.R_slice ho; subst e9; have hB9 := Aside0.mk hb9; clear ho hb9 hg9 hat9))
  obtain ⟨vs, hvv⟩ : ∃ vs, wvs s a = vs := ⟨_, rfl⟩
  rw [hvv] at hvs hvlA hS9
  clear hcell0 hcell6
  have hvvA := Aside0.mk hvv
  clear hvv
  go_loopg [3, 20] 4 (fun kq v3 v20 w' => ∃ (j : Nat), v3 = .int .u64 ((wturns vs j : Nat) : Int) ∧ v20 = .int .i64 j ∧ Aside0 (j + kq = 4) ∧ Drawn0 w9 w')
  case atStart => exact ⟨0, rfl, rfl, ⟨by omega⟩, Drawn0.refl _⟩
  case round =>
   obtain ⟨j, rfl, rfl, hj, ⟨nd, rfl⟩⟩ := hrel
   have hSd := Aside0.mk (hS9.out.drewN nd)
   by_cases hjn : j < 4
   ·
    have hd2 : decide ((j : Int) < 4) = true := decide_eq_true (by omega)
    obtain ⟨k2, rfl⟩ : ∃ k2, gk = k2 + 1 := ⟨gk - 1, by have := hj.out; omega⟩
    have p0 : ((0 : Int) ≤ (j : Int)) = True := eq_true (by omega)
    have q0 : ((j : Int) < 4) = True := eq_true (by omega)
    have hux : vs[j]? = some (vs.getD j 0) := by rw [List.getD_eq_getElem?_getD, List.getElem?_eq_getElem (by have := hvlA.out; omega)]; rfl
    have hxl := hvs.at j
    have hts := wturns_succ vs j
    have htl := wturns_lt vs j
    obtain ⟨x, hx⟩ : ∃ x, vs.getD j 0 = x := ⟨_, rfl⟩
    obtain ⟨t, ht⟩ : ∃ t, wturns vs j = t := ⟨_, rfl⟩
    rw [hx] at hux hxl hts
    rw [ht] at hts htl ⊢
    have hcell : w9.cell? ⟨g, 1 + j, none⟩ = some (.int .u64 (x : Int)) := by
     have := hS9.out.pick1.cell (1 + j)
     rw [this, Nat.add_comm]
     exact wcells_v _ _ _ _ j x hux
    obtain ⟨bs3, hR3⟩ := hS9.out.row_R
    obtain ⟨ad, e0, hq⟩ := Kd.at_int (Kd.R_reads' hR3).2.2 (j : Int) (by omega) (by simp; omega)
    cases e0
    simp only [Int.toNat_natCast] at hq
    rw [rd_turns j hjn] at hq
    have hby := wby_lt j
    obtain ⟨b, hb⟩ : ∃ b, wby j = b := ⟨_, rfl⟩
    rw [hb] at hq hts hby
    have hr := rol64_lt b x (by omega) hxl
    have ft : IntKind.u64.wrap ((t : Int) + ((rol 64 b x : Nat) : Int)) = ((wturns vs (j + 1) : Nat) : Int) := by
     rw [← hts]
     have := wrap_nat64 (t + rol 64 b x)
     rw [Int.natCast_add] at this
     exact this
    have htsA := Aside0.mk hts
    have hrA := Aside0.mk hr
    have hbyA := Aside0.mk hby
    clear hts hr hux hR3 hx ht hb hby
    go_wp2_with (fail)
    refine (rot64 _ x b _ _ rfl rfl hxl hbyA.out.1 hbyA.out.2).mono ?_
    rintro e w4 ⟨rfl, ⟨n3, rfl⟩⟩
    go_wp2
    go_roundg k2
    case measure => omega
    case rel => exact ⟨j + 1, rfl, by simp, ⟨by have := hj.out; omega⟩, by repeat (first | exact Drawn0.refl _ | apply Drawn0.step)⟩
   ·
    have hj4 : j = 4 := by have := hj.out; omega
    subst hj4
    have hd2 : decide (((4 : Nat) : Int) < 4) = false := rfl
    have htl := wturns_lt vs 4
    obtain ⟨t, ht⟩ : ∃ t, wturns vs 4 = t := ⟨_, rfl⟩
    rw [ht] at htl ⊢
    have hout : wstart s a = vs.foldl wmerge t := by
     unfold wstart wbeg
     rw [if_neg hshA.out, hvvA.out, ← ht, wout_turns]
    obtain ⟨x0, x1, x2, x3, hr⟩ : ∃ x0 x1 x2 x3, vs = [x0, x1, x2, x3] := by
     have := hvlA.out
     rcases vs with _ | ⟨x0, _ | ⟨x1, _ | ⟨x2, _ | ⟨x3, _ | ⟨x4, r⟩⟩⟩⟩⟩ <;> simp at this
     exact ⟨_, _, _, _, rfl⟩
    have hx0 : x0 < 18446744073709551616 := hvs x0 (by simp [hr])
    have hx1 : x1 < 18446744073709551616 := hvs x1 (by simp [hr])
    have hx2 : x2 < 18446744073709551616 := hvs x2 (by simp [hr])
    have hx3 : x3 < 18446744073709551616 := hvs x3 (by simp [hr])
    rw [hr] at hout
    have hoA := Aside0.mk hout
    have hS9' := hS9.out.pick1
    rw [hr] at hS9'
    have hc1 : w9.cell? ⟨g, 1, none⟩ = some (.int .u64 (x0 : Int)) := hS9'.cell 1
    have hc2 : w9.cell? ⟨g, 2, none⟩ = some (.int .u64 (x1 : Int)) := hS9'.cell 2
    have hc3 : w9.cell? ⟨g, 3, none⟩ = some (.int .u64 (x2 : Int)) := hS9'.cell 3
    have hc4 : w9.cell? ⟨g, 4, none⟩ = some (.int .u64 (x3 : Int)) := hS9'.cell 4
    have hrA := Aside0.mk hr
    clear hS9' hout ht hr
    go_wp2
    go_loopg [3, 40] 4 (fun kq v3 v40 w' => ∃ (j : Nat), v3 = .int .u64 ((([x0, x1, x2, x3].take j).foldl wmerge t : Nat) : Int) ∧ v40 = .int .i64 j ∧ Aside0 (j + kq = 4) ∧ Drawn0 w9 w')
    case atStart => exact ⟨0, rfl, rfl, ⟨by omega⟩, ⟨nd, rfl⟩⟩
    case round =>
     obtain ⟨j, rfl, rfl, hj, ⟨nd2, rfl⟩⟩ := hrel
     have hh := wmerges_lt ([x0, x1, x2, x3].take j) t htl
     obtain ⟨h, hhe⟩ : ∃ h, ([x0, x1, x2, x3].take j).foldl wmerge t = h := ⟨_, rfl⟩
     rw [hhe] at hh ⊢
     by_cases hjn : j < 4
     ·
      have hd2 : decide ((j : Int) < 4) = true := decide_eq_true (by omega)
      obtain ⟨k2, rfl⟩ : ∃ k2, gk = k2 + 1 := ⟨gk - 1, by have := hj.out; omega⟩
      obtain ⟨x, hx⟩ : ∃ x, [x0, x1, x2, x3][j]? = some x := ⟨_, List.getElem?_eq_getElem (by simp; omega)⟩
      have hxl : x < 18446744073709551616 := hvs x (by rw [hrA.out]; exact List.mem_of_getElem? hx)
      have hnext : ([x0, x1, x2, x3].take (j + 1)).foldl wmerge t = wmerge h x := by
       rw [List.take_add_one, hx, List.foldl_append, hhe, Option.toList_some, List.foldl_cons, List.foldl_nil]
      have ha := fun W => index_arr W x0 x1 x2 x3 j x hx
      have hml := wmerge_lt h x
      have hyl := win_lt 0 x
      obtain ⟨y, hy⟩ : ∃ y, win 0 x = y := ⟨_, rfl⟩
      obtain ⟨z1, z2, z3, f1, f2, f3, f4⟩ := merge_step h x y hh (by rw [← hy]; exact hyl) hy.symm
      rw [f4] at hnext
      have hnA := Aside0.mk hnext
      have p0 : ((0 : Int) ≤ (j : Int)) = True := eq_true (by omega)
      have q0 : ((j : Int) < 4) = True := eq_true (by omega)
      have hyA := Aside0.mk hy
      have hhA := Aside0.mk hh
      have htA := Aside0.mk htl
      clear hnext hx hml hyl hy hhe f4 hx0 hx1 hx2 hx3 hvs hh htl hsl
      go_wp2_with (fail)
      refine (win_calls _ 0 x _ _ rfl rfl (by decide) hxl).mono ?_
      rw [hyA.out]
      rintro e w4 ⟨rfl, ⟨n3, rfl⟩⟩
      go_wp2
      go_roundg k2
      case measure => omega
      case rel => exact ⟨j + 1, by rw [hnA.out], by simp, ⟨by have := hj.out; omega⟩, by repeat (first | exact Drawn0.refl _ | apply Drawn0.step)⟩
     ·
      have hj4 : j = 4 := by have := hj.out; omega
      subst hj4
      have hd2 : decide (((4 : Nat) : Int) < 4) = false := rfl
      go_wp2
      go_ret
      refine ⟨?_, ?_⟩
      ·
       rw [take4] at hhe
       rw [hoA.out, hhe]
       rfl
      ·
       exact pw_below_drewN hB9.out nd2
end Go.Proofs.Ytekanmieppnpeaa.G
namespace Go.Proofs.Ytekanmieppnpeaa.G
open Go Go.RowKit Go.Proofs.YtekanmieppnpeaaW.PrintWords Go.Proofs.YtekanmieppnpeaaW.PrintLast Go.Proofs.YtekanmieppnpeaaW.PrintMore Go.Proofs.Ytekanmieppnpeaa.PureKit Go.Proofs.Ytekanmieppnpeaa.Sep Go.Proofs.Ytekanmieppnpeaa.Rol
theorem xor_lt64 (a b : Nat) (ha : a < 18446744073709551616) (hb : b < 18446744073709551616) : a ^^^ b < 18446744073709551616 := Nat.xor_lt_two_pow (n := 64) ha hb
theorem add_step (z p : Nat) : IntKind.u64.wrap ((z : Int) + (p : Int)) = (((z + p) % 18446744073709551616 : Nat) : Int) := by rw [← Int.natCast_add, wrap_nat64]
theorem mul_add_step (t p q : Nat) : ∃ z1 z2 : Nat, IntKind.u64.wrap ((t : Int) * (p : Int)) = (z1 : Int) ∧ IntKind.u64.wrap ((z1 : Int) + (q : Int)) = (z2 : Int) ∧ (t * p + q) % 18446744073709551616 = z2 :=
 ⟨_, _, mul_step t p, add_step _ q, by rw [Nat.mod_add_mod]⟩
theorem weight_step (x : Nat) (l : List Int) (hx : x < 18446744073709551616) (hb : Bytes l) : ∃ y wy z t z1 z2 : Nat, leb (l.take 8) = y ∧ y < 18446744073709551616 ∧ win 0 y = wy ∧ bits .xor .u64 (x : Int) (wy : Int) = (z : Int) ∧ z < 18446744073709551616 ∧ rol 64 27 z = t ∧
  IntKind.u64.wrap ((t : Int) * 11400714785074694791) = (z1 : Int) ∧ IntKind.u64.wrap ((z1 : Int) + 9650029242287828579) = (z2 : Int) ∧ weight x l = z2 := by
 obtain ⟨z1, z2, h1, h2, h3⟩ := mul_add_step (rol 64 27 (x ^^^ win 0 (leb (l.take 8)))) 11400714785074694791 9650029242287828579
 refine ⟨_, _, x ^^^ win 0 (leb (l.take 8)), _, z1, z2, rfl, leb_lt4 _ (hb.take _) 8 (by rw [List.length_take]; omega), rfl, bits_xor_u64_nat _ _ hx (win_lt _ _), xor_lt64 _ _ hx (win_lt _ _), rfl, h1, h2, ?_⟩
 rw [weight]
 exact h3
theorem wfour_step (x : Nat) (l : List Int) (hx : x < 18446744073709551616) (hb : Bytes l) : ∃ y q z t z1 z2 : Nat, leb (l.take 4) = y ∧ IntKind.u64.wrap ((y : Int) * 11400714785074694791) = (q : Int) ∧ bits .xor .u64 (x : Int) (q : Int) = (z : Int) ∧ z < 18446744073709551616 ∧ rol 64 23 z = t ∧
  IntKind.u64.wrap ((t : Int) * 14029467366897019727) = (z1 : Int) ∧ IntKind.u64.wrap ((z1 : Int) + 1609587929392839161) = (z2 : Int) ∧ wfour x l = z2 := by
 obtain ⟨z1, z2, h1, h2, h3⟩ := mul_add_step (rol 64 23 (x ^^^ (leb (l.take 4) * 11400714785074694791 % 18446744073709551616))) 14029467366897019727 1609587929392839161
 refine ⟨_, _, _, _, z1, z2, rfl, mul_step _ 11400714785074694791, bits_xor_u64_nat _ _ hx (mod_lt64 _), xor_lt64 _ _ hx (mod_lt64 _), rfl, h1, h2, ?_⟩
 rw [wfour]
 exact h3
theorem wbyte_step (x b : Nat) (hx : x < 18446744073709551616) : ∃ q z t z2 : Nat, IntKind.u64.wrap ((b : Int) * 2870177450012600261) = (q : Int) ∧ bits .xor .u64 (x : Int) (q : Int) = (z : Int) ∧ z < 18446744073709551616 ∧ rol 64 11 z = t ∧
  IntKind.u64.wrap ((t : Int) * 11400714785074694791) = (z2 : Int) ∧ wbyte x (b : Int) = z2 := by
 refine ⟨_, _, _, _, mul_step b 2870177450012600261, bits_xor_u64_nat _ _ hx (mod_lt64 _), xor_lt64 _ _ hx (mod_lt64 _), rfl, mul_step _ 11400714785074694791, ?_⟩
 rw [wbyte, Int.toNat_natCast]
theorem wfin_step (x : Nat) (hx : x < 18446744073709551616) : ∃ a1 b1 c1 a2 b2 c2 a3 b3 : Nat, (x : Int) / 8589934592 = (a1 : Int) ∧ bits .xor .u64 (x : Int) (a1 : Int) = (b1 : Int) ∧ IntKind.u64.wrap ((b1 : Int) * 14029467366897019727) = (c1 : Int) ∧
  (c1 : Int) / 536870912 = (a2 : Int) ∧ bits .xor .u64 (c1 : Int) (a2 : Int) = (b2 : Int) ∧ IntKind.u64.wrap ((b2 : Int) * 1609587929392839161) = (c2 : Int) ∧ (c2 : Int) / 4294967296 = (a3 : Int) ∧ bits .xor .u64 (c2 : Int) (a3 : Int) = (b3 : Int) ∧ wfin x = b3 := by
 have d : ∀ (z n : Nat), z < 18446744073709551616 → z / 2 ^ n < 18446744073709551616 := fun z n hz => Nat.lt_of_le_of_lt (Nat.div_le_self _ _) hz
 refine ⟨x / 2 ^ 33, wmix 33 x, _, _ / 2 ^ 29, wmix 29 _, _, _ / 2 ^ 32, wmix 32 _, (Int.natCast_ediv x (2 ^ 33)).symm, bits_xor_u64_nat _ _ hx (d _ _ hx), mul_step _ 14029467366897019727, (Int.natCast_ediv _ (2 ^ 29)).symm, bits_xor_u64_nat _ _ (mod_lt64 _) (d _ _ (mod_lt64 _)), mul_step _ 1609587929392839161, (Int.natCast_ediv _ (2 ^ 32)).symm, bits_xor_u64_nat _ _ (mod_lt64 _) (d _ _ (mod_lt64 _)), ?_⟩
 rw [wfin]
theorem wide_sum (w0 w : World) (g s : Nat) (a : List Int) (ps : List HP) (hs : Sep.Sep w0 w (wst g s a :: ps)) (hba : Bytes a) (hsl : s < 18446744073709551616) (hal : a.length ≤ 1000000000000) :
  Calls Try.prog 116 #[.pointer (some ⟨g, 0, none⟩)] w fun e w' => e = .returned (.int .u64 ((wsum s a : Nat) : Int)) ∧ Below w.heap.size w w' := by
 obtain ⟨v, hO⟩ := wst_open hs
 have hvl : (wvs s a).length = 4 := wvs_len s a
 obtain ⟨bs0, hR0⟩ := hO.tail.row_R
 obtain ⟨A1, c1, rfl⟩ := Kd.R_slice hR0
 obtain ⟨r, hr⟩ : ∃ r, wrest a = r := ⟨_, rfl⟩
 have hrl := wrest_len a
 have hrb : Bytes r := by rw [← hr]; exact hba.drop _
 rw [hr] at hR0 hO hrl
 have hC0 := Aside0.mk (Kd.R_reads' hR0).2.2
 have hc1 := Aside0.mk (Kd.R_reads' hR0).2.1
 obtain ⟨q, hq⟩ : ∃ q, wstart s a = q := ⟨_, rfl⟩
 have hql : q < 18446744073709551616 := by rw [← hq]; exact wstart_lt s a
 obtain ⟨h0, hh0⟩ : ∃ h0 : Nat, (q + a.length) % 18446744073709551616 = h0 := ⟨_, rfl⟩
 have hh0l : h0 < 18446744073709551616 := by rw [← hh0]; exact mod_lt64 _
 have fh0 : IntKind.u64.wrap ((q : Int) + (a.length : Int)) = (h0 : Int) := by rw [← hh0]; exact add_step q a.length
 have hsum : Aside0 (wsum s a = wfin (wtail h0 r)) := ⟨by unfold wsum; rw [hq, hr, hh0]⟩
 have hcell5 : w.cell? ⟨g, 5, none⟩ = some (.slice A1 r.length c1) := (hO.cell 5).trans (wcells_rest _ _ _ _ hvl).1
 have hcell6 : w.cell? ⟨g, 6, none⟩ = some (.int .u64 (a.length : Int)) := (hO.cell 6).trans (wcells_rest _ _ _ _ hvl).2
 have hcd5 : w.drew.cell? ⟨g, 5, none⟩ = some (.slice A1 r.length c1) := hcell5
 have hcd6 : w.drew.cell? ⟨g, 6, none⟩ = some (.int .u64 (a.length : Int)) := hcell6
 have hO := Aside0.mk hO
 have hsA := Aside0.mk hs
 have hqA := Aside0.mk hq
 have halA := Aside0.mk hal
 have hrlA := Aside0.mk hrl
 clear hR0 hs hq hh0 hrl hal hcell5 hcell6
 go_enter Try.func116, Try.ntmps116
 go_wp2_with (fail)
 refine start_ (n := 13) (S := fun w' => w'.cell? ⟨g, 5, none⟩ = some (.slice A1 r.length c1) ∧ w'.cell? ⟨g, 6, none⟩ = some (.int .u64 (a.length : Int))) (ds := []) #[false, false, false, false, false, false, false, false, false, false, false, false, false] (by kernel_rfl) rfl rfl ⟨hcd5, hcd6⟩ (fun hHeld => ?_)
 refine pure_ (i := 0) (N := some 7) (v := ?_) (a' := ?_) #[true, false, false, false, false, false, false, false, false, false, false, false, false] rfl rfl (by kernel_rfl) (fun _ _ _ h => h) (Or.inl ⟨by rfl, ?_⟩) ?_ ?_
 rotate_left
 ·
  intro w'
  go_simp
  with_reducible rfl
 rotate_left
 ·
  simp only [Act.put, List.setIfInBounds_toArray, List.set_cons_zero, List.set_cons_succ, i64_w, i32_w]
  rfl
 refine pure_ (i := 2) (N := some 9) (v := ?_) (a' := ?_) #[true, false, true, false, false, false, false, false, false, false, false, false, false] rfl rfl (by kernel_rfl) (fun _ _ _ h => h) (Or.inl ⟨by rfl, ?_⟩) ?_ ?_
 rotate_left
 ·
  intro w'
  go_simp
  with_reducible rfl
 rotate_left
 ·
  simp only [Act.put, List.setIfInBounds_toArray, List.set_cons_zero, List.set_cons_succ, i64_w, i32_w]
  rfl
 refine pure_ (i := 3) (N := some 10) (v := ?_) (a' := ?_) #[true, false, true, true, false, false, false, false, false, false, false, false, false] rfl rfl (by kernel_rfl) (fun _ _ _ h => h) (Or.inl ⟨by rfl, ?_⟩) ?_ ?_
 rotate_left
 ·
  intro w'
  go_simp
  with_reducible rfl
 rotate_left
 ·
  simp only [Act.put, List.setIfInBounds_toArray, List.set_cons_zero, List.set_cons_succ, i64_w, i32_w]
  rfl
 refine pure_ (i := 4) (N := some 11) (v := ?_) (a' := ?_) #[true, false, true, true, true, false, false, false, false, false, false, false, false] rfl rfl (by kernel_rfl) (fun _ _ _ h => h) (Or.inl ⟨by rfl, ?_⟩) ?_ ?_
 rotate_left
 ·
  intro w'
  go_simp
  with_reducible rfl
 rotate_left
 ·
  simp only [Act.put, List.setIfInBounds_toArray, List.set_cons_zero, List.set_cons_succ, i64_w, i32_w]
  rfl
 refine pure_ (i := 7) (N := some 14) (v := ?_) (a' := ?_) #[true, false, true, true, true, false, false, true, false, false, false, false, false] rfl rfl (by kernel_rfl) (fun _ _ _ h => h) (Or.inl ⟨by rfl, ?_⟩) ?_ ?_
 rotate_left
 ·
  intro w'
  go_simp
  with_reducible rfl
 rotate_left
 ·
  simp only [Act.put, List.setIfInBounds_toArray, List.set_cons_zero, List.set_cons_succ, i64_w, i32_w]
  rfl
 refine pure_ (i := 8) (N := some 15) (v := ?_) (a' := ?_) #[true, false, true, true, true, false, false, true, true, false, false, false, false] rfl rfl (by kernel_rfl) (fun _ _ _ h => h) (Or.inl ⟨by rfl, ?_⟩) ?_ ?_
 rotate_left
 ·
  intro w'
  go_simp
  with_reducible rfl
 rotate_left
 ·
  simp only [Act.put, List.setIfInBounds_toArray, List.set_cons_zero, List.set_cons_succ, i64_w, i32_w]
  rfl
 refine pure_ (i := 9) (N := some 16) (v := ?_) (a' := ?_) #[true, false, true, true, true, false, false, true, true, true, false, false, false] rfl rfl (by kernel_rfl) (fun _ _ _ h => h) (Or.inl ⟨by rfl, ?_⟩) ?_ ?_
 rotate_left
 ·
  intro w'
  go_simp
  with_reducible rfl
 rotate_left
 ·
  simp only [Act.put, List.setIfInBounds_toArray, List.set_cons_zero, List.set_cons_succ, i64_w, i32_w]
  rfl
 refine take_ (i := 5) (N := some 12) (v := ?_) (a' := ?_) #[true, false, true, true, true, true, false, true, true, true, false, false, false] rfl rfl (by kernel_rfl) (fun _ _ _ h => h) (Or.inl ⟨by rfl, ?_⟩) hHeld ?_ ?_
 rotate_left
 ·
  rintro w' ⟨s0, s1⟩
  go_simp
  with_reducible rfl
 rotate_left
 ·
  simp only [Act.put, List.setIfInBounds_toArray, List.set_cons_zero, List.set_cons_succ, i64_w, i32_w]
  rfl
 refine take_ (i := 10) (N := some 17) (v := ?_) (a' := ?_) #[true, false, true, true, true, true, false, true, true, true, true, false, false] rfl rfl (by kernel_rfl) (fun _ _ _ h => h) (Or.inl ⟨by rfl, ?_⟩) hHeld ?_ ?_
 rotate_left
 ·
  rintro w' ⟨s0, s1⟩
  go_simp
  with_reducible rfl
 rotate_left
 ·
  simp only [Act.put, List.setIfInBounds_toArray, List.set_cons_zero, List.set_cons_succ, i64_w, i32_w]
  rfl
 refine one_ (i := 1) (N := some 8) #[true, true, true, true, true, true, false, true, true, true, true, false, false] rfl rfl (by kernel_rfl) (by decide) (fun K hK => ?_)
 refine goes_ Try.func145 (by kernel_rfl) rfl #[.pointer (some ⟨g, 0, none⟩)] (by rfl) rfl rfl (by (try simp only [List.map_toArray, List.map_cons, List.map_nil]); first | done | rfl) ?_
 have hst := wide_start w0 w.drew g s a ps hsA.out.drew hsl halA.out
 rw [hqA.out] at hst
 refine hst.mono ?_
 clear hst
 rintro e w3 ⟨rfl, hb3⟩
 refine ⟨_, rfl, ?_⟩
 have hO3 := Aside0.mk (hO.out.drew.below hb3)
 have hB3 := Aside0.mk (show Below w.heap.size w w3 from (below_drew1 (Below.refl w.heap.size w)).trans hb3)
 clear hb3
 refine hK.out _ _ ⟨(hO3.out.cell 5).trans (wcells_rest _ _ _ _ hvl).1, (hO3.out.cell 6).trans (wcells_rest _ _ _ _ hvl).2⟩ (fun hHeld => ?_)
 clear hK K
 refine norm_ (a' := ?_) ?_ ?_
 rotate_left
 ·
  show Act.put _ (some 8) _ = _
  simp only [Act.put, List.setIfInBounds_toArray, List.set_cons_zero, List.set_cons_succ, i64_w, i32_w]
  rfl
 refine pure_ (i := 6) (N := some 13) (v := ?_) (a' := ?_) #[true, true, true, true, true, true, true, true, true, true, true, false, false] rfl rfl (by kernel_rfl) (fun _ _ _ h => h) (Or.inl ⟨by rfl, ?_⟩) ?_ ?_
 rotate_left
 ·
  intro w'
  go_simp
  with_reducible rfl
 rotate_left
 ·
  simp only [Act.put, List.setIfInBounds_toArray, List.set_cons_zero, List.set_cons_succ, i64_w, i32_w]
  rfl
 refine pure_ (i := 11) (N := some 3) (v := ?_) (a' := ?_) #[true, true, true, true, true, true, true, true, true, true, true, true, false] rfl rfl (by kernel_rfl) (fun _ _ _ h => h) (Or.inl ⟨by rfl, ?_⟩) ?_ ?_
 rotate_left
 ·
  intro w'
  go_simp
  with_reducible rfl
 rotate_left
 ·
  simp only [Act.put, List.setIfInBounds_toArray, List.set_cons_zero, List.set_cons_succ, i64_w, i32_w]
  rfl
 refine pure_ (i := 12) (N := some 4) (v := ?_) (a' := ?_) #[true, true, true, true, true, true, true, true, true, true, true, true, true] rfl rfl (by kernel_rfl) (fun _ _ _ h => h) (Or.inl ⟨by rfl, ?_⟩) ?_ ?_
 rotate_left
 ·
  intro w'
  go_simp
  with_reducible rfl
 rotate_left
 ·
  simp only [Act.put, List.setIfInBounds_toArray, List.set_cons_zero, List.set_cons_succ, i64_w, i32_w]
  rfl
 refine done_ (by kernel_rfl) ?_
 clear hcd5 hcd6 fh0
 have hC3 := Aside0.mk (Kd.C_below hC0.out hB3.out)
 go_wp2_with (fail)
 go_loopg [3, 4] (r.length / 8) (fun kq v3 v4 w' => ∃ (i : Nat) (A2 : Option Addr) (c2 : Nat), v3 = .int .u64 ((weights i h0 r : Nat) : Int) ∧ v4 = .slice A2 (r.drop (8 * i)).length c2 ∧ Aside0 (Kd.C (Kd.int .u8) w3 A2 (r.drop (8 * i)).length (r.drop (8 * i)) ∧ (r.drop (8 * i)).length ≤ c2 ∧ i + kq = r.length / 8) ∧ Drawn0 w3 w')
 case atStart =>
  refine ⟨0, A1, c1, rfl, rfl, ⟨by rw [Nat.mul_zero, List.drop_zero]; exact hC3.out, by rw [Nat.mul_zero, List.drop_zero]; exact hc1.out, by omega⟩, by repeat (first | exact Drawn0.refl _ | apply Drawn0.step)⟩
 case round =>
  obtain ⟨i, A2, c2, rfl, rfl, hA, ⟨nd, rfl⟩⟩ := hrel
  have hxl := weights_lt r h0 hh0l i
  obtain ⟨x, hx⟩ : ∃ x, weights i h0 r = x := ⟨_, rfl⟩
  rw [hx] at hxl ⊢
  have hxA := Aside0.mk hx
  have hlen : (r.drop (8 * i)).length = r.length - 8 * i := by rw [List.length_drop]
  have hb1 : Bytes (r.drop (8 * i)) := hrb.drop _
  have hrl2 := hrlA.out
  by_cases hin : i < r.length / 8
  ·
   have h8 : 8 ≤ (r.drop (8 * i)).length := by omega
   have hd : decide (((r.drop (8 * i)).length : Int) ≥ 8) = true := decide_eq_true (by omega)
   obtain ⟨k1, rfl⟩ : ∃ k1, gk = k1 + 1 := ⟨gk - 1, by have := hA.out; omega⟩
   generalize hll : r.drop (8 * i) = l1 at *
   obtain ⟨y, wy, z, t, z1, z2, e1, e2, e3, e4, e5, e6, e7, e8, e9⟩ := weight_step x l1 hxl hb1
   have e1A := Aside0.mk e1
   have e3A := Aside0.mk e3
   have e6A := Aside0.mk e6
   have e9A := Aside0.mk e9
   have h8A := Aside0.mk h8
   have hxlA := Aside0.mk hxl
   obtain ⟨i0, hi0, _, hsz, _⟩ := info_parts winfo8
   have hcut := cut_from (P := Try.prog) 39 5 .i64 Try.underlying39 hi0 1 hsz A2 l1.length c2 8 (by omega) (by omega)
   have hC4 := Kd.C_drop (m := 8) (c := c2) hA.out.1 h8A.out hA.out.2.1
   obtain ⟨A4, hA4⟩ : ∃ A4, A4 = (if c2 = 8 then A2 else A2.map (·.add (8 * 1))) := ⟨_, rfl⟩
   rw [show ((8 : Int).toNat) = 8 from rfl, ← hA4] at hcut
   have hC4 := Aside0.mk (show Kd.C (Kd.int .u8) w3 A4 (l1.drop 8).length (l1.drop 8) by rw [hA4]; exact hC4)
   have hllA := Aside0.mk hll
   clear hA4 hlen h8 e1 e3 e6 e9 hx hxl hll hrl2
   go_wp2_with (fail)
   refine (num_calls _ A2 c2 l1.length l1 l1.length 8 8 rfl rfl (Kd.C_drewN hA.out.1 _) hA.out.2.1 hb1 (by decide) h8A.out).mono ?_
   rw [e1A.out]
   rintro e w4 ⟨rfl, ⟨n2, rfl⟩⟩
   go_wp2_with (fail)
   refine (win_calls _ 0 y 0 _ rfl rfl (by decide) e2).mono ?_
   rw [e3A.out]
   rintro e w4 ⟨rfl, ⟨n3, rfl⟩⟩
   go_wp2_with (fail)
   refine (rot64 _ z 27 _ 27 rfl rfl e5 (by decide) (by decide)).mono ?_
   rw [e6A.out]
   rintro e w4 ⟨rfl, ⟨n4, rfl⟩⟩
   go_wp2
   go_roundg k1
   case measure => omega
   case rel =>
    have e : r.drop (8 * (i + 1)) = l1.drop 8 := by rw [← hllA.out, List.drop_drop]; congr 1
    refine ⟨i + 1, A4, c2 - 8, ?_, ?_, ?_, ?_⟩
    ·
     rw [weights_succ, hxA.out, hllA.out, e9A.out]
    ·
     rw [e, List.length_drop]
    ·
     rw [e]
     exact ⟨hC4.out, by rw [List.length_drop]; have := hA.out.2.1; omega, by have := hA.out; omega⟩
    ·
     repeat (first | exact Drawn0.refl _ | apply Drawn0.step)
  ·
   have hie : i = r.length / 8 := by have := hA.out; omega
   have hd : decide (((r.drop (8 * i)).length : Int) ≥ 8) = false := decide_eq_false (by omega)
   have hsum2 : Aside0 (wsum s a = wfin (wlast x (r.drop (8 * i)))) := ⟨by rw [hsum.out, wtail, ← hie, hx]⟩
   have hl8 : (r.drop (8 * i)).length < 8 := by omega
   generalize hll : r.drop (8 * i) = l1 at *
   clear hx hlen hll hsum hxA hie
   have hl8A := Aside0.mk hl8
   have hxlA := Aside0.mk hxl
   clear hl8 hrl2
   by_cases h4 : 4 ≤ l1.length
   ·
    have hd4 : decide ((l1.length : Int) ≥ 4) = true := decide_eq_true (by omega)
    obtain ⟨y, q4, z, t, z1, z2, e1, e2, e3, e4, e5, e6, e7, e8⟩ := wfour_step x l1 hxl hb1
    have hz2 : z2 < 18446744073709551616 := by rw [← e8]; exact wfour_lt _ _
    have hsum3 : Aside0 (wsum s a = wfin (wbytes z2 (l1.drop 4))) := ⟨by rw [hsum2.out, wlast, if_neg (by omega), e8]⟩
    have e1A := Aside0.mk e1
    have e5A := Aside0.mk e5
    have h4A := Aside0.mk h4
    obtain ⟨i0, hi0, _, hsz, _⟩ := info_parts winfo8
    have hcut := cut_from (P := Try.prog) 39 5 .i64 Try.underlying39 hi0 1 hsz A2 l1.length c2 4 (by omega) (by omega)
    have hC4 := Kd.C_drop (m := 4) (c := c2) hA.out.1 h4A.out hA.out.2.1
    obtain ⟨A4, hA4⟩ : ∃ A4, A4 = (if c2 = 4 then A2 else A2.map (·.add (4 * 1))) := ⟨_, rfl⟩
    rw [show ((4 : Int).toNat) = 4 from rfl, ← hA4] at hcut
    have hC4 := Aside0.mk (show Kd.C (Kd.int .u8) w3 A4 (l1.drop 4).length (l1.drop 4) by rw [hA4]; exact hC4)
    have hll4 : (l1.drop 4).length = l1.length - 4 := List.length_drop
    have hb4 : Bytes (l1.drop 4) := hb1.drop 4
    have hl44 : (l1.drop 4).length < 4 := by have := hl8A.out; omega
    have hl44A := Aside0.mk hl44
    have hll4A := Aside0.mk hll4
    clear hA4 h4 e1 e5 e8 hxl hll4 hl44 hsum2
    go_wp2_with (fail)
    refine (num_calls _ A2 c2 l1.length l1 l1.length 4 4 rfl rfl (Kd.C_drewN hA.out.1 _) hA.out.2.1 hb1 (by decide) h4A.out).mono ?_
    rw [e1A.out]
    rintro e w4 ⟨rfl, ⟨n2, rfl⟩⟩
    go_wp2_with (fail)
    refine (rot64 _ z 23 _ 23 rfl rfl e4 (by decide) (by decide)).mono ?_
    rw [e5A.out]
    rintro e w4 ⟨rfl, ⟨n4, rfl⟩⟩
    go_wp2_with (fail)
    rw [← hll4A.out]
    generalize hl2 : l1.drop 4 = l2 at *
    go_loopg [3, 46] l2.length (fun kq v3 v46 w' => ∃ (j : Nat), v3 = .int .u64 ((wbytes z2 (l2.take j) : Nat) : Int) ∧ v46 = .int .i64 j ∧ Aside0 (j + kq = l2.length) ∧ Drawn0 w3 w')
    case atStart => exact ⟨0, rfl, rfl, ⟨by omega⟩, by repeat (first | exact Drawn0.refl _ | apply Drawn0.step)⟩
    case round =>
     obtain ⟨j, rfl, rfl, hj, ⟨nd3, rfl⟩⟩ := hrel
     have hul := wbytes_lt z2 hz2 (l2.take j)
     obtain ⟨u, hu⟩ : ∃ u, wbytes z2 (l2.take j) = u := ⟨_, rfl⟩
     rw [hu] at hul ⊢
     have huA := Aside0.mk hu
     by_cases hjn : j < l2.length
     ·
      have hd2 : decide ((j : Int) < (l2.length : Int)) = true := decide_eq_true (by omega)
      obtain ⟨k1, rfl⟩ : ∃ k1, gk = k1 + 1 := ⟨gk - 1, by have := hj.out; omega⟩
      obtain ⟨ad, e0, hq⟩ := Kd.at_int (Kd.C_drewN hC4.out nd3) (j : Int) (by omega) (by omega)
      cases e0
      simp only [Int.toNat_natCast] at hq
      rw [rd_at l2 j hjn] at hq
      have hyb := hb4 l2[j] (List.getElem_mem hjn)
      have hnext := wbytes_take l2 z2 j hjn
      rw [hu] at hnext
      obtain ⟨y5, hy⟩ : ∃ y, l2[j]'hjn = y := ⟨_, rfl⟩
      rw [hy] at hq hyb hnext
      obtain ⟨b5, rfl⟩ := Int.eq_ofNat_of_zero_le hyb.1
      obtain ⟨q5, z5, t5, z6, g1, g2, g3, g4, g5, g6⟩ := wbyte_step u b5 hul
      rw [g6] at hnext
      have fb5 : IntKind.u64.wrap (b5 : Int) = (b5 : Int) := wu64 (by omega) (by omega)
      have p0 : ((0 : Int) ≤ (j : Int)) = True := eq_true (by omega)
      have q0 : ((j : Int) < (l2.length : Int)) = True := eq_true (by omega)
      have g4A := Aside0.mk g4
      have hnA := Aside0.mk hnext
      have hw1 : wrap64 ((j : Int) + 1) = (j : Int) + 1 := w64 (by omega) (by have := hl44A.out; omega)
      clear hnext g4 g6 hy hyb hu hul
      go_wp2_with (fail)
      refine (rot64 _ z5 11 _ 11 rfl rfl g3 (by decide) (by decide)).mono ?_
      rw [g4A.out]
      rintro e w4 ⟨rfl, ⟨n3, rfl⟩⟩
      go_wp2
      have hw1A := Aside0.mk hw1
      clear g1 g2 g3 g5 fb5 hw1 p0 q0 hq
      go_roundg k1
      case measure => omega
      case rel => exact ⟨j + 1, by rw [hnA.out], by simp; exact hw1A.out, ⟨by have := hj.out; omega⟩, by repeat (first | exact Drawn0.refl _ | apply Drawn0.step)⟩
     ·
      have hje : j = l2.length := by have := hj.out; omega
      have hd2 : decide ((j : Int) < (l2.length : Int)) = false := decide_eq_false (by omega)
      rw [hje, List.take_length] at hu
      obtain ⟨a1, b1, c3, a2, b2, c4, a3, b3, e1, e2, e3, e4, e5, e6, e7, e8, e9⟩ := wfin_step u hul
      have hfin : Aside0 (wsum s a = b3) := ⟨by rw [hsum3.out, hu, e9]⟩
      clear hu e9
      go_wp2
      go_ret
      refine ⟨?_, pw_below_drewN hB3.out _⟩
      rw [hfin.out]
      rfl
   ·
    have hd4 : decide ((l1.length : Int) ≥ 4) = false := decide_eq_false (by omega)
    have hsum3 : Aside0 (wsum s a = wfin (wbytes x l1)) := ⟨by rw [hsum2.out, wlast, if_pos (by omega)]⟩
    have hl44A := Aside0.mk (show l1.length < 4 by omega)
    clear h4 hsum2
    go_wp2_with (fail)
    go_loopg [3, 46] l1.length (fun kq v3 v46 w' => ∃ (j : Nat), v3 = .int .u64 ((wbytes x (l1.take j) : Nat) : Int) ∧ v46 = .int .i64 j ∧ Aside0 (j + kq = l1.length) ∧ Drawn0 w3 w')
    case atStart => exact ⟨0, rfl, rfl, ⟨by omega⟩, by repeat (first | exact Drawn0.refl _ | apply Drawn0.step)⟩
    case round =>
     obtain ⟨j, rfl, rfl, hj, ⟨nd3, rfl⟩⟩ := hrel
     have hul := wbytes_lt x hxlA.out (l1.take j)
     obtain ⟨u, hu⟩ : ∃ u, wbytes x (l1.take j) = u := ⟨_, rfl⟩
     rw [hu] at hul ⊢
     have huA := Aside0.mk hu
     by_cases hjn : j < l1.length
     ·
      have hd2 : decide ((j : Int) < (l1.length : Int)) = true := decide_eq_true (by omega)
      obtain ⟨k1, rfl⟩ : ∃ k1, gk = k1 + 1 := ⟨gk - 1, by have := hj.out; omega⟩
      obtain ⟨ad, e0, hq⟩ := Kd.at_int (Kd.C_drewN hA.out.1 nd3) (j : Int) (by omega) (by omega)
      cases e0
      simp only [Int.toNat_natCast] at hq
      rw [rd_at l1 j hjn] at hq
      have hyb := hb1 l1[j] (List.getElem_mem hjn)
      have hnext := wbytes_take l1 x j hjn
      rw [hu] at hnext
      obtain ⟨y5, hy⟩ : ∃ y, l1[j]'hjn = y := ⟨_, rfl⟩
      rw [hy] at hq hyb hnext
      obtain ⟨b5, rfl⟩ := Int.eq_ofNat_of_zero_le hyb.1
      obtain ⟨q5, z5, t5, z6, g1, g2, g3, g4, g5, g6⟩ := wbyte_step u b5 hul
      rw [g6] at hnext
      have fb5 : IntKind.u64.wrap (b5 : Int) = (b5 : Int) := wu64 (by omega) (by omega)
      have p0 : ((0 : Int) ≤ (j : Int)) = True := eq_true (by omega)
      have q0 : ((j : Int) < (l1.length : Int)) = True := eq_true (by omega)
      have g4A := Aside0.mk g4
      have hnA := Aside0.mk hnext
      have hw1 : wrap64 ((j : Int) + 1) = (j : Int) + 1 := w64 (by omega) (by have := hl44A.out; omega)
      clear hnext g4 g6 hy hyb hu hul
      go_wp2_with (fail)
      refine (rot64 _ z5 11 _ 11 rfl rfl g3 (by decide) (by decide)).mono ?_
      rw [g4A.out]
      rintro e w4 ⟨rfl, ⟨n3, rfl⟩⟩
      go_wp2
      have hw1A := Aside0.mk hw1
      clear g1 g2 g3 g5 fb5 hw1 p0 q0 hq
      go_roundg k1
      case measure => omega
      case rel => exact ⟨j + 1, by rw [hnA.out], by simp; exact hw1A.out, ⟨by have := hj.out; omega⟩, by repeat (first | exact Drawn0.refl _ | apply Drawn0.step)⟩
     ·
      have hje : j = l1.length := by have := hj.out; omega
      have hd2 : decide ((j : Int) < (l1.length : Int)) = false := decide_eq_false (by omega)
      rw [hje, List.take_length] at hu
      obtain ⟨a1, b1, c3, a2, b2, c4, a3, b3, e1, e2, e3, e4, e5, e6, e7, e8, e9⟩ := wfin_step u hul
      have hfin : Aside0 (wsum s a = b3) := ⟨by rw [hsum3.out, hu, e9]⟩
      clear hu e9
      go_wp2
      go_ret
      refine ⟨?_, pw_below_drewN hB3.out _⟩
      rw [hfin.out]
      rfl
end Go.Proofs.Ytekanmieppnpeaa.G
namespace Go.Proofs.Ytekanmieppnpeaa.G
open Go Go.RowKit Go.Proofs.YtekanmieppnpeaaW.PrintWords Go.Proofs.YtekanmieppnpeaaW.PrintLast Go.Proofs.YtekanmieppnpeaaW.PrintMore Go.Proofs.Ytekanmieppnpeaa.PureKit Go.Proofs.Ytekanmieppnpeaa.Sep Go.Proofs.Ytekanmieppnpeaa.Rol
def wbytesOK (l : List Int) : Bool := l.all (fun x => decide (0 ≤ x ∧ x ≤ 255))
theorem wbytesOK_iff (l : List Int) : wbytesOK l = true ↔ Bytes l := by
 unfold wbytesOK Bytes
 rw [List.all_eq_true]
 exact ⟨fun h x hx => of_decide_eq_true (h x hx), fun h x hx => decide_eq_true (h x hx)⟩
def wide_Sum.f (a0 : Int) (l1 : List Int) : Option Int := if 0 ≤ a0 ∧ a0 < 18446744073709551616 ∧ wbytesOK l1 = true ∧ l1.length ≤ 1000000000000 then some ((wsum a0.toNat l1 : Nat) : Int) else none
theorem wide_Sum_calls (w : World) (A : Option Addr) (c : Nat) (l : List Int) (s : Nat) (a : Int) (ha : a = (s : Int)) (hC : Kd.C (Kd.int .u8) w A l.length l) (hc : l.length ≤ c) (hb : Bytes l) (hs : s < 18446744073709551616) (hl : l.length ≤ 1000000000000) :
  Calls Try.prog 54 #[.int .u64 a, .slice A l.length c] w fun e w' => e = .returned (.int .u64 ((wsum s l : Nat) : Int)) ∧ Below w.heap.size w w' := by
 subst ha
 have hCA := Aside0.mk hC
 have hcA := Aside0.mk hc
 have hlA := Aside0.mk hl
 clear hC hc hl
 go_enter Try.func54, Try.ntmps54
 go_wp2_with (fail)
 refine (wide_new w _ [] s _ rfl (Sep.start w) hs).mono ?_
 rintro e w1 ⟨g, rfl, hS1⟩
 have hS1 := Aside0.mk hS1
 go_wp2_with (fail)
 refine (wide_write w _ g s [] l [] A c l.length rfl hS1.out (fun w' h _ => Kd.C_below hCA.out h.1) hcA.out Bytes.nil hb hs (by simp) hlA.out).mono ?_
 rintro e w2 ⟨rfl, hS2⟩
 have hS2 := Aside0.mk hS2
 go_wp2_with (fail)
 refine (wide_sum w _ g s _ [] hS2.out hb hs hlA.out).mono ?_
 rintro e w3 ⟨rfl, hB3⟩
 have hS3 := Aside0.mk (hS2.out.below hB3)
 clear hB3
 go_wp2_with (fail)
 go_ret
 exact ⟨rfl, hS3.out.1⟩
theorem wide_Sum.calls (a0 : Int) (A1 : Option Addr) (c1 : Nat) (l1 : List Int) (r : Int) (w : World) (hr1 : Kd.C (Kd.int .u8) w A1 l1.length l1) (hc1 : l1.length ≤ c1) (h : wide_Sum.f a0 l1 = some r) :
  Calls Try.prog 54 #[.int .u64 a0, .slice A1 l1.length c1] w fun e w' => e = .returned (.int .u64 r) ∧ Below w.heap.size w w' := by
 unfold wide_Sum.f at h
 split at h
 ·
  rename_i hh
  cases h
  exact wide_Sum_calls w A1 c1 l1 a0.toNat a0 (by omega) hr1 hc1 ((wbytesOK_iff l1).1 hh.2.2.1) (by omega) hh.2.2.2
 ·
  cases h
end Go.Proofs.Ytekanmieppnpeaa.G
end
section
namespace Go.Proofs.Ytekanmieppnpeaa.G
open Go Go.RowKit Go.Proofs.YtekanmieppnpeaaW.PrintWords Go.Proofs.YtekanmieppnpeaaW.PrintLast Go.Proofs.YtekanmieppnpeaaW.PrintMore Go.Proofs.Ytekanmieppnpeaa.PureKit Go.Proofs.Ytekanmieppnpeaa.Rol
theorem leb_cons_drop (l : List Int) (i : Nat) (h : i < l.length) : leb (l.drop i) = (l[i]).toNat + 256 * leb (l.drop (i + 1)) := by
 rw [List.drop_eq_getElem_cons h]
 rfl
theorem value_l0 (l : List Int) (hb : Bytes l) (hl : l.length ≤ 8) : ∀ (i : Nat), i ≤ l.length → Ev (fun k => fascicleref01_Value.l0 k (strOfNums l) ((leb (l.drop i) : Nat) : Int) ((i : Int) - 1)) ((leb l : Nat) : Int) := by
 intro i
 induction i with
 | zero =>
  intro _
  refine Ev.step (f := fun _ => some ((leb l : Nat) : Int)) (fun k => ?_) (Ev.now _)
  simp only [fascicleref01_Value.l0]
  rw [if_neg (by omega), List.drop_zero]
 | succ i ih =>
  intro hi
  refine Ev.step (fun k => ?_) (ih (by omega))
  have hlt := leb_lt (l.drop (i + 1)) (hb.drop _)
  rw [List.length_drop] at hlt
  have hp : (256 : Nat) ^ (l.length - (i + 1)) ≤ 256 ^ 7 := Nat.pow_le_pow_right (by omega) (by omega)
  have hby := hb l[i] (List.getElem_mem (by omega))
  have hbt := bt_nums l hb i (by omega)
  rw [leb_cons_drop l i (by omega)]
  simp only [fascicleref01_Value.l0]
  rw [show ((i + 1 : Nat) : Int) - 1 = (i : Int) by omega, if_pos (by omega), if_pos (by omega), if_pos (by rw [nums_size]; omega), hbt]
  generalize leb (l.drop (i + 1)) = y at *
  generalize l[i] = b at *
  have hy : y < 72057594037927936 := Nat.lt_of_lt_of_le hlt hp
  rw [wu64 (x := b) (by omega) (by omega), wu64 (x := (y : Int) * 256) (by omega) (by omega), wu64 (by omega) (by omega), w64 (by omega) (by omega)]
  congr 1
  omega
theorem value_calls (w : World) (l : List Int) (s : ByteArray) (hs : s = strOfNums l) (hb : Bytes l) (hl : l.length ≤ 8) :
  Calls Try.prog 56 #[.string s] w fun e w' => e = .returned (.int .u64 ((leb l : Nat) : Int)) ∧ Drawn0 w w' := by
 subst hs
 have h := value_l0 l hb hl l.length (Nat.le_refl _)
 rw [List.drop_length] at h
 obtain ⟨k, hk⟩ := h.rounds
 refine fascicleref01_Value.calls k _ _ w ?_
 unfold fascicleref01_Value.f
 rw [nums_size, w64 (by omega) (by omega)]
 exact hk
end Go.Proofs.Ytekanmieppnpeaa.G
end
section
namespace Go.Proofs.Ytekanmieppnpeaa.Sep
open Go Go.RowKit Go.Proofs.YtekanmieppnpeaaW.PrintWords Go.Proofs.YtekanmieppnpeaaW.PrintLast Go.Proofs.YtekanmieppnpeaaW.PrintMore Go.Proofs.Ytekanmieppnpeaa.PureKit
def sby (s : ByteArray) : List Int := s.data.toList.map fun b => (b.toNat : Int)
theorem sby_len (s : ByteArray) : (sby s).length = s.size := by
 unfold sby
 rw [List.length_map, Array.length_toList]
 rfl
theorem sby_bytes (s : ByteArray) : Bytes (sby s) := by
 intro x hx
 obtain ⟨b, _, rfl⟩ := List.mem_map.1 hx
 have := b.toNat_lt
 omega
theorem nums_sby (s : ByteArray) : strOfNums (sby s) = s := by
 apply ext_bytes
 rw [nums_bytes, sby, List.map_map]
 conv => rhs; rw [← List.map_id s.data.toList]
 apply List.map_congr_left
 intro b _
 simp
theorem sby_nums (l : List Int) (h : Bytes l) : sby (strOfNums l) = l := by
 unfold sby
 rw [nums_bytes, List.map_map]
 conv => rhs; rw [← List.map_id l]
 apply List.map_congr_left
 intro x hx
 have := h x hx
 simp only [Function.comp, id, UInt8.toNat_ofNat']
 omega
end Go.Proofs.Ytekanmieppnpeaa.Sep
end
section
namespace Go.Proofs.Ytekanmieppnpeaa.G
open Go Go.RowKit Go.Proofs.YtekanmieppnpeaaW.PrintWords Go.Proofs.YtekanmieppnpeaaW.PrintLast Go.Proofs.YtekanmieppnpeaaW.PrintMore Go.Proofs.Ytekanmieppnpeaa.PureKit Go.Proofs.Ytekanmieppnpeaa.Sep Go.Proofs.Ytekanmieppnpeaa.Rol
theorem turn4_step (y : Nat) (hy : y < 18446744073709551616) : IntKind.u64.wrap (IntKind.u64.wrap (2 * (y : Int)) + Int.tdiv (y : Int) 9223372036854775808) = ((2 * y % 18446744073709551616 + y / 9223372036854775808 : Nat) : Int) := by
 rw [Int.tdiv_eq_ediv_of_nonneg (by omega), IntKind.wrap_u64, IntKind.wrap_u64]
 omega
theorem turn4_l0 (x n : Nat) (hx : x < 18446744073709551616) (hn : n ≤ 64) : ∀ (d i : Nat), i + d = n → Ev (fun k => fascicleref04_turn.l0 k ((rol 64 i x : Nat) : Int) (n : Int) (i : Int)) ((rol 64 n x : Nat) : Int) := by
 intro d
 induction d with
 | zero =>
  intro i hi
  refine Ev.step (f := fun _ => some ((rol 64 n x : Nat) : Int)) (fun k => ?_) (Ev.now _)
  simp only [fascicleref04_turn.l0]
  rw [if_neg (by omega), show i = n by omega]
 | succ d ih =>
  intro i hi
  refine Ev.step (fun k => ?_) (ih (i + 1) (by omega))
  have hl := rol64_lt i x (by omega) hx
  simp only [fascicleref04_turn.l0]
  rw [if_pos (by omega)]
  have e := rol_succ 64 i x (by omega) hx
  have e2 : rol 64 (i + 1) x = 2 * rol 64 i x % 18446744073709551616 + rol 64 i x / 9223372036854775808 := e
  rw [e2]
  generalize rol 64 i x = y at *
  rw [w64 (by omega) (by omega)]
  have hd : IntKind.u64.wrap (Int.tdiv (y : Int) 9223372036854775808) = Int.tdiv (y : Int) 9223372036854775808 := by rw [Int.tdiv_eq_ediv_of_nonneg (by omega)]; exact wu64 (by omega) (by omega)
  first | rw [hd, turn4_step y hl] | rw [turn4_step y hl]
  rfl
theorem turn4_ev (x n : Nat) (hx : x < 18446744073709551616) (hn : n ≤ 64) : Ev (fun k => fascicleref04_turn.f k (x : Int) (n : Int)) ((rol 64 n x : Nat) : Int) := by
 have := turn4_l0 x n hx hn n 0 (by omega)
 rw [rol_zero 64 x hx] at this
 exact this
theorem turn4_calls (w : World) (x n : Nat) (a b : Int) (ha : a = (x : Int)) (hb : b = (n : Int)) (hx : x < 18446744073709551616) (hn : n ≤ 64) :
  Calls Try.prog 119 #[.int .u64 a, .int .i64 b] w fun e w' => e = .returned (.int .u64 ((rol 64 n x : Nat) : Int)) ∧ Drawn0 w w' := by
 subst ha
 subst hb
 obtain ⟨k, hk⟩ := (turn4_ev x n hx hn).rounds
 exact fascicleref04_turn.calls k _ _ _ w hk
theorem into4_ev (x y : Nat) (hx : x < 18446744073709551616) (hy : y < 18446744073709551616) : Ev (fun k => fascicleref04_into.f k (x : Int) (y : Int)) ((win x y : Nat) : Int) := by
 have h := turn4_ev ((x + y * 14029467366897019727) % 18446744073709551616) 31 (mod_lt64 _) (by decide)
 have h3 : Ev (fun k => (fascicleref04_turn.f k (((x + y * 14029467366897019727) % 18446744073709551616 : Nat) : Int) ((31 : Nat) : Int)).bind (fun t => some (IntKind.u64.wrap (t * 11400714785074694791)))) (IntKind.u64.wrap (((rol 64 31 ((x + y * 14029467366897019727) % 18446744073709551616) : Nat) : Int) * 11400714785074694791)) :=
  Ev.bind h (f := fun _ t => some (IntKind.u64.wrap (t * 11400714785074694791))) (Ev.now _)
 refine Ev.congr (fun k => ?_) (Ev.eq h3 (mul_step (rol 64 31 ((x + y * 14029467366897019727) % 18446744073709551616)) 11400714785074694791))
 unfold fascicleref04_into.f
 rw [win_step]
 rfl
theorem into4_calls (w : World) (x y : Nat) (a b : Int) (ha : a = (x : Int)) (hb : b = (y : Int)) (hx : x < 18446744073709551616) (hy : y < 18446744073709551616) :
  Calls Try.prog 118 #[.int .u64 a, .int .u64 b] w fun e w' => e = .returned (.int .u64 ((win x y : Nat) : Int)) ∧ Drawn0 w w' := by
 subst ha
 subst hb
 obtain ⟨k, hk⟩ := (into4_ev x y hx hy).rounds
 exact fascicleref04_into.calls k _ _ _ w hk
end Go.Proofs.Ytekanmieppnpeaa.G
end
section
namespace Go.Proofs.Ytekanmieppnpeaa.G
open Go Go.RowKit Go.Proofs.YtekanmieppnpeaaW.PrintWords Go.Proofs.YtekanmieppnpeaaW.PrintLast Go.Proofs.YtekanmieppnpeaaW.PrintMore Go.Proofs.Ytekanmieppnpeaa.PureKit Go.Proofs.Ytekanmieppnpeaa.Sep Go.Proofs.Ytekanmieppnpeaa.Rol
def wvals (vs : List Nat) : Array Value := (nat64 vs).toArray
theorem wvals_at (vs : List Nat) (j x : Nat) (h : vs[j]? = some x) : (wvals vs)[j]? = some (.int .u64 (x : Int)) := by
 unfold wvals nat64
 rw [List.getElem?_toArray, List.getElem?_map, h]
 rfl
theorem wvals_set (us : List Nat) (j x : Nat) : (wvals us).setIfInBounds j (.int .u64 (x : Int)) = wvals (us.set j x) := by
 unfold wvals nat64
 rw [List.setIfInBounds_toArray, List.map_set]
theorem sum_turns (x0 x1 x2 x3 : Nat) (h0 : x0 < 18446744073709551616) (h1 : x1 < 18446744073709551616) (h2 : x2 < 18446744073709551616) (h3 : x3 < 18446744073709551616) : ∃ y0 y1 y2 y3 a1 a2 a3 : Nat, rol 64 1 x0 = y0 ∧ rol 64 7 x1 = y1 ∧ rol 64 12 x2 = y2 ∧ rol 64 18 x3 = y3 ∧
  IntKind.u64.wrap ((y0 : Int) + (y1 : Int)) = (a1 : Int) ∧ IntKind.u64.wrap ((a1 : Int) + (y2 : Int)) = (a2 : Int) ∧ IntKind.u64.wrap ((a2 : Int) + (y3 : Int)) = (a3 : Int) ∧ a3 < 18446744073709551616 ∧ wout [x0, x1, x2, x3] = [x0, x1, x2, x3].foldl wmerge a3 := by
 refine ⟨_, _, _, _, _, _, _, rfl, rfl, rfl, rfl, add_step _ _, add_step _ _, add_step _ _, mod_lt64 _, ?_⟩
 unfold wout
 rw [show ([x0, x1, x2, x3] : List Nat).getD 0 0 = x0 from rfl, show ([x0, x1, x2, x3] : List Nat).getD 1 0 = x1 from rfl, show ([x0, x1, x2, x3] : List Nat).getD 2 0 = x2 from rfl, show ([x0, x1, x2, x3] : List Nat).getD 3 0 = x3 from rfl]
 generalize rol 64 1 x0 = p0
 generalize rol 64 7 x1 = p1
 generalize rol 64 12 x2 = p2
 generalize rol 64 18 x3 = p3
 exact congrArg (fun z => [x0, x1, x2, x3].foldl wmerge z) (by omega)
theorem begin_walk (w : World) (l : List Int) (s : Nat) (hb : Bytes l) (hl : l.length ≤ 1000000000000) (hs : s < 18446744073709551616) :
  Calls Try.prog 117 #[.int .u64 (s : Int), .string (strOfNums l)] w fun e w' => e = .returned (.tuple #[.int .u64 ((wout (wvs s l) : Nat) : Int), .string (strOfNums (wrest l))]) ∧ Below w.heap.size w w' := by
 have hsz : (strOfNums l).size = l.length := nums_size l
 obtain ⟨q1, hq1⟩ : ∃ q : Nat, (s + 11400714785074694791) % 18446744073709551616 = q := ⟨_, rfl⟩
 have fq1 : IntKind.u64.wrap ((s : Int) + 11400714785074694791) = (q1 : Int) := by rw [IntKind.wrap_u64]; omega
 obtain ⟨q2, hq2⟩ : ∃ q : Nat, (q1 + 14029467366897019727) % 18446744073709551616 = q := ⟨_, rfl⟩
 have fq2 : IntKind.u64.wrap ((q1 : Int) + 14029467366897019727) = (q2 : Int) := by rw [IntKind.wrap_u64]; omega
 obtain ⟨q3, hq3⟩ : ∃ q : Nat, (s + 14029467366897019727) % 18446744073709551616 = q := ⟨_, rfl⟩
 have fq3 : IntKind.u64.wrap ((s : Int) + 14029467366897019727) = (q3 : Int) := by rw [IntKind.wrap_u64]; omega
 obtain ⟨q4, hq4⟩ : ∃ q : Nat, (s + 18446744073709551616 - 11400714785074694791) % 18446744073709551616 = q := ⟨_, rfl⟩
 have fq4 : IntKind.u64.wrap ((s : Int) - 11400714785074694791) = (q4 : Int) := by rw [IntKind.wrap_u64]; omega
 have hv : winit s = [q2, q3, s, q4] := wnew_q s q1 q2 q3 q4 hq1 hq2 hq3 hq4
 have hS := Aside0.mk (Sep.start w)
 have hvA := Aside0.mk hv
 have hwi : Small8 [q2, q3, s, q4] := by rw [← hv]; exact winit_small s hs
 have hlA := Aside0.mk hl
 clear hq1 hq2 hq3 hq4 hv
 go_enter Try.func117, Try.ntmps117
 go_wp2_with (fail)
 have hS1 : Aside0 (Sep.Sep w (w.alloc (.cells #[.int .u64 (q2 : Int), .int .u64 (q3 : Int), .int .u64 (s : Int), .int .u64 (q4 : Int)] 179 (0, 0))) [blk w.heap.size (wvals [q2, q3, s, q4]) 179]) := ⟨hS.out.alloc _ _⟩
 generalize w.alloc (.cells #[.int .u64 (q2 : Int), .int .u64 (q3 : Int), .int .u64 (s : Int), .int .u64 (q4 : Int)] 179 (0, 0)) = w1 at hS1 ⊢
 clear fq1 fq2 fq3 fq4
 generalize hvv : [q2, q3, s, q4] = v0 at *
 clear hvv
 go_loopg [1] (l.length / 32) (fun kq v1 w' => ∃ (i : Nat), v1 = .string (strOfNums (l.drop (32 * i))) ∧ Aside0 (i + kq = l.length / 32) ∧ Aside0 (Sep.Sep w w' [blk w.heap.size (wvals (wstripes i v0 l)) 179]))
 case atStart => exact ⟨0, by rw [Nat.mul_zero, List.drop_zero], ⟨by omega⟩, hS1⟩
 case round =>
  obtain ⟨i, rfl, hA, hS⟩ := hrel
  have hv0l : v0.length = 4 := by rw [← hvA.out]; rfl
  by_cases hin : i < l.length / 32
  ·
   have hlen : (l.drop (32 * i)).length = l.length - 32 * i := by rw [List.length_drop]
   have h32 : 32 ≤ (l.drop (32 * i)).length := by omega
   have hb1 : Bytes (l.drop (32 * i)) := hb.drop _
   have hvs : Small8 (wstripes i v0 l) := wstripes_small _ _ hwi _
   have hvl : (wstripes i v0 l).length = 4 := by rw [wstripes_len, hv0l]
   have hd : decide (((l.drop (32 * i)).length : Int) ≥ 32) = true := decide_eq_true (by omega)
   obtain ⟨k1, rfl⟩ : ∃ k1, gk = k1 + 1 := ⟨gk - 1, by have := hA.out; omega⟩
   generalize hll : l.drop (32 * i) = l1 at *
   generalize hvv : wstripes i v0 l = vs at *
   have hl1l : l1.length ≤ 1000000000000 := by rw [hlen]; have := hlA.out; omega
   have hsz1 : (strOfNums l1).size = l1.length := nums_size l1
   have h32A := Aside0.mk h32
   have h32i : (32 : Int) ≤ (l1.length : Int) := by omega
   have hex32 : (strOfNums l1).extract 32 l1.length = strOfNums (l1.drop 32) := by rw [nums_extract, List.take_of_length_le (by omega)]
   clear hlen h32 hsz
   go_wp2_with (fail)
   go_loopg [29] 4 (fun kq v29 w' => ∃ (j : Nat), v29 = .int .i64 j ∧ Aside0 (j + kq = 4) ∧ Aside0 (Sep.Sep w w' [blk w.heap.size (wvals (wpart l1 vs j)) 179]))
   case atStart => exact ⟨0, rfl, ⟨by omega⟩, hS⟩
   case round =>
    obtain ⟨j, rfl, hj, hS2⟩ := hrel
    by_cases hjn : j < 4
    ·
     have hd2 : decide ((j : Int) < 4) = true := decide_eq_true (by omega)
     obtain ⟨k2, rfl⟩ : ∃ k2, gk = k2 + 1 := ⟨gk - 1, by have := hj.out; omega⟩
     have p0 : ((0 : Int) ≤ (j : Int)) = True := eq_true (by omega)
     have q0 : ((j : Int) < 4) = True := eq_true (by omega)
     have hul : (wpart l1 vs j).length = 4 := by rw [wpart_len, hvl]
     have hus : Small8 (wpart l1 vs j) := wpart_small _ _ hvs j
     obtain ⟨x, hx⟩ : ∃ x, (wpart l1 vs j).getD j 0 = x := ⟨_, rfl⟩
     have hxl : x < 18446744073709551616 := by rw [← hx]; exact hus.at j
     have hux : (wpart l1 vs j)[j]? = some x := by rw [← hx, List.getD_eq_getElem?_getD, List.getElem?_eq_getElem (by omega)]; rfl
     have hcell := wvals_at _ j x hux
     generalize hu : wpart l1 vs j = us at *
     have hxA := Aside0.mk hx
     have hulA := Aside0.mk hul
     clear hx hul hux
     obtain ⟨y, hy⟩ : ∃ y, leb ((l1.drop (8 * j)).take 8) = y := ⟨_, rfl⟩
     have hyl : y < 18446744073709551616 := by rw [← hy]; exact leb_lt4 _ ((hb1.drop _).take _) 8 (by rw [List.length_take]; omega)
     have hex : (strOfNums l1).extract (8 * j) (8 * j + 8) = strOfNums ((l1.drop (8 * j)).take 8) := by rw [nums_extract, List.drop_take]; congr 2; omega
     have hyA := Aside0.mk hy
     clear hy
     have b1 : (8 * (j : Int) + 8 ≤ (l1.length : Int)) = True := eq_true (by omega)
     have b2 : (0 ≤ 8 * (j : Int)) = True := eq_true (by omega)
     have b3 : (8 * (j : Int) ≤ 8 * (j : Int) + 8) = True := eq_true (by omega)
     have b4 : (8 * (j : Int) + 8).toNat = 8 * j + 8 := by omega
     have b5 : (8 * (j : Int)).toNat = 8 * j := by omega
     have hw4 : wrap64 (8 * (j : Int)) = 8 * (j : Int) := w64 (by omega) (by omega)
     have hw5 : wrap64 (8 * (j : Int) + 8) = 8 * (j : Int) + 8 := w64 (by omega) (by omega)
     go_wp2_with (fail)
     have hS3 := hS2.out.drew
     have hc0 : wr.drew.cell? ⟨w.heap.size, j, none⟩ = some (.int .u64 (x : Int)) := (hS3.cell j).trans hcell
     have hfr : wr.drew.frozen? ⟨w.heap.size, j, none⟩ = false := hS3.frozen j
     have hS3 := Aside0.mk hS3
     refine start_ (n := 15) (S := fun w' => w'.cell? ⟨w.heap.size, j, none⟩ = some (.int .u64 (x : Int))) (ds := [14]) #[false, false, false, false, false, false, false, false, false, false, false, false, false, false, false] (by kernel_rfl) rfl rfl (hc0) (fun hHeld => ?_)
     refine pure_ (i := 0) (N := some 32) (v := ?_) (a' := ?_) #[true, false, false, false, false, false, false, false, false, false, false, false, false, false, false] rfl rfl (by kernel_rfl) (fun _ _ _ h => h) (Or.inl ⟨by rfl, ?_⟩) ?_ ?_
     rotate_left
     ·
      intro w'
      go_simp
      with_reducible rfl
     rotate_left
     ·
      simp only [Act.put, List.setIfInBounds_toArray, List.set_cons_zero, List.set_cons_succ, i64_w, i32_w]
      rfl
     refine pure_ (i := 1) (N := some 33) (v := ?_) (a' := ?_) #[true, true, false, false, false, false, false, false, false, false, false, false, false, false, false] rfl rfl (by kernel_rfl) (fun _ _ _ h => h) (Or.inl ⟨by rfl, ?_⟩) ?_ ?_
     rotate_left
     ·
      intro w'
      go_simp
      with_reducible rfl
     rotate_left
     ·
      simp only [Act.put, List.setIfInBounds_toArray, List.set_cons_zero, List.set_cons_succ, i64_w, i32_w]
      rfl
     refine pure_ (i := 2) (N := some 34) (v := ?_) (a' := ?_) #[true, true, true, false, false, false, false, false, false, false, false, false, false, false, false] rfl rfl (by kernel_rfl) (fun _ _ _ h => h) (Or.inl ⟨by rfl, ?_⟩) ?_ ?_
     rotate_left
     ·
      intro w'
      go_simp
      with_reducible rfl
     rotate_left
     ·
      simp only [Act.put, List.setIfInBounds_toArray, List.set_cons_zero, List.set_cons_succ, i64_w, i32_w]
      rfl
     refine pure_ (i := 4) (N := some 36) (v := ?_) (a' := ?_) #[true, true, true, false, true, false, false, false, false, false, false, false, false, false, false] rfl rfl (by kernel_rfl) (fun _ _ _ h => h) (Or.inl ⟨by rfl, ?_⟩) ?_ ?_
     rotate_left
     ·
      intro w'
      go_simp
      with_reducible rfl
     rotate_left
     ·
      simp only [Act.put, List.setIfInBounds_toArray, List.set_cons_zero, List.set_cons_succ, i64_w, i32_w]
      rfl
     refine pure_ (i := 5) (N := some 37) (v := ?_) (a' := ?_) #[true, true, true, false, true, true, false, false, false, false, false, false, false, false, false] rfl rfl (by kernel_rfl) (fun _ _ _ h => h) (Or.inl ⟨by rfl, ?_⟩) ?_ ?_
     rotate_left
     ·
      intro w'
      go_simp
      with_reducible rfl
     rotate_left
     ·
      simp only [Act.put, List.setIfInBounds_toArray, List.set_cons_zero, List.set_cons_succ, i64_w, i32_w]
      rfl
     refine pure_ (i := 6) (N := some 38) (v := ?_) (a' := ?_) #[true, true, true, false, true, true, true, false, false, false, false, false, false, false, false] rfl rfl (by kernel_rfl) (fun _ _ _ h => h) (Or.inl ⟨by rfl, ?_⟩) ?_ ?_
     rotate_left
     ·
      intro w'
      go_simp
      with_reducible rfl
     rotate_left
     ·
      simp only [Act.put, List.setIfInBounds_toArray, List.set_cons_zero, List.set_cons_succ, i64_w, i32_w]
      rfl
     refine pure_ (i := 7) (N := some 39) (v := ?_) (a' := ?_) #[true, true, true, false, true, true, true, true, false, false, false, false, false, false, false] rfl rfl (by kernel_rfl) (fun _ _ _ h => h) (Or.inl ⟨by rfl, ?_⟩) ?_ ?_
     rotate_left
     ·
      intro w'
      go_simp
      with_reducible rfl
     rotate_left
     ·
      simp only [Act.put, List.setIfInBounds_toArray, List.set_cons_zero, List.set_cons_succ, i64_w, i32_w]
      rfl
     refine pure_ (i := 8) (N := some 40) (v := ?_) (a' := ?_) #[true, true, true, false, true, true, true, true, true, false, false, false, false, false, false] rfl rfl (by kernel_rfl) (fun _ _ _ h => h) (Or.inl ⟨by rfl, ?_⟩) ?_ ?_
     rotate_left
     ·
      intro w'
      go_simp
      with_reducible rfl
     rotate_left
     ·
      simp only [Act.put, List.setIfInBounds_toArray, List.set_cons_zero, List.set_cons_succ, i64_w, i32_w]
      rfl
     refine pure_ (i := 9) (N := some 41) (v := ?_) (a' := ?_) #[true, true, true, false, true, true, true, true, true, true, false, false, false, false, false] rfl rfl (by kernel_rfl) (fun _ _ _ h => h) (Or.inl ⟨by rfl, ?_⟩) ?_ ?_
     rotate_left
     ·
      intro w'
      go_simp
      with_reducible rfl
     rotate_left
     ·
      simp only [Act.put, List.setIfInBounds_toArray, List.set_cons_zero, List.set_cons_succ, i64_w, i32_w]
      rfl
     refine pure_ (i := 10) (N := some 42) (v := ?_) (a' := ?_) #[true, true, true, false, true, true, true, true, true, true, true, false, false, false, false] rfl rfl (by kernel_rfl) (fun _ _ _ h => h) (Or.inl ⟨by rfl, ?_⟩) ?_ ?_
     rotate_left
     ·
      intro w'
      go_simp
      with_reducible rfl
     rotate_left
     ·
      simp only [Act.put, List.setIfInBounds_toArray, List.set_cons_zero, List.set_cons_succ, i64_w, i32_w]
      rfl
     refine take_ (i := 3) (N := some 35) (v := ?_) (a' := ?_) #[true, true, true, true, true, true, true, true, true, true, true, false, false, false, false] rfl rfl (by kernel_rfl) (fun _ _ _ h => h) (Or.inl ⟨by rfl, ?_⟩) hHeld ?_ ?_
     rotate_left
     ·
      intro w' s0
      go_simp
      with_reducible rfl
     rotate_left
     ·
      simp only [Act.put, List.setIfInBounds_toArray, List.set_cons_zero, List.set_cons_succ, i64_w, i32_w]
      rfl
     refine one_ (i := 11) (N := some 43) #[true, true, true, true, true, true, true, true, true, true, true, true, false, false, false] rfl rfl (by kernel_rfl) (by decide) (fun K hK => ?_)
     refine goes_ Try.func56 (by kernel_rfl) rfl #[.string (strOfNums ((l1.drop (8 * j)).take 8))] (by rfl) rfl rfl (by (try simp only [List.map_toArray, List.map_cons, List.map_nil]); first | done | rfl) ?_
     have hv := value_calls wr.drew ((l1.drop (8 * j)).take 8) _ rfl ((hb1.drop _).take _) (by rw [List.length_take]; omega)
     rw [hyA.out] at hv
     refine hv.mono ?_
     clear hv
     rintro e w3 ⟨rfl, ⟨nd, rfl⟩⟩
     refine ⟨_, rfl, ?_⟩
     have hS4 := Aside0.mk (hS3.out.drewN nd)
     have hc4 := (hS4.out.cell j).trans hcell
     refine hK.out _ _ (hc4) (fun hHeld => ?_)
     clear hK K
     refine norm_ (a' := ?_) ?_ ?_
     rotate_left
     ·
      show Act.put _ (some 43) _ = _
      simp only [Act.put, List.setIfInBounds_toArray, List.set_cons_zero, List.set_cons_succ, i64_w, i32_w]
      rfl
     refine one_ (i := 12) (N := some 44) #[true, true, true, true, true, true, true, true, true, true, true, true, true, false, false] rfl rfl (by kernel_rfl) (by decide) (fun K hK => ?_)
     refine goes_ Try.func118 (by kernel_rfl) rfl #[.int .u64 (x : Int), .int .u64 (y : Int)] (by rfl) rfl rfl (by (try simp only [List.map_toArray, List.map_cons, List.map_nil]); first | done | rfl) ?_
     refine (into4_calls _ x y _ _ rfl rfl hxl hyl).mono ?_
     rintro e w4 ⟨rfl, ⟨nd2, rfl⟩⟩
     refine ⟨_, rfl, ?_⟩
     have hS5 := Aside0.mk (hS4.out.drewN nd2)
     have hc5 := (hS5.out.cell j).trans hcell
     have hf5 := hS5.out.frozen j
     refine hK.out _ _ (hc5) (fun hHeld => ?_)
     clear hK K
     refine norm_ (a' := ?_) ?_ ?_
     rotate_left
     ·
      show Act.put _ (some 44) _ = _
      simp only [Act.put, List.setIfInBounds_toArray, List.set_cons_zero, List.set_cons_succ, i64_w, i32_w]
      rfl
     refine pure_ (i := 13) (N := some 45) (v := ?_) (a' := ?_) #[true, true, true, true, true, true, true, true, true, true, true, true, true, true, false] rfl rfl (by kernel_rfl) (fun _ _ _ h => h) (Or.inl ⟨by rfl, ?_⟩) ?_ ?_
     rotate_left
     ·
      intro w'
      go_simp
      with_reducible rfl
     rotate_left
     ·
      simp only [Act.put, List.setIfInBounds_toArray, List.set_cons_zero, List.set_cons_succ, i64_w, i32_w]
      rfl
     refine last_ (i := 14) (N := none) #[true, true, true, true, true, true, true, true, true, true, true, true, true, true, true] rfl rfl (by kernel_rfl) (by decide) (fun K hK => ?_)
     have hcw : wr.cell? ⟨w.heap.size, j, none⟩ = some (.int .u64 (x : Int)) := (hS2.out.cell j).trans hcell
     have hfw : wr.frozen? ⟨w.heap.size, j, none⟩ = false := hS2.out.frozen j
     refine skip_ (w1 := ?_) (by kernel_rfl) rfl ?_ ?_
     rotate_left
     ·
      go_simp
      rfl
     refine hK.out _ _ ?_
     clear hK K
     refine done_ (by kernel_rfl) ?_
     clear hc0 hfr
     go_wp2_with (fail)
     clear b1 b2 b3 b4 b5 hw4 hw5 hex hxl hyl h32i hl1l hsz1
     go_roundg k2
     case measure => omega
     case rel =>
      refine ⟨j + 1, by simp, ⟨by have := hj.out; omega⟩, ⟨?_⟩⟩
      have hq := (hS2.out.drewN (1 + nd + nd2)).set j (.int .u64 ((win x y : Nat) : Int))
      rw [wvals_set] at hq
      rw [show wpart l1 vs (j + 1) = us.set j (win x y) by rw [wpart, hu, wstep, hxA.out, hyA.out]]
      exact hq
    ·
     have hj4 : j = 4 := by have := hj.out; omega
     subst hj4
     have hd2 : decide (((4 : Nat) : Int) < 4) = false := rfl
     go_wp2_with (fail)
     go_roundg k1
     case measure => omega
     case rel =>
      have e : l.drop (32 * (i + 1)) = l1.drop 32 := by rw [← hll, List.drop_drop]; congr 1
      refine ⟨i + 1, by rw [e], ⟨by have := hA.out; omega⟩, ⟨?_⟩⟩
      rw [wstripes_succ, hll, hvv]
      exact hS2.out
  ·
   have hie : i = l.length / 32 := by have := hA.out; omega
   have hlen : (l.drop (32 * i)).length = l.length - 32 * i := by rw [List.length_drop]
   have hd : decide (((l.drop (32 * i)).length : Int) ≥ 32) = false := decide_eq_false (by omega)
   have hr : Aside0 (l.drop (32 * i) = wrest l) := ⟨by rw [hie]; rfl⟩
   have hvs : Small8 (wstripes i v0 l) := wstripes_small _ _ hwi _
   have hvl : (wstripes i v0 l).length = 4 := by rw [wstripes_len, hv0l]
   have hstart : wvs s l = wstripes i v0 l := by unfold wvs; rw [hvA.out, hie]
   have hszr : (strOfNums (l.drop (32 * i))).size = (l.drop (32 * i)).length := nums_size _
   generalize wstripes i v0 l = vs at *
   generalize l.drop (32 * i) = r at *
   obtain ⟨x0, x1, x2, x3, rfl⟩ : ∃ x0 x1 x2 x3, vs = [x0, x1, x2, x3] := by
    rcases vs with _ | ⟨x0, _ | ⟨x1, _ | ⟨x2, _ | ⟨x3, _ | ⟨x4, r⟩⟩⟩⟩⟩ <;> simp at hvl
    exact ⟨_, _, _, _, rfl⟩
   have hx0 : x0 < 18446744073709551616 := hvs x0 (by simp)
   have hx1 : x1 < 18446744073709551616 := hvs x1 (by simp)
   have hx2 : x2 < 18446744073709551616 := hvs x2 (by simp)
   have hx3 : x3 < 18446744073709551616 := hvs x3 (by simp)
   obtain ⟨y0, y1, y2, y3, a1, a2, a3, e0, e1, e2, e3, f1, f2, f3, f4, f5⟩ := sum_turns x0 x1 x2 x3 hx0 hx1 hx2 hx3
   have hout : Aside0 (wout (wvs s l) = [x0, x1, x2, x3].foldl wmerge a3) := ⟨by rw [hstart, f5]⟩
   have e0A := Aside0.mk e0
   have e1A := Aside0.mk e1
   have e2A := Aside0.mk e2
   have e3A := Aside0.mk e3
   have hvsA := Aside0.mk hvs
   clear hvs hvl e0 e1 e2 e3 f5 hstart hlen hsz hie hin
   go_wp2_with (fail)
   have hS3 := hS.out.drew
   have hc0 : wr.drew.cell? ⟨w.heap.size, 0, none⟩ = some (.int .u64 (x0 : Int)) := hS3.cell 0
   have hc1 : wr.drew.cell? ⟨w.heap.size, 1, none⟩ = some (.int .u64 (x1 : Int)) := hS3.cell 1
   have hc2 : wr.drew.cell? ⟨w.heap.size, 2, none⟩ = some (.int .u64 (x2 : Int)) := hS3.cell 2
   have hc3 : wr.drew.cell? ⟨w.heap.size, 3, none⟩ = some (.int .u64 (x3 : Int)) := hS3.cell 3
   have hS3 := Aside0.mk hS3
   refine start_ (n := 16) (S := fun w' => w'.cell? ⟨w.heap.size, 0, none⟩ = some (.int .u64 (x0 : Int)) ∧ w'.cell? ⟨w.heap.size, 1, none⟩ = some (.int .u64 (x1 : Int)) ∧ w'.cell? ⟨w.heap.size, 2, none⟩ = some (.int .u64 (x2 : Int)) ∧ w'.cell? ⟨w.heap.size, 3, none⟩ = some (.int .u64 (x3 : Int))) (ds := []) #[false, false, false, false, false, false, false, false, false, false, false, false, false, false, false, false] (by kernel_rfl) rfl rfl ⟨hc0, hc1, hc2, hc3⟩ (fun hHeld => ?_)
   refine pure_ (i := 0) (N := some 49) (v := ?_) (a' := ?_) #[true, false, false, false, false, false, false, false, false, false, false, false, false, false, false, false] rfl rfl (by kernel_rfl) (fun _ _ _ h => h) (Or.inl ⟨by rfl, ?_⟩) ?_ ?_
   rotate_left
   ·
    intro w'
    go_simp
    with_reducible rfl
   rotate_left
   ·
    simp only [Act.put, List.setIfInBounds_toArray, List.set_cons_zero, List.set_cons_succ, i64_w, i32_w]
    rfl
   refine pure_ (i := 3) (N := some 52) (v := ?_) (a' := ?_) #[true, false, false, true, false, false, false, false, false, false, false, false, false, false, false, false] rfl rfl (by kernel_rfl) (fun _ _ _ h => h) (Or.inl ⟨by rfl, ?_⟩) ?_ ?_
   rotate_left
   ·
    intro w'
    go_simp
    with_reducible rfl
   rotate_left
   ·
    simp only [Act.put, List.setIfInBounds_toArray, List.set_cons_zero, List.set_cons_succ, i64_w, i32_w]
    rfl
   refine pure_ (i := 7) (N := some 56) (v := ?_) (a' := ?_) #[true, false, false, true, false, false, false, true, false, false, false, false, false, false, false, false] rfl rfl (by kernel_rfl) (fun _ _ _ h => h) (Or.inl ⟨by rfl, ?_⟩) ?_ ?_
   rotate_left
   ·
    intro w'
    go_simp
    with_reducible rfl
   rotate_left
   ·
    simp only [Act.put, List.setIfInBounds_toArray, List.set_cons_zero, List.set_cons_succ, i64_w, i32_w]
    rfl
   refine pure_ (i := 11) (N := some 60) (v := ?_) (a' := ?_) #[true, false, false, true, false, false, false, true, false, false, false, true, false, false, false, false] rfl rfl (by kernel_rfl) (fun _ _ _ h => h) (Or.inl ⟨by rfl, ?_⟩) ?_ ?_
   rotate_left
   ·
    intro w'
    go_simp
    with_reducible rfl
   rotate_left
   ·
    simp only [Act.put, List.setIfInBounds_toArray, List.set_cons_zero, List.set_cons_succ, i64_w, i32_w]
    rfl
   refine take_ (i := 1) (N := some 50) (v := ?_) (a' := ?_) #[true, true, false, true, false, false, false, true, false, false, false, true, false, false, false, false] rfl rfl (by kernel_rfl) (fun _ _ _ h => h) (Or.inl ⟨by rfl, ?_⟩) hHeld ?_ ?_
   rotate_left
   ·
    rintro w' ⟨s0, s1, s2, s3⟩
    go_simp
    with_reducible rfl
   rotate_left
   ·
    simp only [Act.put, List.setIfInBounds_toArray, List.set_cons_zero, List.set_cons_succ, i64_w, i32_w]
    rfl
   refine take_ (i := 4) (N := some 53) (v := ?_) (a' := ?_) #[true, true, false, true, true, false, false, true, false, false, false, true, false, false, false, false] rfl rfl (by kernel_rfl) (fun _ _ _ h => h) (Or.inl ⟨by rfl, ?_⟩) hHeld ?_ ?_
   rotate_left
   ·
    rintro w' ⟨s0, s1, s2, s3⟩
    go_simp
    with_reducible rfl
   rotate_left
   ·
    simp only [Act.put, List.setIfInBounds_toArray, List.set_cons_zero, List.set_cons_succ, i64_w, i32_w]
    rfl
   refine take_ (i := 8) (N := some 57) (v := ?_) (a' := ?_) #[true, true, false, true, true, false, false, true, true, false, false, true, false, false, false, false] rfl rfl (by kernel_rfl) (fun _ _ _ h => h) (Or.inl ⟨by rfl, ?_⟩) hHeld ?_ ?_
   rotate_left
   ·
    rintro w' ⟨s0, s1, s2, s3⟩
    go_simp
    with_reducible rfl
   rotate_left
   ·
    simp only [Act.put, List.setIfInBounds_toArray, List.set_cons_zero, List.set_cons_succ, i64_w, i32_w]
    rfl
   refine take_ (i := 12) (N := some 61) (v := ?_) (a' := ?_) #[true, true, false, true, true, false, false, true, true, false, false, true, true, false, false, false] rfl rfl (by kernel_rfl) (fun _ _ _ h => h) (Or.inl ⟨by rfl, ?_⟩) hHeld ?_ ?_
   rotate_left
   ·
    rintro w' ⟨s0, s1, s2, s3⟩
    go_simp
    with_reducible rfl
   rotate_left
   ·
    simp only [Act.put, List.setIfInBounds_toArray, List.set_cons_zero, List.set_cons_succ, i64_w, i32_w]
    rfl
   refine one_ (i := 2) (N := some 51) #[true, true, true, true, true, false, false, true, true, false, false, true, true, false, false, false] rfl rfl (by kernel_rfl) (by decide) (fun K hK => ?_)
   refine goes_ Try.func119 (by kernel_rfl) rfl #[.int .u64 (x0 : Int), .int .i64 1] (by rfl) rfl rfl (by (try simp only [List.map_toArray, List.map_cons, List.map_nil]); first | done | rfl) ?_
   refine (turn4_calls _ x0 1 _ _ rfl rfl hx0 (by decide)).mono ?_
   rw [e0A.out]
   rintro e w4 ⟨rfl, ⟨n0, rfl⟩⟩
   refine ⟨_, rfl, ?_⟩
   have hS4 := Aside0.mk (hS3.out.drewN n0)
   refine hK.out _ _ ⟨hS4.out.cell 0, hS4.out.cell 1, hS4.out.cell 2, hS4.out.cell 3⟩ (fun hHeld => ?_)
   clear hK K
   refine norm_ (a' := ?_) ?_ ?_
   rotate_left
   ·
    show Act.put _ (some 51) _ = _
    simp only [Act.put, List.setIfInBounds_toArray, List.set_cons_zero, List.set_cons_succ, i64_w, i32_w]
    rfl
   refine one_ (i := 5) (N := some 54) #[true, true, true, true, true, true, false, true, true, false, false, true, true, false, false, false] rfl rfl (by kernel_rfl) (by decide) (fun K hK => ?_)
   refine goes_ Try.func119 (by kernel_rfl) rfl #[.int .u64 (x1 : Int), .int .i64 7] (by rfl) rfl rfl (by (try simp only [List.map_toArray, List.map_cons, List.map_nil]); first | done | rfl) ?_
   refine (turn4_calls _ x1 7 _ _ rfl rfl hx1 (by decide)).mono ?_
   rw [e1A.out]
   rintro e w4 ⟨rfl, ⟨n1, rfl⟩⟩
   refine ⟨_, rfl, ?_⟩
   have hS5 := Aside0.mk (hS4.out.drewN n1)
   refine hK.out _ _ ⟨hS5.out.cell 0, hS5.out.cell 1, hS5.out.cell 2, hS5.out.cell 3⟩ (fun hHeld => ?_)
   clear hK K
   refine norm_ (a' := ?_) ?_ ?_
   rotate_left
   ·
    show Act.put _ (some 54) _ = _
    simp only [Act.put, List.setIfInBounds_toArray, List.set_cons_zero, List.set_cons_succ, i64_w, i32_w]
    rfl
   refine pure_ (i := 6) (N := some 55) (v := ?_) (a' := ?_) #[true, true, true, true, true, true, true, true, true, false, false, true, true, false, false, false] rfl rfl (by kernel_rfl) (fun _ _ _ h => h) (Or.inl ⟨by rfl, ?_⟩) ?_ ?_
   rotate_left
   ·
    intro w'
    go_simp
    with_reducible rfl
   rotate_left
   ·
    simp only [Act.put, List.setIfInBounds_toArray, List.set_cons_zero, List.set_cons_succ, i64_w, i32_w]
    rfl
   refine one_ (i := 9) (N := some 58) #[true, true, true, true, true, true, true, true, true, true, false, true, true, false, false, false] rfl rfl (by kernel_rfl) (by decide) (fun K hK => ?_)
   refine goes_ Try.func119 (by kernel_rfl) rfl #[.int .u64 (x2 : Int), .int .i64 12] (by rfl) rfl rfl (by (try simp only [List.map_toArray, List.map_cons, List.map_nil]); first | done | rfl) ?_
   refine (turn4_calls _ x2 12 _ _ rfl rfl hx2 (by decide)).mono ?_
   rw [e2A.out]
   rintro e w4 ⟨rfl, ⟨n2, rfl⟩⟩
   refine ⟨_, rfl, ?_⟩
   have hS6 := Aside0.mk (hS5.out.drewN n2)
   refine hK.out _ _ ⟨hS6.out.cell 0, hS6.out.cell 1, hS6.out.cell 2, hS6.out.cell 3⟩ (fun hHeld => ?_)
   clear hK K
   refine norm_ (a' := ?_) ?_ ?_
   rotate_left
   ·
    show Act.put _ (some 58) _ = _
    simp only [Act.put, List.setIfInBounds_toArray, List.set_cons_zero, List.set_cons_succ, i64_w, i32_w]
    rfl
   refine pure_ (i := 10) (N := some 59) (v := ?_) (a' := ?_) #[true, true, true, true, true, true, true, true, true, true, true, true, true, false, false, false] rfl rfl (by kernel_rfl) (fun _ _ _ h => h) (Or.inl ⟨by rfl, ?_⟩) ?_ ?_
   rotate_left
   ·
    intro w'
    go_simp
    with_reducible rfl
   rotate_left
   ·
    simp only [Act.put, List.setIfInBounds_toArray, List.set_cons_zero, List.set_cons_succ, i64_w, i32_w]
    rfl
   refine one_ (i := 13) (N := some 62) #[true, true, true, true, true, true, true, true, true, true, true, true, true, true, false, false] rfl rfl (by kernel_rfl) (by decide) (fun K hK => ?_)
   refine goes_ Try.func119 (by kernel_rfl) rfl #[.int .u64 (x3 : Int), .int .i64 18] (by rfl) rfl rfl (by (try simp only [List.map_toArray, List.map_cons, List.map_nil]); first | done | rfl) ?_
   refine (turn4_calls _ x3 18 _ _ rfl rfl hx3 (by decide)).mono ?_
   rw [e3A.out]
   rintro e w4 ⟨rfl, ⟨n3, rfl⟩⟩
   refine ⟨_, rfl, ?_⟩
   have hS7 := Aside0.mk (hS6.out.drewN n3)
   refine hK.out _ _ ⟨hS7.out.cell 0, hS7.out.cell 1, hS7.out.cell 2, hS7.out.cell 3⟩ (fun hHeld => ?_)
   clear hK K
   refine norm_ (a' := ?_) ?_ ?_
   rotate_left
   ·
    show Act.put _ (some 62) _ = _
    simp only [Act.put, List.setIfInBounds_toArray, List.set_cons_zero, List.set_cons_succ, i64_w, i32_w]
    rfl
   refine pure_ (i := 14) (N := some 63) (v := ?_) (a' := ?_) #[true, true, true, true, true, true, true, true, true, true, true, true, true, true, true, false] rfl rfl (by kernel_rfl) (fun _ _ _ h => h) (Or.inl ⟨by rfl, ?_⟩) ?_ ?_
   rotate_left
   ·
    intro w'
    go_simp
    with_reducible rfl
   rotate_left
   ·
    simp only [Act.put, List.setIfInBounds_toArray, List.set_cons_zero, List.set_cons_succ, i64_w, i32_w]
    rfl
   refine pure_ (i := 15) (N := some 10) (v := ?_) (a' := ?_) #[true, true, true, true, true, true, true, true, true, true, true, true, true, true, true, true] rfl rfl (by kernel_rfl) (fun _ _ _ h => h) (Or.inl ⟨by rfl, ?_⟩) ?_ ?_
   rotate_left
   ·
    intro w'
    go_simp
    with_reducible rfl
   rotate_left
   ·
    simp only [Act.put, List.setIfInBounds_toArray, List.set_cons_zero, List.set_cons_succ, i64_w, i32_w]
    rfl
   refine done_ (by kernel_rfl) ?_
   clear hc0 hc1 hc2 hc3 hHeld
   go_wp2_with (fail)
   clear f1 f2 f3
   go_loopg [10, 64] 4 (fun kq v10 v64 w' => ∃ (j : Nat), v10 = .int .u64 ((([x0, x1, x2, x3].take j).foldl wmerge a3 : Nat) : Int) ∧ v64 = .int .i64 j ∧ Aside0 (j + kq = 4) ∧ Aside0 (Sep.Sep w w' [blk w.heap.size (wvals [x0, x1, x2, x3]) 179]))
   case atStart => exact ⟨0, rfl, rfl, ⟨by omega⟩, by first | exact hS7 | exact ⟨hS7.out⟩⟩
   case round =>
    obtain ⟨j, rfl, rfl, hj, hS8⟩ := hrel
    have hh := wmerges_lt ([x0, x1, x2, x3].take j) a3 f4
    obtain ⟨h, hhe⟩ : ∃ h, ([x0, x1, x2, x3].take j).foldl wmerge a3 = h := ⟨_, rfl⟩
    rw [hhe] at hh ⊢
    by_cases hjn : j < 4
    ·
     have hd2 : decide ((j : Int) < 4) = true := decide_eq_true (by omega)
     obtain ⟨k2, rfl⟩ : ∃ k2, gk = k2 + 1 := ⟨gk - 1, by have := hj.out; omega⟩
     obtain ⟨x, hx⟩ : ∃ x, [x0, x1, x2, x3][j]? = some x := ⟨_, List.getElem?_eq_getElem (by simp; omega)⟩
     have hxl : x < 18446744073709551616 := hvsA.out x (List.mem_of_getElem? hx)
     have hnext : ([x0, x1, x2, x3].take (j + 1)).foldl wmerge a3 = wmerge h x := by
      rw [List.take_add_one, hx, List.foldl_append, hhe, Option.toList_some, List.foldl_cons, List.foldl_nil]
     have hcx : wr.cell? ⟨w.heap.size, j, none⟩ = some (.int .u64 (x : Int)) := (hS8.out.cell j).trans (wvals_at _ j x hx)
     have hyl := win_lt 0 x
     obtain ⟨y, hy⟩ : ∃ y, win 0 x = y := ⟨_, rfl⟩
     obtain ⟨z1, z2, z3, g1, g2, g3, g4⟩ := merge_step h x y hh (by rw [← hy]; exact hyl) hy.symm
     rw [g4] at hnext
     have hnA := Aside0.mk hnext
     have p0 : ((0 : Int) ≤ (j : Int)) = True := eq_true (by omega)
     have q0 : ((j : Int) < 4) = True := eq_true (by omega)
     have hyA := Aside0.mk hy
     clear hnext hx hyl hy hhe g4 hx0 hx1 hx2 hx3 hh hs hl hszr
     go_wp2_with (fail)
     refine (into4_calls _ 0 x _ _ rfl rfl (by decide) hxl).mono ?_
     rw [hyA.out]
     rintro e w4 ⟨rfl, ⟨n9, rfl⟩⟩
     go_wp2
     clear g1 g2 g3 hcx p0 q0 hxl f4
     go_roundg k2
     case measure => omega
     case rel => exact ⟨j + 1, by rw [hnA.out], by simp, ⟨by have := hj.out; omega⟩, ⟨hS8.out.drewN _⟩⟩
    ·
     have hj4 : j = 4 := by have := hj.out; omega
     subst hj4
     have hd2 : decide (((4 : Nat) : Int) < 4) = false := rfl
     rw [take4] at hhe
     have hoA : Aside0 (wout (wvs s l) = h) := ⟨by rw [hout.out, hhe]⟩
     clear hhe hh f4 hx0 hx1 hx2 hx3
     go_wp2
     go_ret2
     refine ⟨?_, hS8.out.1⟩
     rw [hoA.out, ← hr.out]
     rfl
def fascicleref04_begin.f (a0 : Int) (a1 : ByteArray) : Option (Int × ByteArray) := if 0 ≤ a0 ∧ a0 < 18446744073709551616 ∧ a1.size ≤ 1000000000000 then some (((wout (wvs a0.toNat (sby a1)) : Nat) : Int), strOfNums (wrest (sby a1))) else none
theorem fascicleref04_begin.calls (a0 : Int) (a1 : ByteArray) (r1 : Int) (r2 : ByteArray) (w : World) (h : fascicleref04_begin.f a0 a1 = some (r1, r2)) :
  Calls Try.prog 117 #[.int .u64 a0, .string a1] w fun e w' => e = .returned (.tuple #[.int .u64 r1, .string r2]) ∧ Below w.heap.size w w' := by
 unfold fascicleref04_begin.f at h
 split at h
 ·
  rename_i hh
  cases h
  have := begin_walk w (sby a1) a0.toNat (sby_bytes a1) (by rw [sby_len]; exact hh.2.2) (by omega)
  rw [nums_sby, show ((a0.toNat : Nat) : Int) = a0 by omega] at this
  exact this
 ·
  cases h
end Go.Proofs.Ytekanmieppnpeaa.G
end
section
namespace Go.Proofs.Ytekanmieppnpeaa.G
open Go.RowKit Go.Proofs.YtekanmieppnpeaaW.PrintWords Go.Proofs.YtekanmieppnpeaaW.PrintLast Go.Proofs.YtekanmieppnpeaaW.PrintMore
attribute [local go_sem] max2_int min2_int max_two min_two max_three min_three max_four min_four   -- for this text's walks alone
mutual
def fascicleref04_Sum.j0 : Nat → ByteArray → Int → Int → Option (Int)
 | 0, _, _, _ => none
 | k + 1, x1, x5, x6 => fascicleref04_Sum.l0 k x1 (IntKind.u64.wrap (x6 + x5))
def fascicleref04_Sum.l0 : Nat → ByteArray → Int → Option (Int)
 | 0, _, _ => none
 | k + 1, x1, x6 => if (x1.size : Int) ≥ 8 then (if 0 ≤ 8 then (if 8 ≤ (x1.size : Int) then ((fascicleref01_Value.f k (x1.extract 0 8)).bind fun t201 => ((fascicleref04_into.f k 0 t201).bind fun t202 => ((fascicleref04_turn.f k (Go.bits .xor .u64 x6 t202) 27).bind fun t203 => (fascicleref04_Sum.l0 k (x1.extract 8 x1.size) (IntKind.u64.wrap ((IntKind.u64.wrap (t203 * 11400714785074694791)) + 9650029242287828579)))))) else (none)) else (none)) else (fascicleref04_Sum.l1 k x1 x6)
def fascicleref04_Sum.l1 : Nat → ByteArray → Int → Option (Int)
 | 0, _, _ => none
 | k + 1, x1, x6 => if (x1.size : Int) ≥ 4 then (if 0 ≤ 4 then (if 4 ≤ (x1.size : Int) then ((fascicleref01_Value.f k (x1.extract 0 4)).bind fun t204 => ((fascicleref04_turn.f k (Go.bits .xor .u64 x6 (IntKind.u64.wrap (t204 * 11400714785074694791))) 23).bind fun t205 => (fascicleref04_Sum.l1 k (x1.extract 4 x1.size) (IntKind.u64.wrap ((IntKind.u64.wrap (t205 * 14029467366897019727)) + 1609587929392839161))))) else (none)) else (none)) else (fascicleref04_Sum.l2 k x1 x6 0)
def fascicleref04_Sum.l2 : Nat → ByteArray → Int → Int → Option (Int)
 | 0, _, _, _ => none
 | k + 1, x1, x6, x8 => if x8 < (x1.size : Int) then (if 0 ≤ x8 then ((fascicleref04_turn.f k (Go.bits .xor .u64 x6 (IntKind.u64.wrap ((IntKind.u64.wrap (bt x1 x8)) * 2870177450012600261))) 11).bind fun t206 => (fascicleref04_Sum.l2 k x1 (IntKind.u64.wrap (t206 * 11400714785074694791)) (wrap64 (x8 + 1)))) else (none)) else ((fascicleref04_mix.f k x6 33).bind fun t207 => ((fascicleref04_mix.f k (IntKind.u64.wrap (t207 * 14029467366897019727)) 29).bind fun t208 => ((fascicleref04_mix.f k (IntKind.u64.wrap (t208 * 1609587929392839161)) 32).bind fun t209 => (some t209))))
end
def fascicleref04_Sum.f (k : Nat) (a0 : Int) (a1 : ByteArray) : Option (Int) := if (a1.size : Int) ≥ 32 then ((fascicleref04_begin.f a0 a1).bind fun bt199 => (fascicleref04_Sum.j0 k bt199.2 (IntKind.u64.wrap ((a1.size : Int))) bt199.1)) else (fascicleref04_Sum.j0 k a1 (IntKind.u64.wrap ((a1.size : Int))) (IntKind.u64.wrap (a0 + 2870177450012600261)))
theorem fascicleref04_Sum.mono_l : ∀ k, (∀ y0 y1 y2, LeO (fascicleref04_Sum.j0 k y0 y1 y2) (fascicleref04_Sum.j0 (k + 1) y0 y1 y2)) ∧ (∀ y0 y1, LeO (fascicleref04_Sum.l0 k y0 y1) (fascicleref04_Sum.l0 (k + 1) y0 y1)) ∧ (∀ y0 y1, LeO (fascicleref04_Sum.l1 k y0 y1) (fascicleref04_Sum.l1 (k + 1) y0 y1)) ∧ (∀ y0 y1 y2, LeO (fascicleref04_Sum.l2 k y0 y1 y2) (fascicleref04_Sum.l2 (k + 1) y0 y1 y2))
 | 0 => ⟨fun _ _ _ r h => by simp [fascicleref04_Sum.j0] at h, fun _ _ r h => by simp [fascicleref04_Sum.l0] at h, fun _ _ r h => by simp [fascicleref04_Sum.l1] at h, fun _ _ _ r h => by simp [fascicleref04_Sum.l2] at h⟩
 | k + 1 => by
  obtain ⟨ih0, ih1, ih2, ih3⟩ := fascicleref04_Sum.mono_l k
  refine ⟨?_, ?_, ?_, ?_⟩
  ·
   intro y0 y1 y2
   unfold fascicleref04_Sum.j0
   repeat' first
   | (with_reducible exact ih0 _ _ _)
   | (with_reducible exact ih1 _ _)
   | (with_reducible exact ih2 _ _)
   | (with_reducible exact ih3 _ _ _)
   | (with_reducible exact fascicleref01_Value.mono _ _)
   | (with_reducible exact fascicleref04_into.mono _ _ _)
   | (with_reducible exact fascicleref04_mix.mono _ _ _)
   | (with_reducible exact fascicleref04_turn.mono _ _ _)
   | (with_reducible exact LeO.refl _)
   | (with_reducible exact LeO.none _)
   | (with_reducible refine LeO.ite ?_ ?_)
   | (with_reducible refine LeO.bind ?_ (fun _ => ?_))
   | exact ih0 _ _ _
   | exact ih1 _ _
   | exact ih2 _ _
   | exact ih3 _ _ _
   | exact fascicleref01_Value.mono _ _
   | exact fascicleref04_into.mono _ _ _
   | exact fascicleref04_mix.mono _ _ _
   | exact fascicleref04_turn.mono _ _ _
   | exact LeO.none _
   | refine LeO.ite ?_ ?_
   | refine LeO.bind ?_ (fun _ => ?_)
  ·
   intro y0 y1
   unfold fascicleref04_Sum.l0
   repeat' first
   | (with_reducible exact ih0 _ _ _)
   | (with_reducible exact ih1 _ _)
   | (with_reducible exact ih2 _ _)
   | (with_reducible exact ih3 _ _ _)
   | (with_reducible exact fascicleref01_Value.mono _ _)
   | (with_reducible exact fascicleref04_into.mono _ _ _)
   | (with_reducible exact fascicleref04_mix.mono _ _ _)
   | (with_reducible exact fascicleref04_turn.mono _ _ _)
   | (with_reducible exact LeO.refl _)
   | (with_reducible exact LeO.none _)
   | (with_reducible refine LeO.ite ?_ ?_)
   | (with_reducible refine LeO.bind ?_ (fun _ => ?_))
   | exact ih0 _ _ _
   | exact ih1 _ _
   | exact ih2 _ _
   | exact ih3 _ _ _
   | exact fascicleref01_Value.mono _ _
   | exact fascicleref04_into.mono _ _ _
   | exact fascicleref04_mix.mono _ _ _
   | exact fascicleref04_turn.mono _ _ _
   | exact LeO.none _
   | refine LeO.ite ?_ ?_
   | refine LeO.bind ?_ (fun _ => ?_)
  ·
   intro y0 y1
   unfold fascicleref04_Sum.l1
   repeat' first
   | (with_reducible exact ih0 _ _ _)
   | (with_reducible exact ih1 _ _)
   | (with_reducible exact ih2 _ _)
   | (with_reducible exact ih3 _ _ _)
   | (with_reducible exact fascicleref01_Value.mono _ _)
   | (with_reducible exact fascicleref04_into.mono _ _ _)
   | (with_reducible exact fascicleref04_mix.mono _ _ _)
   | (with_reducible exact fascicleref04_turn.mono _ _ _)
   | (with_reducible exact LeO.refl _)
   | (with_reducible exact LeO.none _)
   | (with_reducible refine LeO.ite ?_ ?_)
   | (with_reducible refine LeO.bind ?_ (fun _ => ?_))
   | exact ih0 _ _ _
   | exact ih1 _ _
   | exact ih2 _ _
   | exact ih3 _ _ _
   | exact fascicleref01_Value.mono _ _
   | exact fascicleref04_into.mono _ _ _
   | exact fascicleref04_mix.mono _ _ _
   | exact fascicleref04_turn.mono _ _ _
   | exact LeO.none _
   | refine LeO.ite ?_ ?_
   | refine LeO.bind ?_ (fun _ => ?_)
  ·
   intro y0 y1 y2
   unfold fascicleref04_Sum.l2
   repeat' first
   | (with_reducible exact ih0 _ _ _)
   | (with_reducible exact ih1 _ _)
   | (with_reducible exact ih2 _ _)
   | (with_reducible exact ih3 _ _ _)
   | (with_reducible exact fascicleref01_Value.mono _ _)
   | (with_reducible exact fascicleref04_into.mono _ _ _)
   | (with_reducible exact fascicleref04_mix.mono _ _ _)
   | (with_reducible exact fascicleref04_turn.mono _ _ _)
   | (with_reducible exact LeO.refl _)
   | (with_reducible exact LeO.none _)
   | (with_reducible refine LeO.ite ?_ ?_)
   | (with_reducible refine LeO.bind ?_ (fun _ => ?_))
   | exact ih0 _ _ _
   | exact ih1 _ _
   | exact ih2 _ _
   | exact ih3 _ _ _
   | exact fascicleref01_Value.mono _ _
   | exact fascicleref04_into.mono _ _ _
   | exact fascicleref04_mix.mono _ _ _
   | exact fascicleref04_turn.mono _ _ _
   | exact LeO.none _
   | refine LeO.ite ?_ ?_
   | refine LeO.bind ?_ (fun _ => ?_)
theorem fascicleref04_Sum.mono : ∀ a0 a1 k, LeO (fascicleref04_Sum.f k a0 a1) (fascicleref04_Sum.f (k + 1) a0 a1) := by
 intro a0 a1 k
 obtain ⟨ih0, ih1, ih2, ih3⟩ := fascicleref04_Sum.mono_l k
 unfold fascicleref04_Sum.f
 repeat' first
   | (with_reducible exact ih0 _ _ _)
   | (with_reducible exact ih1 _ _)
   | (with_reducible exact ih2 _ _)
   | (with_reducible exact ih3 _ _ _)
   | (with_reducible exact fascicleref01_Value.mono _ _)
   | (with_reducible exact fascicleref04_into.mono _ _ _)
   | (with_reducible exact fascicleref04_mix.mono _ _ _)
   | (with_reducible exact fascicleref04_turn.mono _ _ _)
   | (with_reducible exact LeO.refl _)
   | (with_reducible exact LeO.none _)
   | (with_reducible refine LeO.ite ?_ ?_)
   | (with_reducible refine LeO.bind ?_ (fun _ => ?_))
   | exact ih0 _ _ _
   | exact ih1 _ _
   | exact ih2 _ _
   | exact ih3 _ _ _
   | exact fascicleref01_Value.mono _ _
   | exact fascicleref04_into.mono _ _ _
   | exact fascicleref04_mix.mono _ _ _
   | exact fascicleref04_turn.mono _ _ _
   | exact LeO.none _
   | refine LeO.ite ?_ ?_
   | refine LeO.bind ?_ (fun _ => ?_)
theorem fascicleref04_Sum.calls (k : Nat) (a0 : Int) (a1 : ByteArray) (r : Int) (w : World) (h : fascicleref04_Sum.f k a0 a1 = some r) :
  Calls Try.prog 57 #[.int .u64 a0, .string a1] w fun e w' => e = .returned (.int .u64 r) ∧ Below w.heap.size w w' := by
 have HB := Aside0.mk (Below.refl w.heap.size w)
 have H : (if (a1.size : Int) ≥ 32 then ((fascicleref04_begin.f a0 a1).bind fun bt199 => (fascicleref04_Sum.j0 k bt199.2 (IntKind.u64.wrap ((a1.size : Int))) bt199.1)) else (fascicleref04_Sum.j0 k a1 (IntKind.u64.wrap ((a1.size : Int))) (IntKind.u64.wrap (a0 + 2870177450012600261)))) = some r := h
 clear h
 have HC3 := Aside0.mk H
 clear H
 go_enter Try.func57, Try.ntmps57
 go_upto_if 17 with (fail)
 go_cut [1, 6] (fun v1 v6 wc => ∃ (kq : Nat) (x1_2 : ByteArray) (x6_2 : Int), v1 = .string x1_2 ∧ v6 = .int .u64 x6_2 ∧ Aside0 (fascicleref04_Sum.j0 kq x1_2 (IntKind.u64.wrap ((a1.size : Int))) x6_2 = some r) ∧ Aside0 (kq ≤ k) ∧ Aside0 (Below w.heap.size w wc))
 case first =>
  have H := HC3.out
  clear HC3
  by_cases c4 : (a1.size : Int) ≥ 32
  ·
   rw [if_pos c4] at H
   have c4b0 : decide (32 ≤ (a1.size : Int)) = true := decide_eq_true c4
   have c4b1 : decide (32 ≤ a1.size) = true := decide_eq_true (by omega)
   clear c4
   (first | rw [c4b0] | (simp only [i64_w, i32_w]; rw [c4b0]) | skip)
   replace H := Option.bind_eq_some_iff.mp H
   obtain ⟨⟨t199, t200⟩, A50, H⟩ := H
   replace H : (fascicleref04_Sum.j0 k t200 (IntKind.u64.wrap ((a1.size : Int))) t199) = some r := H
   have A5 := Aside0.mk A50
   clear A50
   have H' := Aside0.mk H
   clear H
   go_wp2_with (first | ((with_reducible refine gate_callee (f := 117) rfl ?_); refine goesL_ (some 21) rfl rfl Try.func117 (by kernel_rfl) rfl #[.int .u64 a0, .string a1] rfl (by (try simp only [mA, mB, mC]); first | done | rfl) ?_; (with_reducible refine (fascicleref04_begin.calls a0 a1 t199 t200 _ A5.out).mono ?_); rintro e w6 ⟨rfl, hb⟩; refine ⟨_, rfl, ?_⟩; replace HB := Aside0.mk (below_step (by repeat with_reducible first | exact HB.out | apply below_alloc | apply pw_below_drewN | apply below_drew1) hb); (try clear hb)))
   go_meet
   case rel => exact ⟨_, (t200), (t199), (by first | rfl | (simp; done) | (simp [*]; done) | (simp; exact (fun l : List UInt8 => (by cases l <;> rfl : l.isEmpty = !(l != ([] : List UInt8)))) _)), (by first | rfl | (simp; done) | (simp [*]; done) | (simp; exact (fun l : List UInt8 => (by cases l <;> rfl : l.isEmpty = !(l != ([] : List UInt8)))) _)), H', ⟨by first | omega | exact Nat.le_refl _⟩, ⟨by repeat (first | (with_reducible first | exact HB.out | apply below_alloc | apply pw_below_drewN | apply below_drew1) | exact HB.out)⟩⟩
  ·
   rw [if_neg c4] at H
   have c4b0 : decide (32 ≤ (a1.size : Int)) = false := decide_eq_false c4
   have c4b1 : decide (32 ≤ a1.size) = false := decide_eq_false (by omega)
   clear c4
   (first | rw [c4b0] | (simp only [i64_w, i32_w]; rw [c4b0]) | skip)
   have H' := Aside0.mk H
   clear H
   go_wp2
   go_meet
   case rel => exact ⟨_, (a1), (IntKind.u64.wrap (a0 + 2870177450012600261)), (by first | rfl | (simp; done) | (simp [*]; done) | (simp; exact (fun l : List UInt8 => (by cases l <;> rfl : l.isEmpty = !(l != ([] : List UInt8)))) _)), (by first | rfl | (simp; done) | (simp [*]; done) | (simp; exact (fun l : List UInt8 => (by cases l <;> rfl : l.isEmpty = !(l != ([] : List UInt8)))) _)), H', ⟨by first | omega | exact Nat.le_refl _⟩, ⟨by repeat (first | (with_reducible first | exact HB.out | apply below_alloc | apply pw_below_drewN | apply below_drew1) | exact HB.out)⟩⟩
 case rest =>
  clear HC3
  try clear c1
  try clear p2
  try clear c4
  try clear c4b0
  try clear c4b1
  try clear c5
  obtain ⟨kq, x1_2, x6_2, rfl, rfl, HA, HJ2, HB⟩ := hcut
  cases kq with
  | zero => exact absurd HA.out (by simp [fascicleref04_Sum.j0])
  | succ kj2 =>
   have H := HA.out
   clear HA
   simp only [fascicleref04_Sum.j0] at H
   have H' := Aside0.mk H
   clear H
   go_wp2
   go_loopg [1, 6] kj2 (fun kq v1 v6 w' => ∃ (x1_2 : ByteArray) (x6_2 : Int), v1 = .string x1_2 ∧ v6 = .int .u64 x6_2 ∧ Aside0 (fascicleref04_Sum.l0 kq x1_2 x6_2 = some r) ∧ Aside0 (kq ≤ kj2) ∧ Aside0 (Below w.heap.size w w'))
   case atStart => exact ⟨(x1_2), (IntKind.u64.wrap (x6_2 + (IntKind.u64.wrap ((a1.size : Int))))), (by first | rfl | (simp; done) | (simp [*]; done) | (simp; exact (fun l : List UInt8 => (by cases l <;> rfl : l.isEmpty = !(l != ([] : List UInt8)))) _)), (by first | rfl | (simp; done) | (simp [*]; done) | (simp; exact (fun l : List UInt8 => (by cases l <;> rfl : l.isEmpty = !(l != ([] : List UInt8)))) _)), H', ⟨Nat.le_refl _⟩, ⟨by repeat (first | (with_reducible first | exact HB.out | apply below_alloc | apply pw_below_drewN | apply below_drew1) | exact HB.out)⟩⟩
   case round =>
    clear H'
    try clear c1
    try clear p2
    try clear c4
    try clear c4b0
    try clear c4b1
    try clear c5
    try clear p2
    obtain ⟨x1_2, x6_2, rfl, rfl, HA, HK2, HB⟩ := hrel
    cases gk with
    | zero => exact absurd HA.out (by simp [fascicleref04_Sum.l0])
    | succ k2 =>
     have H := HA.out
     clear HA
     simp only [fascicleref04_Sum.l0] at H
     by_cases c7 : (x1_2.size : Int) ≥ 8
     ·
      rw [if_pos c7] at H
      have c7b0 : decide (8 ≤ (x1_2.size : Int)) = true := decide_eq_true c7
      have c7b1 : decide (8 ≤ x1_2.size) = true := decide_eq_true (by omega)
      clear c7
      by_cases c8 : 0 ≤ 8
      ·
       rw [if_pos c8] at H
       have c8b0 := eq_true c8
       have c8b1 : decide (0 ≤ 8) = true := decide_eq_true c8
       clear c8
       by_cases c9 : 8 ≤ (x1_2.size : Int)
       ·
        rw [if_pos c9] at H
        have c9b0 := eq_true c9
        have c9b1 : decide (8 ≤ (x1_2.size : Int)) = true := decide_eq_true c9
        clear c9
        replace H := Option.bind_eq_some_iff.mp H
        obtain ⟨t201, A100, H⟩ := H
        replace H : ((fascicleref04_into.f k2 0 t201).bind fun t202 => ((fascicleref04_turn.f k2 (Go.bits .xor .u64 x6_2 t202) 27).bind fun t203 => (fascicleref04_Sum.l0 k2 (x1_2.extract 8 x1_2.size) (IntKind.u64.wrap ((IntKind.u64.wrap (t203 * 11400714785074694791)) + 9650029242287828579))))) = some r := H
        have A10 := Aside0.mk A100
        clear A100
        replace H := Option.bind_eq_some_iff.mp H
        obtain ⟨t202, A110, H⟩ := H
        replace H : ((fascicleref04_turn.f k2 (Go.bits .xor .u64 x6_2 t202) 27).bind fun t203 => (fascicleref04_Sum.l0 k2 (x1_2.extract 8 x1_2.size) (IntKind.u64.wrap ((IntKind.u64.wrap (t203 * 11400714785074694791)) + 9650029242287828579)))) = some r := H
        have A11 := Aside0.mk A110
        clear A110
        replace H := Option.bind_eq_some_iff.mp H
        obtain ⟨t203, A120, H⟩ := H
        replace H : (fascicleref04_Sum.l0 k2 (x1_2.extract 8 x1_2.size) (IntKind.u64.wrap ((IntKind.u64.wrap (t203 * 11400714785074694791)) + 9650029242287828579))) = some r := H
        have A12 := Aside0.mk A120
        clear A120
        have c13b0 := eq_true (of_decide_eq_true (by first | (with_reducible assumption) | assumption) : 8 ≤ (x1_2.size : Int))
        have H' := Aside0.mk H
        clear H
        go_wp2_with (first | ((with_reducible refine gate_callee (f := 56) rfl ?_); refine goesL_ (some 33) rfl rfl Try.func56 (by kernel_rfl) rfl #[.string (x1_2.extract 0 8)] rfl (by (try simp only [mA, mB, mC]); first | done | rfl) ?_; (with_reducible refine (fascicleref01_Value.calls k2 (x1_2.extract 0 8) t201 _ A10.out).mono ?_); rintro e w' ⟨rfl, ⟨nd, rfl⟩⟩; refine ⟨_, rfl, ?_⟩) | ((with_reducible refine gate_callee (f := 118) rfl ?_); refine goesL_ (some 34) rfl rfl Try.func118 (by kernel_rfl) rfl #[.int .u64 0, .int .u64 t201] rfl (by (try simp only [mA, mB, mC]); first | done | rfl) ?_; (with_reducible refine (fascicleref04_into.calls k2 0 t201 t202 _ A11.out).mono ?_); rintro e w' ⟨rfl, ⟨nd, rfl⟩⟩; refine ⟨_, rfl, ?_⟩) | ((with_reducible refine gate_callee (f := 119) rfl ?_); refine goesL_ (some 37) rfl rfl Try.func119 (by kernel_rfl) rfl #[.int .u64 (Go.bits .xor .u64 x6_2 t202), .int .i64 27] rfl (by (try simp only [mA, mB, mC]); first | done | rfl) ?_; (with_reducible refine (fascicleref04_turn.calls k2 (Go.bits .xor .u64 x6_2 t202) 27 t203 _ A12.out).mono ?_); rintro e w' ⟨rfl, ⟨nd, rfl⟩⟩; refine ⟨_, rfl, ?_⟩))
        go_roundg k2
        case measure => have := HJ2.out; have := HK2.out; omega
        case rel => exact ⟨(x1_2.extract 8 x1_2.size), (IntKind.u64.wrap ((IntKind.u64.wrap (t203 * 11400714785074694791)) + 9650029242287828579)), (by first | rfl | (simp; done) | (simp [*]; done) | (simp; exact (fun l : List UInt8 => (by cases l <;> rfl : l.isEmpty = !(l != ([] : List UInt8)))) _)), (by first | rfl | (simp; done) | (simp [*]; done) | (simp; exact (fun l : List UInt8 => (by cases l <;> rfl : l.isEmpty = !(l != ([] : List UInt8)))) _)), H', ⟨by have := HJ2.out; have := HK2.out; omega⟩, ⟨by repeat (first | (with_reducible first | exact HB.out | apply below_alloc | apply pw_below_drewN | apply below_drew1) | exact HB.out)⟩⟩
       ·
        rw [if_neg c9] at H
        exact absurd H (by simp)
      ·
       rw [if_neg c8] at H
       exact absurd H (by simp)
     ·
      rw [if_neg c7] at H
      have c7b0 : decide (8 ≤ (x1_2.size : Int)) = false := decide_eq_false c7
      have c7b1 : decide (8 ≤ x1_2.size) = false := decide_eq_false (by omega)
      clear c7
      have H' := Aside0.mk H
      clear H
      go_wp2
      go_loopg [1, 6] k2 (fun kq v1 v6 w' => ∃ (x1_3 : ByteArray) (x6_3 : Int), v1 = .string x1_3 ∧ v6 = .int .u64 x6_3 ∧ Aside0 (fascicleref04_Sum.l1 kq x1_3 x6_3 = some r) ∧ Aside0 (kq ≤ k2) ∧ Aside0 (Below w.heap.size w w'))
      case atStart => exact ⟨(x1_2), (x6_2), (by first | rfl | (simp; done) | (simp [*]; done) | (simp; exact (fun l : List UInt8 => (by cases l <;> rfl : l.isEmpty = !(l != ([] : List UInt8)))) _)), (by first | rfl | (simp; done) | (simp [*]; done) | (simp; exact (fun l : List UInt8 => (by cases l <;> rfl : l.isEmpty = !(l != ([] : List UInt8)))) _)), H', ⟨Nat.le_refl _⟩, ⟨by repeat (first | (with_reducible first | exact HB.out | apply below_alloc | apply pw_below_drewN | apply below_drew1) | exact HB.out)⟩⟩
      case round =>
       clear H'
       try clear c1
       try clear p2
       try clear c4
       try clear c4b0
       try clear c4b1
       try clear c5
       try clear c7
       try clear c7b0
       try clear c7b1
       try clear c8
       try clear c8b0
       try clear c8b1
       try clear c9
       try clear c9b0
       try clear c9b1
       try clear c11
       try clear c13
       try clear c13b0
       try clear p2
       obtain ⟨x1_3, x6_3, rfl, rfl, HA, HK3, HB⟩ := hrel
       cases gk with
       | zero => exact absurd HA.out (by simp [fascicleref04_Sum.l1])
       | succ k3 =>
        have H := HA.out
        clear HA
        simp only [fascicleref04_Sum.l1] at H
        by_cases c14 : (x1_3.size : Int) ≥ 4
        ·
         rw [if_pos c14] at H
         have c14b0 : decide (4 ≤ (x1_3.size : Int)) = true := decide_eq_true c14
         have c14b1 : decide (4 ≤ x1_3.size) = true := decide_eq_true (by omega)
         clear c14
         by_cases c15 : 0 ≤ 4
         ·
          rw [if_pos c15] at H
          have c15b0 := eq_true c15
          have c15b1 : decide (0 ≤ 4) = true := decide_eq_true c15
          clear c15
          by_cases c16 : 4 ≤ (x1_3.size : Int)
          ·
           rw [if_pos c16] at H
           have c16b0 := eq_true c16
           have c16b1 : decide (4 ≤ (x1_3.size : Int)) = true := decide_eq_true c16
           clear c16
           replace H := Option.bind_eq_some_iff.mp H
           obtain ⟨t204, A170, H⟩ := H
           replace H : ((fascicleref04_turn.f k3 (Go.bits .xor .u64 x6_3 (IntKind.u64.wrap (t204 * 11400714785074694791))) 23).bind fun t205 => (fascicleref04_Sum.l1 k3 (x1_3.extract 4 x1_3.size) (IntKind.u64.wrap ((IntKind.u64.wrap (t205 * 14029467366897019727)) + 1609587929392839161)))) = some r := H
           have A17 := Aside0.mk A170
           clear A170
           replace H := Option.bind_eq_some_iff.mp H
           obtain ⟨t205, A180, H⟩ := H
           replace H : (fascicleref04_Sum.l1 k3 (x1_3.extract 4 x1_3.size) (IntKind.u64.wrap ((IntKind.u64.wrap (t205 * 14029467366897019727)) + 1609587929392839161))) = some r := H
           have A18 := Aside0.mk A180
           clear A180
           have c19b0 := eq_true (of_decide_eq_true (by first | (with_reducible assumption) | assumption) : 4 ≤ (x1_3.size : Int))
           have H' := Aside0.mk H
           clear H
           go_wp2_with (first | ((with_reducible refine gate_callee (f := 56) rfl ?_); refine goesL_ (some 47) rfl rfl Try.func56 (by kernel_rfl) rfl #[.string (x1_3.extract 0 4)] rfl (by (try simp only [mA, mB, mC]); first | done | rfl) ?_; (with_reducible refine (fascicleref01_Value.calls k3 (x1_3.extract 0 4) t204 _ A17.out).mono ?_); rintro e w' ⟨rfl, ⟨nd, rfl⟩⟩; refine ⟨_, rfl, ?_⟩) | ((with_reducible refine gate_callee (f := 119) rfl ?_); refine goesL_ (some 52) rfl rfl Try.func119 (by kernel_rfl) rfl #[.int .u64 (Go.bits .xor .u64 x6_3 (IntKind.u64.wrap (t204 * 11400714785074694791))), .int .i64 23] rfl (by (try simp only [mA, mB, mC]); first | done | rfl | (refine congrArg (fun z => #[Value.int .u64 z]) ?_; rw [IntKind.wrap_u64]; omega)) ?_; (with_reducible refine (fascicleref04_turn.calls k3 (Go.bits .xor .u64 x6_3 (IntKind.u64.wrap (t204 * 11400714785074694791))) 23 t205 _ A18.out).mono ?_); rintro e w' ⟨rfl, ⟨nd, rfl⟩⟩; refine ⟨_, rfl, ?_⟩))
           go_roundg k3
           case measure => have := HJ2.out; have := HK2.out; have := HK3.out; omega
           case rel => exact ⟨(x1_3.extract 4 x1_3.size), (IntKind.u64.wrap ((IntKind.u64.wrap (t205 * 14029467366897019727)) + 1609587929392839161)), (by first | rfl | (simp; done) | (simp [*]; done) | (simp; exact (fun l : List UInt8 => (by cases l <;> rfl : l.isEmpty = !(l != ([] : List UInt8)))) _)), (by first | rfl | (simp; done) | (simp [*]; done) | (simp; exact (fun l : List UInt8 => (by cases l <;> rfl : l.isEmpty = !(l != ([] : List UInt8)))) _)), H', ⟨by have := HJ2.out; have := HK2.out; have := HK3.out; omega⟩, ⟨by repeat (first | (with_reducible first | exact HB.out | apply below_alloc | apply pw_below_drewN | apply below_drew1) | exact HB.out)⟩⟩
          ·
           rw [if_neg c16] at H
           exact absurd H (by simp)
         ·
          rw [if_neg c15] at H
          exact absurd H (by simp)
        ·
         rw [if_neg c14] at H
         have c14b0 : decide (4 ≤ (x1_3.size : Int)) = false := decide_eq_false c14
         have c14b1 : decide (4 ≤ x1_3.size) = false := decide_eq_false (by omega)
         clear c14
         have H' := Aside0.mk H
         clear H
         go_wp2
         go_loopg [6, 8] k3 (fun kq v6 v8 w' => ∃ (x6_4 : Int) (x8_4 : Int), v6 = .int .u64 x6_4 ∧ v8 = .int .i64 x8_4 ∧ Aside0 (fascicleref04_Sum.l2 kq x1_3 x6_4 x8_4 = some r) ∧ Aside0 (kq ≤ k3) ∧ Aside0 (Below w.heap.size w w'))
         case atStart => exact ⟨(x6_3), (0), (by first | rfl | (simp; done) | (simp [*]; done) | (simp; exact (fun l : List UInt8 => (by cases l <;> rfl : l.isEmpty = !(l != ([] : List UInt8)))) _)), (by first | rfl | (simp; done) | (simp [*]; done) | (simp; exact (fun l : List UInt8 => (by cases l <;> rfl : l.isEmpty = !(l != ([] : List UInt8)))) _)), H', ⟨Nat.le_refl _⟩, ⟨by repeat (first | (with_reducible first | exact HB.out | apply below_alloc | apply pw_below_drewN | apply below_drew1) | exact HB.out)⟩⟩
         case round =>
          clear H'
          try clear c1
          try clear p2
          try clear c4
          try clear c4b0
          try clear c4b1
          try clear c5
          try clear c7
          try clear c7b0
          try clear c7b1
          try clear c8
          try clear c8b0
          try clear c8b1
          try clear c9
          try clear c9b0
          try clear c9b1
          try clear c11
          try clear c13
          try clear c13b0
          try clear c14
          try clear c14b0
          try clear c14b1
          try clear c15
          try clear c15b0
          try clear c15b1
          try clear c16
          try clear c16b0
          try clear c16b1
          try clear c19
          try clear c19b0
          try clear p2
          obtain ⟨x6_4, x8_4, rfl, rfl, HA, HK4, HB⟩ := hrel
          cases gk with
          | zero => exact absurd HA.out (by simp [fascicleref04_Sum.l2])
          | succ k4 =>
           have H := HA.out
           clear HA
           simp only [fascicleref04_Sum.l2] at H
           by_cases c20 : x8_4 < (x1_3.size : Int)
           ·
            rw [if_pos c20] at H
            have c20b0 : decide (x8_4 < (x1_3.size : Int)) = true := decide_eq_true c20
            clear c20
            by_cases c21 : 0 ≤ x8_4
            ·
             rw [if_pos c21] at H
             have c21b0 : decide (0 ≤ x8_4) = true := decide_eq_true c21
             clear c21
             replace H := Option.bind_eq_some_iff.mp H
             obtain ⟨t206, A230, H⟩ := H
             replace H : (fascicleref04_Sum.l2 k4 x1_3 (IntKind.u64.wrap (t206 * 11400714785074694791)) (wrap64 (x8_4 + 1))) = some r := H
             have A23 := Aside0.mk A230
             clear A230
             have H' := Aside0.mk H
             clear H
             have p22 : 0 ≤ (x8_4 : Int) := of_decide_eq_true (by first | (with_reducible assumption) | assumption)
             have q22 : x8_4 < (x1_3.size : Int) := of_decide_eq_true (by first | (with_reducible assumption) | assumption)
             have hx22 := bt_at x1_3 x8_4
             replace p22 := eq_true p22
             replace q22 := eq_true q22
             go_wp2_with (first | ((with_reducible refine gate_callee (f := 119) rfl ?_); refine goesL_ (some 71) rfl rfl Try.func119 (by kernel_rfl) rfl #[.int .u64 (Go.bits .xor .u64 x6_4 (IntKind.u64.wrap ((IntKind.u64.wrap (bt x1_3 x8_4)) * 2870177450012600261))), .int .i64 11] rfl (by (try simp only [mA, mB, mC]); first | done | rfl | (refine congrArg (fun z => #[Value.int .u64 z]) ?_; rw [IntKind.wrap_u64]; omega)) ?_; (with_reducible refine (fascicleref04_turn.calls k4 (Go.bits .xor .u64 x6_4 (IntKind.u64.wrap ((IntKind.u64.wrap (bt x1_3 x8_4)) * 2870177450012600261))) 11 t206 _ A23.out).mono ?_); rintro e w' ⟨rfl, ⟨nd, rfl⟩⟩; refine ⟨_, rfl, ?_⟩))
             go_roundg k4
             case measure => have := HJ2.out; have := HK2.out; have := HK3.out; have := HK4.out; omega
             case rel => exact ⟨(IntKind.u64.wrap (t206 * 11400714785074694791)), (wrap64 (x8_4 + 1)), (by first | rfl | (simp; done) | (simp [*]; done) | (simp; exact (fun l : List UInt8 => (by cases l <;> rfl : l.isEmpty = !(l != ([] : List UInt8)))) _)), (by first | rfl | (simp; done) | (simp [*]; done) | (simp; exact (fun l : List UInt8 => (by cases l <;> rfl : l.isEmpty = !(l != ([] : List UInt8)))) _)), H', ⟨by have := HJ2.out; have := HK2.out; have := HK3.out; have := HK4.out; omega⟩, ⟨by repeat (first | (with_reducible first | exact HB.out | apply below_alloc | apply pw_below_drewN | apply below_drew1) | exact HB.out)⟩⟩
            ·
             rw [if_neg c21] at H
             exact absurd H (by simp)
           ·
            rw [if_neg c20] at H
            have c20b0 : decide (x8_4 < (x1_3.size : Int)) = false := decide_eq_false c20
            clear c20
            replace H := Option.bind_eq_some_iff.mp H
            obtain ⟨t207, A240, H⟩ := H
            replace H : ((fascicleref04_mix.f k4 (IntKind.u64.wrap (t207 * 14029467366897019727)) 29).bind fun t208 => ((fascicleref04_mix.f k4 (IntKind.u64.wrap (t208 * 1609587929392839161)) 32).bind fun t209 => (some t209))) = some r := H
            have A24 := Aside0.mk A240
            clear A240
            replace H := Option.bind_eq_some_iff.mp H
            obtain ⟨t208, A250, H⟩ := H
            replace H : ((fascicleref04_mix.f k4 (IntKind.u64.wrap (t208 * 1609587929392839161)) 32).bind fun t209 => (some t209)) = some r := H
            have A25 := Aside0.mk A250
            clear A250
            replace H := Option.bind_eq_some_iff.mp H
            obtain ⟨t209, A260, H⟩ := H
            replace H : (some t209) = some r := H
            have A26 := Aside0.mk A260
            clear A260
            obtain rfl := Option.some.inj H
            go_wp2_with (first | ((with_reducible refine gate_callee (f := 120) rfl ?_); refine goesL_ (some 74) rfl rfl Try.func120 (by kernel_rfl) rfl #[.int .u64 x6_4, .int .i64 33] rfl (by (try simp only [mA, mB, mC]); first | done | rfl) ?_; (with_reducible refine (fascicleref04_mix.calls k4 x6_4 33 t207 _ A24.out).mono ?_); rintro e w' ⟨rfl, ⟨nd, rfl⟩⟩; refine ⟨_, rfl, ?_⟩) | ((with_reducible refine gate_callee (f := 120) rfl ?_); refine goesL_ (some 77) rfl rfl Try.func120 (by kernel_rfl) rfl #[.int .u64 (IntKind.u64.wrap (t207 * 14029467366897019727)), .int .i64 29] rfl (by (try simp only [mA, mB, mC]); first | done | rfl | (refine congrArg (fun z => #[Value.int .u64 z]) ?_; rw [IntKind.wrap_u64]; omega)) ?_; (with_reducible refine (fascicleref04_mix.calls k4 (IntKind.u64.wrap (t207 * 14029467366897019727)) 29 t208 _ A25.out).mono ?_); rintro e w' ⟨rfl, ⟨nd, rfl⟩⟩; refine ⟨_, rfl, ?_⟩) | ((with_reducible refine gate_callee (f := 120) rfl ?_); refine goesL_ (some 80) rfl rfl Try.func120 (by kernel_rfl) rfl #[.int .u64 (IntKind.u64.wrap (t208 * 1609587929392839161)), .int .i64 32] rfl (by (try simp only [mA, mB, mC]); first | done | rfl | (refine congrArg (fun z => #[Value.int .u64 z]) ?_; rw [IntKind.wrap_u64]; omega)) ?_; (with_reducible refine (fascicleref04_mix.calls k4 (IntKind.u64.wrap (t208 * 1609587929392839161)) 32 t209 _ A26.out).mono ?_); rintro e w' ⟨rfl, ⟨nd, rfl⟩⟩; refine ⟨_, rfl, ?_⟩))
            go_ret
            exact ⟨by first | rfl | (simp <;> rfl) | (simp [*] <;> rfl), by repeat (first | (with_reducible first | exact HB.out | apply below_alloc | apply pw_below_drewN | apply below_drew1) | exact HB.out)⟩
def fascicleref09_Open.f (k : Nat) (a0 : ByteArray) : Option (ByteArray × Int) := (fascicleref05_Unstuff.f k a0).bind fun bt210 => (if bt210.2 = 0 then (if (wrap64 ((bt210.1.size : Int) - 8)) < 0 then (some ((⟨#[]⟩ : ByteArray), 2)) else (if 0 ≤ (wrap64 ((bt210.1.size : Int) - 8)) then (if (wrap64 ((bt210.1.size : Int) - 8)) ≤ (bt210.1.size : Int) then ((fascicleref01_Value.f k (bt210.1.extract ((wrap64 ((bt210.1.size : Int) - 8)) : Int).toNat bt210.1.size)).bind fun t212 => ((fascicleref04_Sum.f k 0 (bt210.1.extract 0 ((wrap64 ((bt210.1.size : Int) - 8)) : Int).toNat)).bind fun t213 => (if t212 = t213 then (some (bt210.1.extract 0 ((wrap64 ((bt210.1.size : Int) - 8)) : Int).toNat, 0)) else (some ((⟨#[]⟩ : ByteArray), 5))))) else (none)) else (none))) else (some ((⟨#[]⟩ : ByteArray), bt210.2)))
theorem fascicleref09_Open.mono : ∀ a0 k, LeO (fascicleref09_Open.f k a0) (fascicleref09_Open.f (k + 1) a0) := by
 intro a0 k
 unfold fascicleref09_Open.f
 repeat' first
   | (with_reducible exact fascicleref01_Value.mono _ _)
   | (with_reducible exact fascicleref04_Sum.mono _ _ _)
   | (with_reducible exact fascicleref05_Unstuff.mono _ _)
   | (with_reducible exact LeO.refl _)
   | (with_reducible exact LeO.none _)
   | (with_reducible refine LeO.ite ?_ ?_)
   | (with_reducible refine LeO.bind ?_ (fun _ => ?_))
   | exact fascicleref01_Value.mono _ _
   | exact fascicleref04_Sum.mono _ _ _
   | exact fascicleref05_Unstuff.mono _ _
   | exact LeO.none _
   | refine LeO.ite ?_ ?_
   | refine LeO.bind ?_ (fun _ => ?_)
def fascicleref09_Open.T7 : Bool × List (List Nat × List Nat) := (true, [([], []), ([], []), ([0, 1], [0, 1]), ([2], [2]), ([], []), ([], []), ([4, 5], [4, 5]), ([6, 3], [6]), ([3, 7], [3, 7])])
def fascicleref09_Open.B7 : List Nat := [0, 0, 3, 7, 0, 0, 48, 127, 255]
theorem fascicleref09_Open.tab7 : rtab .any (opsOf Try.f20 7) = fascicleref09_Open.T7 := by kernel_rfl
theorem fascicleref09_Open.bits7 : waitsOk fascicleref09_Open.T7.2 fascicleref09_Open.B7 = true := by kernel_rfl
theorem fascicleref09_Open.calls (k : Nat) (a0 : ByteArray) (r1 : ByteArray) (r2 : Int) (w : World) (h : fascicleref09_Open.f k a0 = some (r1, r2)) :
  Calls Try.prog 20 #[.string a0] w fun e w' => e = .returned (.tuple #[.string r1, .int .i64 r2]) ∧ Below w.heap.size w w' := by
 have HB := Aside0.mk (Below.refl w.heap.size w)
 have H : ((fascicleref05_Unstuff.f k a0).bind fun bt210 => (if bt210.2 = 0 then (if (wrap64 ((bt210.1.size : Int) - 8)) < 0 then (some ((⟨#[]⟩ : ByteArray), 2)) else (if 0 ≤ (wrap64 ((bt210.1.size : Int) - 8)) then (if (wrap64 ((bt210.1.size : Int) - 8)) ≤ (bt210.1.size : Int) then ((fascicleref01_Value.f k (bt210.1.extract ((wrap64 ((bt210.1.size : Int) - 8)) : Int).toNat bt210.1.size)).bind fun t212 => ((fascicleref04_Sum.f k 0 (bt210.1.extract 0 ((wrap64 ((bt210.1.size : Int) - 8)) : Int).toNat)).bind fun t213 => (if t212 = t213 then (some (bt210.1.extract 0 ((wrap64 ((bt210.1.size : Int) - 8)) : Int).toNat, 0)) else (some ((⟨#[]⟩ : ByteArray), 5))))) else (none)) else (none))) else (some ((⟨#[]⟩ : ByteArray), bt210.2)))) = some (r1, r2) := h
 clear h
 replace H := Option.bind_eq_some_iff.mp H
 obtain ⟨⟨t210, t211⟩, A20, H⟩ := H
 replace H : (if t211 = 0 then (if (wrap64 ((t210.size : Int) - 8)) < 0 then (some ((⟨#[]⟩ : ByteArray), 2)) else (if 0 ≤ (wrap64 ((t210.size : Int) - 8)) then (if (wrap64 ((t210.size : Int) - 8)) ≤ (t210.size : Int) then ((fascicleref01_Value.f k (t210.extract ((wrap64 ((t210.size : Int) - 8)) : Int).toNat t210.size)).bind fun t212 => ((fascicleref04_Sum.f k 0 (t210.extract 0 ((wrap64 ((t210.size : Int) - 8)) : Int).toNat)).bind fun t213 => (if t212 = t213 then (some (t210.extract 0 ((wrap64 ((t210.size : Int) - 8)) : Int).toNat, 0)) else (some ((⟨#[]⟩ : ByteArray), 5))))) else (none)) else (none))) else (some ((⟨#[]⟩ : ByteArray), t211))) = some (r1, r2) := H
 have A2 := Aside0.mk A20
 clear A20
 by_cases c3 : t211 = 0
 ·
  rw [if_pos c3] at H
  have c3b0 : (t211 == 0) = true := beq_iff_eq.mpr c3
  have c3b1 : (t211 != 0) = false := bne_eq_false_iff_eq.mpr c3
  clear c3
  by_cases c4 : (wrap64 ((t210.size : Int) - 8)) < 0
  ·
   rw [if_pos c4] at H
   have c4b0 : decide ((wrap64 ((t210.size : Int) - 8)) < 0) = true := decide_eq_true c4
   clear c4
   simp only [Option.some.injEq, Prod.mk.injEq] at H
   obtain ⟨rfl, rfl⟩ := H
   go_enter Try.func20, Try.ntmps20
   go_wp2_with (first | ((with_reducible refine gate_callee (f := 55) rfl ?_); refine goesL_ (some 9) rfl rfl Try.func55 (by kernel_rfl) rfl #[.string a0] rfl (by (try simp only [mA, mB, mC]); first | done | rfl) ?_; (with_reducible refine (fascicleref05_Unstuff.calls k a0 t210 t211 _ A2.out).mono ?_); rintro e w5 ⟨rfl, hb⟩; refine ⟨_, rfl, ?_⟩; replace HB := Aside0.mk (below_step (by repeat with_reducible first | exact HB.out | apply below_alloc | apply pw_below_drewN | apply below_drew1) hb); (try clear hb)))
   go_ret2
   exact ⟨by first | rfl | (simp <;> rfl) | (simp [*] <;> rfl), by repeat (first | (with_reducible first | exact HB.out | apply below_alloc | apply pw_below_drewN | apply below_drew1) | exact HB.out)⟩
  ·
   rw [if_neg c4] at H
   have c4b0 : decide ((wrap64 ((t210.size : Int) - 8)) < 0) = false := decide_eq_false c4
   clear c4
   obtain ⟨ji6, hji6⟩ : ∃ j_ : Int, (wrap64 ((t210.size : Int) - 8)) = j_ := ⟨_, rfl⟩
   replace H : (if 0 ≤ (ji6) then (if (ji6) ≤ (t210.size : Int) then ((fascicleref01_Value.f k (t210.extract ((ji6) : Int).toNat t210.size)).bind fun t212 => ((fascicleref04_Sum.f k 0 (t210.extract 0 ((ji6) : Int).toNat)).bind fun t213 => (if t212 = t213 then (some (t210.extract 0 ((ji6) : Int).toNat, 0)) else (some ((⟨#[]⟩ : ByteArray), 5))))) else (none)) else (none)) = some (r1, r2) := by first | (rw [hji6] at H; exact H) | (simp only [hji6] at H ⊢; exact H)
   (try rw [hji6] at c4b0)
   (try rw [hji6] at A2)
   have hji6w : (IntKind.i64.wrap ((t210.size : Int) - 8)) = ji6 := (i64_w _).trans hji6
   by_cases c7 : 0 ≤ (ji6)
   ·
    rw [if_pos c7] at H
    have c7b0 := eq_true c7
    have c7b1 : decide (0 ≤ (ji6)) = true := decide_eq_true c7
    clear c7
    by_cases c8 : (ji6) ≤ (t210.size : Int)
    ·
     rw [if_pos c8] at H
     have c8b0 := eq_true c8
     have c8b1 : decide ((ji6) ≤ (t210.size : Int)) = true := decide_eq_true c8
     clear c8
     replace H := Option.bind_eq_some_iff.mp H
     obtain ⟨t212, A90, H⟩ := H
     replace H : ((fascicleref04_Sum.f k 0 (t210.extract 0 ((ji6) : Int).toNat)).bind fun t213 => (if t212 = t213 then (some (t210.extract 0 ((ji6) : Int).toNat, 0)) else (some ((⟨#[]⟩ : ByteArray), 5)))) = some (r1, r2) := H
     have A9 := Aside0.mk A90
     clear A90
     have c10b0 := eq_true (of_decide_eq_true (by first | (with_reducible assumption) | assumption) : 0 ≤ (ji6))
     have c11b0 := eq_true (of_decide_eq_true (by first | (with_reducible assumption) | assumption) : (ji6) ≤ (t210.size : Int))
     replace H := Option.bind_eq_some_iff.mp H
     obtain ⟨t213, A120, H⟩ := H
     replace H : (if t212 = t213 then (some (t210.extract 0 ((ji6) : Int).toNat, 0)) else (some ((⟨#[]⟩ : ByteArray), 5))) = some (r1, r2) := H
     have A12 := Aside0.mk A120
     clear A120
     by_cases c13 : t212 = t213
     ·
      rw [if_pos c13] at H
      have c13b0 : (t212 == t213) = true := beq_iff_eq.mpr c13
      have c13b1 : (t212 != t213) = false := bne_eq_false_iff_eq.mpr c13
      clear c13
      have c14b0 := eq_true (of_decide_eq_true (by first | (with_reducible assumption) | assumption) : 0 ≤ (ji6))
      have c15b0 := eq_true (of_decide_eq_true (by first | (with_reducible assumption) | assumption) : (ji6) ≤ (t210.size : Int))
      simp only [Option.some.injEq, Prod.mk.injEq] at H
      obtain ⟨rfl, rfl⟩ := H
      go_enter Try.func20, Try.ntmps20
      try go_wp2_with (first | ((with_reducible refine gate_callee (f := 55) rfl ?_); refine goesL_ (some 9) rfl rfl Try.func55 (by kernel_rfl) rfl #[.string a0] rfl (by (try simp only [mA, mB, mC]); first | done | rfl) ?_; (with_reducible refine (fascicleref05_Unstuff.calls k a0 t210 t211 _ A2.out).mono ?_); rintro e w16 ⟨rfl, hb⟩; refine ⟨_, rfl, ?_⟩; replace HB := Aside0.mk (below_step (by repeat with_reducible first | exact HB.out | apply below_alloc | apply pw_below_drewN | apply below_drew1) hb); (try clear hb)))
      have n0_ := Aside0.mk (below_drew1 HB.out)
      clear HB
      have HB := n0_
      clear n0_
      refine start_ (n := 9) (S := fun w' => True) (ds := []) #[false, false, false, false, false, false, false, false, false] (by kernel_rfl) rfl rfl trivial (fun hHeld => ?_); refine with_tabW fascicleref09_Open.tab7 fascicleref09_Open.bits7 (fun HT_ HW_ => ?_)
      generalize w16.drew = w17 at HB hHeld ⊢
      refine pure_ (i := 0) (N := some 20) (v := ?_) (a' := ?_) #[true, false, false, false, false, false, false, false, false] rfl rfl (any_of HT_.out (by kernel_rfl)) (fun _ _ _ h => h) (Or.inl ⟨by rfl, ?_⟩) ?_ ?_
      rotate_left
      · intro w'; go_simp; with_reducible rfl
      rotate_left
      · simp only [Act.put, sA, sB, sC, i64_w, i32_w]; rfl
      refine pure_ (i := 1) (N := some 21) (v := ?_) (a' := ?_) #[true, true, false, false, false, false, false, false, false] rfl rfl (any_of HT_.out (by kernel_rfl)) (fun _ _ _ h => h) (Or.inl ⟨by rfl, ?_⟩) ?_ ?_
      rotate_left
      · intro w'; go_simp; with_reducible rfl
      rotate_left
      · simp only [Act.put, sA, sB, sC, i64_w, i32_w]; rfl
      refine pure_ (i := 2) (N := some 22) (v := ?_) (a' := ?_) #[true, true, true, false, false, false, false, false, false] rfl rfl (any_of HT_.out (by kernel_rfl)) (fun _ _ _ h => h) (Or.inl ⟨by rfl, ?_⟩) ?_ ?_
      rotate_left
      · intro w'; go_simp; with_reducible rfl
      rotate_left
      · simp only [Act.put, sA, sB, sC, i64_w, i32_w]; rfl
      refine pure_ (i := 4) (N := some 24) (v := ?_) (a' := ?_) #[true, true, true, false, true, false, false, false, false] rfl rfl (any_of HT_.out (by kernel_rfl)) (fun _ _ _ h => h) (Or.inl ⟨by rfl, ?_⟩) ?_ ?_
      rotate_left
      · intro w'; go_simp; with_reducible rfl
      rotate_left
      · simp only [Act.put, sA, sB, sC, i64_w, i32_w]; rfl
      refine pure_ (i := 5) (N := some 25) (v := ?_) (a' := ?_) #[true, true, true, false, true, true, false, false, false] rfl rfl (any_of HT_.out (by kernel_rfl)) (fun _ _ _ h => h) (Or.inl ⟨by rfl, ?_⟩) ?_ ?_
      rotate_left
      · intro w'; go_simp; with_reducible rfl
      rotate_left
      · simp only [Act.put, sA, sB, sC, i64_w, i32_w]; rfl
      refine pure_ (i := 6) (N := some 26) (v := ?_) (a' := ?_) #[true, true, true, false, true, true, true, false, false] rfl rfl (any_of HT_.out (by kernel_rfl)) (fun _ _ _ h => h) (Or.inl ⟨by rfl, ?_⟩) ?_ ?_
      rotate_left
      · intro w'; go_simp; with_reducible rfl
      rotate_left
      · simp only [Act.put, sA, sB, sC, i64_w, i32_w]; rfl
      refine one_ (i := 3) (N := some 23) #[true, true, true, true, true, true, true, false, false] rfl rfl (one_of HT_.out (by kernel_rfl)) (by decide) (fun K hK => ?_)
      refine goes_ Try.func56 (by kernel_rfl) rfl #[.string (t210.extract ((ji6) : Int).toNat t210.size)] (by rfl) rfl rfl (by (try simp only [mA, mB, mC]); first | done | (simp only [hji6]; rfl) | rfl | (simp only [List.length_drop, List.length_take]; rfl)) ?_
      with_reducible refine (fascicleref01_Value.calls k (t210.extract ((ji6) : Int).toNat t210.size) t212 _ A9.out).mono ?_
      rintro e w' ⟨rfl, ⟨nd, rfl⟩⟩
      refine ⟨_, rfl, ?_⟩
      refine hK.out _ _ trivial (fun hHeld => ?_)
      clear hK K
      refine norm_ (a' := ?_) ?_ ?_
      rotate_left
      · show Act.put _ (some 23) _ = _; simp only [Act.put, sA, sB, sC, i64_w, i32_w]; rfl
      refine one_ (i := 7) (N := some 27) #[true, true, true, true, true, true, true, true, false] rfl rfl (one_of HT_.out (by kernel_rfl)) (by decide) (fun K hK => ?_)
      refine goes_ Try.func57 (by kernel_rfl) rfl #[.int .u64 0, .string (t210.extract 0 ((ji6) : Int).toNat)] (by rfl) rfl rfl (by (try simp only [mA, mB, mC]); first | done | (simp only [hji6]; rfl) | rfl | (simp only [List.length_drop, List.length_take]; rfl)) ?_
      with_reducible refine (fascicleref04_Sum.calls k 0 (t210.extract 0 ((ji6) : Int).toNat) t213 _ A12.out).mono ?_
      rintro e w18 ⟨rfl, hb⟩
      refine ⟨_, rfl, ?_⟩
      have n0_ := Aside0.mk (below_step (by repeat with_reducible first | exact HB.out | apply below_alloc | apply pw_below_drewN | apply below_drew1) hb)
      clear HB
      have HB := n0_
      clear n0_
      (try clear hb)
      (try clear hb2)
      (try clear hk)
      (try clear hi)
      refine hK.out _ _ trivial (fun hHeld => ?_)
      clear hK K
      refine norm_ (a' := ?_) ?_ ?_
      rotate_left
      · show Act.put _ (some 27) _ = _; simp only [Act.put, sA, sB, sC, i64_w, i32_w]; rfl
      refine pure_ (i := 8) (N := some 28) (v := ?_) (a' := ?_) #[true, true, true, true, true, true, true, true, true] rfl rfl (any_of HT_.out (by kernel_rfl)) (fun _ _ _ h => h) (Or.inl ⟨by rfl, ?_⟩) ?_ ?_
      rotate_left
      · intro w'; go_simp; with_reducible rfl
      rotate_left
      · simp only [Act.put, sA, sB, sC, i64_w, i32_w]; rfl
      refine done_ (done_of HT_.out (by kernel_rfl)) ?_
      try go_wp2
      go_ret2
      exact ⟨by first | rfl | (simp <;> rfl) | (simp only [← hji6]; first | rfl | (simp <;> rfl)) | (simp [*] <;> rfl), by repeat (first | (with_reducible first | exact HB.out | apply below_alloc | apply pw_below_drewN | apply below_drew1) | exact HB.out)⟩
     ·
      rw [if_neg c13] at H
      have c13b0 : (t212 == t213) = false := beq_eq_false_iff_ne.mpr c13
      have c13b1 : (t212 != t213) = true := bne_iff_ne.mpr c13
      simp only [Option.some.injEq, Prod.mk.injEq] at H
      obtain ⟨rfl, rfl⟩ := H
      go_enter Try.func20, Try.ntmps20
      try go_wp2_with (first | ((with_reducible refine gate_callee (f := 55) rfl ?_); refine goesL_ (some 9) rfl rfl Try.func55 (by kernel_rfl) rfl #[.string a0] rfl (by (try simp only [mA, mB, mC]); first | done | rfl) ?_; (with_reducible refine (fascicleref05_Unstuff.calls k a0 t210 t211 _ A2.out).mono ?_); rintro e w19 ⟨rfl, hb⟩; refine ⟨_, rfl, ?_⟩; replace HB := Aside0.mk (below_step (by repeat with_reducible first | exact HB.out | apply below_alloc | apply pw_below_drewN | apply below_drew1) hb); (try clear hb)))
      have n0_ := Aside0.mk (below_drew1 HB.out)
      clear HB
      have HB := n0_
      clear n0_
      refine start_ (n := 9) (S := fun w' => True) (ds := []) #[false, false, false, false, false, false, false, false, false] (by kernel_rfl) rfl rfl trivial (fun hHeld => ?_); refine with_tabW fascicleref09_Open.tab7 fascicleref09_Open.bits7 (fun HT_ HW_ => ?_)
      generalize w19.drew = w20 at HB hHeld ⊢
      refine pure_ (i := 0) (N := some 20) (v := ?_) (a' := ?_) #[true, false, false, false, false, false, false, false, false] rfl rfl (any_of HT_.out (by kernel_rfl)) (fun _ _ _ h => h) (Or.inl ⟨by rfl, ?_⟩) ?_ ?_
      rotate_left
      · intro w'; go_simp; with_reducible rfl
      rotate_left
      · simp only [Act.put, sA, sB, sC, i64_w, i32_w]; rfl
      refine pure_ (i := 1) (N := some 21) (v := ?_) (a' := ?_) #[true, true, false, false, false, false, false, false, false] rfl rfl (any_of HT_.out (by kernel_rfl)) (fun _ _ _ h => h) (Or.inl ⟨by rfl, ?_⟩) ?_ ?_
      rotate_left
      · intro w'; go_simp; with_reducible rfl
      rotate_left
      · simp only [Act.put, sA, sB, sC, i64_w, i32_w]; rfl
      refine pure_ (i := 2) (N := some 22) (v := ?_) (a' := ?_) #[true, true, true, false, false, false, false, false, false] rfl rfl (any_of HT_.out (by kernel_rfl)) (fun _ _ _ h => h) (Or.inl ⟨by rfl, ?_⟩) ?_ ?_
      rotate_left
      · intro w'; go_simp; with_reducible rfl
      rotate_left
      · simp only [Act.put, sA, sB, sC, i64_w, i32_w]; rfl
      refine pure_ (i := 4) (N := some 24) (v := ?_) (a' := ?_) #[true, true, true, false, true, false, false, false, false] rfl rfl (any_of HT_.out (by kernel_rfl)) (fun _ _ _ h => h) (Or.inl ⟨by rfl, ?_⟩) ?_ ?_
      rotate_left
      · intro w'; go_simp; with_reducible rfl
      rotate_left
      · simp only [Act.put, sA, sB, sC, i64_w, i32_w]; rfl
      refine pure_ (i := 5) (N := some 25) (v := ?_) (a' := ?_) #[true, true, true, false, true, true, false, false, false] rfl rfl (any_of HT_.out (by kernel_rfl)) (fun _ _ _ h => h) (Or.inl ⟨by rfl, ?_⟩) ?_ ?_
      rotate_left
      · intro w'; go_simp; with_reducible rfl
      rotate_left
      · simp only [Act.put, sA, sB, sC, i64_w, i32_w]; rfl
      refine pure_ (i := 6) (N := some 26) (v := ?_) (a' := ?_) #[true, true, true, false, true, true, true, false, false] rfl rfl (any_of HT_.out (by kernel_rfl)) (fun _ _ _ h => h) (Or.inl ⟨by rfl, ?_⟩) ?_ ?_
      rotate_left
      · intro w'; go_simp; with_reducible rfl
      rotate_left
      · simp only [Act.put, sA, sB, sC, i64_w, i32_w]; rfl
      refine one_ (i := 3) (N := some 23) #[true, true, true, true, true, true, true, false, false] rfl rfl (one_of HT_.out (by kernel_rfl)) (by decide) (fun K hK => ?_)
      refine goes_ Try.func56 (by kernel_rfl) rfl #[.string (t210.extract ((ji6) : Int).toNat t210.size)] (by rfl) rfl rfl (by (try simp only [mA, mB, mC]); first | done | (simp only [hji6]; rfl) | rfl | (simp only [List.length_drop, List.length_take]; rfl)) ?_
      with_reducible refine (fascicleref01_Value.calls k (t210.extract ((ji6) : Int).toNat t210.size) t212 _ A9.out).mono ?_
      rintro e w' ⟨rfl, ⟨nd, rfl⟩⟩
      refine ⟨_, rfl, ?_⟩
      refine hK.out _ _ trivial (fun hHeld => ?_)
      clear hK K
      refine norm_ (a' := ?_) ?_ ?_
      rotate_left
      · show Act.put _ (some 23) _ = _; simp only [Act.put, sA, sB, sC, i64_w, i32_w]; rfl
      refine one_ (i := 7) (N := some 27) #[true, true, true, true, true, true, true, true, false] rfl rfl (one_of HT_.out (by kernel_rfl)) (by decide) (fun K hK => ?_)
      refine goes_ Try.func57 (by kernel_rfl) rfl #[.int .u64 0, .string (t210.extract 0 ((ji6) : Int).toNat)] (by rfl) rfl rfl (by (try simp only [mA, mB, mC]); first | done | (simp only [hji6]; rfl) | rfl | (simp only [List.length_drop, List.length_take]; rfl)) ?_
      with_reducible refine (fascicleref04_Sum.calls k 0 (t210.extract 0 ((ji6) : Int).toNat) t213 _ A12.out).mono ?_
      rintro e w21 ⟨rfl, hb⟩
      refine ⟨_, rfl, ?_⟩
      have n0_ := Aside0.mk (below_step (by repeat with_reducible first | exact HB.out | apply below_alloc | apply pw_below_drewN | apply below_drew1) hb)
      clear HB
      have HB := n0_
      clear n0_
      (try clear hb)
      (try clear hb2)
      (try clear hk)
      (try clear hi)
      refine hK.out _ _ trivial (fun hHeld => ?_)
      clear hK K
      refine norm_ (a' := ?_) ?_ ?_
      rotate_left
      · show Act.put _ (some 27) _ = _; simp only [Act.put, sA, sB, sC, i64_w, i32_w]; rfl
      refine pure_ (i := 8) (N := some 28) (v := ?_) (a' := ?_) #[true, true, true, true, true, true, true, true, true] rfl rfl (any_of HT_.out (by kernel_rfl)) (fun _ _ _ h => h) (Or.inl ⟨by rfl, ?_⟩) ?_ ?_
      rotate_left
      · intro w'; go_simp; with_reducible rfl
      rotate_left
      · simp only [Act.put, sA, sB, sC, i64_w, i32_w]; rfl
      refine done_ (done_of HT_.out (by kernel_rfl)) ?_
      try go_wp2
      go_ret2
      exact ⟨by first | rfl | (simp <;> rfl) | (simp only [← hji6]; first | rfl | (simp <;> rfl)) | (simp [*] <;> rfl), by repeat (first | (with_reducible first | exact HB.out | apply below_alloc | apply pw_below_drewN | apply below_drew1) | exact HB.out)⟩
    ·
     rw [if_neg c8] at H
     exact absurd H (by simp)
   ·
    rw [if_neg c7] at H
    exact absurd H (by simp)
 ·
  rw [if_neg c3] at H
  have c3b0 : (t211 == 0) = false := beq_eq_false_iff_ne.mpr c3
  have c3b1 : (t211 != 0) = true := bne_iff_ne.mpr c3
  simp only [Option.some.injEq, Prod.mk.injEq] at H
  obtain ⟨rfl, rfl⟩ := H
  go_enter Try.func20, Try.ntmps20
  go_wp2_with (first | ((with_reducible refine gate_callee (f := 55) rfl ?_); refine goesL_ (some 9) rfl rfl Try.func55 (by kernel_rfl) rfl #[.string a0] rfl (by (try simp only [mA, mB, mC]); first | done | rfl) ?_; (with_reducible refine (fascicleref05_Unstuff.calls k a0 t210 t211 _ A2.out).mono ?_); rintro e w22 ⟨rfl, hb⟩; refine ⟨_, rfl, ?_⟩; replace HB := Aside0.mk (below_step (by repeat with_reducible first | exact HB.out | apply below_alloc | apply pw_below_drewN | apply below_drew1) hb); (try clear hb)))
  go_ret2
  exact ⟨by first | rfl | (simp <;> rfl) | (simp [*] <;> rfl), by repeat (first | (with_reducible first | exact HB.out | apply below_alloc | apply pw_below_drewN | apply below_drew1) | exact HB.out)⟩
def fascicleref09_Seal.f (k : Nat) (a0 : ByteArray) : Option (ByteArray) := (fascicleref04_Sum.f k 0 a0).bind fun t214 => ((fascicleref01_Num.f k t214 8).bind fun t215 => (if a0.size + t215.size ≤ 9223372036854775807 then ((fascicleref05_Stuff.f k (a0 ++ t215)).bind fun t216 => (if t216.size + 1 ≤ 9223372036854775807 then (some (t216 ++ (⟨#[0]⟩ : ByteArray))) else (none))) else (none)))
theorem fascicleref09_Seal.mono : ∀ a0 k, LeO (fascicleref09_Seal.f k a0) (fascicleref09_Seal.f (k + 1) a0) := by
 intro a0 k
 unfold fascicleref09_Seal.f
 repeat' first
   | (with_reducible exact fascicleref01_Num.mono _ _ _)
   | (with_reducible exact fascicleref04_Sum.mono _ _ _)
   | (with_reducible exact fascicleref05_Stuff.mono _ _)
   | (with_reducible exact LeO.refl _)
   | (with_reducible exact LeO.none _)
   | (with_reducible refine LeO.ite ?_ ?_)
   | (with_reducible refine LeO.bind ?_ (fun _ => ?_))
   | exact fascicleref01_Num.mono _ _ _
   | exact fascicleref04_Sum.mono _ _ _
   | exact fascicleref05_Stuff.mono _ _
   | exact LeO.none _
   | refine LeO.ite ?_ ?_
   | refine LeO.bind ?_ (fun _ => ?_)
theorem fascicleref09_Seal.calls (k : Nat) (a0 : ByteArray) (r : ByteArray) (w : World) (h : fascicleref09_Seal.f k a0 = some r) :
  Calls Try.prog 22 #[.string a0] w fun e w' => e = .returned (.string r) ∧ Below w.heap.size w w' := by
 have HB := Aside0.mk (Below.refl w.heap.size w)
 have H : ((fascicleref04_Sum.f k 0 a0).bind fun t214 => ((fascicleref01_Num.f k t214 8).bind fun t215 => (if a0.size + t215.size ≤ 9223372036854775807 then ((fascicleref05_Stuff.f k (a0 ++ t215)).bind fun t216 => (if t216.size + 1 ≤ 9223372036854775807 then (some (t216 ++ (⟨#[0]⟩ : ByteArray))) else (none))) else (none)))) = some r := h
 clear h
 replace H := Option.bind_eq_some_iff.mp H
 obtain ⟨t214, A20, H⟩ := H
 replace H : ((fascicleref01_Num.f k t214 8).bind fun t215 => (if a0.size + t215.size ≤ 9223372036854775807 then ((fascicleref05_Stuff.f k (a0 ++ t215)).bind fun t216 => (if t216.size + 1 ≤ 9223372036854775807 then (some (t216 ++ (⟨#[0]⟩ : ByteArray))) else (none))) else (none))) = some r := H
 have A2 := Aside0.mk A20
 clear A20
 replace H := Option.bind_eq_some_iff.mp H
 obtain ⟨t215, A30, H⟩ := H
 replace H : (if a0.size + t215.size ≤ 9223372036854775807 then ((fascicleref05_Stuff.f k (a0 ++ t215)).bind fun t216 => (if t216.size + 1 ≤ 9223372036854775807 then (some (t216 ++ (⟨#[0]⟩ : ByteArray))) else (none))) else (none)) = some r := H
 have A3 := Aside0.mk A30
 clear A30
 by_cases c4 : a0.size + t215.size ≤ 9223372036854775807
 ·
  rw [if_pos c4] at H
  have c4b0 := eq_true c4
  have c4b1 : decide (a0.size + t215.size ≤ 9223372036854775807) = true := decide_eq_true c4
  try have c4b2 : (9223372036854775807 < a0.size + t215.size) = False := eq_false (Nat.not_lt.2 c4)
  try (have c4b4 := Nat.not_lt.2 c4; simp [ByteArray.size_append, -Nat.not_lt] at c4b4; (try simp only [show ∀ x : UInt8, (⟨#[x]⟩ : ByteArray).size = 1 from fun _ => rfl, show ∀ x y : UInt8, (⟨#[x, y]⟩ : ByteArray).size = 2 from fun _ _ => rfl] at c4b4); have c4b5 := eq_false c4b4)
  replace H := Option.bind_eq_some_iff.mp H
  obtain ⟨t216, A50, H⟩ := H
  replace H : (if t216.size + 1 ≤ 9223372036854775807 then (some (t216 ++ (⟨#[0]⟩ : ByteArray))) else (none)) = some r := H
  have A5 := Aside0.mk A50
  clear A50
  by_cases c6 : t216.size + 1 ≤ 9223372036854775807
  ·
   rw [if_pos c6] at H
   have c6b0 := eq_true c6
   have c6b1 : decide (t216.size + 1 ≤ 9223372036854775807) = true := decide_eq_true c6
   try have c6b2 : (9223372036854775807 < t216.size + 1) = False := eq_false (Nat.not_lt.2 c6)
   try (have c6b4 := Nat.not_lt.2 c6; simp [ByteArray.size_append, -Nat.not_lt] at c6b4; (try simp only [show ∀ x : UInt8, (⟨#[x]⟩ : ByteArray).size = 1 from fun _ => rfl, show ∀ x y : UInt8, (⟨#[x, y]⟩ : ByteArray).size = 2 from fun _ _ => rfl] at c6b4); have c6b5 := eq_false c6b4)
   obtain rfl := Option.some.inj H
   go_enter Try.func22, Try.ntmps22
   go_wp2_with (first | ((with_reducible refine gate_callee (f := 57) rfl ?_); refine goesL_ (some 5) rfl rfl Try.func57 (by kernel_rfl) rfl #[.int .u64 0, .string a0] rfl (by (try simp only [mA, mB, mC]); first | done | rfl) ?_; (with_reducible refine (fascicleref04_Sum.calls k 0 a0 t214 _ A2.out).mono ?_); rintro e w7 ⟨rfl, hb⟩; refine ⟨_, rfl, ?_⟩; replace HB := Aside0.mk (below_step (by repeat with_reducible first | exact HB.out | apply below_alloc | apply pw_below_drewN | apply below_drew1) hb); (try clear hb)) | ((with_reducible refine gate_callee (f := 63) rfl ?_); refine goesL_ (some 6) rfl rfl Try.func63 (by kernel_rfl) rfl #[.int .u64 t214, .int .i64 8] rfl (by (try simp only [mA, mB, mC]); first | done | rfl) ?_; (with_reducible refine (fascicleref01_Num.calls k t214 8 t215 _ A3.out).mono ?_); rintro e w8 ⟨rfl, hb⟩; refine ⟨_, rfl, ?_⟩; replace HB := Aside0.mk (below_step (by repeat with_reducible first | exact HB.out | apply below_alloc | apply pw_below_drewN | apply below_drew1) hb); (try clear hb)) | ((with_reducible refine gate_callee (f := 62) rfl ?_); refine goesL_ (some 8) rfl rfl Try.func62 (by kernel_rfl) rfl #[.string (a0 ++ t215)] rfl (by (try simp only [mA, mB, mC]); first | done | rfl) ?_; (with_reducible refine (fascicleref05_Stuff.calls k (a0 ++ t215) t216 _ A5.out).mono ?_); rintro e w9 ⟨rfl, hb⟩; refine ⟨_, rfl, ?_⟩; replace HB := Aside0.mk (below_step (by repeat with_reducible first | exact HB.out | apply below_alloc | apply pw_below_drewN | apply below_drew1) hb); (try clear hb)))
   go_ret
   exact ⟨by first | rfl | (simp <;> rfl) | (simp [*] <;> rfl), by repeat (first | (with_reducible first | exact HB.out | apply below_alloc | apply pw_below_drewN | apply below_drew1) | exact HB.out)⟩
  ·
   rw [if_neg c6] at H
   exact absurd H (by simp)
 ·
  rw [if_neg c4] at H
  exact absurd H (by simp)
end Go.Proofs.Ytekanmieppnpeaa.G
end
section
namespace Go.Proofs.Ytekanmieppnpeaa.G
open Go.RowKit Go.Proofs.YtekanmieppnpeaaW.PrintWords Go.Proofs.YtekanmieppnpeaaW.PrintLast Go.Proofs.YtekanmieppnpeaaW.PrintMore
attribute [local go_sem] max2_int min2_int max_two min_two max_three min_three max_four min_four   -- for this text's walks alone
def fascicleref09_Record.f (k : Nat) (a0_0 : Bool) (a0_1 : Int) (a0_2 : ByteArray) (a0_3 : ByteArray) : Option (ByteArray) := (fascicleref07_Body.f k a0_0 a0_1 a0_2 a0_3).bind fun t298 => ((fascicleref09_Seal.f k t298).bind fun t299 => (some t299))
theorem fascicleref09_Record.mono : ∀ a0 a1 a2 a3 k, LeO (fascicleref09_Record.f k a0 a1 a2 a3) (fascicleref09_Record.f (k + 1) a0 a1 a2 a3) := by
 intro a0 a1 a2 a3 k
 unfold fascicleref09_Record.f
 repeat' first
   | (with_reducible exact fascicleref07_Body.mono _ _ _ _ _)
   | (with_reducible exact fascicleref09_Seal.mono _ _)
   | (with_reducible exact LeO.refl _)
   | (with_reducible exact LeO.none _)
   | (with_reducible refine LeO.ite ?_ ?_)
   | (with_reducible refine LeO.bind ?_ (fun _ => ?_))
   | exact fascicleref07_Body.mono _ _ _ _ _
   | exact fascicleref09_Seal.mono _ _
   | exact LeO.none _
   | refine LeO.ite ?_ ?_
   | refine LeO.bind ?_ (fun _ => ?_)
theorem fascicleref09_Record.calls (k : Nat) (a0_0 : Bool) (a0_1 : Int) (a0_2 : ByteArray) (a0_3 : ByteArray) (r : ByteArray) (w : World) (h : fascicleref09_Record.f k a0_0 a0_1 a0_2 a0_3 = some r) :
  Calls Try.prog 33 #[.agg #[.bool a0_0, .int .u64 a0_1, .string a0_2, .string a0_3]] w fun e w' => e = .returned (.string r) ∧ Below w.heap.size w w' := by
 have hu59 := Try.underlying59
 have HB := Aside0.mk (Below.refl w.heap.size w)
 have H : ((fascicleref07_Body.f k a0_0 a0_1 a0_2 a0_3).bind fun t298 => ((fascicleref09_Seal.f k t298).bind fun t299 => (some t299))) = some r := h
 clear h
 replace H := Option.bind_eq_some_iff.mp H
 obtain ⟨t298, A20, H⟩ := H
 replace H : ((fascicleref09_Seal.f k t298).bind fun t299 => (some t299)) = some r := H
 have A2 := Aside0.mk A20
 clear A20
 replace H := Option.bind_eq_some_iff.mp H
 obtain ⟨t299, A30, H⟩ := H
 replace H : (some t299) = some r := H
 have A3 := Aside0.mk A30
 clear A30
 obtain rfl := Option.some.inj H
 go_enter Try.func33, Try.ntmps33
 go_wp2_with (first | ((with_reducible refine gate_dst (N := 1) rfl ?_); refine box_event ?hg (N := 1) ?hd (cs := #[.bool a0_0, .int .u64 a0_1, .string a0_2, .string a0_3]) (t := 59) ?hr ?_; (case hd => rfl); (case hg => rfl); (case hr => first | (go_simp; done) | (go_simp; rfl)); intro gb297 hg w4 hbox hb; have n0_ := Aside0.mk (below_step (by repeat with_reducible first | exact HB.out | apply below_alloc | apply pw_below_drewN | apply below_drew1) hb); have n1_ := Aside0.mk (hbox); have n2_ := Aside0.mk ((by rw [hg]; exact (below_size (by repeat with_reducible first | exact HB.out | apply below_alloc | apply pw_below_drewN | apply below_drew1)) : w.heap.size ≤ gb297)); have n3_ := Aside0.mk ((by rw [hg]; exact (below_size (by repeat with_reducible first | exact HB.out | apply below_alloc | apply pw_below_drewN | apply below_drew1)) : w.heap.size ≤ gb297)); clear HB; have HB := n0_; have BK297 := n1_; have GW297 := n2_; have GE297 := n3_; clear n0_ n1_ n2_ n3_; clear hb hbox hg; have hcz5_0 : w4.cell? ⟨gb297, 0, none⟩ = some (.bool a0_0) := (blk_cell BK297.out 0).trans rfl; have hcz5_1 : w4.cell? ⟨gb297, 1, none⟩ = some (.int .u64 a0_1) := (blk_cell BK297.out 1).trans rfl; have hcz5_2 : w4.cell? ⟨gb297, 2, none⟩ = some (.string a0_2) := (blk_cell BK297.out 2).trans rfl; have hcz5_3 : w4.cell? ⟨gb297, 3, none⟩ = some (.string a0_3) := (blk_cell BK297.out 3).trans rfl; have hfz5_0 := blk_frozen BK297.out 0; have hfz5_1 := blk_frozen BK297.out 1; have hfz5_2 := blk_frozen BK297.out 2; have hfz5_3 := blk_frozen BK297.out 3) | ((with_reducible refine gate_callee (f := 80) rfl ?_); refine goesL_ (some 4) rfl rfl Try.func80 (by kernel_rfl) rfl #[.agg #[.bool a0_0, .int .u64 a0_1, .string a0_2, .string a0_3]] rfl (by (try simp only [mA, mB, mC]); first | done | rfl) ?_; (with_reducible refine (fascicleref07_Body.calls k a0_0 a0_1 a0_2 a0_3 t298 _ A2.out).mono ?_); rintro e w6 ⟨rfl, hb⟩; refine ⟨_, rfl, ?_⟩; replace BK297 := Aside0.mk (blk_below (g := gb297) (o := .cells #[.bool a0_0, .int .u64 a0_1, .string a0_2, .string a0_3] 59 (0, 0)) (by (with_reducible repeat (first | refine blk_drewN ?_ _ | refine blk_drew ?_ | refine blk_alloc ?_ _)); exact BK297.out) hb); replace HB := Aside0.mk (below_step (by repeat with_reducible first | exact HB.out | apply below_alloc | apply pw_below_drewN | apply below_drew1 | refine below_set ?_ GE297.out) hb); (try clear hb)) | ((with_reducible refine gate_callee (f := 22) rfl ?_); refine goesL_ (some 5) rfl rfl Try.func22 (by kernel_rfl) rfl #[.string t298] rfl (by (try simp only [mA, mB, mC]); first | done | rfl) ?_; (with_reducible refine (fascicleref09_Seal.calls k t298 t299 _ A3.out).mono ?_); rintro e w7 ⟨rfl, hb⟩; refine ⟨_, rfl, ?_⟩; replace BK297 := Aside0.mk (blk_below (g := gb297) (o := .cells #[.bool a0_0, .int .u64 a0_1, .string a0_2, .string a0_3] 59 (0, 0)) (by (with_reducible repeat (first | refine blk_drewN ?_ _ | refine blk_drew ?_ | refine blk_alloc ?_ _)); exact BK297.out) hb); replace HB := Aside0.mk (below_step (by repeat with_reducible first | exact HB.out | apply below_alloc | apply pw_below_drewN | apply below_drew1 | refine below_set ?_ GE297.out) hb); (try clear hb)))
 go_ret
 exact ⟨by first | rfl | (simp <;> rfl) | (simp [*] <;> rfl), by repeat (first | (with_reducible first | exact HB.out | apply below_alloc | apply pw_below_drewN | apply below_drew1 | refine below_set ?_ GE297.out) | exact HB.out)⟩
def fascicleref09_GetRecord.f (k : Nat) (a0 : ByteArray) : Option (Bool × Int × ByteArray × ByteArray × Int) := (fascicleref09_Open.f k a0).bind fun bt301 => (if bt301.2 = 0 then ((fascicleref07_Read.f k bt301.1).bind fun bt303 => (some (bt303.1, bt303.2.1, bt303.2.2.1, bt303.2.2.2.1, bt303.2.2.2.2))) else (some (false, 0, (⟨#[]⟩ : ByteArray), (⟨#[]⟩ : ByteArray), bt301.2)))
theorem fascicleref09_GetRecord.mono : ∀ a0 k, LeO (fascicleref09_GetRecord.f k a0) (fascicleref09_GetRecord.f (k + 1) a0) := by
 intro a0 k
 unfold fascicleref09_GetRecord.f
 repeat' first
   | (with_reducible exact fascicleref07_Read.mono _ _)
   | (with_reducible exact fascicleref09_Open.mono _ _)
   | (with_reducible exact LeO.refl _)
   | (with_reducible exact LeO.none _)
   | (with_reducible refine LeO.ite ?_ ?_)
   | (with_reducible refine LeO.bind ?_ (fun _ => ?_))
   | exact fascicleref07_Read.mono _ _
   | exact fascicleref09_Open.mono _ _
   | exact LeO.none _
   | refine LeO.ite ?_ ?_
   | refine LeO.bind ?_ (fun _ => ?_)
theorem fascicleref09_GetRecord.calls (k : Nat) (a0 : ByteArray) (r1 : Bool) (r2 : Int) (r3 : ByteArray) (r4 : ByteArray) (r5 : Int) (w : World) (h : fascicleref09_GetRecord.f k a0 = some (r1, r2, r3, r4, r5)) :
  Calls Try.prog 34 #[.string a0] w fun e w' => e = .returned (.tuple #[.agg #[.bool r1, .int .u64 r2, .string r3, .string r4], .int .i64 r5]) ∧ Below w.heap.size w w' := by
 have hu59 := Try.underlying59
 have HB := Aside0.mk (Below.refl w.heap.size w)
 have H : ((fascicleref09_Open.f k a0).bind fun bt301 => (if bt301.2 = 0 then ((fascicleref07_Read.f k bt301.1).bind fun bt303 => (some (bt303.1, bt303.2.1, bt303.2.2.1, bt303.2.2.2.1, bt303.2.2.2.2))) else (some (false, 0, (⟨#[]⟩ : ByteArray), (⟨#[]⟩ : ByteArray), bt301.2)))) = some (r1, r2, r3, r4, r5) := h
 clear h
 replace H := Option.bind_eq_some_iff.mp H
 obtain ⟨⟨t301, t302⟩, A20, H⟩ := H
 replace H : (if t302 = 0 then ((fascicleref07_Read.f k t301).bind fun bt303 => (some (bt303.1, bt303.2.1, bt303.2.2.1, bt303.2.2.2.1, bt303.2.2.2.2))) else (some (false, 0, (⟨#[]⟩ : ByteArray), (⟨#[]⟩ : ByteArray), t302))) = some (r1, r2, r3, r4, r5) := H
 have A2 := Aside0.mk A20
 clear A20
 by_cases c3 : t302 = 0
 ·
  rw [if_pos c3] at H
  have c3b0 : (t302 == 0) = true := beq_iff_eq.mpr c3
  have c3b1 : (t302 != 0) = false := bne_eq_false_iff_eq.mpr c3
  clear c3
  replace H := Option.bind_eq_some_iff.mp H
  obtain ⟨⟨t303, t304, t305, t306, t307⟩, A40, H⟩ := H
  replace H : (some (t303, t304, t305, t306, t307)) = some (r1, r2, r3, r4, r5) := H
  have A4 := Aside0.mk A40
  clear A40
  simp only [Option.some.injEq, Prod.mk.injEq] at H
  obtain ⟨rfl, rfl, rfl, rfl, rfl⟩ := H
  go_enter Try.func34, Try.ntmps34
  go_wp2_with (first | ((with_reducible refine gate_dst (N := 2) rfl ?_); refine box_event ?hg (N := 2) ?hd (cs := #[.bool false, .int .u64 0, .string (⟨#[]⟩ : ByteArray), .string (⟨#[]⟩ : ByteArray)]) (t := 59) ?hr ?_; (case hd => rfl); (case hg => rfl); (case hr => first | (go_simp; done) | (go_simp; rfl)); intro gb300 hg w5 hbox hb; have n0_ := Aside0.mk (below_step (by repeat with_reducible first | exact HB.out | apply below_alloc | apply pw_below_drewN | apply below_drew1) hb); have n1_ := Aside0.mk (hbox); have n2_ := Aside0.mk ((by rw [hg]; exact (below_size (by repeat with_reducible first | exact HB.out | apply below_alloc | apply pw_below_drewN | apply below_drew1)) : w.heap.size ≤ gb300)); have n3_ := Aside0.mk ((by rw [hg]; exact (below_size (by repeat with_reducible first | exact HB.out | apply below_alloc | apply pw_below_drewN | apply below_drew1)) : w.heap.size ≤ gb300)); clear HB; have HB := n0_; have BK300 := n1_; have GW300 := n2_; have GE300 := n3_; clear n0_ n1_ n2_ n3_; clear hb hbox hg) | ((with_reducible refine gate_callee (f := 20) rfl ?_); refine goesL_ (some 8) rfl rfl Try.func20 (by kernel_rfl) rfl #[.string a0] rfl (by (try simp only [mA, mB, mC]); first | done | rfl) ?_; (with_reducible refine (fascicleref09_Open.calls k a0 t301 t302 _ A2.out).mono ?_); rintro e w6 ⟨rfl, hb⟩; refine ⟨_, rfl, ?_⟩; replace BK300 := Aside0.mk (blk_below (g := gb300) (o := .cells #[.bool false, .int .u64 0, .string (⟨#[]⟩ : ByteArray), .string (⟨#[]⟩ : ByteArray)] 59 (0, 0)) (by (with_reducible repeat (first | refine blk_drewN ?_ _ | refine blk_drew ?_ | refine blk_alloc ?_ _)); exact BK300.out) hb); replace HB := Aside0.mk (below_step (by repeat with_reducible first | exact HB.out | apply below_alloc | apply pw_below_drewN | apply below_drew1 | refine below_set ?_ GE300.out) hb); (try clear hb)) | ((with_reducible refine gate_callee (f := 81) rfl ?_); refine goesL_ (some 16) rfl rfl Try.func81 (by kernel_rfl) rfl #[.string t301] rfl (by (try simp only [mA, mB, mC]); first | done | rfl) ?_; (with_reducible refine (fascicleref07_Read.calls k t301 t303 t304 t305 t306 t307 _ A4.out).mono ?_); rintro e w7 ⟨rfl, hb⟩; refine ⟨_, rfl, ?_⟩; replace BK300 := Aside0.mk (blk_below (g := gb300) (o := .cells #[.bool false, .int .u64 0, .string (⟨#[]⟩ : ByteArray), .string (⟨#[]⟩ : ByteArray)] 59 (0, 0)) (by (with_reducible repeat (first | refine blk_drewN ?_ _ | refine blk_drew ?_ | refine blk_alloc ?_ _)); exact BK300.out) hb); replace HB := Aside0.mk (below_step (by repeat with_reducible first | exact HB.out | apply below_alloc | apply pw_below_drewN | apply below_drew1 | refine below_set ?_ GE300.out) hb); (try clear hb); have hcz8_0 : w7.cell? ⟨gb300, 0, none⟩ = some (.bool false) := (blk_cell BK300.out 0).trans rfl; have hcz8_1 : w7.cell? ⟨gb300, 1, none⟩ = some (.int .u64 0) := (blk_cell BK300.out 1).trans rfl; have hcz8_2 : w7.cell? ⟨gb300, 2, none⟩ = some (.string (⟨#[]⟩ : ByteArray)) := (blk_cell BK300.out 2).trans rfl; have hcz8_3 : w7.cell? ⟨gb300, 3, none⟩ = some (.string (⟨#[]⟩ : ByteArray)) := (blk_cell BK300.out 3).trans rfl; have hfz8_0 := blk_frozen BK300.out 0; have hfz8_1 := blk_frozen BK300.out 1; have hfz8_2 := blk_frozen BK300.out 2; have hfz8_3 := blk_frozen BK300.out 3))
  refine bodyPost_ret (results_ct rfl _ _ gb300 59 #[.bool t303, .int .u64 t304, .string t305, .string t306] (0, 0) _ rfl (by (with_reducible repeat (first | refine blk_drewN ?_ _ | refine blk_drew ?_ | refine blk_alloc ?_ _)); refine blk_put (cs := #[.bool t303, .int .u64 t304, .string t305, .string (⟨#[]⟩ : ByteArray)]) ?_ 3 _ rfl; refine blk_put (cs := #[.bool t303, .int .u64 t304, .string (⟨#[]⟩ : ByteArray), .string (⟨#[]⟩ : ByteArray)]) ?_ 2 _ rfl; refine blk_put (cs := #[.bool t303, .int .u64 0, .string (⟨#[]⟩ : ByteArray), .string (⟨#[]⟩ : ByteArray)]) ?_ 1 _ rfl; refine blk_put (cs := #[.bool false, .int .u64 0, .string (⟨#[]⟩ : ByteArray), .string (⟨#[]⟩ : ByteArray)]) ?_ 0 _ rfl; (with_reducible repeat (first | refine blk_drewN ?_ _ | refine blk_drew ?_ | refine blk_alloc ?_ _)); exact BK300.out) Try.underlying59 rfl (by kernel_rfl)) rfl ?_
  exact ⟨by first | rfl | (simp <;> rfl) | (simp [*] <;> rfl), by repeat (first | (with_reducible first | exact HB.out | apply below_alloc | apply pw_below_drewN | apply below_drew1 | refine below_set ?_ GE300.out) | exact HB.out)⟩
 ·
  rw [if_neg c3] at H
  have c3b0 : (t302 == 0) = false := beq_eq_false_iff_ne.mpr c3
  have c3b1 : (t302 != 0) = true := bne_iff_ne.mpr c3
  simp only [Option.some.injEq, Prod.mk.injEq] at H
  obtain ⟨rfl, rfl, rfl, rfl, rfl⟩ := H
  go_enter Try.func34, Try.ntmps34
  go_wp2_with (first | ((with_reducible refine gate_dst (N := 2) rfl ?_); refine box_event ?hg (N := 2) ?hd (cs := #[.bool false, .int .u64 0, .string (⟨#[]⟩ : ByteArray), .string (⟨#[]⟩ : ByteArray)]) (t := 59) ?hr ?_; (case hd => rfl); (case hg => rfl); (case hr => first | (go_simp; done) | (go_simp; rfl)); intro gb300 hg w9 hbox hb; have n0_ := Aside0.mk (below_step (by repeat with_reducible first | exact HB.out | apply below_alloc | apply pw_below_drewN | apply below_drew1) hb); have n1_ := Aside0.mk (hbox); have n2_ := Aside0.mk ((by rw [hg]; exact (below_size (by repeat with_reducible first | exact HB.out | apply below_alloc | apply pw_below_drewN | apply below_drew1)) : w.heap.size ≤ gb300)); have n3_ := Aside0.mk ((by rw [hg]; exact (below_size (by repeat with_reducible first | exact HB.out | apply below_alloc | apply pw_below_drewN | apply below_drew1)) : w.heap.size ≤ gb300)); clear HB; have HB := n0_; have BK300 := n1_; have GW300 := n2_; have GE300 := n3_; clear n0_ n1_ n2_ n3_; clear hb hbox hg) | ((with_reducible refine gate_callee (f := 20) rfl ?_); refine goesL_ (some 8) rfl rfl Try.func20 (by kernel_rfl) rfl #[.string a0] rfl (by (try simp only [mA, mB, mC]); first | done | rfl) ?_; (with_reducible refine (fascicleref09_Open.calls k a0 t301 t302 _ A2.out).mono ?_); rintro e w10 ⟨rfl, hb⟩; refine ⟨_, rfl, ?_⟩; replace BK300 := Aside0.mk (blk_below (g := gb300) (o := .cells #[.bool false, .int .u64 0, .string (⟨#[]⟩ : ByteArray), .string (⟨#[]⟩ : ByteArray)] 59 (0, 0)) (by (with_reducible repeat (first | refine blk_drewN ?_ _ | refine blk_drew ?_ | refine blk_alloc ?_ _)); exact BK300.out) hb); replace HB := Aside0.mk (below_step (by repeat with_reducible first | exact HB.out | apply below_alloc | apply pw_below_drewN | apply below_drew1 | refine below_set ?_ GE300.out) hb); (try clear hb); have hcz11_0 : w10.cell? ⟨gb300, 0, none⟩ = some (.bool false) := (blk_cell BK300.out 0).trans rfl; have hcz11_1 : w10.cell? ⟨gb300, 1, none⟩ = some (.int .u64 0) := (blk_cell BK300.out 1).trans rfl; have hcz11_2 : w10.cell? ⟨gb300, 2, none⟩ = some (.string (⟨#[]⟩ : ByteArray)) := (blk_cell BK300.out 2).trans rfl; have hcz11_3 : w10.cell? ⟨gb300, 3, none⟩ = some (.string (⟨#[]⟩ : ByteArray)) := (blk_cell BK300.out 3).trans rfl; have hfz11_0 := blk_frozen BK300.out 0; have hfz11_1 := blk_frozen BK300.out 1; have hfz11_2 := blk_frozen BK300.out 2; have hfz11_3 := blk_frozen BK300.out 3))
  refine bodyPost_ret (results_ct rfl _ _ gb300 59 #[.bool false, .int .u64 0, .string (⟨#[]⟩ : ByteArray), .string (⟨#[]⟩ : ByteArray)] (0, 0) _ rfl (by (with_reducible repeat (first | refine blk_drewN ?_ _ | refine blk_drew ?_ | refine blk_alloc ?_ _)); refine blk_put (cs := #[.bool false, .int .u64 0, .string (⟨#[]⟩ : ByteArray), .string (⟨#[]⟩ : ByteArray)]) ?_ 3 _ rfl; refine blk_put (cs := #[.bool false, .int .u64 0, .string (⟨#[]⟩ : ByteArray), .string (⟨#[]⟩ : ByteArray)]) ?_ 2 _ rfl; refine blk_put (cs := #[.bool false, .int .u64 0, .string (⟨#[]⟩ : ByteArray), .string (⟨#[]⟩ : ByteArray)]) ?_ 1 _ rfl; refine blk_put (cs := #[.bool false, .int .u64 0, .string (⟨#[]⟩ : ByteArray), .string (⟨#[]⟩ : ByteArray)]) ?_ 0 _ rfl; (with_reducible repeat (first | refine blk_drewN ?_ _ | refine blk_drew ?_ | refine blk_alloc ?_ _)); exact BK300.out) Try.underlying59 rfl (by kernel_rfl)) rfl ?_
  exact ⟨by first | rfl | (simp <;> rfl) | (simp [*] <;> rfl), by repeat (first | (with_reducible first | exact HB.out | apply below_alloc | apply pw_below_drewN | apply below_drew1 | refine below_set ?_ GE300.out) | exact HB.out)⟩
end Go.Proofs.Ytekanmieppnpeaa.G
end
section
namespace Go.Proofs.Ytekanmieppnpeaa.G
open Go.RowKit Go.Proofs.YtekanmieppnpeaaW.PrintWords Go.Proofs.YtekanmieppnpeaaW.PrintLast Go.Proofs.YtekanmieppnpeaaW.PrintMore
attribute [local go_sem] max2_int min2_int max_two min_two max_three min_three max_four min_four
theorem info5' : (Try.prog.info? 5).map (fun i => (i.zero, i.size, i.bytes)) = some (some (.int .u8 0), 1, 1) := by kernel_rfl
theorem C_none {d : Kd Int} {w : World} {l : List Int} (h : Kd.C d w none l.length l) : l = [] := by
 obtain ⟨_, _, h3⟩ := h
 rcases l with _ | ⟨x, l⟩
 ·
  rfl
 ·
  obtain ⟨ad, e, _⟩ := h3 (by simp)
  cases e
def bytes_Clone.f (l0 : List Int) : Option (List Int) := if l0.length < 140737488355328 then some l0 else none
theorem bytes_Clone.calls {n : Nat} (A0 : Option Addr) (c0 : Nat) (l0 : List Int) (r : List Int) (w : World) (hr0 : Kd.C (Kd.int .u8) w A0 l0.length l0) (hc0 : l0.length ≤ c0) (h : bytes_Clone.f l0 = some r)
  (hn : n = l0.length := by first | rfl | (simp only [List.length_drop, List.length_take]; rfl) | (simp only [List.length_drop, List.length_take]; (try simp only [decide_eq_true_eq, eq_iff_iff, iff_true] at *); omega)) :
  Calls Try.prog 111 #[.slice A0 n c0] w fun e w' => ∃ v0_ : Value, e = .returned (v0_) ∧ Kd.R (Kd.int .u8) 5 w' w.heap.size (fun _ => True) v0_ r ∧ Below w.heap.size w w' := by
 subst hn
 have HR0 := Aside0.mk hr0
 have HC0 := Aside0.mk hc0
 clear hr0 hc0
 unfold bytes_Clone.f at h
 by_cases hl : l0.length < 140737488355328
 ·
  rw [if_pos hl] at h
  obtain rfl := Option.some.inj h
  have LM := Aside0.mk hl
  clear h hl
  have HB := Aside0.mk (Below.refl w.heap.size w)
  cases A0 with
  | none =>
   obtain rfl := C_none HR0.out
   have hnil := fun (wx : World) => Lib.run_eql_slice_nil (P := Try.prog) wx 39 5 none 0 c0 0 0 Try.underlying39
   simp only [List.length_nil]
   go_enter Try.func111, Try.ntmps111
   go_wp2
   go_ret
   exact ⟨_, rfl, Kd.R_nil _ _ _ _ _, HB.out⟩
  | some ad =>
   have hnil := fun (wx : World) => Lib.run_eql_slice_nil (P := Try.prog) wx 39 5 (some ad) l0.length c0 0 0 Try.underlying39
   go_enter Try.func111, Try.ntmps111
   go_wp2_with (first | ((with_reducible refine gate_dst (N := 5) rfl ?_); refine Kd.R_lit (Kd.int .u8) _ 5 ?hg (N := 5) ?hd (xs := ([] : List Int)) (inner := []) (ok := fun _ => True) (okp := fun _ => True) ?hr ?hp (fun _ hk => hk) trivial (Below.refl _ _) (Nat.le_refl _) (by simp) ?_; (case hd => rfl); (case hg => rfl); (case hr => first | (go_simp; done) | (go_simp; rfl)); (case hp => exact (Reps.none _ _)); intro v221 w4 ho5 hb hg_ hnew_; clear hg_ hnew_; have n0_ := Aside0.mk (Kd.R_lower ho5 (below_size (by repeat (first | (with_reducible first | exact HB.out | apply below_alloc | apply pw_below_drewN | apply below_drew1) | exact HB.out)))); have n1_ := Aside0.mk (below_step (by repeat (first | (with_reducible first | exact HB.out | apply below_alloc | apply pw_below_drewN | apply below_drew1) | exact HB.out)) hb); clear HB; have HO222 := n0_; have HB := n1_; clear n0_ n1_; clear hb ho5) | ((with_reducible refine gate_builtin (b := .append) (xs := #[.tmp 5, .tmp 6]) rfl ?_); at_builtin; refine Kd.R_append_rows (Kd.int .u8) (w0 := w) w.heap.size rfl (.tmp 5) (.tmp 6) 39 5 (.int .u8 0) 1 rfl Try.underlying39 info5' rfl (by decide) (by omega) v221 [] l0 _ _ _ (fun _ => True) (fun _ => False) rfl rfl ?aO ?aR (fun _ _ h => h) (fun _ h => h.elim) ?aF ?aB ?aS ?aL ?_; (case aR => repeat (first | exact (Kd.C_below HR0.out HB.out) | (with_reducible refine Kd.C_alloc ?_ _) | (with_reducible refine Kd.C_drewN ?_ _) | (with_reducible refine Kd.C_drew ?_))); (case aB => exact (by repeat (first | (with_reducible first | exact HB.out | apply below_alloc | apply pw_below_drewN | apply below_drew1) | exact HB.out))); (case aF => exact (fun _ _ => trivial)); (case aO => exact (by (with_reducible repeat (first | apply Kd.R_alloc | apply Kd.R_drewN | apply Kd.R_drew)); exact HO222.out)); (case aS => exact (below_size (by repeat (first | (with_reducible first | exact HB.out | apply below_alloc | apply pw_below_drewN | apply below_drew1) | exact HB.out)))); (case aL => have := LM.out; simp; omega); intro v224 w6 ho hb hg hat; have n0_ := Aside0.mk (hb); have n1_ := Aside0.mk (ho); clear HB; clear HO222; have HB := n0_; have HO225 := n1_; clear n0_ n1_; clear ho hb hg hat))
   go_ret
   exact ⟨_, rfl, by simpa using HO225.out, HB.out⟩
 ·
  rw [if_neg hl] at h
  cases h
end Go.Proofs.Ytekanmieppnpeaa.G
end
section
namespace Go.Proofs.Ytekanmieppnpeaa.Sep
open Go Go.RowKit Go.Proofs.YtekanmieppnpeaaW.PrintWords Go.Proofs.YtekanmieppnpeaaW.PrintLast Go.Proofs.YtekanmieppnpeaaW.PrintMore Go.Proofs.Ytekanmieppnpeaa.PureKit
def cur (g : Nat) (l : List Int) (at_ : Nat) (live : Bool) : HP where
 p := fun w bs => ∃ A c bs', bs = g :: bs' ∧ w.heap[g]? = some (.cells #[.slice A l.length c, .int .i64 at_, .bool live] 149 (0, 0)) ∧ Kd.R (Kd.int .u8) 5 w 0 (fun k => k ∈ bs') (.slice A l.length c) l
 loc := by
  rintro w w' bs ⟨A, c, bs', e, h1, h2⟩ hm
  exact ⟨A, c, bs', e, by rw [hm g (by rw [e]; simp)]; exact h1, Kd.R_move h2 (fun k hk => hm k (by rw [e]; exact List.mem_cons_of_mem _ hk))⟩
theorem Sep.cur_open {w0 w : World} {g at_ : Nat} {l : List Int} {live : Bool} {ps : List HP} (h : Sep w0 w (cur g l at_ live :: ps)) :
  ∃ A c, Sep w0 w (blk g #[.slice A l.length c, .int .i64 at_, .bool live] 149 :: row (Kd.int .u8) 5 (.slice A l.length c) l :: ps) := by
 obtain ⟨hb, bs, ⟨b1, b2, e, ⟨A, c, bs', e1, h1, h2⟩, hs⟩, hn, hr⟩ := h
 exact ⟨A, c, hb, bs, ⟨[g], bs' ++ b2, by rw [e, e1]; simp, ⟨rfl, h1⟩, bs', b2, rfl, h2, hs⟩, hn, hr⟩
theorem Sep.cur_close {w0 w : World} {g at_ c : Nat} {l : List Int} {live : Bool} {A : Option Addr} {ps : List HP} (h : Sep w0 w (blk g #[.slice A l.length c, .int .i64 at_, .bool live] 149 :: row (Kd.int .u8) 5 (.slice A l.length c) l :: ps)) : Sep w0 w (cur g l at_ live :: ps) := by
 obtain ⟨hb, bs, ⟨b1, b2, e, ⟨e1, h1⟩, b3, b4, e2, h2, hs⟩, hn, hr⟩ := h
 exact ⟨hb, bs, ⟨g :: b3, b4, by rw [e, e1, e2]; simp, ⟨A, c, b3, rfl, h1, h2⟩, hs⟩, hn, hr⟩
def fault (g : Nat) (e : Int) : PanicEntry := { v := .iface 151 (.agg #[.pointer (some ⟨g, 0, none⟩), .int .i64 e]), recovered := false }
theorem cur_dead (w0 w : World) (g at_ : Nat) (l : List Int) (live : Bool) (ps : List HP) (hs : Sep w0 w (cur g l at_ live :: ps)) :
  Calls Try.prog 123 #[.pointer (some ⟨g, 0, none⟩)] w fun e w' => e = .returned (.bool (!live)) ∧ Sep w0 w' (cur g l at_ live :: ps) := by
 have hS := Aside0.mk hs
 obtain ⟨A, c, hO⟩ := Sep.cur_open hs
 have hc0 : w.cell? ⟨g, 0, none⟩ = some (.slice A l.length c) := (hO.cell 0).trans rfl
 have hc1 : w.cell? ⟨g, 1, none⟩ = some (.int .i64 at_) := (hO.cell 1).trans rfl
 have hc2 : w.cell? ⟨g, 2, none⟩ = some (.bool live) := (hO.cell 2).trans rfl
 clear hs hO
 go_enter Try.func123, Try.ntmps123
 go_wp2
 go_ret
 exact ⟨rfl, hS.out⟩
theorem cur_Fail (w0 w : World) (g at_ : Nat) (l : List Int) (ps : List HP) (x : Int) (hs : Sep w0 w (cur g l at_ true :: ps)) (hx : x ≠ 0) :
  Calls Try.prog 71 #[.pointer (some ⟨g, 0, none⟩), .int .i64 x] w fun e w' => e = .panicked [fault g x] ∧ Sep w0 w' (cur g l at_ true :: ps) := by
 have hS := Aside0.mk hs
 clear hs
 have hd : (x != 0) = true := bne_iff_ne.2 hx
 go_enter Try.func71, Try.ntmps71
 go_wp2_with (first | ((with_reducible refine gate_callee (f := 123) rfl ?_); refine goesL_ (some 5) rfl rfl Try.func123 (by kernel_rfl) rfl #[.pointer (some ⟨g, 0, none⟩)] rfl (by (try simp only [List.map_toArray, List.map_cons, List.map_nil]); first | done | rfl) ?_; (with_reducible refine (cur_dead w0 _ g at_ l true ps hS.out).mono ?_); rintro e w1 ⟨rfl, h1⟩; refine ⟨_, rfl, ?_⟩; have hS1 := Aside0.mk h1; clear h1))
 exact ⟨rfl, rfl, hS1.out⟩
theorem cur_Take_none (w0 w : World) (g at_ : Nat) (l : List Int) (ps : List HP) (n : Int) (hs : Sep w0 w (cur g l at_ true :: ps)) (hn : n ≤ 0) :
  Calls Try.prog 142 #[.pointer (some ⟨g, 0, none⟩), .int .i64 n] w fun e w' => e = .returned (.slice none 0 0) ∧ Sep w0 w' (cur g l at_ true :: ps) := by
 have hS := Aside0.mk hs
 clear hs
 have hd : decide (n ≤ 0) = true := decide_eq_true hn
 go_enter Try.func142, Try.ntmps142
 go_wp2_with (first | ((with_reducible refine gate_callee (f := 123) rfl ?_); refine goesL_ (some 6) rfl rfl Try.func123 (by kernel_rfl) rfl #[.pointer (some ⟨g, 0, none⟩)] rfl (by (try simp only [List.map_toArray, List.map_cons, List.map_nil]); first | done | rfl) ?_; (with_reducible refine (cur_dead w0 _ g at_ l true ps hS.out).mono ?_); rintro e w1 ⟨rfl, h1⟩; refine ⟨_, rfl, ?_⟩; have hS1 := Aside0.mk h1; clear h1))
 go_ret
 exact ⟨rfl, hS1.out⟩
theorem cur_Take_short (w0 w : World) (g at_ : Nat) (l : List Int) (ps : List HP) (n : Int) (hs : Sep w0 w (cur g l at_ true :: ps)) (hn : 0 < n) (hat : at_ ≤ l.length) (hl : l.length ≤ 1000000000000) (hsh : n > (l.length : Int) - at_) :
  Calls Try.prog 142 #[.pointer (some ⟨g, 0, none⟩), .int .i64 n] w fun e w' => e = .panicked [fault g 2] ∧ Sep w0 w' (cur g l at_ true :: ps) := by
 have hS := Aside0.mk hs
 clear hs
 have hd : decide (n ≤ 0) = false := decide_eq_false (by omega)
 have hd2 : decide (n > (l.length : Int) - (at_ : Int)) = true := decide_eq_true hsh
 go_enter Try.func142, Try.ntmps142
 go_wp2_with (first | ((with_reducible refine gate_callee (f := 123) rfl ?_); refine goesL_ (some 6) rfl rfl Try.func123 (by kernel_rfl) rfl #[.pointer (some ⟨g, 0, none⟩)] rfl (by (try simp only [List.map_toArray, List.map_cons, List.map_nil]); first | done | rfl) ?_; (with_reducible refine (cur_dead w0 _ g at_ l true ps hS.out).mono ?_); rintro e w1 ⟨rfl, h1⟩; refine ⟨_, rfl, ?_⟩; have hS1 := Aside0.mk h1; clear h1))
 obtain ⟨A, c, hO⟩ := Sep.cur_open hS1.out
 have hc0 : w1.cell? ⟨g, 0, none⟩ = some (.slice A l.length c) := (hO.cell 0).trans rfl
 have hc1 : w1.cell? ⟨g, 1, none⟩ = some (.int .i64 at_) := (hO.cell 1).trans rfl
 have hc2 : w1.cell? ⟨g, 2, none⟩ = some (.bool true) := (hO.cell 2).trans rfl
 have hO := Aside0.mk hO
 repeat (go_quiet (fail); try go_wp2)
 refine ⟨rfl, rfl, ?_⟩
 exact ⟨rfl, hS1.out.drewN _⟩
theorem info8 : (Try.prog.info? 5).map (fun i => (i.zero, i.size, i.bytes)) = some (some (.int .u8 0), 1, 1) := by kernel_rfl
theorem cur_Take_some (w0 w : World) (g at_ : Nat) (l : List Int) (ps : List HP) (m : Nat) (n : Int) (hm : n = m) (hs : Sep w0 w (cur g l at_ true :: ps)) (hn : 0 < m) (hl : l.length ≤ 1000000000000) (hsh : at_ + m ≤ l.length) :
  Calls Try.prog 142 #[.pointer (some ⟨g, 0, none⟩), .int .i64 n] w fun e w' => ∃ v, e = .returned v ∧ Sep w0 w' (row (Kd.int .u8) 5 v ((l.take (at_ + m)).drop at_) :: cur g l (at_ + m) true :: ps) := by
 have hS := Aside0.mk hs
 clear hs
 subst hm
 have hd : decide ((m : Int) ≤ 0) = false := decide_eq_false (by omega)
 have hd2 : decide ((m : Int) > (l.length : Int) - (at_ : Int)) = false := decide_eq_false (by omega)
 go_enter Try.func142, Try.ntmps142
 go_wp2_with (first | ((with_reducible refine gate_callee (f := 123) rfl ?_); refine goesL_ (some 6) rfl rfl Try.func123 (by kernel_rfl) rfl #[.pointer (some ⟨g, 0, none⟩)] rfl (by (try simp only [List.map_toArray, List.map_cons, List.map_nil]); first | done | rfl) ?_; (with_reducible refine (cur_dead w0 _ g at_ l true ps hS.out).mono ?_); rintro e w1 ⟨rfl, h1⟩; refine ⟨_, rfl, ?_⟩; have hS1 := Aside0.mk h1; clear h1))
 obtain ⟨A, c, hO⟩ := Sep.cur_open hS1.out
 have hc0 : w1.cell? ⟨g, 0, none⟩ = some (.slice A l.length c) := (hO.cell 0).trans rfl
 have hc1 : w1.cell? ⟨g, 1, none⟩ = some (.int .i64 at_) := (hO.cell 1).trans rfl
 have hz1 := hO.frozen 1
 have hO := Aside0.mk hO
 go_quiet (fail)
 go_wp2
 have hS2 : Sep w0 ((w1.drewN nq).setCell ⟨g, 1, none⟩ (.int .i64 ((at_ : Int) + (m : Int)))) (cur g l (at_ + m) true :: ps) := by
  refine Sep.cur_close (A := A) (c := c) ?_
  have := (hO.out.drewN nq).set 1 (.int .i64 ((at_ : Int) + (m : Int)))
  simpa using this
 clear hc0 hc1 hz1 hO
 generalize (w1.drewN nq).setCell ⟨g, 1, none⟩ (.int .i64 ((at_ : Int) + (m : Int))) = w2 at hS2 ⊢
 obtain ⟨A2, c2, hO2⟩ := hS2.drew.cur_open
 obtain ⟨bs, hR⟩ := hO2.tail.row_R
 have hr := Kd.R_reads' hR
 have hc0 : w2.drew.cell? ⟨g, 0, none⟩ = some (.slice A2 l.length c2) := (hO2.cell 0).trans rfl
 have hc1 : w2.drew.cell? ⟨g, 1, none⟩ = some (.int .i64 ((at_ : Int) + (m : Int))) := by have := hO2.cell 1; simpa using this
 obtain ⟨i0, hi0, _, hsz, _⟩ := info_parts info8
 have hcut := cut_mid (P := Try.prog) 39 5 .i64 .i64 Try.underlying39 hi0 1 hsz A2 l.length c2 (at_ : Int) ((at_ : Int) + (m : Int)) (by omega) (by omega) (by omega) hr.2.1
 have hC := Kd.C_mid (lo := at_) (hi := at_ + m) (c := c2) hr.2.2 (by omega) (by omega) hr.2.1
 obtain ⟨A3, hA3⟩ : ∃ A3, A3 = (if c2 = at_ then A2 else A2.map (·.add (at_ * 1))) := ⟨_, rfl⟩
 rw [show ((at_ : Int) + (m : Int)).toNat - (at_ : Int).toNat = m by omega, show (at_ : Int).toNat = at_ by omega, ← hA3] at hcut
 have hlen : ((l.take (at_ + m)).drop at_).length = m := by rw [List.length_drop, List.length_take]; omega
 have hC := Aside0.mk (show Kd.C (Kd.int .u8) w2.drew A3 ((l.take (at_ + m)).drop at_).length ((l.take (at_ + m)).drop at_) by rw [hA3]; exact hC)
 have hcl := Aside0.mk hr.2.1
 have hS2 := Aside0.mk hS2.drew
 have hwat : wrap64 (at_ : Int) = (at_ : Int) := w64 (by omega) (by omega)
 clear hO2 hR hr hA3
 refine start_ (n := 17) (S := fun w' => w'.cell? ⟨g, 0, none⟩ = some (.slice A2 l.length c2) ∧ w'.cell? ⟨g, 1, none⟩ = some (.int .i64 ((at_ : Int) + (m : Int)))) (ds := [15]) #[false, false, false, false, false, false, false, false, false, false, false, false, false, false, false, false, false] (by kernel_rfl) rfl rfl ⟨hc0, hc1⟩ (fun hHeld => ?_)
 refine pure_ (i := 0) (N := some 33) (v := ?_) (a' := ?_) #[true, false, false, false, false, false, false, false, false, false, false, false, false, false, false, false, false] rfl rfl (by kernel_rfl) (fun _ _ _ h => h) (Or.inl ⟨by rfl, ?_⟩) ?_ ?_
 rotate_left
 ·
  intro w'
  go_simp
  with_reducible rfl
 rotate_left
 ·
  simp only [Act.put, List.setIfInBounds_toArray, List.set_cons_zero, List.set_cons_succ, i64_w, i32_w]
  rfl
 refine pure_ (i := 1) (N := some 34) (v := ?_) (a' := ?_) #[true, true, false, false, false, false, false, false, false, false, false, false, false, false, false, false, false] rfl rfl (by kernel_rfl) (fun _ _ _ h => h) (Or.inl ⟨by rfl, ?_⟩) ?_ ?_
 rotate_left
 ·
  intro w'
  go_simp
  with_reducible rfl
 rotate_left
 ·
  simp only [Act.put, List.setIfInBounds_toArray, List.set_cons_zero, List.set_cons_succ, i64_w, i32_w]
  rfl
 refine pure_ (i := 2) (N := some 35) (v := ?_) (a' := ?_) #[true, true, true, false, false, false, false, false, false, false, false, false, false, false, false, false, false] rfl rfl (by kernel_rfl) (fun _ _ _ h => h) (Or.inl ⟨by rfl, ?_⟩) ?_ ?_
 rotate_left
 ·
  intro w'
  go_simp
  with_reducible rfl
 rotate_left
 ·
  simp only [Act.put, List.setIfInBounds_toArray, List.set_cons_zero, List.set_cons_succ, i64_w, i32_w]
  rfl
 refine pure_ (i := 4) (N := some 37) (v := ?_) (a' := ?_) #[true, true, true, false, true, false, false, false, false, false, false, false, false, false, false, false, false] rfl rfl (by kernel_rfl) (fun _ _ _ h => h) (Or.inl ⟨by rfl, ?_⟩) ?_ ?_
 rotate_left
 ·
  intro w'
  go_simp
  with_reducible rfl
 rotate_left
 ·
  simp only [Act.put, List.setIfInBounds_toArray, List.set_cons_zero, List.set_cons_succ, i64_w, i32_w]
  rfl
 refine pure_ (i := 5) (N := some 38) (v := ?_) (a' := ?_) #[true, true, true, false, true, true, false, false, false, false, false, false, false, false, false, false, false] rfl rfl (by kernel_rfl) (fun _ _ _ h => h) (Or.inl ⟨by rfl, ?_⟩) ?_ ?_
 rotate_left
 ·
  intro w'
  go_simp
  with_reducible rfl
 rotate_left
 ·
  simp only [Act.put, List.setIfInBounds_toArray, List.set_cons_zero, List.set_cons_succ, i64_w, i32_w]
  rfl
 refine pure_ (i := 6) (N := some 39) (v := ?_) (a' := ?_) #[true, true, true, false, true, true, true, false, false, false, false, false, false, false, false, false, false] rfl rfl (by kernel_rfl) (fun _ _ _ h => h) (Or.inl ⟨by rfl, ?_⟩) ?_ ?_
 rotate_left
 ·
  intro w'
  go_simp
  with_reducible rfl
 rotate_left
 ·
  simp only [Act.put, List.setIfInBounds_toArray, List.set_cons_zero, List.set_cons_succ, i64_w, i32_w]
  rfl
 refine pure_ (i := 8) (N := some 41) (v := ?_) (a' := ?_) #[true, true, true, false, true, true, true, false, true, false, false, false, false, false, false, false, false] rfl rfl (by kernel_rfl) (fun _ _ _ h => h) (Or.inl ⟨by rfl, ?_⟩) ?_ ?_
 rotate_left
 ·
  intro w'
  go_simp
  with_reducible rfl
 rotate_left
 ·
  simp only [Act.put, List.setIfInBounds_toArray, List.set_cons_zero, List.set_cons_succ, i64_w, i32_w]
  rfl
 refine pure_ (i := 10) (N := some 43) (v := ?_) (a' := ?_) #[true, true, true, false, true, true, true, false, true, false, true, false, false, false, false, false, false] rfl rfl (by kernel_rfl) (fun _ _ _ h => h) (Or.inl ⟨by rfl, ?_⟩) ?_ ?_
 rotate_left
 ·
  intro w'
  go_simp
  with_reducible rfl
 rotate_left
 ·
  simp only [Act.put, List.setIfInBounds_toArray, List.set_cons_zero, List.set_cons_succ, i64_w, i32_w]
  rfl
 refine pure_ (i := 11) (N := some 44) (v := ?_) (a' := ?_) #[true, true, true, false, true, true, true, false, true, false, true, true, false, false, false, false, false] rfl rfl (by kernel_rfl) (fun _ _ _ h => h) (Or.inl ⟨by rfl, ?_⟩) ?_ ?_
 rotate_left
 ·
  intro w'
  go_simp
  with_reducible rfl
 rotate_left
 ·
  simp only [Act.put, List.setIfInBounds_toArray, List.set_cons_zero, List.set_cons_succ, i64_w, i32_w]
  rfl
 refine pure_ (i := 12) (N := some 45) (v := ?_) (a' := ?_) #[true, true, true, false, true, true, true, false, true, false, true, true, true, false, false, false, false] rfl rfl (by kernel_rfl) (fun _ _ _ h => h) (Or.inl ⟨by rfl, ?_⟩) ?_ ?_
 rotate_left
 ·
  intro w'
  go_simp
  with_reducible rfl
 rotate_left
 ·
  simp only [Act.put, List.setIfInBounds_toArray, List.set_cons_zero, List.set_cons_succ, i64_w, i32_w]
  rfl
 refine take_ (i := 3) (N := some 36) (v := ?_) (a' := ?_) #[true, true, true, true, true, true, true, false, true, false, true, true, true, false, false, false, false] rfl rfl (by kernel_rfl) (fun _ _ _ h => h) (Or.inl ⟨by rfl, ?_⟩) hHeld ?_ ?_
 rotate_left
 ·
  rintro w' ⟨s0, s1⟩
  go_simp
  with_reducible rfl
 rotate_left
 ·
  simp only [Act.put, List.setIfInBounds_toArray, List.set_cons_zero, List.set_cons_succ, i64_w, i32_w]
  rfl
 refine take_ (i := 7) (N := some 40) (v := ?_) (a' := ?_) #[true, true, true, true, true, true, true, true, true, false, true, true, true, false, false, false, false] rfl rfl (by kernel_rfl) (fun _ _ _ h => h) (Or.inl ⟨by rfl, ?_⟩) hHeld ?_ ?_
 rotate_left
 ·
  rintro w' ⟨s0, s1⟩
  go_simp
  with_reducible rfl
 rotate_left
 ·
  simp only [Act.put, List.setIfInBounds_toArray, List.set_cons_zero, List.set_cons_succ, i64_w, i32_w]
  rfl
 refine pure_ (i := 9) (N := some 42) (v := ?_) (a' := ?_) #[true, true, true, true, true, true, true, true, true, true, true, true, true, false, false, false, false] rfl rfl (by kernel_rfl) (fun _ _ _ h => h) (Or.inl ⟨by rfl, ?_⟩) ?_ ?_
 rotate_left
 ·
  intro w'
  go_simp
  with_reducible rfl
 rotate_left
 ·
  simp only [Act.put, List.setIfInBounds_toArray, List.set_cons_zero, List.set_cons_succ, i64_w, i32_w]
  rfl
 refine take_ (i := 13) (N := some 46) (v := ?_) (a' := ?_) #[true, true, true, true, true, true, true, true, true, true, true, true, true, true, false, false, false] rfl rfl (by kernel_rfl) (fun _ _ _ h => h) (Or.inl ⟨by rfl, ?_⟩) hHeld ?_ ?_
 rotate_left
 ·
  rintro w' ⟨s0, s1⟩
  go_simp
  with_reducible rfl
 rotate_left
 ·
  simp only [Act.put, List.setIfInBounds_toArray, List.set_cons_zero, List.set_cons_succ, i64_w, i32_w]
  rfl
 refine pure_ (i := 14) (N := some 47) (v := ?_) (a' := ?_) #[true, true, true, true, true, true, true, true, true, true, true, true, true, true, true, false, false] rfl rfl (by kernel_rfl) (fun _ _ _ h => h) (Or.inl ⟨by rfl, ?_⟩) ?_ ?_
 rotate_left
 ·
  intro w'
  go_simp
  with_reducible rfl
 rotate_left
 ·
  simp only [Act.put, List.setIfInBounds_toArray, List.set_cons_zero, List.set_cons_succ, i64_w, i32_w]
  rfl
 refine last_ (i := 15) (N := some 48) #[true, true, true, true, true, true, true, true, true, true, true, true, true, true, true, true, false] rfl rfl (by kernel_rfl) (by decide) (fun K hK => ?_)
 refine goes_ Try.func111 (by kernel_rfl) rfl #[.slice A3 m (c2 - at_)] (by rfl) rfl rfl (by (try simp only [List.map_toArray, List.map_cons, List.map_nil]); first | done | rfl) ?_
 refine (G.bytes_Clone.calls (n := m) A3 (c2 - at_) ((l.take (at_ + m)).drop at_) _ _ hC.out (by rw [hlen]; have := hcl.out; omega) (by unfold G.bytes_Clone.f; exact if_pos (by omega)) hlen.symm).mono ?_
 rintro e w3 ⟨v3, rfl, ho, hb⟩
 refine ⟨_, rfl, ?_⟩
 have hS3 := Aside0.mk (Sep.row_new hS2.out hb ho)
 clear ho hb
 refine hK.out _ _ ?_
 clear hK K
 refine norm_ (a' := ?_) ?_ ?_
 rotate_left
 ·
  show Act.put _ (some 48) _ = _
  simp only [Act.put, List.setIfInBounds_toArray, List.set_cons_zero, List.set_cons_succ, i64_w, i32_w]
  rfl
 refine pure_ (i := 16) (N := some 4) (v := ?_) (a' := ?_) #[true, true, true, true, true, true, true, true, true, true, true, true, true, true, true, true, true] rfl rfl (by kernel_rfl) (fun _ _ _ h => h) (Or.inl ⟨by rfl, ?_⟩) ?_ ?_
 rotate_left
 ·
  intro w'
  go_simp
  with_reducible rfl
 rotate_left
 ·
  simp only [Act.put, List.setIfInBounds_toArray, List.set_cons_zero, List.set_cons_succ, i64_w, i32_w]
  rfl
 refine done_ (by kernel_rfl) ?_
 go_wp2
 go_ret
 exact ⟨_, rfl, hS3.out⟩
end Go.Proofs.Ytekanmieppnpeaa.Sep
namespace Go.Proofs.Ytekanmieppnpeaa.Sep
open Go Go.RowKit Go.Proofs.YtekanmieppnpeaaW.PrintWords Go.Proofs.YtekanmieppnpeaaW.PrintLast Go.Proofs.YtekanmieppnpeaaW.PrintMore Go.Proofs.Ytekanmieppnpeaa.PureKit
def lev : List Int → Int
 | [] => 0
 | b :: bs => b + 256 * lev bs
theorem lev_append : ∀ (a b : List Int), lev (a ++ b) = lev a + 256 ^ a.length * lev b
 | [], b => by simp [lev]
 | x :: xs, b => by
  simp only [List.cons_append, lev, lev_append xs b, List.length_cons, Int.pow_succ]
  rw [Int.mul_add, Int.add_assoc, ← Int.mul_assoc, Int.mul_comm 256 (256 ^ xs.length)]
theorem lev_take (ys : List Int) (i : Nat) (h : i < ys.length) (hb : Bytes ys) : lev (ys.take (i + 1)) = lev (ys.take i) + ys[i] * 256 ^ i := by
 rw [List.take_succ_eq_append_getElem h, lev_append, List.length_take, Nat.min_eq_left (by omega)]
 simp [lev, Int.mul_comm]
theorem lev_bound : ∀ (a : List Int), Bytes a → 0 ≤ lev a ∧ lev a < 256 ^ a.length
 | [], _ => by simp [lev]
 | x :: xs, h => by
  have := lev_bound xs h.tail
  have hx := h.head
  simp only [lev, List.length_cons, Int.pow_succ]
  omega
theorem or_step (X y : Int) (i : Nat) (hi : i < 8) (h0 : 0 ≤ X) (h1 : X < 256 ^ i) (hy0 : 0 ≤ y) (hy1 : y ≤ 255) : bits BinOp.or IntKind.u64 X (IntKind.u64.wrap (y * 2 ^ (8 * i))) = X + y * 256 ^ i := by
 obtain ⟨a, rfl⟩ := Int.eq_ofNat_of_zero_le h0
 obtain ⟨b, rfl⟩ := Int.eq_ofNat_of_zero_le hy0
 have hp : (256 : Int) ^ i = ((2 ^ (8 * i) : Nat) : Int) := by rw [Nat.pow_mul]; simp
 have hq : (2 : Int) ^ (8 * i) = ((2 ^ (8 * i) : Nat) : Int) := by simp
 have hle : 2 ^ (8 * i) ≤ 2 ^ 56 := Nat.pow_le_pow_right (by omega) (by omega)
 rw [hp] at h1 ⊢
 rw [hq]
 generalize hP : 2 ^ (8 * i) = P at *
 have ha : a < P := by omega
 have hbP : b * P ≤ 255 * 2 ^ 56 := Nat.mul_le_mul (by omega) hle
 have hm : (b : Int) * (P : Int) = ((b * P : Nat) : Int) := by simp
 rw [hm, wu64 (by omega) (by omega), bits_or_u64_nat a (b * P) (by omega) (by omega)]
 have := Nat.two_pow_add_eq_or_of_lt (i := 8 * i) (b := a) (by rw [hP]; exact ha) b
 rw [hP] at this
 rw [Nat.or_comm, Nat.mul_comm b P, ← this]
 omega
theorem cur_num_short (w0 w : World) (g at_ : Nat) (l : List Int) (ps : List HP) (n : Int) (hs : Sep w0 w (cur g l at_ true :: ps)) (hn : 0 < n) (hat : at_ ≤ l.length) (hl : l.length ≤ 1000000000000) (hsh : n > (l.length : Int) - at_) :
  Calls Try.prog 113 #[.pointer (some ⟨g, 0, none⟩), .int .i64 n] w fun e w' => e = .panicked [fault g 2] ∧ Sep w0 w' (cur g l at_ true :: ps) := by
 have hS := Aside0.mk hs
 clear hs
 go_enter Try.func113, Try.ntmps113
 go_wp2_with (fail)
 refine (cur_Take_short w0 _ g at_ l ps n hS.out hn hat hl hsh).mono ?_
 rintro e w1 ⟨rfl, h1⟩
 exact ⟨rfl, rfl, h1⟩
theorem cur_num_some (w0 w : World) (g at_ : Nat) (l : List Int) (ps : List HP) (m : Nat) (n : Int) (hm : n = m) (hs : Sep w0 w (cur g l at_ true :: ps)) (hb : Bytes l) (hn : 0 < m) (hm8 : m ≤ 8) (hl : l.length ≤ 1000000000000) (hsh : at_ + m ≤ l.length) :
  Calls Try.prog 113 #[.pointer (some ⟨g, 0, none⟩), .int .i64 n] w fun e w' => e = .returned (.int .u64 (lev ((l.take (at_ + m)).drop at_))) ∧ Sep w0 w' (cur g l (at_ + m) true :: ps) := by
 have hS := Aside0.mk hs
 clear hs
 have hlen : ((l.take (at_ + m)).drop at_).length = m := by rw [List.length_drop, List.length_take]; omega
 have hby : Bytes ((l.take (at_ + m)).drop at_) := (hb.take _).drop _
 generalize hys : (l.take (at_ + m)).drop at_ = ys at *
 go_enter Try.func113, Try.ntmps113
 go_wp2_with (first | ((with_reducible refine gate_callee (f := 142) rfl ?_); refine goesL_ (some 10) rfl rfl Try.func142 (by kernel_rfl) rfl #[.pointer (some ⟨g, 0, none⟩), .int .i64 n] rfl (by (try simp only [List.map_toArray, List.map_cons, List.map_nil]); first | done | rfl) ?_; (with_reducible refine (cur_Take_some w0 _ g at_ l ps m n hm hS.out hn hl hsh).mono ?_); rintro e w1 ⟨v1, rfl, h1⟩; refine ⟨_, rfl, ?_⟩; rw [hys] at h1; obtain ⟨bs1, hR1⟩ := h1.row_R; obtain ⟨A1, c1, e1⟩ := Kd.R_slice hR1; subst e1; have hS1 := Aside0.mk h1; clear h1 hR1))
 go_loopg [5, 12] m (fun kq v5 v12 w' => ∃ (i : Nat), v5 = .int .u64 (lev (ys.take i)) ∧ v12 = .int .i64 i ∧ Aside0 (i + kq = m) ∧ Aside0 (Sep w0 w' (row (Kd.int .u8) 5 (.slice A1 ys.length c1) ys :: cur g l (at_ + m) true :: ps)))
 case atStart => exact ⟨0, by simp [lev], rfl, ⟨by omega⟩, hS1⟩
 case round =>
  obtain ⟨i, rfl, rfl, hA, hS⟩ := hrel
  by_cases hin : i < m
  ·
   have hd : decide ((i : Int) < (ys.length : Int)) = true := decide_eq_true (by omega)
   obtain ⟨k1, rfl⟩ : ∃ k1, gk = k1 + 1 := ⟨gk - 1, by have := hA.out; omega⟩
   obtain ⟨bs, hR⟩ := hS.out.row_R
   have hC := (Kd.R_reads' hR).2.2
   obtain ⟨ad, e0, hx⟩ := Kd.at_int hC (i : Int) (by omega) (by omega)
   cases e0
   simp only [Int.toNat_natCast] at hx
   rw [rd_at ys i (by omega)] at hx
   have hyb := hby ys[i] (List.getElem_mem (by omega))
   obtain ⟨y, hy⟩ : ∃ y, ys[i]'(by omega) = y := ⟨_, rfl⟩
   rw [hy] at hx hyb
   have hy := Aside0.mk hy
   have p0 : ((0 : Int) ≤ (i : Int)) = True := eq_true (by omega)
   have q0 : ((i : Int) < (ys.length : Int)) = True := eq_true (by omega)
   generalize hX : lev (ys.take i) = X
   have hX := Aside0.mk hX
   go_wp2
   go_roundg k1
   case measure => omega
   case rel =>
    have hXX := hX.out
    have hlv := lev_take ys i (by omega) hby
    have hbd := lev_bound (ys.take i) (hby.take _)
    rw [List.length_take, Nat.min_eq_left (by omega)] at hbd
    rw [hXX] at hlv hbd
    rw [hy.out] at hlv
    refine ⟨i + 1, ?_, by simp, ⟨by have := hA.out; omega⟩, hS⟩
    rw [hlv, or_step X y i (by omega) hbd.1 hbd.2 hyb.1 hyb.2]
  ·
   have him : i = m := by have := hA.out; omega
   have hd : decide ((i : Int) < (ys.length : Int)) = false := decide_eq_false (by omega)
   go_wp2
   go_ret
   refine ⟨?_, hS.out.tail⟩
   rw [List.take_of_length_le (by omega)]
   rfl
end Go.Proofs.Ytekanmieppnpeaa.Sep
namespace Go.Proofs.Ytekanmieppnpeaa.Sep
open Go Go.RowKit Go.Proofs.YtekanmieppnpeaaW.PrintWords Go.Proofs.YtekanmieppnpeaaW.PrintLast Go.Proofs.YtekanmieppnpeaaW.PrintMore Go.Proofs.Ytekanmieppnpeaa.PureKit
theorem cur_Byte_short (w0 w : World) (g at_ : Nat) (l : List Int) (ps : List HP) (hs : Sep w0 w (cur g l at_ true :: ps)) (hl : l.length ≤ 1000000000000) (hsh : at_ = l.length) :
  Calls Try.prog 70 #[.pointer (some ⟨g, 0, none⟩)] w fun e w' => e = .panicked [fault g 2] ∧ Sep w0 w' (cur g l at_ true :: ps) := by
 have hS := Aside0.mk hs
 clear hs
 go_enter Try.func70, Try.ntmps70
 go_wp2_with (fail)
 refine (cur_num_short w0 _ g at_ l ps 1 hS.out (by decide) (by omega) hl (by omega)).mono ?_
 rintro e w1 ⟨rfl, h1⟩
 exact ⟨rfl, rfl, h1⟩
theorem cur_Byte_some (w0 w : World) (g at_ : Nat) (l : List Int) (ps : List HP) (hs : Sep w0 w (cur g l at_ true :: ps)) (hb : Bytes l) (hl : l.length ≤ 1000000000000) (hsh : at_ < l.length) :
  Calls Try.prog 70 #[.pointer (some ⟨g, 0, none⟩)] w fun e w' => e = .returned (.int .u8 l[at_]) ∧ Sep w0 w' (cur g l (at_ + 1) true :: ps) := by
 have hS := Aside0.mk hs
 clear hs
 have h1 : (l.take (at_ + 1)).drop at_ = [l[at_]] := by
  rw [List.take_succ_eq_append_getElem hsh, List.drop_left' (by rw [List.length_take]; omega)]
 have hx := hb _ (List.getElem_mem hsh)
 generalize l[at_] = y at *
 go_enter Try.func70, Try.ntmps70
 go_wp2_with (first | ((with_reducible refine gate_callee (f := 113) rfl ?_); refine goesL_ (some 4) rfl rfl Try.func113 (by kernel_rfl) rfl #[.pointer (some ⟨g, 0, none⟩), .int .i64 1] rfl (by (try simp only [List.map_toArray, List.map_cons, List.map_nil]); first | done | rfl) ?_; (with_reducible refine (cur_num_some w0 _ g at_ l ps 1 1 rfl hS.out hb (by decide) (by decide) hl (by omega)).mono ?_); rintro e w1 ⟨rfl, h2⟩; refine ⟨_, rfl, ?_⟩; rw [h1, show lev [y] = y by simp [lev]]; have hS1 := Aside0.mk h2; clear h2))
 go_ret
 exact ⟨rfl, hS1.out⟩
theorem cur_Left (w0 w : World) (g at_ : Nat) (l : List Int) (ps : List HP) (hs : Sep w0 w (cur g l at_ true :: ps)) (hat : at_ ≤ l.length) (hl : l.length ≤ 1000000000000) :
  Calls Try.prog 124 #[.pointer (some ⟨g, 0, none⟩)] w fun e w' => e = .returned (.int .i64 ((l.length : Int) - at_)) ∧ Sep w0 w' (cur g l at_ true :: ps) := by
 have hS := Aside0.mk hs
 clear hs
 go_enter Try.func124, Try.ntmps124
 go_wp2_with (first | ((with_reducible refine gate_callee (f := 123) rfl ?_); refine goesL_ (some 4) rfl rfl Try.func123 (by kernel_rfl) rfl #[.pointer (some ⟨g, 0, none⟩)] rfl (by (try simp only [List.map_toArray, List.map_cons, List.map_nil]); first | done | rfl) ?_; (with_reducible refine (cur_dead w0 _ g at_ l true ps hS.out).mono ?_); rintro e w1 ⟨rfl, h1⟩; refine ⟨_, rfl, ?_⟩; have hS1 := Aside0.mk h1; clear h1))
 obtain ⟨A, c, hO⟩ := Sep.cur_open hS1.out
 have hc0 : w1.cell? ⟨g, 0, none⟩ = some (.slice A l.length c) := (hO.cell 0).trans rfl
 have hc1 : w1.cell? ⟨g, 1, none⟩ = some (.int .i64 at_) := (hO.cell 1).trans rfl
 clear hO
 repeat (go_quiet (fail); try go_wp2)
 go_ret
 refine ⟨?_, hS1.out.drewN _⟩
 show Ending.returned (Value.int .i64 (IntKind.i64.wrap ((l.length : Int) - (at_ : Int)))) = _
 rw [i64_w, w64 (by omega) (by omega)]
theorem cur_End_ok (w0 w : World) (g at_ : Nat) (l : List Int) (ps : List HP) (hs : Sep w0 w (cur g l at_ true :: ps)) (hat : at_ = l.length) (hl : l.length ≤ 1000000000000) :
  Calls Try.prog 73 #[.pointer (some ⟨g, 0, none⟩)] w fun e w' => e = .returned (.tuple #[]) ∧ Sep w0 w' (cur g l at_ true :: ps) := by
 have hS := Aside0.mk hs
 clear hs
 have hd : decide ((l.length : Int) - (at_ : Int) > 0) = false := decide_eq_false (by omega)
 go_enter Try.func73, Try.ntmps73
 go_wp2_with (first | ((with_reducible refine gate_callee (f := 124) rfl ?_); refine goesL_ (some 3) rfl rfl Try.func124 (by kernel_rfl) rfl #[.pointer (some ⟨g, 0, none⟩)] rfl (by (try simp only [List.map_toArray, List.map_cons, List.map_nil]); first | done | rfl) ?_; (with_reducible refine (cur_Left w0 _ g at_ l ps hS.out (by omega) hl).mono ?_); rintro e w1 ⟨rfl, h1⟩; refine ⟨_, rfl, ?_⟩; have hS1 := Aside0.mk h1; clear h1))
 go_end0
 exact ⟨rfl, hS1.out⟩
theorem cur_End_long (w0 w : World) (g at_ : Nat) (l : List Int) (ps : List HP) (hs : Sep w0 w (cur g l at_ true :: ps)) (hat : at_ < l.length) (hl : l.length ≤ 1000000000000) :
  Calls Try.prog 73 #[.pointer (some ⟨g, 0, none⟩)] w fun e w' => e = .panicked [fault g 3] ∧ Sep w0 w' (cur g l at_ true :: ps) := by
 have hS := Aside0.mk hs
 clear hs
 have hd : decide ((l.length : Int) - (at_ : Int) > 0) = true := decide_eq_true (by omega)
 go_enter Try.func73, Try.ntmps73
 go_wp2_with (first | ((with_reducible refine gate_callee (f := 124) rfl ?_); refine goesL_ (some 3) rfl rfl Try.func124 (by kernel_rfl) rfl #[.pointer (some ⟨g, 0, none⟩)] rfl (by (try simp only [List.map_toArray, List.map_cons, List.map_nil]); first | done | rfl) ?_; (with_reducible refine (cur_Left w0 _ g at_ l ps hS.out (by omega) hl).mono ?_); rintro e w1 ⟨rfl, h1⟩; refine ⟨_, rfl, ?_⟩; have hS1 := Aside0.mk h1; clear h1))
 refine (cur_Fail w0 _ g at_ l ps 3 hS1.out (by decide)).mono ?_
 rintro e w2 ⟨rfl, h2⟩
 exact ⟨rfl, rfl, h2⟩
end Go.Proofs.Ytekanmieppnpeaa.Sep
end
