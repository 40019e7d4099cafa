/- table.Sorted, walked: the sorted row, each once. -/
import Derived.Test.YtnmdckgaljldhaaHTable9
import Derived.Test.YtnmdckgaljldhaaHTable7
set_option linter.unusedVariables false
set_option linter.unusedSimpArgs false
namespace Go.Proofs.Ytnmdckgaljldhaa.Tb
open Go Go.RowKit Go.Proofs.YtnmdckgaljldhaaW.PrintWords Go.Proofs.YtnmdckgaljldhaaW.PrintLast Go.Proofs.YtnmdckgaljldhaaW.PrintMore Go.Proofs.Ytnmdckgaljldhaa.Sep Go.Proofs.Ytnmdckgaljldhaa.G
set_option maxHeartbeats 4000000
set_option maxRecDepth 100000

/-- An entry put into its place, once. -/
def putE (e : E1) : List E1 → List E1
  | [] => [e]
  | x :: l => if e.f0 < x.f0 ∨ e.f0 = x.f0 ∧ e.f1 < x.f1 then e :: x :: l else if x = e then x :: l else x :: putE e l
/-- The sorted row, each once. -/
def sortE (l : List E1) : List E1 := l.foldl (fun a e => putE e a) []
theorem putE_mem (e y : E1) : ∀ l, y ∈ putE e l ↔ y = e ∨ y ∈ l
  | [] => by simp [putE]
  | x :: l => by
    unfold putE
    split
    · simp
    · split
      · rename_i h; subst h; simp
      · rw [List.mem_cons, putE_mem e y l, List.mem_cons]
        exact ⟨fun h => h.elim (fun h => .inr (.inl h)) (fun h => h.elim .inl (fun h => .inr (.inr h))), fun h => h.elim (fun h => .inr (.inl h)) (fun h => h.elim .inl (fun h => .inr (.inr h)))⟩
theorem putE_rise (e : E1) : ∀ l : List E1, l.Pairwise lessE → (putE e l).Pairwise lessE
  | [], _ => by simp [putE]
  | x :: l, h => by
    obtain ⟨h1, h2⟩ := List.pairwise_cons.1 h
    unfold putE
    split
    · rename_i hlt
      have hex : lessE e x := hlt
      refine List.pairwise_cons.2 ⟨fun y hy => ?_, h⟩
      rcases List.mem_cons.1 hy with rfl | hy
      · exact hex
      · have := h1 y hy
        unfold lessE at *; omega
    · split
      · exact h
      · rename_i h3 h4
        refine List.pairwise_cons.2 ⟨fun y hy => ?_, putE_rise e l h2⟩
        rcases (putE_mem e y l).1 hy with rfl | hy
        · rcases lessE_tri x y with h | h | h
          · exact h
          · exact absurd h h4
          · exact absurd h h3
        · exact h1 y hy
theorem sortE_fold (l : List E1) : ∀ a : List E1, a.Pairwise lessE → (l.foldl (fun a e => putE e a) a).Pairwise lessE ∧ ∀ y, y ∈ l.foldl (fun a e => putE e a) a ↔ y ∈ a ∨ y ∈ l := by
  induction l with
  | nil => intro a h; exact ⟨h, fun y => by simp⟩
  | cons x l ih =>
    intro a h
    obtain ⟨h1, h2⟩ := ih (putE x a) (putE_rise x a h)
    refine ⟨h1, fun y => ?_⟩
    rw [List.foldl_cons, h2, putE_mem, List.mem_cons]
    exact ⟨fun h => h.elim (fun h => h.elim (fun h => .inr (.inl h)) .inl) (fun h => .inr (.inr h)), fun h => h.elim (fun h => .inl (.inr h)) (fun h => h.elim (fun h => .inl (.inl h)) .inr)⟩
theorem sortE_rise (l : List E1) : (sortE l).Pairwise lessE := (sortE_fold l [] List.Pairwise.nil).1
theorem sortE_mem (l : List E1) (y : E1) : y ∈ sortE l ↔ y ∈ l := by
  rw [sortE, (sortE_fold l [] List.Pairwise.nil).2]; simp
theorem sortE_len (l : List E1) : (sortE l).length ≤ l.length := by
  have hp : ∀ (e : E1) (a : List E1), (putE e a).length ≤ a.length + 1 := by
    intro e a
    induction a with
    | nil => simp [putE]
    | cons x a ih => unfold putE; split <;> (try split) <;> simp <;> omega
  have : ∀ (l a : List E1), (l.foldl (fun a e => putE e a) a).length ≤ a.length + l.length := by
    intro l
    induction l with
    | nil => intro a; simp
    | cons x l ih => intro a; have h1 := ih (putE x a); have h2 := hp x a; simp only [List.foldl_cons, List.length_cons]; omega
  simpa [sortE] using this l []
theorem compact_sortE {l l' : List E1} (hp : l'.Perm l) (hs : Srt l') : compactE l' = sortE l :=
  rise_unique (compactE_rise hs) (sortE_rise l) fun x => by rw [compactE_mem, sortE_mem, hp.mem_iff]

theorem compact_short (A : Option Addr) (c n : Nat) (w : World) (h2 : n < 2) :
    Calls Try.prog 87 #[.slice A n c] w fun r w' => r = .returned (.slice A n c) ∧ w' = w := by
  have e1 : decide ((n : Int) < 2) = true := decide_eq_true (by omega)
  have e2 : decide (n < 2) = true := decide_eq_true h2
  clear h2
  go_enter Try.func87, Try.ntmps87
  go_wp2_with (fail)
  go_ret
  exact ⟨rfl, rfl⟩
theorem dc_small (l : List E1) (h : l.length < 2) : compactE l = l := by
  unfold compactE
  rw [dc_take l l.length (Nat.le_refl _) (fun j h1 h2 => by omega), List.take_length]
/-- slices.Compact over a row of its own. -/
theorem compact_row (w0 w : World) (g cap : Nat) (l : List E1) (ps : List HP) (h : Sep.Sep w0 w (row kE 81 (.slice (some ⟨g, 0, none⟩) l.length cap) l :: ps)) (hl : l.length ≤ 1000000) :
    Calls Try.prog 87 #[.slice (some ⟨g, 0, none⟩) l.length cap] w fun r w' => r = .returned (.slice (some ⟨g, 0, none⟩) (compactE l).length cap) ∧ Sep.Sep w0 w' (row kE 81 (.slice (some ⟨g, 0, none⟩) (compactE l).length cap) (compactE l) :: ps) := by
  by_cases h2 : l.length < 2
  · rw [dc_small l h2]
    refine (compact_short _ cap l.length w h2).mono ?_
    rintro r w' ⟨rfl, rfl⟩
    exact ⟨rfl, h⟩
  · have hne : l ≠ [] := fun e => h2 (by rw [e]; decide)
    obtain ⟨g', cap', cur, ev, h1, h3, h4, h5, h6⟩ := rowE_blk h hne
    cases ev
    refine (compact_blk w0 w g cap cur l ps h5 (by omega) h1 h3 h4 h6 hl).mono ?_
    rintro r w' ⟨cur', rfl, c1, c2, c3⟩
    have hle : (compactE l).length ≤ l.length := dc_len l l.length
    exact ⟨rfl, blk_rowE c3 (by omega) h3 c1 c2⟩

theorem sorted_call (w0 w : World) (A : Option Addr) (c : Nat) (l : List E1) (ps : List HP) (hs : Sep.Sep w0 w ps) (hC : kE.C w A l.length l) (hl : l.length ≤ 1000000) :
    Calls Try.prog 46 #[.slice A l.length c] w fun r w' => ∃ (A' : Option Addr) (cap : Nat), r = .returned (.slice A' (sortE l).length cap) ∧ Sep.Sep w0 w' (row kE 81 (.slice A' (sortE l).length cap) (sortE l) :: ps) := by
  have hSA := Aside0.mk hs
  have hCA := Aside0.mk hC
  have hlA := Aside0.mk hl
  cases A with
  | none =>
    have hnil : l = [] := by
      cases l with
      | nil => rfl
      | cons x t =>
        obtain ⟨ad, e, _⟩ := at_T81 hC 0 (by omega) (by simp only [List.length_cons]; omega)
        cases e
    subst hnil
    clear hs hC hl hCA hlA
    go_enter Try.func46, Try.ntmps46
    go_wp2_with (fail)
    refine (clone_nil c _).mono ?_
    rintro r w1 ⟨rfl, rfl⟩
    go_wp2_with (fail)
    refine (sort_nil none 0 _ _).mono ?_
    rintro r w1 ⟨rfl, rfl⟩
    go_wp2_with (fail)
    refine (compact_short none 0 0 _ (by decide)).mono ?_
    rintro r w1 ⟨rfl, rfl⟩
    go_wp2_with (fail)
    go_ret
    exact ⟨none, 0, rfl, Sep.row_nil kE _ hSA.out⟩
  | some ad =>
    clear hs hC hl
    go_enter Try.func46, Try.ntmps46
    go_wp2_with (fail)
    refine (clone_some ad c l _ hCA.out hlA.out).mono ?_
    rintro r w1 ⟨⟨g, cap, rfl, hR⟩, hB⟩
    have hS1 := Aside0.mk (Sep.row_new hSA.out hB hR)
    clear hR hB
    go_wp2_with (fail)
    refine (sort_call w0 w1 g l.length cap l ps hS1.out (by have := hlA.out; omega)).mono ?_
    rintro r w2 ⟨rfl, l', hp, hsr, hS2⟩
    have hA2 := Aside0.mk (And.intro hp (And.intro hsr hS2))
    have hll : Aside0 (l.length = l'.length) := ⟨hp.length_eq.symm⟩
    clear hp hsr hS2
    go_wp2_with (fail)
    rw [hll.out]
    refine (compact_row w0 w2 g cap l' ps (by rw [← hll.out]; exact hA2.out.2.2) (by have := hlA.out; have := hll.out; omega)).mono ?_
    rintro r w3 ⟨rfl, hS3⟩
    have hA3 := Aside0.mk hS3
    clear hS3
    have hq := compact_sortE hA2.out.1 hA2.out.2.1
    rw [hq] at hA3
    rw [hq]
    clear hq
    go_wp2_with (fail)
    go_ret
    exact ⟨_, cap, rfl, hA3.out⟩
end Go.Proofs.Ytnmdckgaljldhaa.Tb
