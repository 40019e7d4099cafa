/- Opening what comes in, kind by kind: from the form's own reading of memory to the words' kinds. -/
import Derived.Test.YtnmdckgaljldhaaGx0
import Derived.Deep.Slices
import Derived.SizedLaws
import Derived.WideShapes
import Derived.ChangeArms
import Derived.DataReads
namespace Go.Proofs.Ytnmdckgaljldhaa.Row
open Go.RowKit Go.Proofs.YtnmdckgaljldhaaW.PrintWords Go.Proofs.YtnmdckgaljldhaaW.PrintLast Go.Proofs.YtnmdckgaljldhaaW.PrintMore

structure Opn {α : Type} (P : Program) (t : TypeId) (d : Kd α) (ok : α → Prop) : Prop where
  opn : ∀ {H : Type} {enc : TypeId × Value → H} {W : World} {base : Nat} {spare : Nat → Bool} {held : Bool} {fuel : Nat} {cs : List Value} {x : DataW H × List MemPlace},
    DataW.trod enc P W base spare held fuel t cs = some x → ∃ a : α, d.K W a cs ∧ ok a

theorem Opn.int {P : Program} {t : TypeId} {k : IntKind} (hu : P.underlying t = some (.int k)) : Opn P t (Kd.int k) (fun a => (Lit.int k a).wf = true) :=
  ⟨fun h => by
    obtain ⟨n, rfl, _, hw⟩ := DataW.trod_int hu h
    exact ⟨n, rfl, hw⟩⟩
theorem Opn.bool {P : Program} {t : TypeId} (hu : P.underlying t = some .bool) : Opn P t Kd.bool (fun _ => True) :=
  ⟨fun h => by
    obtain ⟨n, rfl, _⟩ := DataW.trod_bool hu h
    exact ⟨n, rfl, trivial⟩⟩
theorem Opn.string {P : Program} {t : TypeId} (hu : P.underlying t = some .string) : Opn P t Kd.string (fun a => a.size ≤ 9223372036854775807) :=
  ⟨fun h => by
    obtain ⟨n, rfl, _, hw⟩ := DataW.trod_string hu h
    exact ⟨n, rfl, hw⟩⟩

theorem cells_at {w : World} {base : Nat} {a : Addr} {n : Nat} {cs : List Value} (h : w.cells? base a n = some cs) {i : Nat} {u : Value} (hu : cs[i]? = some u) : w.cell? (a.add i) = some u := by
  obtain ⟨_, hl, hc⟩ := World.cells?_some h
  have hi : i < cs.length := (List.getElem?_eq_some_iff.1 hu).1
  exact (hc i (by omega)).trans hu

theorem add_add' (a : Addr) (i j : Nat) : (a.add i).add j = a.add (i + j) := Deep.add_add a i j

/-- A slice at every index. -/
theorem open_row {α : Type} {P : Program} {t e : TypeId} {d : Kd α} {ok : α → Prop} (O : Opn P e d ok) (hu : P.underlying t = some (.slice e)) (hc : P.cellsOf e = d.sz)
    {H : Type} {enc : TypeId × Value → H} {W : World} {base : Nat} {spare : Nat → Bool} {held : Bool} {fuel : Nat} {cs : List Value} {x : DataW H × List MemPlace}
    (h : DataW.trod enc P W base spare held fuel t cs = some x) :
    ∃ (l : List α) (A : Option Addr) (c : Nat), cs = [.slice A l.length c] ∧ l.length ≤ c ∧ d.C W A l.length l ∧ l.length ≤ 9223372036854775807 ∧ (∀ y ∈ l, ok y) ∧
      ((x.1 = .nil ∧ l = []) ∨ ∃ es sp, x.1 = .slice es sp ∧ es.length = l.length) := by
  rcases Deep.open_slice hu h with ⟨rfl, rfl⟩ | ⟨a, len, cap, m, n, D, Pl, rfl, hb, hl, hm, hmm, rfl, hel⟩
  · exact ⟨[], none, 0, rfl, Nat.le_refl _, Kd.C_nil _ _, by simp, by simp, .inl ⟨rfl, rfl⟩⟩
  · have hlm : len ≤ m := by rw [hmm]; split <;> omega
    have hx : ∀ i, i < len → ∃ y : α, (∃ cs', W.cells? base (a.add (i * P.cellsOf e)) (P.cellsOf e) = some cs' ∧ d.K W y cs') ∧ ok y := by
      intro i hi
      obtain ⟨cs', h1, h2⟩ := hel i (by omega)
      obtain ⟨y, hk, ho⟩ := O.opn h2
      exact ⟨y, ⟨cs', h1, hk⟩, ho⟩
    have hf : ∃ l : List α, l.length = len ∧ ∀ (i : Nat) (y : α), l[i]? = some y → (∃ cs', W.cells? base (a.add (i * P.cellsOf e)) (P.cellsOf e) = some cs' ∧ d.K W y cs') ∧ ok y := by
      clear hel hmm hlm hl hm h
      induction len with
      | zero => exact ⟨[], rfl, fun i y hy => by simp at hy⟩
      | succ len ih =>
        obtain ⟨l, hl1, hl2⟩ := ih (fun i hi => hx i (by omega))
        obtain ⟨y, hy⟩ := hx len (by omega)
        refine ⟨l ++ [y], by simp [hl1], fun i z hz => ?_⟩
        rcases Nat.lt_or_ge i l.length with hi | hi
        · rw [List.getElem?_append_left hi] at hz
          exact hl2 i z hz
        · have hi2 : i = l.length := by
            have := (List.getElem?_eq_some_iff.1 hz).1
            simp at this; omega
          subst hi2
          have : y = z := by simpa using hz
          subst this
          rw [hl1]; exact hy
    obtain ⟨l, hl1, hl2⟩ := hf
    subst hl1
    have hmx : l.length ≤ 9223372036854775807 := by unfold maxLen at hm; omega
    refine ⟨l, some a, cap, rfl, hl, ⟨rfl, hmx, fun _ => ⟨a, rfl, fun j p hj => ?_⟩⟩, hmx, fun y hy => ?_, .inr ⟨_, _, rfl, by simp⟩⟩
    · obtain ⟨⟨cs', h1, h2⟩, _⟩ := hl2 j p hj
      refine ⟨cs', d.K_len h2, h2, fun i u hu' => ?_⟩
      have := cells_at h1 hu'
      rw [add_add', hc] at this
      exact this
    · obtain ⟨i, hi, rfl⟩ := List.mem_iff_getElem.1 hy
      exact (hl2 i _ (List.getElem?_eq_getElem hi)).2

theorem Opn.slice {α : Type} {P : Program} {t e : TypeId} {d : Kd α} {ok : α → Prop} (hu : P.underlying t = some (.slice e)) (O : Opn P e d ok) (hc : P.cellsOf e = d.sz) :
    Opn P t (Kd.slice e d) (fun l => l.length ≤ 9223372036854775807 ∧ ∀ y ∈ l, ok y) :=
  ⟨fun h => by
    obtain ⟨l, A, c, rfl, hlc, hC, hm, ho, _⟩ := open_row O hu hc h
    exact ⟨l, ⟨A, c, rfl, hlc, hC⟩, hm, ho⟩⟩

/-- A parameter that is a slice: with the bound that the row's weights give. -/
theorem open_top {α : Type} {P : Program} {t e : TypeId} {d : Kd α} {ok : α → Prop} (O : Opn P e d ok) (hu : P.underlying t = some (.slice e)) (hc : P.cellsOf e = d.sz)
    {H : Type} {enc : TypeId × Value → H} {W : World} {base : Nat} {spare : Nat → Bool} {held : Bool} {a : Option Addr} {len cap : Nat} {dd : DataW H} {ps : List MemPlace} {ts : List TypeId} {ds : List (DataW H)} {j : Nat}
    (hsz : (DataW.weightsEach P ts ds).all (· ≤ reachBytes) = true) (ht : ts[j]? = some t) (hd : ds[j]? = some dd) {B : Nat} (hB : P.bytesOf e = B)
    (h : DataW.Trod enc P W base spare held t (.slice a len cap) dd ps) :
    ∃ l : List α, len = l.length ∧ l.length ≤ cap ∧ d.C W a l.length l ∧ l.length ≤ maxLen ∧ l.length * B ≤ 140737488351232 ∧ ∀ y ∈ l, ok y := by
  obtain ⟨fuel, hf⟩ := h
  obtain ⟨l, A, c, hcs, hlc, hC, hm, ho, hx⟩ := open_row O hu hc hf
  simp only [Value.cells] at hcs
  have hcs' : Value.slice a len cap = .slice A l.length c := by simpa using hcs
  injection hcs' with h1 h2 h3
  subst h1; subst h3
  refine ⟨l, h2, hlc, hC, by unfold maxLen; omega, ?_, ho⟩
  rcases hx with ⟨hx, rfl⟩ | ⟨es, sp, hx, he⟩
  · simp
  · have hx' : dd = .slice es sp := hx
    subst hx'
    have z := sized_slice hsz ht hd hu
    rw [hB, he] at z
    have : l.length * B ≤ (l.length + sp.length) * B := Nat.mul_le_mul_right _ (Nat.le_add_right _ _)
    have hr : reachBytes = 140737488351232 := by decide
    omega

theorem get_lt {α : Type} {l : List α} {n i : Nat} (h : l.length = n) (hi : i < n) : ∃ y, l[i]? = some y := ⟨l[i], List.getElem?_eq_getElem (by omega)⟩

end Go.Proofs.Ytnmdckgaljldhaa.Row
