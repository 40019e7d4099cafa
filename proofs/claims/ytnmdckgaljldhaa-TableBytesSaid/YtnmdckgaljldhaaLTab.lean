/- Plain laws of tables: entries are sorted as the document says. -/
import Derived.Test.YtnmdckgaljldhaaLTabA
import Derived.Test.YtnmdckgaljldhaaGx2
import Derived.Test.YtnmdckgaljldhaaGx3
import Derived.Test.YtnmdckgaljldhaaGx7
set_option linter.unusedVariables false
set_option linter.unusedSimpArgs false
namespace Go.Proofs.Ytnmdckgaljldhaa.Tb
open Go Go.RowKit Go.Proofs.Ytnmdckgaljldhaa.G Go.Proofs.YtnmdckgaljldhaaW.PrintWords Go.Proofs.YtnmdckgaljldhaaW.PrintLast Go.Proofs.YtnmdckgaljldhaaW.PrintMore Go.Proofs.Ytnmdckgaljldhaa.PureKit

theorem less_f0 (x y : E1) : fascicleref11_less.f x.f0 x.f1 y.f0 y.f1 = some (decide (lessE x y)) := by
  unfold fascicleref11_less.f
  by_cases h1 : x.f0 < y.f0
  · have h : lessE x y := Or.inl h1
    rw [if_pos h1, decide_eq_true h]
  · rw [if_neg h1]
    by_cases h2 : x.f0 = y.f0
    · rw [if_pos h2]
      by_cases h3 : x.f1 < y.f1
      · have h : lessE x y := Or.inr ⟨h2, h3⟩
        rw [decide_eq_true h3, decide_eq_true h]
      · have h : ¬ lessE x y := fun hh => by unfold lessE at hh; omega
        rw [decide_eq_false h3, decide_eq_false h]
    · have h : ¬ lessE x y := fun hh => by unfold lessE at hh; omega
      rw [if_neg h2, decide_eq_false h]
theorem less_f (x y : E1) : fascicleref11_less.f (toR x).f0 (toR x).f1 (toR y).f0 (toR y).f1 = some (decide (lessE x y)) := less_f0 x y
theorem putE_lt {e x : E1} (l : List E1) (h : lessE e x) : putE e (x :: l) = e :: x :: l := by unfold putE; exact if_pos h
theorem putE_eq {e x : E1} (l : List E1) (h : x = e) : putE e (x :: l) = x :: l := by
  have h0 : ¬ lessE e x := fun hh => by subst h; unfold lessE at hh; omega
  unfold putE; exact (if_neg h0).trans (if_pos h)
theorem putE_gt {e x : E1} (l : List E1) (h0 : ¬ lessE e x) (h : ¬ x = e) : putE e (x :: l) = x :: putE e l := by
  conv => lhs; unfold putE
  exact (if_neg h0).trans (if_neg h)
theorem eqE_b (x y : E1) : (((toR x).f0 == y.f0) && ((toR x).f1 == y.f1)) = decide (x = y) := by
  unfold toR
  dsimp only
  by_cases h : x = y
  · subst h; rw [decide_eq_true rfl]; simp
  · rw [decide_eq_false h]
    cases h1 : (x.f0 == y.f0) with
    | false => rfl
    | true =>
      cases h2 : (x.f1 == y.f1) with
      | false => rfl
      | true =>
        exfalso; apply h
        cases x; cases y
        simp only [beq_iff_eq] at h1 h2
        rw [h1, h2]
/-- What is left to do of a Put. -/
def putD (e : E1) : Bool → List E1 → List E1
  | true, l => l
  | false, l => putE e l
theorem put_loop (l : List E1) (e : E1) (hl : l.length ≤ 1000000) : ∀ (d i : Nat) (acc : List R1) (b : Bool), i + d = l.length → acc.length ≤ 2 * i → Ev (fun k => fascicleref11_Put.l0 k acc b (refsE l) (l.length : Int) (i : Int) e.f0 e.f1) (acc ++ refsE (putD e b (l.drop i)))
  | 0, i, acc, b, h, ha => by
    cases b with
    | true =>
      refine Ev.step (f := fun _ => some acc) (fun k => ?_) (ev_eq (Ev.now _) (by rw [List.drop_of_length_le (by omega)]; exact (List.append_nil _).symm))
      unfold fascicleref11_Put.l0
      rw [if_neg (by omega), if_pos rfl]
    | false =>
      refine Ev.step (f := fun _ => some (acc ++ [toR e])) (fun k => ?_) (ev_eq (Ev.now _) (by rw [List.drop_of_length_le (by omega)]; rfl))
      unfold fascicleref11_Put.l0
      rw [if_neg (by omega), if_neg (by decide), if_pos (by omega)]
      rfl
  | d + 1, i, acc, b, h, ha => by
    obtain ⟨x, hx⟩ : ∃ x, l[i]? = some x := ⟨_, List.getElem?_eq_getElem (by omega)⟩
    have hrx := rdR l i x hx
    have hdr := drop_at hx
    have e1 := eqE_b x e
    have e2 := less_f e x
    have c1 : (i : Int) < (l.length : Int) := by omega
    have c2 : (0 : Int) ≤ (i : Int) := by omega
    have c3 : (i : Int) < ((refsE l).length : Int) := by rw [refsE_len]; omega
    have c4 : acc.length < 8796093022208 := by omega
    have go : ∀ (acc2 : List R1) (b2 : Bool), acc2.length ≤ 2 * (i + 1) → acc ++ refsE (putD e b (l.drop i)) = acc2 ++ refsE (putD e b2 (l.drop (i + 1))) →
        (∀ k, fascicleref11_Put.l0 (k + 1) acc b (refsE l) (l.length : Int) (i : Int) e.f0 e.f1 = fascicleref11_Put.l0 k acc2 b2 (refsE l) (l.length : Int) ((i + 1 : Nat) : Int) e.f0 e.f1) →
        Ev (fun k => fascicleref11_Put.l0 k acc b (refsE l) (l.length : Int) (i : Int) e.f0 e.f1) (acc ++ refsE (putD e b (l.drop i))) := fun acc2 b2 ha2 hv hk =>
      Ev.step (f := fun k => fascicleref11_Put.l0 k acc2 b2 (refsE l) (l.length : Int) ((i + 1 : Nat) : Int) e.f0 e.f1) hk (ev_eq (put_loop l e hl d (i + 1) acc2 b2 (by omega) ha2) hv.symm)
    have hx3 : (⟨(toR x).f0, (toR x).f1⟩ : R1) = toR x := rfl
    have he3 : (⟨e.f0, e.f1⟩ : R1) = toR e := rfl
    have e2 : fascicleref11_less.f e.f0 e.f1 (toR x).f0 (toR x).f1 = some (decide (lessE e x)) := less_f e x
    have hi := inc64 (show i < 1000000000 by omega)
    have la : ∀ y : R1, (acc ++ [y]).length = acc.length + 1 := fun y => by rw [List.length_append]; rfl
    cases b with
    | true =>
      refine go (acc ++ [toR x]) true (by rw [la]; omega) (by rw [hdr]; simp [putD, refsE]) (fun k => ?_)
      simp only [fascicleref11_Put.l0]
      rw [if_pos c1, if_pos c2, if_pos c3, hrx, if_pos c4, hi, hx3]
      split <;> rfl
    | false =>
      by_cases hxe : x = e
      · refine go (acc ++ [toR x]) true (by rw [la]; omega) ?_ (fun k => ?_)
        · rw [hdr]
          show acc ++ refsE (putE e (x :: l.drop (i + 1))) = _
          rw [putE_eq _ hxe]
          simp [putD, refsE]
        · simp only [fascicleref11_Put.l0]
          rw [if_pos c1, if_pos c2, if_pos c3, hrx, e1, if_pos (decide_eq_true hxe), if_pos c4, hi, hx3]
      · by_cases hle : lessE e x
        · refine go ((acc ++ [toR e]) ++ [toR x]) true (by rw [List.length_append, la]; simp only [List.length_cons, List.length_nil]; omega) ?_ (fun k => ?_)
          · rw [hdr]
            show acc ++ refsE (putE e (x :: l.drop (i + 1))) = _
            rw [putE_lt _ hle]
            simp [putD, refsE]
          · simp only [fascicleref11_Put.l0]
            rw [if_pos c1, if_pos c2, if_pos c3, hrx, e1, if_neg (by rw [decide_eq_true_eq]; exact hxe), if_neg (by decide), e2, Option.bind_some, decide_eq_true hle, if_pos rfl, if_pos c4, Option.bind_some, he3, if_pos (by rw [la]; omega), hi, hx3]
        · refine go (acc ++ [toR x]) false (by rw [la]; omega) ?_ (fun k => ?_)
          · rw [hdr]
            show acc ++ refsE (putE e (x :: l.drop (i + 1))) = _
            rw [putE_gt _ hle hxe]
            simp [putD, refsE]
          · simp only [fascicleref11_Put.l0]
            rw [if_pos c1, if_pos c2, if_pos c3, hrx, e1, if_neg (by rw [decide_eq_true_eq]; exact hxe), if_neg (by decide), e2, Option.bind_some, decide_eq_false hle, if_neg (by decide), if_pos c4, hi, hx3]
theorem put_ev (l : List E1) (e : E1) (hl : l.length ≤ 1000000) : Ev (fun k => fascicleref11_Put.f k (refsE l) e.f0 e.f1) (refsE (putE e l)) := by
  have := put_loop l e hl l.length 0 [] false (by omega) (by simp)
  unfold fascicleref11_Put.f
  rw [refsE_len]
  exact this
theorem putE_len (e : E1) : ∀ a : List E1, (putE e a).length ≤ a.length + 1
  | [] => by simp [putE]
  | x :: a => by have ih := putE_len e a; unfold putE; split <;> (try split) <;> simp <;> omega

theorem sorted_loop (l : List E1) (hl : l.length ≤ 100000) : ∀ (d i : Nat) (acc : List E1), i + d = l.length → acc.length ≤ i → Ev (fun k => fascicleref11_Sorted.l0 k (refsE acc) (refsE l) (l.length : Int) (i : Int)) (refsE ((l.drop i).foldl (fun a e => putE e a) acc))
  | 0, i, acc, h, ha => by
    refine Ev.step (f := fun _ => some (refsE acc)) (fun k => ?_) (ev_eq (Ev.now _) (by rw [List.drop_of_length_le (by omega)]; rfl))
    unfold fascicleref11_Sorted.l0
    rw [if_neg (by omega)]
  | d + 1, i, acc, h, ha => by
    obtain ⟨x, hx⟩ : ∃ x, l[i]? = some x := ⟨_, List.getElem?_eq_getElem (by omega)⟩
    refine Ev.step (f := fun k => (fascicleref11_Put.f k (refsE acc) x.f0 x.f1).bind fun t => fascicleref11_Sorted.l0 k t (refsE l) (l.length : Int) ((i + 1 : Nat) : Int)) (fun k => ?_)
      (Ev.bind (f := fun k t => fascicleref11_Sorted.l0 k t (refsE l) (l.length : Int) ((i + 1 : Nat) : Int)) (put_ev acc x (by omega)) (ev_eq (sorted_loop l hl d (i + 1) (putE x acc) (by omega) (by have := putE_len x acc; omega)) ?_))
    · simp only [fascicleref11_Sorted.l0]
      rw [if_pos (by omega), if_pos (by omega), if_pos (by rw [refsE_len]; omega), rdR l i x hx, inc64 (by omega)]
      rfl
    · rw [drop_at hx, List.foldl_cons]
theorem sorted_ev (l : List E1) (hl : l.length ≤ 100000) : Ev (fun k => fascicleref11_Sorted.f k (refsE l)) (refsE (sortE l)) := by
  have := sorted_loop l hl l.length 0 [] (by omega) (Nat.le_refl _)
  unfold fascicleref11_Sorted.f
  rw [refsE_len]
  exact this

theorem same_loop (l : List E1) (hl : l.length ≤ 1000000) : ∀ (d i : Nat), i + d = l.length → Ev (fun k => fasciclelaw11_Same.l0 k l (refsE l) (l.length : Int) (i : Int)) true
  | 0, i, h => by
    refine Ev.step (f := fun _ => some true) (fun k => ?_) (Ev.now _)
    unfold fasciclelaw11_Same.l0
    rw [if_neg (by omega)]
  | d + 1, i, h => by
    obtain ⟨x, hx⟩ : ∃ x, l[i]? = some x := ⟨_, List.getElem?_eq_getElem (by omega)⟩
    refine Ev.step (f := fun k => fasciclelaw11_Same.l0 k l (refsE l) (l.length : Int) ((i + 1 : Nat) : Int)) (fun k => ?_) (same_loop l hl d (i + 1) (by omega))
    simp only [fasciclelaw11_Same.l0]
    rw [if_pos (by omega), if_pos (by omega), if_pos (by omega), if_pos (by rw [refsE_len]; omega), rdE l i x hx, rdR l i x hx, inc64 (by omega)]
    simp [toR]
theorem same_ev (l : List E1) (hl : l.length ≤ 1000000) : Ev (fun k => fasciclelaw11_Same.f k l (refsE l)) true := by
  have := same_loop l hl l.length 0 (by omega)
  refine Ev.congr (f := fun k => fasciclelaw11_Same.l0 k l (refsE l) (l.length : Int) (0 : Nat)) (fun k => ?_) this
  unfold fasciclelaw11_Same.f
  rw [if_pos (by rw [refsE_len])]
  rfl

/-- Do they rise, from here on? -/
def riseN (l : List E1) : Nat → Nat → Bool
  | 0, _ => true
  | d + 1, i => match l[i]?, l[i + 1]? with
    | some x, some y => if lessE x y then riseN l d (i + 1) else false
    | _, _ => true
def riseE (l : List E1) : Bool := riseN l (l.length - 1) 0
theorem riseE_true {l : List E1} (h : l.Pairwise lessE) : riseE l = true := by
  have : ∀ d i, riseN l d i = true := by
    intro d
    induction d with
    | zero => intro i; rfl
    | succ d ih =>
      intro i
      unfold riseN
      split
      · rename_i x y hx hy
        obtain ⟨hi, rfl⟩ := List.getElem?_eq_some_iff.1 hx
        obtain ⟨hj, rfl⟩ := List.getElem?_eq_some_iff.1 hy
        rw [if_pos (List.pairwise_iff_getElem.1 h i (i + 1) hi hj (by omega)), ih]
      · rfl
  exact this _ _
theorem cmp64 (x y : Int) : cmp_Compare_uint64.f x y = some (Go.Lib.compareInt x y) := by
  unfold cmp_Compare_uint64.f cmp_isNaN_uint64.f Go.Lib.compareInt
  simp only [bne_self_eq_false, Option.bind_some, Bool.false_eq_true, if_false]
  split
  · rfl
  · split <;> first | rfl | omega
theorem cmp32 (x y : Int) : cmp_Compare_uint32.f x y = some (Go.Lib.compareInt x y) := by
  unfold cmp_Compare_uint32.f cmp_isNaN_uint32.f Go.Lib.compareInt
  simp only [bne_self_eq_false, Option.bind_some, Bool.false_eq_true, if_false]
  split
  · rfl
  · split <;> first | rfl | omega
theorem or_ev (a b : Int) : Ev (fun k => cmp_Or_int.f k [a, b]) (orI a b) := by
  unfold cmp_Or_int.f orI
  by_cases ha : a = 0
  · subst ha
    refine Ev.step (f := fun k => cmp_Or_int.l0 k 0 [0, b] 2 1) (fun k => by simp only [cmp_Or_int.l0]; rw [if_pos (by simp), if_pos (by decide), if_pos (by simp), if_pos (show rd [0, b] 0 = 0 from rfl), show wrap64 (0 + 1) = 1 from inc64 (i := 0) (by decide)]; rfl) ?_
    by_cases hb : b = 0
    · subst hb
      refine Ev.step (f := fun k => cmp_Or_int.l0 k 0 [0, 0] 2 2) (fun k => by simp only [cmp_Or_int.l0]; rw [if_pos (by decide), if_pos (by decide), if_pos (by simp), if_pos (show rd [0, 0] 1 = 0 from rfl), show wrap64 (1 + 1) = 2 from inc64 (i := 1) (by decide)]) ?_
      refine Ev.step (f := fun k => some 0) (fun k => by simp only [cmp_Or_int.l0]; rfl) (ev_eq (Ev.now _) (by simp))
    · refine Ev.step (f := fun k => some b) (fun k => ?_) (ev_eq (Ev.now _) (by simp))
      simp only [cmp_Or_int.l0]
      rw [if_pos (by decide), if_pos (by decide), if_pos (by simp), show rd [0, b] 1 = b from rfl, if_neg hb]
  · refine Ev.step (f := fun k => some a) (fun k => ?_) (ev_eq (Ev.now _) (by simp [ha]))
    simp only [cmp_Or_int.l0]
    rw [if_pos (by simp), if_pos (by decide), if_pos (by simp), show rd [a, b] 0 = a from rfl, if_neg ha]
theorem compare_ev (x y : E1) : Ev (fun k => table_Compare.f k x.f0 x.f1 y.f0 y.f1) (cfE x y) := by
  refine Ev.congr (f := fun k => (cmp_Or_int.f k [Go.Lib.compareInt x.f0 y.f0, Go.Lib.compareInt x.f1 y.f1]).bind fun t => some t) (fun k => ?_) (Ev.bind (f := fun _ t => some t) (or_ev _ _) (Ev.now _))
  unfold table_Compare.f
  rw [cmp64, Option.bind_some, cmp32, Option.bind_some]
theorem rise_loop (l : List E1) (hl : l.length ≤ 1000000) : ∀ (d i : Nat), i + 1 + d = l.length → Ev (fun k => table_Rising.l0 k l ((i + 1 : Nat) : Int)) (riseN l d i)
  | 0, i, h => by
    refine Ev.step (f := fun _ => some true) (fun k => ?_) (Ev.now _)
    unfold table_Rising.l0
    rw [if_neg (by omega)]
  | d + 1, i, h => by
    obtain ⟨x, hx⟩ : ∃ x, l[i]? = some x := ⟨_, List.getElem?_eq_getElem (by omega)⟩
    obtain ⟨y, hy⟩ : ∃ y, l[i + 1]? = some y := ⟨_, List.getElem?_eq_getElem (by omega)⟩
    refine Ev.step (f := fun k => (table_Compare.f k x.f0 x.f1 y.f0 y.f1).bind fun t => if t ≥ 0 then some false else table_Rising.l0 k l ((i + 1 + 1 : Nat) : Int)) (fun k => ?_) (Ev.bind (f := fun k t => if t ≥ 0 then some false else table_Rising.l0 k l ((i + 1 + 1 : Nat) : Int)) (compare_ev x y) ?_)
    · simp only [table_Rising.l0]
      rw [dec64 (by omega), if_pos (by omega), if_pos (by omega), if_pos (by omega), if_pos (by omega), rdE l i x hx, rdE l (i + 1) y hy, inc64 (by omega)]
    · unfold riseN
      rw [hx, hy]
      dsimp only
      by_cases hxy : lessE x y
      · refine Ev.congr (f := fun k => table_Rising.l0 k l ((i + 1 + 1 : Nat) : Int)) (fun k => ?_) (ev_eq (rise_loop l hl d (i + 1) (by omega)) (if_pos hxy).symm)
        rw [cfE_lt hxy, if_neg (by decide)]
      · refine Ev.congr (f := fun k => some false) (fun k => ?_) (ev_eq (Ev.now _) (if_neg hxy).symm)
        rcases lessE_tri x y with h1 | h1 | h1
        · exact absurd h1 hxy
        · rw [h1, cfE_same, if_pos (by decide)]
        · rw [cfE_gt h1, if_pos (by decide)]
theorem rise_ev (l : List E1) (hl : l.length ≤ 1000000) : Ev (fun k => table_Rising.f k l) (riseE l) := by
  by_cases h : l.length = 0
  · refine Ev.step (f := fun _ => some true) (fun k => ?_) (ev_eq (Ev.now _) (by unfold riseE; rw [h]; rfl))
    unfold table_Rising.f table_Rising.l0
    rw [if_neg (by omega)]
  · exact rise_loop l hl (l.length - 1) 0 (by omega)
theorem refrise_loop (l : List E1) (hl : l.length ≤ 1000000) : ∀ (d i : Nat), i + 1 + d = l.length → Ev (fun k => fascicleref11_Rising.l0 k (refsE l) (l.length : Int) ((i + 1 : Nat) : Int)) (riseN l d i)
  | 0, i, h => by
    refine Ev.step (f := fun _ => some true) (fun k => ?_) (Ev.now _)
    unfold fascicleref11_Rising.l0
    rw [if_neg (by omega)]
  | d + 1, i, h => by
    obtain ⟨x, hx⟩ : ∃ x, l[i]? = some x := ⟨_, List.getElem?_eq_getElem (by omega)⟩
    obtain ⟨y, hy⟩ : ∃ y, l[i + 1]? = some y := ⟨_, List.getElem?_eq_getElem (by omega)⟩
    refine Ev.step (f := fun k => if lessE x y then fascicleref11_Rising.l0 k (refsE l) (l.length : Int) ((i + 1 + 1 : Nat) : Int) else some false) (fun k => ?_) ?_
    · simp only [fascicleref11_Rising.l0]
      rw [dec64 (by omega), if_pos (by omega), if_pos (by omega), if_pos (by omega), if_pos (by rw [refsE_len]; omega), if_pos (by omega), if_pos (by rw [refsE_len]; omega), rdR l i x hx, rdR l (i + 1) y hy, less_f, Option.bind_some, inc64 (by omega)]
      by_cases hxy : lessE x y
      · rw [decide_eq_true hxy, if_pos rfl, if_pos hxy]
      · rw [decide_eq_false hxy, if_neg (by decide), if_neg hxy]
    · unfold riseN
      rw [hx, hy]
      dsimp only
      by_cases hxy : lessE x y
      · exact Ev.congr (f := fun k => fascicleref11_Rising.l0 k (refsE l) (l.length : Int) ((i + 1 + 1 : Nat) : Int)) (fun k => if_pos hxy) (ev_eq (refrise_loop l hl d (i + 1) (by omega)) (if_pos hxy).symm)
      · exact Ev.congr (f := fun k => some false) (fun k => if_neg hxy) (ev_eq (Ev.now _) (if_neg hxy).symm)
theorem refrise_ev (l : List E1) (hl : l.length ≤ 1000000) : Ev (fun k => fascicleref11_Rising.f k (refsE l)) (riseE l) := by
  by_cases h : l.length = 0
  · refine Ev.step (f := fun _ => some true) (fun k => ?_) (ev_eq (Ev.now _) (by unfold riseE; rw [h]; rfl))
    unfold fascicleref11_Rising.f fascicleref11_Rising.l0
    rw [if_neg (by rw [refsE_len]; omega)]
  · refine Ev.step (f := fun k => fascicleref11_Rising.l0 k (refsE l) (l.length : Int) ((0 + 1 : Nat) : Int)) (fun k => ?_) (refrise_loop l hl (l.length - 1) 0 (by omega))
    unfold fascicleref11_Rising.f
    simp only [fascicleref11_Rising.l0]
    rw [if_pos (by rw [refsE_len]; omega), if_neg (by decide), refsE_len, show wrap64 (0 + 1) = ((0 + 1 : Nat) : Int) from inc64 (i := 0) (by decide)]
end Go.Proofs.Ytnmdckgaljldhaa.Tb
