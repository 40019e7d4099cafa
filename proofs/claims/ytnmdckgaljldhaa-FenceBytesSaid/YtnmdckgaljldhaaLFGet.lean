/- Plain laws of fences and entries, written and read: sorted or not; the document's texts and readings. -/
import Derived.Test.YtnmdckgaljldhaaMCur
import Derived.Test.YtnmdckgaljldhaaLGetn
import Derived.Test.YtnmdckgaljldhaaLNbT
import Derived.Test.YtnmdckgaljldhaaGx2
import Derived.Test.YtnmdckgaljldhaaGx1
set_option linter.unusedVariables false
set_option linter.unusedSimpArgs false
namespace Go.Proofs.Ytnmdckgaljldhaa.Tb
open Go Go.RowKit Go.Proofs.YtnmdckgaljldhaaW.PrintWords Go.Proofs.YtnmdckgaljldhaaW.PrintLast Go.Proofs.YtnmdckgaljldhaaW.PrintMore Go.Proofs.Ytnmdckgaljldhaa.PureKit Go.Proofs.Ytnmdckgaljldhaa.Sep Go.Proofs.Ytnmdckgaljldhaa.G
set_option maxRecDepth 100000

/-- The number of eight bytes that stands at p; so many from p on. -/
def fenAt (l : List Int) (p : Nat) : Int := lev ((l.take (p + 8)).drop p)
def fensAt (l : List Int) (p n : Nat) : List Int := (List.range n).map fun k => fenAt l (p + 8 * k)
theorem fensAt_len (l : List Int) (p n : Nat) : (fensAt l p n).length = n := by unfold fensAt; rw [List.length_map, List.length_range]
theorem fensAt_succ (l : List Int) (p n : Nat) : fensAt l p (n + 1) = fensAt l p n ++ [fenAt l (p + 8 * n)] := by unfold fensAt; rw [List.range_succ, List.map_append]; rfl

/-- Does no number fall? -/
def risesF (l : List Int) : Bool := decide (∀ i, i < l.length - 1 → l.getD i 0 ≤ l.getD (i + 1) 0)
theorem risesF_iff (l : List Int) : risesF l = true ↔ ∀ i, i < l.length - 1 → l.getD i 0 ≤ l.getD (i + 1) 0 := by unfold risesF; exact decide_eq_true_iff
theorem risesF_nil : risesF [] = true := (risesF_iff []).2 fun i h => absurd h (Nat.not_lt_zero i)
theorem risesF_snoc (l : List Int) (x : Int) (h : 0 < l.length) : risesF (l ++ [x]) = (risesF l && decide (l.getD (l.length - 1) 0 ≤ x)) := by
  have e1 : ∀ i, i < l.length → (l ++ [x]).getD i 0 = l.getD i 0 := fun i hi => by
    rw [List.getD_eq_getElem?_getD, List.getD_eq_getElem?_getD, List.getElem?_append_left hi]
  have e2 : (l ++ [x]).getD l.length 0 = x := by
    rw [List.getD_eq_getElem?_getD, List.getElem?_append_right (Nat.le_refl _), Nat.sub_self]; rfl
  apply Bool.eq_iff_iff.2
  rw [Bool.and_eq_true, risesF_iff, risesF_iff, decide_eq_true_iff, List.length_append, List.length_singleton]
  constructor
  · intro hh
    refine ⟨fun i hi => ?_, ?_⟩
    · have := hh i (by omega)
      rw [e1 i (by omega), e1 (i + 1) (by omega)] at this
      exact this
    · have := hh (l.length - 1) (by omega)
      rw [e1 _ (by omega), show l.length - 1 + 1 = l.length by omega, e2] at this
      exact this
  · rintro ⟨h1, h2⟩ i hi
    by_cases hj : i + 1 < l.length
    · rw [e1 i (by omega), e1 (i + 1) hj]
      exact h1 i (by omega)
    · have he : i = l.length - 1 := by omega
      subst he
      rw [e1 _ (by omega), show l.length - 1 + 1 = l.length by omega, e2]
      exact h2
theorem rd_getD (l : List Int) (i : Nat) : rd l (i : Int) = l.getD i 0 := by unfold rd; rw [Int.toNat_natCast]
theorem less64 (x y : Int) : cmp_Less_uint64.f x y = some (decide (x < y)) := by
  unfold cmp_Less_uint64.f cmp_isNaN_uint64.f
  simp
theorem isSorted_loop (l : List Int) (hl : l.length ≤ 1000000) : ∀ (j : Nat), j < l.length → (∀ i, j ≤ i → i < l.length - 1 → l.getD i 0 ≤ l.getD (i + 1) 0) → Ev (fun k => slices_IsSorted_uint64_uint64.l0 k l (j : Int)) (risesF l)
  | 0, hj, hh => by
    rw [(risesF_iff l).2 fun i hi => hh i (Nat.zero_le _) hi]
    refine Ev.step (f := fun _ => some true) (fun k => ?_) (Ev.now _)
    unfold slices_IsSorted_uint64_uint64.l0
    rw [if_neg (by omega)]
  | j + 1, hj, hh => by
    have hw : wrap64 (((j + 1 : Nat) : Int) - 1) = (j : Int) := by rw [w64 (by omega) (by omega)]; omega
    by_cases hlt : l.getD (j + 1) 0 < l.getD j 0
    · have hr : risesF l = false := by
        cases h : risesF l with
        | false => rfl
        | true => have := (risesF_iff l).1 h j (by omega); omega
      rw [hr]
      refine Ev.step (f := fun _ => some false) (fun k => ?_) (Ev.now _)
      unfold slices_IsSorted_uint64_uint64.l0
      rw [if_pos (by omega), if_pos (by omega), if_pos (by omega), hw, if_pos (by omega), if_pos (by omega), less64, Option.bind_some, rd_getD, rd_getD, decide_eq_true hlt, if_pos rfl]
    · refine Ev.step (f := fun k => slices_IsSorted_uint64_uint64.l0 k l (j : Int)) (fun k => ?_) (isSorted_loop l hl j (by omega) fun i hi hi2 => ?_)
      · conv => lhs; unfold slices_IsSorted_uint64_uint64.l0
        rw [if_pos (by omega), if_pos (by omega), if_pos (by omega), hw, if_pos (by omega), if_pos (by omega), less64, Option.bind_some, rd_getD, rd_getD, decide_eq_false hlt, if_neg (by decide)]
      · by_cases he : i = j
        · subst he; omega
        · exact hh i (by omega) hi2
theorem isSorted_ev (l : List Int) (hl : l.length ≤ 1000000) : Ev (fun k => slices_IsSorted_uint64_uint64.f k l) (risesF l) := by
  unfold slices_IsSorted_uint64_uint64.f
  by_cases h : 0 < l.length
  · rw [show wrap64 ((l.length : Int) - 1) = ((l.length - 1 : Nat) : Int) by rw [w64 (by omega) (by omega)]; omega]
    exact isSorted_loop l hl (l.length - 1) (by omega) fun i h1 h2 => absurd h2 (by omega)
  · have h0 : l = [] := List.eq_nil_of_length_eq_zero (by omega)
    subst h0
    rw [risesF_nil]
    refine Ev.step (f := fun _ => some true) (fun k => ?_) (Ev.now _)
    unfold slices_IsSorted_uint64_uint64.l0
    rw [if_neg (by simp only [List.length_nil]; unfold wrap64; decide)]

/-- A row, read. -/
theorem row_C {α : Type} {d : Kd α} {w0 W : World} {e : TypeId} {A : Option Addr} {n c : Nat} {l : List α} {ps : List HP} (h : Sep.Sep w0 W (row d e (.slice A n c) l :: ps)) : n = l.length ∧ l.length ≤ c ∧ d.C W A l.length l := by
  obtain ⟨bs, hR⟩ := h.row_R
  have h := Kd.R_reads' hR
  exact ⟨h.1, h.1 ▸ h.2.1, h.2.2⟩
/-- A row, opened. -/
theorem row_S {α : Type} {d : Kd α} {w0 W : World} {e : TypeId} {v : Value} {l : List α} {ps : List HP} (h : Sep.Sep w0 W (row d e v l :: ps)) : ∃ A c, v = .slice A l.length c ∧ l.length ≤ c ∧ d.C W A l.length l := by
  obtain ⟨bs, hR⟩ := h.row_R
  exact Kd.R_reads hR

def fbytesL (l : List Int) : List Int := l.flatMap fun x => nbytes 8 x
theorem fbytesL_len (l : List Int) : (fbytesL l).length = 8 * l.length := by
  induction l with
  | nil => rfl
  | cons x l ih => unfold fbytesL at *; rw [List.flatMap_cons, List.length_append, nbytes_len, ih, List.length_cons]; omega
theorem nextI {i : Nat} (h : i < 1000000000) : wrap64 ((i : Int) + 1) = ((i + 1 : Nat) : Int) := by rw [w64 (by omega) (by omega)]; omega
theorem text12_loop (l : List Int) (hl : l.length ≤ 1000000) (hb : ∀ x ∈ l, 0 ≤ x ∧ x < 18446744073709551616) : ∀ (d i : Nat) (acc : List Int), i + d = l.length → acc.length ≤ 8 * i → Ev (fun k => fascicleref12_Text.l0 k (strOfNums acc) l (l.length : Int) (i : Int)) (strOfNums (acc ++ fbytesL (l.drop i)))
  | 0, i, acc, h, ha => by
    rw [List.drop_of_length_le (by omega), show fbytesL [] = [] from rfl, List.append_nil]
    refine Ev.step (f := fun _ => some (strOfNums acc)) (fun k => ?_) (Ev.now _)
    unfold fascicleref12_Text.l0
    rw [if_neg (by omega)]
  | d + 1, i, acc, h, ha => by
    have hi : i < l.length := by omega
    have hx := hb _ (List.getElem_mem hi)
    have hd := List.drop_eq_getElem_cons hi
    refine Ev.step (f := fun k => (fascicleref01_Num.f k (l[i]) 8).bind fun t => (if (strOfNums acc).size + t.size ≤ 9223372036854775807 then (fascicleref12_Text.l0 k (strOfNums acc ++ t) l (l.length : Int) ((i + 1 : Nat) : Int)) else none)) (fun k => ?_) ?_
    · conv => lhs; unfold fascicleref12_Text.l0
      rw [if_pos (by omega), if_pos (by omega), if_pos (by omega), rd_at l i hi, nextI (by omega)]
    refine Ev.bind (f := fun k t => (if (strOfNums acc).size + t.size ≤ 9223372036854775807 then (fascicleref12_Text.l0 k (strOfNums acc ++ t) l (l.length : Int) ((i + 1 : Nat) : Int)) else none)) (nbT_refn 8 (l[i]) (by decide) hx.1 hx.2) ?_
    have := text12_loop l hl hb d (i + 1) (acc ++ nbytes 8 (l[i])) (by omega) (by rw [List.length_append, nbytes_len]; omega)
    refine Ev.congr (f := fun k => fascicleref12_Text.l0 k (strOfNums (acc ++ nbytes 8 (l[i]))) l (l.length : Int) ((i + 1 : Nat) : Int)) (fun k => ?_) (Ev.eq this ?_)
    · rw [if_pos (by rw [nums_size, nums_size, nbytes_len]; omega), PureKit.nums_append]
    · rw [hd, List.append_assoc]; rfl
theorem text12_ev (l : List Int) (hl : l.length ≤ 1000000) (hb : ∀ x ∈ l, 0 ≤ x ∧ x < 18446744073709551616) : Ev (fun k => fascicleref12_Text.f k l) (strOfNums (fbytesL l)) :=
  text12_loop l hl hb l.length 0 [] (by omega) (Nat.le_refl _)

theorem lev8_at (s : List Int) (p : Nat) : lev ((s.drop p).take 8) = fenAt s p := by
  unfold fenAt
  rw [List.drop_take, Nat.add_sub_cancel_left]
theorem fail12 (S : ByteArray) (a e : Int) : fascicleref01_Fail.f S a 0 e = some (S, a, e) := by unfold fascicleref01_Fail.f; rw [if_pos rfl]
/-- What the document's reading of so many fences leaves. -/
def ref12g (s : List Int) (a : Int) (m : Nat) : ByteArray × Int × Int × List Int := if risesF (fensAt s 0 m) = true then (strOfNums (s.drop (8 * m)), a + 8 * m, 0, fensAt s 0 m) else (strOfNums (s.drop (8 * m)), a + 8 * m, 8, [])
theorem ref12_loop (s : List Int) (hb : Bytes s) (a : Int) (ha0 : 0 ≤ a) (m : Nat) (hm : 8 * m ≤ s.length) (hs : s.length ≤ 1000000) (ha : a ≤ 1000000) : ∀ (d i : Nat), i + d = m →
    Ev (fun k => fascicleref12_Get.l0 k (fensAt s 0 i) (!risesF (fensAt s 0 i)) (m : Int) (i : Int) (strOfNums (s.drop (8 * i))) (a + 8 * (i : Int)) 0) (ref12g s a m)
  | 0, i, h => by
    have hi : i = m := by omega
    subst hi
    unfold ref12g
    cases hr : risesF (fensAt s 0 i) with
    | true =>
      rw [if_pos rfl]
      refine Ev.step (f := fun _ => some (strOfNums (s.drop (8 * i)), a + 8 * i, 0, fensAt s 0 i)) (fun k => ?_) (Ev.now _)
      simp only [fascicleref12_Get.l0]
      rw [if_neg (by omega), if_neg (by decide)]
    | false =>
      rw [if_neg (by decide)]
      refine Ev.step (f := fun _ => some (strOfNums (s.drop (8 * i)), a + 8 * i, 8, [])) (fun k => ?_) (Ev.now _)
      simp only [fascicleref12_Get.l0]
      rw [if_neg (by omega), if_pos (by decide), fail12, Option.bind_some]
  | d + 1, i, h => by
    have hG := getn_some (s.drop (8 * i)) (a + 8 * (i : Int)) 8 (by decide) (by decide) (hb.drop _) (by rw [List.length_drop]; omega) (by omega) (by omega)
    rw [lev8_at, List.drop_drop, show 8 * i + 8 = 8 * (i + 1) by omega, show a + 8 * (i : Int) + ((8 : Nat) : Int) = a + 8 * ((i + 1 : Nat) : Int) by omega] at hG
    have ih := ref12_loop s hb a ha0 m hm hs ha d (i + 1) (by omega)
    have hsc := fensAt_succ s 0 i
    rw [Nat.zero_add] at hsc
    have hL := fensAt_len s 0 i
    have hR : (!risesF (fensAt s 0 (i + 1))) = (!risesF (fensAt s 0 i) || (decide (0 < i) && decide (fenAt s (8 * i) < (fensAt s 0 i).getD (i - 1) 0))) := by
      by_cases h0 : 0 < i
      · rw [hsc, risesF_snoc _ _ (by omega), hL, decide_eq_true h0, Bool.true_and, Bool.not_and]
        congr 1
        rw [← decide_not]
        exact decide_eq_decide.2 (by omega)
      · have : i = 0 := by omega
        subst this
        rw [hsc]
        rfl
    rw [hR, hsc] at ih
    generalize fensAt s 0 i = acc at *
    generalize fenAt s (8 * i) = x at *
    generalize risesF acc = R at *
    refine Ev.step (f := ?_) (fun k => ?_) ?_
    rotate_left
    · simp only [fascicleref12_Get.l0]
      rw [if_pos (by omega)]
    refine Ev.bind hG ?_
    dsimp only
    cases R with
    | false =>
      refine Ev.congr (fun k => ?_) ih
      rw [if_pos (show (!false) = true from rfl), if_pos (by rw [hL]; omega), nextI (by omega), Bool.not_false, Bool.true_or]
    | true =>
      refine Ev.congr (fun k => ?_) ih
      rw [if_neg (by decide)]
      by_cases h0 : 0 < i
      · have hw : wrap64 ((i : Int) - 1) = ((i - 1 : Nat) : Int) := by rw [w64 (by omega) (by omega)]; omega
        rw [if_pos (by omega), hw, if_pos (by omega), if_pos (by rw [hL]; omega), if_pos (by rw [hL]; omega), nextI (by omega), rd_getD, decide_eq_true h0, Bool.true_and, Bool.not_true, Bool.false_or]
      · rw [if_neg (by omega), if_pos (by rw [hL]; omega), nextI (by omega), decide_eq_false h0, Bool.false_and, Bool.not_true, Bool.false_or]
theorem ref12_none (S : ByteArray) (a n : Int) (hn : n ≤ 0) : Ev (fun k => fascicleref12_Get.f k S a 0 n) (S, a, 0, []) := by
  unfold fascicleref12_Get.f
  refine Ev.step (f := fun _ => some (S, a, 0, [])) (fun k => ?_) (Ev.now _)
  rw [if_pos rfl, decide_eq_true hn]
  simp only [fascicleref12_Get.j0]
  rw [if_pos trivial]
theorem quo8 (s : List Int) (h : s.length ≤ 1000000) : wrap64 (((strOfNums s).size : Int) / 8) = ((s.length / 8 : Nat) : Int) := by rw [nums_size, w64 (by omega) (by omega)]; omega
theorem ref12_short (s : List Int) (a n : Int) (hs : s.length ≤ 1000000) (hn : 0 < n) (hsh : n > ((s.length / 8 : Nat) : Int)) : Ev (fun k => fascicleref12_Get.f k (strOfNums s) a 0 n) (strOfNums s, a, 2, []) := by
  unfold fascicleref12_Get.f
  refine Ev.step (f := fun _ => some (strOfNums s, a, 2, [])) (fun k => ?_) (Ev.now _)
  rw [if_pos rfl, decide_eq_false (by omega)]
  simp only [fascicleref12_Get.j0]
  rw [if_neg (by decide), quo8 s hs, if_pos (by omega), fail12, Option.bind_some]
theorem ref12_some (s : List Int) (hb : Bytes s) (a : Int) (ha0 : 0 ≤ a) (m : Nat) (hm0 : 0 < m) (hm : 8 * m ≤ s.length) (hs : s.length ≤ 1000000) (ha : a ≤ 1000000) : Ev (fun k => fascicleref12_Get.f k (strOfNums s) a 0 (m : Int)) (ref12g s a m) := by
  unfold fascicleref12_Get.f
  have := ref12_loop s hb a ha0 m hm hs ha m 0 (by omega)
  refine Ev.step (fun k => ?_) this
  rw [if_pos rfl, decide_eq_false (by omega)]
  simp only [fascicleref12_Get.j0]
  rw [if_neg (by decide), quo8 s hs, if_neg (by omega)]
  simp [fensAt, risesF_nil]
end Go.Proofs.Ytnmdckgaljldhaa.Tb
