/- Plain laws of texts: the document's writing and reading are the program's. -/
import Derived.Test.YtmlodmpkcbncjaaLVarint
import Derived.Test.YtmlodmpkcbncjaaGx10
import Derived.Test.YtmlodmpkcbncjaaGx7
import Derived.OpenShut
set_option linter.unusedVariables false
set_option linter.unusedSimpArgs false
namespace Go.Proofs.Ytmlodmpkcbncjaa.Sep
open Go Go.RowKit Go.Proofs.Ytmlodmpkcbncjaa.G Go.Proofs.YtmlodmpkcbncjaaW.PrintWords Go.Proofs.YtmlodmpkcbncjaaW.PrintLast Go.Proofs.YtmlodmpkcbncjaaW.PrintMore Go.Proofs.Ytmlodmpkcbncjaa.PureKit

theorem venc_len10' (x : Nat) (hx : x < 18446744073709551616) : (venc x).length ≤ 10 := venc_len 10 x (Nat.lt_of_lt_of_le hx (by decide)) (by decide)
theorem refnum_f : ∀ (d x : Nat), x < 128 ^ d → x < 18446744073709551616 → Ev (fun k => fascicleref02_Num.f k (x : Int)) (strOfNums (venc x)) := by
  intro d
  induction d with
  | zero =>
    intro x hx _
    have : x = 0 := by simpa using hx
    subst this
    refine Ev.step (f := fun _ => some (strOfNums (venc 0))) (fun k => ?_) (Ev.now _)
    simp only [fascicleref02_Num.f]
    rw [if_pos (by decide), venc_small (by decide)]
    rfl
  | succ d ih =>
    intro x hx hx2
    by_cases h : x < 128
    · refine Ev.step (f := fun _ => some (strOfNums (venc x))) (fun k => ?_) (Ev.now _)
      simp only [fascicleref02_Num.f]
      rw [if_pos (by omega), venc_small h, show (x : Int) % 256 = (x : Int) by omega]
    · have hr := ih (x / 128) (by rw [Nat.div_lt_iff_lt_mul (by omega), ← Nat.pow_succ]; exact hx) (by omega)
      have e1 : Int.tmod (x : Int) 128 = ((x % 128 : Nat) : Int) := by rw [tmod128 _ (by omega)]; omega
      have e2 : Int.tdiv (x : Int) 128 = ((x / 128 : Nat) : Int) := by rw [Int.tdiv_eq_ediv_of_nonneg (by omega)]; omega
      have hlen := venc_len10' (x / 128) (by omega)
      refine Ev.step (f := fun k => (fascicleref02_Num.f k ((x / 128 : Nat) : Int)).bind fun t => if (strOfNums [((x % 128 + 128 : Nat) : Int)]).size + t.size ≤ 9223372036854775807 then some (strOfNums [((x % 128 + 128 : Nat) : Int)] ++ t) else none) (fun k => ?_) (Ev.bind hr (Ev.congr (fun _ => ?_) (Ev.now _)))
      · simp only [fascicleref02_Num.f]
        rw [if_neg (by omega), e1, e2, wu64 (x := 128 + ((x % 128 : Nat) : Int)) (by omega) (by omega), wu64 (x := ((x / 128 : Nat) : Int)) (by omega) (by omega), show (128 + ((x % 128 : Nat) : Int)) % 256 = ((x % 128 + 128 : Nat) : Int) by omega]
        rfl
      · rw [if_pos (by rw [nums_size, nums_size]; simp only [List.length_cons, List.length_nil]; omega), PureKit.nums_append, venc_big h]
        rfl
theorem refnum (x : Nat) (hx : x < 18446744073709551616) : Ev (fun k => fascicleref02_Num.f k (x : Int)) (strOfNums (venc x)) := refnum_f 10 x (Nat.lt_of_lt_of_le hx (by decide)) hx
theorem sby_size (s : ByteArray) : s = strOfNums (sby s) := (nums_sby s).symm
theorem reftext (s : ByteArray) (hs : s.size ≤ 1000000000000) : Ev (fun k => fascicleref02_Text.f k s) (strOfNums (venc s.size ++ sby s)) := by
  have hl := venc_len10' s.size (by omega)
  unfold fascicleref02_Text.f
  rw [wu64 (by omega) (by omega)]
  refine Ev.bind (refnum s.size (by omega)) ?_
  refine Ev.congr (fun _ => ?_) (Ev.now _)
  rw [if_pos (by rw [nums_size]; omega), ← PureKit.nums_append, nums_sby]

/-- The document's reader, where the reading of a text stands. -/
def refatT (l : List Int) (r : Res ByteArray) : ByteArray × Int × Int × ByteArray :=
  match r with
  | .ok s a => (strOfNums (l.drop a), a, 0, s)
  | .bad e a => (strOfNums (l.drop a), a, e, strOfNums [])
theorem mx0 (n : Nat) : mx 0 (n : Int) = (n : Int) := by unfold mx; split <;> omega
theorem refget_bad (S : ByteArray) (at_ e : Int) (he : e ≠ 0) : Ev (fun n => fascicleref02_Get.f n S at_ e) (S, at_, e, 0) := by
  have hg : Ev (fun k => fascicleref01_Get.f k S at_ e 1) (S, at_, e, 0) := by
    unfold fascicleref01_Get.f
    refine Ev.bind (a := (S, at_, e, strOfNums [])) ?_ (Ev.bind (value_f [] Bytes.nil (by decide)) (Ev.now _))
    refine Ev.step (f := fun _ => some (S, at_, e, strOfNums [])) (fun k => ?_) (Ev.now _)
    unfold fascicleref01_Take.f
    rw [if_neg he]
    rfl
  unfold fascicleref02_Get.f
  refine Ev.step (f := ?ff1) (fun n => ?hs1) ?ht1
  case hs1 =>
    simp only [fascicleref02_Get.l0]
    rw [if_pos (by decide)]
    try exact rfl
  refine Ev.bind hg ?_
  refine Ev.congr (fun n => ?_) (Ev.now _)
  dsimp only
  rw [if_neg he]
theorem refgett_bad (S : ByteArray) (at_ e lo hi : Int) (he : e ≠ 0) : Ev (fun n => fascicleref02_GetText.f n S at_ e lo hi) (S, at_, e, strOfNums []) := by
  unfold fascicleref02_GetText.f
  refine Ev.bind (refget_bad S at_ e he) ?_
  refine Ev.congr (f := fun n => fascicleref02_GetText.j0 n lo 0 false S at_ e) (fun n => by dsimp only; rw [if_neg he]) ?_
  refine Ev.step (f := fun n => fascicleref02_GetText.j1 n lo 0 S at_ e) (fun n => by simp only [fascicleref02_GetText.j0]; rw [if_neg (by decide)]) ?_
  refine Ev.step (f := fun n => fascicleref02_GetText.j2 n 0 false S at_ e) (fun n => by simp only [fascicleref02_GetText.j1]; rw [if_neg he]) ?_
  refine Ev.step (f := fun n => some (S, at_, e, strOfNums [])) (fun n => ?_) (Ev.now _)
  simp only [fascicleref02_GetText.j2]
  rw [if_neg (by decide), if_neg he]
  rfl
theorem refgett_f (l : List Int) (a lo hi : Nat) (hb : Bytes l) (hl : l.length ≤ 1000000000000) (ha : a ≤ l.length) (hlo : lo ≤ 1000000000) (hhi : hi ≤ 1000000000) : Ev (fun n => fascicleref02_GetText.f n (strOfNums (l.drop a)) (a : Int) 0 (lo : Int) (hi : Int)) (refatT l (vtext l a lo hi)) := by
  have hg := refget_f l a hb hl ha
  unfold fascicleref02_GetText.f vtext
  cases hv : vget l a with
  | bad e a1 =>
    have hg : Ev (fun n => fascicleref02_Get.f n (strOfNums (l.drop a)) (a : Int) 0) (strOfNums (l.drop a1), (a1 : Int), e, 0) := by rw [hv] at hg; exact hg
    have he := (vget_bad hb ha hv).1
    refine Ev.bind hg ?_
    simp only [refatT]
    refine Ev.congr (f := fun n => fascicleref02_GetText.j0 n lo 0 false (strOfNums (l.drop a1)) a1 e) (fun n => by rw [if_neg he]) ?_
    refine Ev.step (f := fun n => fascicleref02_GetText.j1 n lo 0 (strOfNums (l.drop a1)) a1 e) (fun n => by simp only [fascicleref02_GetText.j0]; rw [if_neg (by decide)]) ?_
    refine Ev.step (f := fun n => fascicleref02_GetText.j2 n 0 false (strOfNums (l.drop a1)) a1 e) (fun n => by simp only [fascicleref02_GetText.j1]; rw [if_neg he]) ?_
    refine Ev.step (f := fun n => some (strOfNums (l.drop a1), (a1 : Int), e, strOfNums [])) (fun n => ?_) (Ev.now _)
    simp only [fascicleref02_GetText.j2]
    rw [if_neg (by decide), if_neg he]
    rfl
  | ok n a1 =>
    have hok := vget_ok hb ha hv
    have hg : Ev (fun n => fascicleref02_Get.f n (strOfNums (l.drop a)) (a : Int) 0) (strOfNums (l.drop a1), (a1 : Int), 0, n) := by rw [hv] at hg; exact hg
    refine Ev.bind hg ?_
    dsimp only
    rw [mx0, wu64 (x := (hi : Int)) (by omega) (by omega)]
    refine Ev.congr (f := fun m => fascicleref02_GetText.j0 m lo n (decide (n > (hi : Int))) (strOfNums (l.drop a1)) a1 0) (fun m => by rw [if_pos rfl]) ?_
    by_cases c1 : n > (hi : Int)
    · rw [if_pos c1, decide_eq_true c1]
      refine Ev.step (f := fun m => fascicleref02_GetText.j1 m lo n (strOfNums (l.drop a1)) a1 3) (fun m => by simp only [fascicleref02_GetText.j0, if_true, fascicleref01_Fail.f]; rfl) ?_
      refine Ev.step (f := fun m => fascicleref02_GetText.j2 m n false (strOfNums (l.drop a1)) a1 3) (fun m => by simp only [fascicleref02_GetText.j1]; rw [if_neg (by decide)]) ?_
      refine Ev.step (f := fun m => some (strOfNums (l.drop a1), (a1 : Int), 3, strOfNums [])) (fun m => ?_) (Ev.now _)
      simp only [fascicleref02_GetText.j2]
      rw [if_neg (by decide), if_neg (by decide)]
      rfl
    rw [if_neg c1, decide_eq_false c1]
    refine Ev.step (f := fun m => fascicleref02_GetText.j1 m lo n (strOfNums (l.drop a1)) a1 0) (fun m => by simp only [fascicleref02_GetText.j0]; rw [if_neg (by decide)]) ?_
    refine Ev.step (f := fun m => fascicleref02_GetText.j2 m n (decide (n < (lo : Int))) (strOfNums (l.drop a1)) a1 0) (fun m => by simp only [fascicleref02_GetText.j1]; rw [if_pos trivial, mx0, wu64 (x := (lo : Int)) (by omega) (by omega)]) ?_
    by_cases c2 : n < (lo : Int)
    · rw [if_pos c2, decide_eq_true c2]
      refine Ev.step (f := fun m => some (strOfNums (l.drop a1), (a1 : Int), 4, strOfNums [])) (fun m => ?_) (Ev.now _)
      simp only [fascicleref02_GetText.j2, if_true, fascicleref01_Fail.f, Option.bind_some]
      rw [if_neg (by decide)]
      rfl
    rw [if_neg c2, decide_eq_false c2]
    have hw : wrap64 n = n := w64 (by omega) (by omega)
    refine Ev.step (f := fun m => (fascicleref01_Take.f m (strOfNums (l.drop a1)) a1 0 n).bind fun t => some (t.1, t.2.1, t.2.2.1, t.2.2.2)) (fun m => by simp only [fascicleref02_GetText.j2]; rw [if_neg (by decide), if_pos trivial, hw]) ?_
    by_cases c0 : n = 0
    · subst c0
      rw [if_pos (by simpa using hok.2.2.2)]
      refine Ev.bind (take_none (l.drop a1) a1 0 (by decide)) ?_
      refine Ev.congr (fun m => ?_) (Ev.now _)
      simp [refatT, drop_take_nil]
    have hn : n = (n.toNat : Int) := by omega
    by_cases c3 : a1 + n.toNat ≤ l.length
    · rw [if_pos c3]
      have ht := take_some (l.drop a1) (a1 : Int) n.toNat (by omega) (by rw [List.length_drop]; omega) (by omega) (by omega)
      rw [← hn] at ht
      refine Ev.bind ht ?_
      refine Ev.congr (fun m => ?_) (Ev.now _)
      simp only [refatT]
      rw [List.drop_drop, List.take_drop]
      congr 3
      omega
    · rw [if_neg c3]
      refine Ev.bind (take_short (l.drop a1) (a1 : Int) n (by omega) (by rw [List.length_drop]; omega)) ?_
      exact Ev.now _

end Go.Proofs.Ytmlodmpkcbncjaa.Sep
