/- Plain laws of records: the document's reading of a body is the program's. -/
import Derived.Test.YtmlodmpkcbncjaaLRecord
import Derived.OpenShut
set_option linter.unusedVariables false
set_option linter.unusedSimpArgs false
namespace Go.Proofs.Ytmlodmpkcbncjaa.Sep
open Go Go.RowKit Go.Proofs.Ytmlodmpkcbncjaa.G Go.Proofs.YtmlodmpkcbncjaaW.PrintWords Go.Proofs.YtmlodmpkcbncjaaW.PrintLast Go.Proofs.YtmlodmpkcbncjaaW.PrintMore Go.Proofs.Ytmlodmpkcbncjaa.PureKit

def Res.shift {α : Type} (c : Nat) : Res α → Res α
  | .ok x a => .ok x (a + c)
  | .bad e a => .bad e (a + c)
theorem vgo_shift (c : Nat) : ∀ (k i : Nat) (s : List Int) (x : Int) (a : Nat), vgo k i s x (a + c) = (vgo k i s x a).shift c := by
  intro k
  induction k with
  | zero => intro i s x a; rfl
  | succ k ih =>
    intro i s x a
    rcases s with _ | ⟨b, s⟩
    · rfl
    · unfold vgo
      rw [show a + c + 1 = a + 1 + c by omega, ih]
      split
      · rfl
      split
      · rfl
      split <;> rfl
theorem vget_shift (b : Int) (t : List Int) (a : Nat) : vget (b :: t) (a + 1) = (vget t a).shift 1 := by
  unfold vget
  rw [List.drop_succ_cons, vgo_shift]
theorem vtext_shift (b : Int) (t : List Int) (a lo hi : Nat) : vtext (b :: t) (a + 1) lo hi = (vtext t a lo hi).shift 1 := by
  unfold vtext
  rw [vget_shift]
  cases vget t a with
  | bad e a1 => rfl
  | ok n a1 =>
    simp only [Res.shift]
    split
    · rfl
    split
    · rfl
    rw [show a1 + 1 + n.toNat = (a1 + n.toNat) + 1 by omega, List.length_cons, List.take_succ_cons, List.drop_succ_cons]
    by_cases h : a1 + n.toNat ≤ t.length
    · rw [if_pos h, if_pos (by omega)]
    · rw [if_neg h, if_neg (by omega)]

def endE (S : ByteArray) (e : Int) : Int := if S.toList = ([] : List UInt8) then e else if e = 0 then 3 else e
theorem refend (S : ByteArray) (at_ e : Int) : Ev (fun _ => fascicleref01_End.f S at_ e) (S, at_, endE S e) := by
  refine Ev.congr (fun _ => ?_) (Ev.now _)
  unfold fascicleref01_End.f fascicleref01_Fail.f endE
  split
  · rfl
  · split <;> rfl
theorem endE_nil (l : List Int) (a : Nat) : endE (strOfNums (l.drop a)) 0 = if a < l.length then 3 else 0 := by
  unfold endE
  by_cases h : a < l.length
  · rw [if_pos h, if_neg (fun h2 => by have := congrArg List.length ((nums_nil _).1 h2); rw [List.length_drop] at this; simp at this; omega)]
    rfl
  · rw [if_neg h, if_pos ((nums_nil _).2 (List.drop_eq_nil_of_le (by omega)))]
theorem endE_bad (S : ByteArray) {e : Int} (he : e ≠ 0) : endE S e = e := by
  unfold endE
  by_cases h : S.toList = ([] : List UInt8)
  · rw [if_pos h]
  · rw [if_neg h, if_neg he]

/-- What comes behind the key. -/
def reftail (n : Nat) (b : Int) (s : Int) (k : ByteArray) (S : ByteArray) (at_ e : Int) : Option (Bool × Int × ByteArray × ByteArray × Int) :=
  if b = 3 then ((fascicleref01_End.f S at_ e).bind fun t => (if t.2.2 = 0 then (some ((b == 3), s, k, (⟨#[]⟩ : ByteArray), 0)) else (some (false, 0, (⟨#[]⟩ : ByteArray), (⟨#[]⟩ : ByteArray), t.2.2))))
  else ((fascicleref02_GetText.f n S at_ e 0 1048576).bind fun u => ((fascicleref01_End.f u.1 u.2.1 u.2.2.1).bind fun t => (if t.2.2 = 0 then (some ((b == 3), s, k, u.2.2.2, 0)) else (some (false, 0, (⟨#[]⟩ : ByteArray), (⟨#[]⟩ : ByteArray), t.2.2)))))
theorem reftail_bad (b s : Int) (k S : ByteArray) (at_ e : Int) (he : e ≠ 0) : Ev (fun n => reftail n b s k S at_ e) (false, 0, ⟨#[]⟩, ⟨#[]⟩, e) := by
  unfold reftail
  by_cases hb : b = 3
  · simp only [if_pos hb]
    refine Ev.bind (refend S at_ e) ?_
    refine Ev.congr (fun _ => ?_) (Ev.now _)
    dsimp only
    rw [endE_bad S he, if_neg he]
  · simp only [if_neg hb]
    refine Ev.bind (refgett_bad S at_ e 0 1048576 he) ?_
    refine Ev.bind (refend S at_ e) ?_
    refine Ev.congr (fun _ => ?_) (Ev.now _)
    dsimp only
    rw [endE_bad S he, if_neg he]
theorem reftail_ok (b s : Int) (k : ByteArray) (t : List Int) (a : Nat) (hb : Bytes t) (hl : t.length ≤ 1000000000) (ha : a ≤ t.length) :
    Ev (fun n => reftail n b s k (strOfNums (t.drop a)) (a : Int) 0) (rout (rread1 (b :: t) (b == 3) s k (a + 1))) := by
  unfold reftail rread1
  by_cases h3 : b = 3
  · simp only [if_pos h3]
    rw [if_pos (by simp [h3])]
    refine Ev.bind (refend _ _ _) ?_
    refine Ev.congr (fun _ => ?_) (Ev.now _)
    dsimp only
    rw [endE_nil, rread2, List.length_cons]
    by_cases h : a < t.length
    · rw [if_pos h, if_neg (by decide), if_pos (by omega)]
      rfl
    · rw [if_neg h, if_pos rfl, if_neg (by omega)]
      rfl
  · simp only [if_neg h3]
    rw [if_neg (by simp [h3]), vtext_shift]
    have hg := refgett_f t a 0 1048576 hb (by omega) ha (by decide) (by decide)
    cases hv : vtext t a 0 1048576 with
    | bad e a1 =>
      have hg : Ev (fun n => fascicleref02_GetText.f n (strOfNums (t.drop a)) (a : Int) 0 0 1048576) (strOfNums (t.drop a1), (a1 : Int), e, strOfNums []) := by rw [hv] at hg; exact hg
      have he := (vtext_bad hb ha hv).1
      refine Ev.bind hg ?_
      refine Ev.bind (refend _ _ _) ?_
      refine Ev.congr (fun _ => ?_) (Ev.now _)
      dsimp only
      rw [endE_bad _ he, if_neg he]
      rfl
    | ok v a1 =>
      have hg : Ev (fun n => fascicleref02_GetText.f n (strOfNums (t.drop a)) (a : Int) 0 0 1048576) (strOfNums (t.drop a1), (a1 : Int), 0, v) := by rw [hv] at hg; exact hg
      refine Ev.bind hg ?_
      refine Ev.bind (refend _ _ _) ?_
      refine Ev.congr (fun _ => ?_) (Ev.now _)
      dsimp only
      simp only [Res.shift]
      rw [endE_nil, rread2, List.length_cons]
      by_cases h : a1 < t.length
      · rw [if_pos h, if_neg (by decide), if_pos (by omega)]
        rfl
      · rw [if_neg h, if_pos rfl, if_neg (by omega)]
        rfl
theorem refread (l : List Int) (hb : Bytes l) (hl : l.length ≤ 1000000000) : Ev (fun n => fascicleref07_Read.f n (strOfNums l)) (rout (rread l)) := by
  unfold fascicleref07_Read.f
  rcases l with _ | ⟨b, t⟩
  · refine Ev.congr (fun n => ?_) (Ev.now _)
    rw [if_pos (by rw [nums_nil])]
    rfl
  have hbt : bt (strOfNums (b :: t)) 0 = b := bt_nums (b :: t) hb 0 (by simp)
  have hbb := hb.head
  have hlt : t.length ≤ 1000000000 := by rw [List.length_cons] at hl; omega
  have hex : (strOfNums (b :: t)).extract 1 (strOfNums (b :: t)).size = strOfNums (t.drop 0) := by
    rw [nums_size, nums_extract, List.take_length]
    rfl
  have hsz : (0 : Int) < ((strOfNums (b :: t)).size : Int) := by rw [nums_size, List.length_cons]; omega
  refine Ev.congr (f := fun n => fascicleref07_Read.j0 n (strOfNums (b :: t)) (decide (b ≠ 2 ∧ b ≠ 3))) (fun n => ?_) ?_
  · rw [if_neg (by rw [nums_nil]; simp), if_pos hsz, hbt]
    by_cases h2 : b = 2
    · rw [if_pos h2, decide_eq_false (by omega)]
    · rw [if_neg h2]
      congr 1
      by_cases h3 : b = 3
      · rw [decide_eq_false (by omega), h3]; rfl
      · rw [decide_eq_true ⟨h2, h3⟩]; exact bne_iff_ne.2 h3
  simp only [rread]
  by_cases hk : b ≠ 2 ∧ b ≠ 3
  · rw [decide_eq_true hk, if_pos hk]
    refine Ev.step (f := fun _ => some (rout (.bad 4 1))) (fun n => ?_) (Ev.now _)
    simp only [fascicleref07_Read.j0, if_true]
    rfl
  rw [decide_eq_false hk, if_neg hk]
  refine Ev.step (f := fun n => (fascicleref02_Get.f n (strOfNums (t.drop 0)) ((0 : Nat) : Int) 0).bind fun p => (fascicleref02_GetText.f n p.1 p.2.1 p.2.2.1 1 4096).bind fun q => reftail n b p.2.2.2 q.2.2.2 q.1 q.2.1 q.2.2.1) (fun n => ?_) ?_
  · simp only [fascicleref07_Read.j0]
    rw [if_neg (by decide), if_pos hsz, if_pos (by omega), hex, hbt]
    rfl
  have hg := refget_f t 0 hb.tail (by omega) (Nat.zero_le _)
  rw [vget_shift b t 0]
  cases hv : vget t 0 with
  | bad e a1 =>
    have hg : Ev (fun n => fascicleref02_Get.f n (strOfNums (t.drop 0)) ((0 : Nat) : Int) 0) (strOfNums (t.drop a1), (a1 : Int), e, 0) := by rw [hv] at hg; exact hg
    have he := (vget_bad hb.tail (Nat.zero_le _) hv).1
    refine Ev.bind hg ?_
    refine Ev.bind (refgett_bad _ _ e 1 4096 he) ?_
    exact reftail_bad _ _ _ _ _ e he
  | ok s a1 =>
    have hok := vget_ok hb.tail (Nat.zero_le _) hv
    have hg : Ev (fun n => fascicleref02_Get.f n (strOfNums (t.drop 0)) ((0 : Nat) : Int) 0) (strOfNums (t.drop a1), (a1 : Int), 0, s) := by rw [hv] at hg; exact hg
    refine Ev.bind hg ?_
    simp only [Res.shift]
    have hg2 := refgett_f t a1 1 4096 hb.tail (by omega) hok.2.2.2 (by decide) (by decide)
    rw [vtext_shift]
    cases hv2 : vtext t a1 1 4096 with
    | bad e a2 =>
      have hg2 : Ev (fun n => fascicleref02_GetText.f n (strOfNums (t.drop a1)) (a1 : Int) 0 1 4096) (strOfNums (t.drop a2), (a2 : Int), e, strOfNums []) := by rw [hv2] at hg2; exact hg2
      have he := (vtext_bad hb.tail hok.2.2.2 hv2).1
      refine Ev.bind hg2 ?_
      exact reftail_bad _ _ _ _ _ e he
    | ok k a2 =>
      have hok2 := vtext_ok hb.tail hok.2.2.2 hv2
      have hg2 : Ev (fun n => fascicleref02_GetText.f n (strOfNums (t.drop a1)) (a1 : Int) 0 1 4096) (strOfNums (t.drop a2), (a2 : Int), 0, k) := by rw [hv2] at hg2; exact hg2
      refine Ev.bind hg2 ?_
      exact reftail_ok b s k t a2 hb.tail hlt hok2.2

end Go.Proofs.Ytmlodmpkcbncjaa.Sep
