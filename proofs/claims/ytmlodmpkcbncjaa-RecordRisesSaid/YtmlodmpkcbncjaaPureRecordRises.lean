/- fasciclelaw07.RecordRises holds: records may stand behind one another just if the document says so, and then so may any of them, in their order; for every input, no condition. -/
import Derived.Test.YtmlodmpkcbncjaaGx5
import Derived.Test.YtmlodmpkcbncjaaHLives07
set_option linter.unusedVariables false
set_option linter.unusedSimpArgs false
namespace Go.Proofs.Ytmlodmpkcbncjaa.Pure
open Go Go.RowKit Go.Proofs.Ytmlodmpkcbncjaa.G Go.Proofs.YtmlodmpkcbncjaaW.PrintWords Go.Proofs.YtmlodmpkcbncjaaW.PrintLast Go.Proofs.Ytmlodmpkcbncjaa.PureKit Go.Proofs.Ytmlodmpkcbncjaa.Sep

abbrev Rec := S44
theorem refcheck' (d : Bool) (s : Int) (k v : ByteArray) : Ev (fun n => fascicleref07_Check.f n d s k v) (rcheck d k v) := by
  refine Ev.step (f := fun _ => some (rcheck d k v)) (fun n => ?_) (Ev.now _)
  unfold fascicleref07_Check.f rcheck
  simp only [fascicleref07_Check.j0]
  by_cases hk : k.size = 0
  · rw [if_pos (by omega), if_pos hk]
  rw [if_neg (by omega), if_neg hk]
  by_cases hl : k.size > 4096
  · rw [if_pos (by omega), if_pos hl]
  rw [if_neg (by omega), if_neg hl]
  cases d
  · simp only [Bool.false_eq_true, if_false, false_and]
    by_cases hv : v.size > 1048576
    · rw [if_pos (by omega), if_pos hv]
    · rw [if_neg (by omega), if_neg hv]
  · simp only [if_true, true_and]
    by_cases hv : v.size = 0
    · rw [if_neg (by rw [decide_eq_true_eq]; omega), if_neg (by omega), if_neg (by omega), if_neg (by omega)]
    · rw [if_pos (by rw [decide_eq_true_eq]; omega), if_pos hv]
theorem progcheck' (d : Bool) (s : Int) (k v : ByteArray) : Ev (fun n => record_Check.f n d s k v) (rcheck d k v) := Ev.of (fun n => record_Check.mono _ _ _ _ n) (record_Check_ev d s k v)
def chk (x : Rec) : Int := rcheck x.f0 x.f2 x.f3
theorem rdT (l : List Rec) (i : Nat) (h : i < l.length) : rd_T44 l (i : Int) = l[i] := by
  simp [rd_T44, List.getD_eq_getElem?_getD, h]
def firstbad : List Rec → Int
  | [] => 0
  | x :: l => if chk x = 0 then firstbad l else chk x
def falls : List Rec → Bool
  | a :: b :: r => if b.f1 ≤ a.f1 then true else falls (b :: r)
  | _ => false
def rising (l : List Rec) : Int := if firstbad l = 0 then (if falls l = true then 8 else 0) else firstbad l

theorem prog_l1 (l : List Rec) (hl : l.length ≤ 1000000) : ∀ (d i : Nat), i + 1 + d = l.length + 1 → Ev (fun k => record_Rising.l1 k l ((i : Int) + 1)) (if falls (l.drop i) = true then 8 else 0) := by
  intro d
  induction d with
  | zero =>
    intro i hi
    refine Ev.step (f := fun _ => some 0) (fun k => ?_) (Ev.congr (fun _ => ?_) (Ev.now _))
    · simp only [record_Rising.l1]
      rw [if_neg (by omega)]
    · rw [List.drop_eq_nil_of_le (by omega)]
      rfl
  | succ d ih =>
    intro i hi
    by_cases hlast : i + 1 < l.length
    case neg =>
      refine Ev.step (f := fun _ => some 0) (fun k => ?_) (Ev.congr (fun _ => ?_) (Ev.now _))
      · simp only [record_Rising.l1]
        rw [if_neg (by omega)]
      · rw [List.drop_eq_getElem_cons (by omega), List.drop_eq_nil_of_le (by omega)]
        rfl
    have hi0 : i < l.length := by omega
    have hw : wrap64 ((i : Int) + 1 - 1) = (i : Int) := by rw [w64 (by omega) (by omega)]; omega
    have hw2 : wrap64 ((i : Int) + 1 + 1) = ((i + 1 : Nat) : Int) + 1 := by rw [w64 (by omega) (by omega)]; omega
    have hr : rd_T44 l ((i : Int) + 1) = l[i + 1] := by
      have := rdT l (i + 1) hlast
      simpa using this
    rw [List.drop_eq_getElem_cons hi0, List.drop_eq_getElem_cons hlast]
    refine Ev.step (f := fun k => if (l[i + 1]).f1 ≤ (l[i]).f1 then some 8 else record_Rising.l1 k l (((i + 1 : Nat) : Int) + 1)) (fun k => ?_) ?_
    · simp only [record_Rising.l1]
      rw [if_pos (by omega), if_pos (by omega), hw, if_pos (by omega), if_pos (by omega), hr, rdT l i hi0, hw2]
    · unfold falls
      by_cases h : (l[i + 1]).f1 ≤ (l[i]).f1
      · simp only [if_pos h]
        exact Ev.now _
      · simp only [if_neg h]
        have := ih (i + 1) (by omega)
        rw [List.drop_eq_getElem_cons hlast] at this
        exact this
theorem prog_l0 (l : List Rec) (hl : l.length ≤ 1000000) : ∀ (d i : Nat), i + d = l.length → Ev (fun k => record_Rising.l0 k l l (l.length : Int) (i : Int)) (if firstbad (l.drop i) = 0 then (if falls l = true then 8 else 0) else firstbad (l.drop i)) := by
  intro d
  induction d with
  | zero =>
    intro i hi
    have h1 := prog_l1 l hl l.length 0 (by omega)
    rw [List.drop_zero] at h1
    rw [List.drop_eq_nil_of_le (by omega)]
    refine Ev.step (fun k => ?_) h1
    simp only [record_Rising.l0]
    rw [if_neg (by omega)]
    rfl
  | succ d ih =>
    intro i hi
    have hin : i < l.length := by omega
    rw [List.drop_eq_getElem_cons hin]
    refine Ev.step (f := ?ff1) (fun k => ?hs1) ?ht1
    case hs1 =>
      simp only [record_Rising.l0]
      rw [if_pos (by omega), if_pos (by omega), if_pos (by omega), rdT l i hin, w64 (by omega) (by omega)]
      try exact rfl
    refine Ev.bind (progcheck' _ _ _ _) ?_
    have hc : rcheck (l[i]).f0 (l[i]).f2 (l[i]).f3 = chk l[i] := rfl
    rw [hc]
    unfold firstbad
    by_cases h : chk l[i] = 0
    · simp only [if_pos h]
      exact ih (i + 1) (by omega)
    · simp only [if_neg h]
      exact Ev.now _
theorem prog_rising (l : List Rec) (hl : l.length ≤ 1000000) : Ev (fun k => record_Rising.f k l) (rising l) := by
  have := prog_l0 l hl l.length 0 (by omega)
  rw [List.drop_zero] at this
  exact this

theorem ref_l1 (l : List Rec) (hl : l.length ≤ 1000000) : ∀ (d i : Nat), i + 1 + d = l.length + 1 → Ev (fun k => fascicleref07_Rising.l1 k l l (l.length : Int) ((i : Int) + 1)) (if falls (l.drop i) = true then 8 else 0) := by
  intro d
  induction d with
  | zero =>
    intro i hi
    refine Ev.step (f := fun _ => some 0) (fun k => ?_) (Ev.congr (fun _ => ?_) (Ev.now _))
    · simp only [fascicleref07_Rising.l1]
      rw [if_neg (by omega)]
    · rw [List.drop_eq_nil_of_le (by omega)]
      rfl
  | succ d ih =>
    intro i hi
    by_cases hlast : i + 1 < l.length
    case neg =>
      refine Ev.step (f := fun _ => some 0) (fun k => ?_) (Ev.congr (fun _ => ?_) (Ev.now _))
      · simp only [fascicleref07_Rising.l1]
        rw [if_neg (by omega)]
      · rw [List.drop_eq_getElem_cons (by omega), List.drop_eq_nil_of_le (by omega)]
        rfl
    have hi0 : i < l.length := by omega
    have hw : wrap64 ((i : Int) + 1 - 1) = (i : Int) := by rw [w64 (by omega) (by omega)]; omega
    have hw2 : wrap64 ((i : Int) + 1 + 1) = ((i + 1 : Nat) : Int) + 1 := by rw [w64 (by omega) (by omega)]; omega
    have hr : rd_T44 l ((i : Int) + 1) = l[i + 1] := by
      have := rdT l (i + 1) hlast
      simpa using this
    rw [List.drop_eq_getElem_cons hi0, List.drop_eq_getElem_cons hlast]
    refine Ev.step (f := fun k => if (l[i + 1]).f1 ≤ (l[i]).f1 then some 8 else fascicleref07_Rising.l1 k l l (l.length : Int) (((i + 1 : Nat) : Int) + 1)) (fun k => ?_) ?_
    · simp only [fascicleref07_Rising.l1]
      rw [if_pos (by omega), if_pos (by omega), if_pos (by omega), if_pos (by omega), hw, if_pos (by omega), if_pos (by omega), hr, rdT l i hi0, hw2]
    · unfold falls
      by_cases h : (l[i + 1]).f1 ≤ (l[i]).f1
      · simp only [if_pos h]
        exact Ev.now _
      · simp only [if_neg h]
        have := ih (i + 1) (by omega)
        rw [List.drop_eq_getElem_cons hlast] at this
        exact this
theorem ref_l1z (l : List Rec) (hl : l.length ≤ 1000000) : Ev (fun k => fascicleref07_Rising.l1 k l l (l.length : Int) 0) (if falls l = true then 8 else 0) := by
  rcases Nat.eq_zero_or_pos l.length with h | h
  · have : l = [] := List.eq_nil_of_length_eq_zero h
    subst this
    exact Ev.step (f := fun _ => some 0) (fun k => rfl) (Ev.now _)
  · have h1 := ref_l1 l hl l.length 0 (by omega)
    rw [List.drop_zero] at h1
    refine Ev.step (fun k => ?_) h1
    simp only [fascicleref07_Rising.l1]
    rw [if_pos (by omega), if_pos (by omega), if_pos (by omega), if_neg (by omega), w64 (by decide) (by decide)]
    rfl
theorem ref_l0 (l : List Rec) (hl : l.length ≤ 1000000) : ∀ (d i : Nat), i + d = l.length → Ev (fun k => fascicleref07_Rising.l0 k l l (l.length : Int) (i : Int)) (if firstbad (l.drop i) = 0 then (if falls l = true then 8 else 0) else firstbad (l.drop i)) := by
  intro d
  induction d with
  | zero =>
    intro i hi
    rw [List.drop_eq_nil_of_le (by omega)]
    refine Ev.step (fun k => ?_) (ref_l1z l hl)
    simp only [fascicleref07_Rising.l0]
    rw [if_neg (by omega)]
  | succ d ih =>
    intro i hi
    have hin : i < l.length := by omega
    rw [List.drop_eq_getElem_cons hin]
    refine Ev.step (f := ?ff1) (fun k => ?hs1) ?ht1
    case hs1 =>
      simp only [fascicleref07_Rising.l0]
      rw [if_pos (by omega), if_pos (by omega), if_pos (by omega), rdT l i hin, w64 (by omega) (by omega)]
      try exact rfl
    refine Ev.bind (refcheck' _ _ _ _) ?_
    have hc : rcheck (l[i]).f0 (l[i]).f2 (l[i]).f3 = chk l[i] := rfl
    rw [hc]
    unfold firstbad
    by_cases h : chk l[i] = 0
    · simp only [if_pos h]
      exact ih (i + 1) (by omega)
    · simp only [if_neg h]
      exact Ev.now _
theorem ref_rising (l : List Rec) (hl : l.length ≤ 1000000) : Ev (fun k => fascicleref07_Rising.f k l) (rising l) := by
  have := ref_l0 l hl l.length 0 (by omega)
  rw [List.drop_zero] at this
  exact this

theorem firstbad_zero : ∀ (l : List Rec), firstbad l = 0 ↔ ∀ x ∈ l, chk x = 0
  | [] => by simp [firstbad]
  | x :: l => by
    unfold firstbad
    by_cases h : chk x = 0
    · rw [if_pos h, firstbad_zero l]
      simp [h]
    · rw [if_neg h]
      simp [h]
theorem falls_pair : ∀ (l : List Rec), falls l = false ↔ l.Pairwise (fun a b => a.f1 < b.f1)
  | [] => by simp [falls]
  | [a] => by simp [falls]
  | a :: b :: r => by
    unfold falls
    have ih := falls_pair (b :: r)
    by_cases h : b.f1 ≤ a.f1
    · rw [if_pos h]
      constructor
      · intro h2; cases h2
      · intro h2
        have := (List.pairwise_cons.1 h2).1 b List.mem_cons_self
        omega
    · rw [if_neg h, ih]
      constructor
      · intro h2
        refine List.pairwise_cons.2 ⟨fun x hx => ?_, h2⟩
        rcases List.mem_cons.1 hx with rfl | hx
        · omega
        · have := (List.pairwise_cons.1 h2).1 x hx
          omega
      · intro h2
        exact (List.pairwise_cons.1 h2).2
theorem rising_sub {l p : List Rec} (h : p.Sublist l) (hr : rising l = 0) : rising p = 0 := by
  have h1 : firstbad l = 0 := by
    unfold rising at hr
    by_cases h : firstbad l = 0
    · exact h
    · rw [if_neg h] at hr
      exact absurd hr h
  have h2 : falls l = false := by
    unfold rising at hr
    rw [if_pos h1] at hr
    cases hf : falls l with
    | false => rfl
    | true => rw [hf] at hr; cases hr
  have p1 : firstbad p = 0 := (firstbad_zero p).2 (fun x hx => (firstbad_zero l).1 h1 x (h.subset hx))
  have p2 : falls p = false := (falls_pair p).2 (List.Pairwise.sublist h ((falls_pair l).1 h2))
  unfold rising
  rw [if_pos p1, p2]
  rfl
theorem rises_l0 (l : List Rec) (a1 e : Int) (hl : l.length ≤ 30) (he : e = 0 → rising l = 0) : ∀ (d i : Nat) (p : List Rec), i + d = l.length → (p ++ l.drop i).Sublist l → Ev (fun k => fasciclelaw07_RecordRises.l0 k a1 e p l (l.length : Int) (i : Int)) true := by
  intro d
  induction d with
  | zero =>
    intro i p hi hp
    rw [List.drop_eq_nil_of_le (by omega), List.append_nil] at hp
    have hpl := hp.length_le
    refine Ev.step (f := fun k => if e = 0 then ((record_Rising.f k p).bind fun t => some (t == 0)) else some true) (fun k => ?_) ?_
    · simp only [fasciclelaw07_RecordRises.l0]
      rw [if_neg (by omega)]
    by_cases h : e = 0
    · simp only [if_pos h]
      refine Ev.bind (prog_rising p (by omega)) ?_
      rw [rising_sub hp (he h)]
      exact Ev.now _
    · simp only [if_neg h]
      exact Ev.now _
  | succ d ih =>
    intro i p hi hp
    have hin : i < l.length := by omega
    have hpl := hp.length_le
    rw [List.length_append] at hpl
    rw [List.drop_eq_getElem_cons hin] at hp
    have hp1 : ((p ++ [l[i]]) ++ l.drop (i + 1)).Sublist l := by
      rw [List.append_assoc]
      exact hp
    have hp2 : (p ++ l.drop (i + 1)).Sublist l := List.Sublist.trans (List.Sublist.append_left (List.sublist_cons_self _ _) p) hp
    by_cases hc : Go.bits .and .u32 (shr .u32 a1 (i : Int)) 1 = 1
    · refine Ev.step (fun k => ?_) (ih (i + 1) (p ++ [l[i]]) (by omega) hp1)
      simp only [fasciclelaw07_RecordRises.l0]
      rw [if_pos (by omega), if_pos (by omega), if_pos (by omega), if_pos hc, if_pos (by omega), w64 (by omega) (by omega), rdT l i hin]
      rfl
    · refine Ev.step (fun k => ?_) (ih (i + 1) p (by omega) hp2)
      simp only [fasciclelaw07_RecordRises.l0]
      rw [if_pos (by omega), if_pos (by omega), if_pos (by omega), if_neg hc, w64 (by omega) (by omega)]
      rfl
theorem few_l0 (l : List Rec) (n m : Int) (hl : l.length ≤ 3000000000000) : ∀ (d i : Nat), i + d = l.length → ∃ b, Ev (fun k => fasciclelaw07_Few.l0 k l n m l (l.length : Int) (i : Int)) b ∧ (b = true → (l.length : Int) ≤ n) := by
  intro d
  induction d with
  | zero =>
    intro i hi
    refine ⟨decide ((l.length : Int) ≤ n), Ev.step (f := fun _ => some (decide ((l.length : Int) ≤ n))) (fun k => ?_) (Ev.now _), fun h => of_decide_eq_true h⟩
    simp only [fasciclelaw07_Few.l0]
    rw [if_neg (by omega)]
  | succ d ih =>
    intro i hi
    have hin : i < l.length := by omega
    obtain ⟨b, hb, hbn⟩ := ih (i + 1) (by omega)
    by_cases h2 : ((rd_T44 l (i : Int)).f2.size : Int) > m
    · refine ⟨false, Ev.step (f := fun _ => some false) (fun k => ?_) (Ev.now _), fun h => by cases h⟩
      simp only [fasciclelaw07_Few.l0]
      rw [if_pos (by omega), if_pos (by omega), if_pos (by omega), if_pos h2]
    by_cases h3 : ((rd_T44 l (i : Int)).f3.size : Int) > m
    · refine ⟨false, Ev.step (f := fun _ => some false) (fun k => ?_) (Ev.now _), fun h => by cases h⟩
      simp only [fasciclelaw07_Few.l0]
      rw [if_pos (by omega), if_pos (by omega), if_pos (by omega), if_neg h2, if_pos h3]
    refine ⟨b, Ev.step (fun k => ?_) hb, hbn⟩
    simp only [fasciclelaw07_Few.l0]
    rw [if_pos (by omega), if_pos (by omega), if_pos (by omega), if_neg h2, if_neg h3, w64 (by omega) (by omega)]
    rfl

theorem RecordRises : fasciclelaw07_RecordRises.Pure := by
  intro l a1 hl0 hl1 hw ha
  refine rounds_of ?_
  unfold fasciclelaw07_RecordRises.f
  refine Ev.congr (f := fun n => (fasciclelaw07_Few.f n l 30 5000).bind fun t => fasciclelaw07_RecordRises.j0 n l a1 (!t)) (fun n => rfl) ?_
  obtain ⟨b, hb, hbn⟩ := few_l0 l 30 5000 (by omega) l.length 0 (by omega)
  refine Ev.bind (g := fun n => fasciclelaw07_Few.f n l 30 5000) hb ?_
  cases b with
  | false => exact Ev.step (f := fun _ => some true) (fun k => rfl) (Ev.now _)
  | true =>
    have h30 := hbn rfl
    refine Ev.step (f := ?ff1) (fun n => ?hs1) ?ht1
    case hs1 =>
      simp only [fasciclelaw07_RecordRises.j0]
      rw [if_neg (by decide)]
      try exact rfl
    refine Ev.bind (prog_rising l (by omega)) ?_
    refine Ev.bind (ref_rising l (by omega)) ?_
    simp only [if_true]
    exact rises_l0 l a1 (rising l) (by omega) (fun h => h) l.length 0 [] (by omega) (by simp)

end Go.Proofs.Ytmlodmpkcbncjaa.Pure
