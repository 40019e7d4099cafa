/- fasciclelaw05.CobsUnstuffs holds: unstuffed as the document says; for every input, no condition. -/
import Derived.Test.YtdpghobknhkikaaGx12
import Derived.Test.YtdpghobknhkikaaLCobs2
set_option linter.unusedVariables false
namespace Go.Proofs.Ytdpghobknhkikaa.LCobs
open Go.RowKit Go.Proofs.Ytdpghobknhkikaa.G Go.Proofs.YtdpghobknhkikaaW.PrintWords Go.Proofs.YtdpghobknhkikaaW.PrintLast Go.Proofs.Ytdpghobknhkikaa.PureKit

theorem ref_unstuff_l0 (b : List Int) (hb : Bytes b) (hl : b.length ≤ 100000) (r : ByteArray × Int) : ∀ (d i : Nat), i + d = b.length →
    (NoZ (b.drop i) → Ev (fun k => fascicleref05_Unstuff.l0 k (strOfNums b) (b.length : Int)) r) → (¬ NoZ (b.drop i) → r = (strOfNums [], 4)) → Ev (fun k => fascicleref05_Unstuff.l0 k (strOfNums b) (i : Int)) r := by
  intro d
  induction d with
  | zero =>
    intro i hi h1 _
    have := h1 (by rw [List.drop_of_length_le (by omega)]; exact fun _ h => by cases h)
    rw [show (b.length : Int) = (i : Int) by omega] at this
    exact this
  | succ d ih =>
    intro i hi h1 h2
    have hlt : i < b.length := by omega
    have hdr : b.drop i = b[i] :: b.drop (i + 1) := List.drop_eq_getElem_cons hlt
    have hb0 : bt (strOfNums b) (i : Int) = b[i] := bt_nums b hb i hlt
    by_cases hx : b[i] = 0
    · refine Ev.step (f := fun _ => some (strOfNums [], 4)) (fun k => ?_) (Ev.eq (Ev.now _) ?_)
      · simp only [fascicleref05_Unstuff.l0]
        rw [if_pos (by rw [nums_size]; omega), if_pos (by omega), if_pos (by rw [hb0]; exact hx), nums_empty]
      · exact (h2 (fun h => h b[i] (by rw [hdr]; exact List.mem_cons_self) hx)).symm
    · refine Ev.step (fun k => ?_) (ih (i + 1) (by omega) (fun h => h1 ?_) (fun h => h2 ?_))
      · simp only [fascicleref05_Unstuff.l0]
        rw [if_pos (by rw [nums_size]; omega), if_pos (by omega), if_neg (by rw [hb0]; exact hx), w64 (by omega) (by omega)]
        rfl
      · intro y hy
        rw [hdr] at hy
        rcases List.mem_cons.1 hy with rfl | hy
        · exact hx
        · exact h y hy
      · intro hn
        exact h (fun y hy => hn y (by rw [hdr]; exact List.mem_cons_of_mem _ hy))

open Classical in
theorem ref_unstuff_f (b : List Int) (hb : Bytes b) (hl : b.length ≤ 100000) : Ev (fun k => fascicleref05_Unstuff.f k (strOfNums b))
    (strOfNums (if ¬ NoZ b then ([], 4) else if b = [] then ([], 2) else fin b (unl b.length [] b)).1, (if ¬ NoZ b then ([], 4) else if b = [] then ([], 2) else fin b (unl b.length [] b)).2) := by
  unfold fascicleref05_Unstuff.f
  refine ref_unstuff_l0 b hb hl _ b.length 0 (by omega) (fun hz => ?_) (fun hz => ?_)
  · rw [List.drop_zero] at hz
    rw [if_neg (by simpa using hz)]
    by_cases h0 : b = []
    · subst h0
      refine Ev.step (f := fun _ => some (strOfNums [], 2)) (fun k => ?_) (Ev.now _)
      simp only [fascicleref05_Unstuff.l0]
      rw [if_neg (by rw [nums_size]; omega), if_pos ((nums_nil []).2 rfl), nums_empty]
    · rw [if_neg h0]
      have h := ref_unstuff_l1 b hb b.length [] b (Nat.le_refl _) hz hb Bytes.nil (by simpa using hl)
      refine Ev.step (fun k => ?_) h
      simp only [fascicleref05_Unstuff.l0]
      rw [if_neg (by rw [nums_size]; omega), if_neg (fun h => h0 ((nums_nil b).1 h)), nums_empty]
  · rw [List.drop_zero] at hz
    rw [if_pos hz]

theorem fin_ok (b : List Int) (o : List Int) (r : Option (List Int)) (h : fin b r = (o, 0)) : stf o [] = b := by
  unfold fin at h
  split at h
  · simp at h
  · split at h
    · simp at h; subst h; assumption
    · simp at h

theorem fin_bytes (b : List Int) (hb : Bytes b) : ∀ (d : Nat) (out rest : List Int), Bytes rest → Bytes out → ∀ o, unl d out rest = some o → Bytes o ∧ o.length ≤ out.length + rest.length := by
  intro d
  induction d with
  | zero => intro out rest hr ho o h; simp only [unl, Option.some.injEq] at h; subst h; exact ⟨ho, by omega⟩
  | succ d ih =>
    intro out rest hr ho o h
    cases rest with
    | nil => simp only [unl, Option.some.injEq] at h; subst h; exact ⟨ho, by simp⟩
    | cons n rest =>
      simp only [unl] at h
      split at h
      · cases h
      · have hn := hr.head
        have := ih _ _ (hr.tail.drop _) ?_ o h
        · refine ⟨this.1, Nat.le_trans this.2 ?_⟩
          simp only [List.length_append, List.length_take, List.length_drop, List.length_cons]
          split
          · rename_i hc
            have : 0 < (rest.drop (n.toNat - 1)).length := List.length_pos_iff.2 hc.2
            rw [List.length_drop] at this
            rw [List.length_singleton]; omega
          · rw [List.length_nil]; omega
        · refine (ho.append (hr.tail.take _)).append ?_
          split
          · exact Bytes.cons (by omega) Bytes.nil
          · exact Bytes.nil

open Classical in
theorem unstuffs_law (b : List Int) (hb : Bytes b) (n : Int) (h0 : 0 ≤ n) (h1 : n ≤ 65535) : Ev (fun k => fasciclelaw05_CobsUnstuffs.f k b n) true := by
  unfold fasciclelaw05_CobsUnstuffs.f
  refine Ev.bind (f := fun k t => if t = true then fasciclelaw05_CobsUnstuffs.j0 k b n (decide ((b.length : Int) > 400)) else fasciclelaw05_CobsUnstuffs.j0 k b n true) lives_f ?_
  simp only [if_true]
  by_cases hbig : (b.length : Int) > 400
  · rw [decide_eq_true hbig]
    refine Ev.step (f := fun k => (fasciclelaw05_lives.f k).bind fun t => some t) (fun k => ?_) (Ev.bind (f := fun _ t => some t) lives_f (Ev.now _))
    simp only [fasciclelaw05_CobsUnstuffs.j0]; rfl
  · rw [decide_eq_false hbig]
    have hlong := long_f b n h0 h1 (by omega)
    have hml := more_len (n % 1100).toNat
    have hxb : Bytes (b ++ more (n % 1100).toNat) := hb.append (more_bytes _)
    have hxl : (b ++ more (n % 1100).toNat).length ≤ 100000 := by rw [List.length_append, hml]; omega
    generalize b ++ more (n % 1100).toNat = x at *
    have hu := unstuff_f x hxb hxl
    have hr := ref_unstuff_f x hxb hxl
    generalize hres : (if ¬ NoZ x then ([], 4) else if x = [] then ([], 2) else fin x (unl x.length [] x) : List Int × Int) = res at *
    refine Ev.step (f := ?ff1) (fun k => ?hs1) ?ht1
    case hs1 =>
      simp only [fasciclelaw05_CobsUnstuffs.j0]
      rw [if_neg (by decide)]
      try exact rfl
    refine Ev.bind hlong ?_
    refine Ev.bind hu ?_
    refine Ev.bind hr ?_
    simp only [if_true]
    by_cases he : res.2 = 0
    · have hst : stf res.1 [] = x ∧ Bytes res.1 ∧ res.1.length ≤ 100000 := by
        by_cases hz : NoZ x
        · rw [if_neg (by simpa using hz)] at hres
          by_cases hx0 : x = []
          · rw [if_pos hx0] at hres; rw [← hres] at he; simp at he
          · rw [if_neg hx0] at hres
            have hf : fin x (unl x.length [] x) = (res.1, 0) := by rw [hres]; exact Prod.ext rfl he
            refine ⟨fin_ok x _ _ hf, ?_⟩
            cases ho : unl x.length [] x with
            | none => rw [ho] at hf; simp [fin] at hf
            | some o =>
              have hfb := fin_bytes x hxb x.length [] x hxb Bytes.nil o ho
              rw [ho] at hf
              simp only [fin] at hf
              split at hf
              · simp only [Prod.mk.injEq, and_true] at hf
                rw [← hf]
                exact ⟨hfb.1, by have := hfb.2; simp only [List.length_nil] at this; omega⟩
              · simp at hf
        · rw [if_pos hz] at hres; rw [← hres] at he; simp at he
      refine Ev.congr (f := ?ff2) (fun k => ?hs2) ?ht2
      case hs2 =>
        rw [if_pos he]
        try exact rfl
      refine Ev.bind (stuff_f res.1 hst.2.1 hst.2.2) ?_
      refine Ev.eq (Ev.now _) ?_
      rw [hst.1]; simp
    · refine Ev.congr (f := fun _ => some true) (fun k => ?_) (Ev.now _)
      rw [if_neg he]

end Go.Proofs.Ytdpghobknhkikaa.LCobs
namespace Go.Proofs.Ytdpghobknhkikaa.Pure
open Go.RowKit Go.Proofs.Ytdpghobknhkikaa.G Go.Proofs.YtdpghobknhkikaaW.PrintWords Go.Proofs.YtdpghobknhkikaaW.PrintLast

theorem CobsUnstuffs : fasciclelaw05_CobsUnstuffs.Pure := by
  intro l0 a1 _ _ hb h1
  exact (LCobs.unstuffs_law l0 (PureKit.Bytes.of_wf hb) a1 (bounds_u16 h1).1 (bounds_u16 h1).2).rounds

end Go.Proofs.Ytdpghobknhkikaa.Pure
