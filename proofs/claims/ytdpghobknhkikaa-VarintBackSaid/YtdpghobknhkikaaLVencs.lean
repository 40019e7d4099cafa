/- Rows of numbers, written. -/
import Derived.Test.YtdpghobknhkikaaHVarint
set_option linter.unusedVariables false
set_option linter.unusedSimpArgs false
namespace Go.Proofs.Ytdpghobknhkikaa.G
open Go Go.RowKit Go.Proofs.YtdpghobknhkikaaW.PrintWords Go.Proofs.YtdpghobknhkikaaW.PrintLast Go.Proofs.YtdpghobknhkikaaW.PrintMore Go.Proofs.Ytdpghobknhkikaa.PureKit Go.Proofs.Ytdpghobknhkikaa.Sep

def vencs (l : List Int) : List Int := l.flatMap fun x => venc x.toNat
def U64s (l : List Int) : Prop := ∀ x ∈ l, 0 ≤ x ∧ x < 18446744073709551616
theorem rot3 (a b c : HP) : [a, b, c].Perm [c, a, b] := List.perm_append_comm (l₁ := [a, b]) (l₂ := [c])
theorem int_beq (a b : Nat) : ((a : Int) == (b : Int)) = decide (a = b) := by
  by_cases h : a = b
  · simp [h]
  · rw [decide_eq_false h]; exact beq_eq_false_iff_ne.2 (by omega)
theorem vencs_len : ∀ (l : List Int), l.length ≤ 20 → (∀ x ∈ l, 0 ≤ x ∧ x < 18446744073709551616) → (vencs l).length ≤ 10 * l.length
  | [], _, _ => by simp [vencs]
  | x :: xs, hl, h => by
    have h1 := venc_len 10 x.toNat (Nat.lt_of_lt_of_le (show x.toNat < 18446744073709551616 by have := h x List.mem_cons_self; omega) (by decide)) (by decide)
    have h2 := vencs_len xs (by rw [List.length_cons] at hl; omega) (fun y hy => h y (List.mem_cons_of_mem _ hy))
    simp only [vencs, List.flatMap_cons, List.length_append, List.length_cons] at h2 ⊢
    omega
theorem venc_split : ∀ (N x y : Nat) (a b : List Int), x ≤ N → venc x ++ a = venc y ++ b → x = y ∧ a = b := by
  intro N
  induction N using Nat.strongRecOn with
  | _ N ih =>
  intro x y a b hx h
  by_cases h1 : x < 128
  · by_cases h2 : y < 128
    · rw [venc_small h1, venc_small h2] at h
      simp only [List.cons_append, List.nil_append, List.cons.injEq] at h
      exact ⟨by omega, h.2⟩
    · rw [venc_small h1, venc_big h2] at h
      simp only [List.cons_append, List.cons.injEq] at h
      omega
  · by_cases h2 : y < 128
    · rw [venc_big h1, venc_small h2] at h
      simp only [List.cons_append, List.cons.injEq] at h
      omega
    · rw [venc_big h1, venc_big h2] at h
      simp only [List.cons_append, List.cons.injEq] at h
      have := ih (x / 128) (by omega) (x / 128) (y / 128) a b (Nat.le_refl _) h.2
      exact ⟨by omega, this.2⟩
theorem venc_ne (x : Nat) : venc x ≠ [] := by
  by_cases h : x < 128
  · rw [venc_small h]; simp
  · rw [venc_big h]; simp
theorem vencs_inj : ∀ (l m : List Int), U64s l → U64s m → vencs l = vencs m → l = m
  | [], [], _, _, _ => rfl
  | [], y :: m, _, _, h => by
    simp only [vencs, List.flatMap_nil, List.flatMap_cons] at h
    exact absurd (List.append_eq_nil_iff.1 h.symm).1 (venc_ne _)
  | x :: l, [], _, _, h => by
    simp only [vencs, List.flatMap_nil, List.flatMap_cons] at h
    exact absurd (List.append_eq_nil_iff.1 h).1 (venc_ne _)
  | x :: l, y :: m, hl, hm, h => by
    simp only [vencs, List.flatMap_cons] at h
    obtain ⟨h1, h2⟩ := venc_split x.toNat x.toNat y.toNat _ _ (Nat.le_refl _) h
    have hx := hl x List.mem_cons_self
    have hy := hm y List.mem_cons_self
    rw [show x = y by omega, vencs_inj l m (fun z hz => hl z (List.mem_cons_of_mem _ hz)) (fun z hz => hm z (List.mem_cons_of_mem _ hz)) h2]
theorem venc_bytes : ∀ (N x : Nat), x ≤ N → Bytes (venc x) := by
  intro N
  induction N using Nat.strongRecOn with
  | _ N ih =>
  intro x hx
  by_cases h : x < 128
  · rw [venc_small h]; exact Bytes.cons (by omega) Bytes.nil
  · rw [venc_big h]; exact Bytes.cons (by omega) (ih (x / 128) (by omega) (x / 128) (Nat.le_refl _))
theorem vencs_bytes : ∀ (l : List Int), Bytes (vencs l)
  | [] => Bytes.nil
  | x :: l => by
    simp only [vencs, List.flatMap_cons]
    exact (venc_bytes _ _ (Nat.le_refl _)).append (vencs_bytes l)
theorem vencs_eq (l m : List Int) (hl : U64s l) (hm : U64s m) : ((strOfNums (vencs l)).toList == (strOfNums (vencs m)).toList) = decide (l = m) := by
  rw [nums_beq (vencs_bytes l) (vencs_bytes m)]
  by_cases h : l = m
  · rw [h]; simp
  · rw [decide_eq_false h, decide_eq_false (fun e => h (vencs_inj l m hl hm e))]

end Go.Proofs.Ytdpghobknhkikaa.G
