/- Plain laws of stuffing: the program's by groups, the document's byte by byte: one and the same row; and back. -/
import Derived.Test.YtnmdckgaljldhaaGx3
import Derived.Test.YtnmdckgaljldhaaPureKit
import Derived.Lib.IndexLaws
import Derived.OpenShut
set_option linter.unusedVariables false
namespace Go.Proofs.Ytnmdckgaljldhaa.LCobs
open Go.RowKit Go.Proofs.Ytnmdckgaljldhaa.G Go.Proofs.YtnmdckgaljldhaaW.PrintWords Go.Proofs.YtnmdckgaljldhaaW.PrintLast Go.Proofs.Ytnmdckgaljldhaa.PureKit

/-- Stuffed, with what waits in the group. -/
def stf : List Int → List Int → List Int
  | [], now => ((now.length : Int) + 1) :: now
  | x :: xs, now => if x = 0 then ((now.length : Int) + 1) :: (now ++ stf xs []) else
    if now.length + 1 = 254 then 255 :: (now ++ [x] ++ (if xs = [] then [] else stf xs [])) else stf xs (now ++ [x])

def NoZ (l : List Int) : Prop := ∀ y ∈ l, y ≠ 0

theorem stf_ne (l now : List Int) : stf l now ≠ [] := by
  induction l generalizing now with
  | nil => simp [stf]
  | cons x xs ih =>
    unfold stf
    split
    · simp
    · split
      · simp
      · exact ih _

theorem stf_zero : ∀ (ys now zs : List Int), NoZ ys → now.length + ys.length < 254 → stf (ys ++ 0 :: zs) now = (((now.length + ys.length : Nat) : Int) + 1) :: (now ++ ys ++ stf zs [])
  | [], now, zs, _, _ => by simp [stf]
  | y :: ys, now, zs, h, hl => by
    have hy : y ≠ 0 := h y List.mem_cons_self
    rw [List.length_cons] at hl
    simp only [List.cons_append, stf]
    rw [if_neg hy, if_neg (by omega), stf_zero ys (now ++ [y]) zs (fun z hz => h z (List.mem_cons_of_mem _ hz)) (by simp; omega)]
    simp only [List.length_append, List.length_cons, List.length_nil, List.append_assoc, List.cons_append, List.nil_append]
    congr 1
    omega
theorem stf_end : ∀ (ys now : List Int), NoZ ys → now.length + ys.length < 254 → stf ys now = (((now.length + ys.length : Nat) : Int) + 1) :: (now ++ ys)
  | [], now, _, _ => by simp [stf]
  | y :: ys, now, h, hl => by
    have hy : y ≠ 0 := h y List.mem_cons_self
    rw [List.length_cons] at hl
    simp only [stf]
    rw [if_neg hy, if_neg (by omega), stf_end ys (now ++ [y]) (fun z hz => h z (List.mem_cons_of_mem _ hz)) (by simp; omega)]
    simp only [List.length_append, List.length_cons, List.length_nil, List.append_assoc, List.cons_append, List.nil_append]
    congr 1
    omega
theorem stf_full : ∀ (ys now zs : List Int), NoZ ys → ys ≠ [] → now.length + ys.length = 254 → stf (ys ++ zs) now = 255 :: (now ++ ys ++ (if zs = [] then [] else stf zs []))
  | [], now, zs, _, h, _ => absurd rfl h
  | [y], now, zs, h, _, hl => by
    have hy : y ≠ 0 := h y List.mem_cons_self
    simp only [List.cons_append, List.nil_append, stf]
    rw [if_neg hy, if_pos (by simpa using hl)]
  | y :: y' :: ys, now, zs, h, _, hl => by
    have hy : y ≠ 0 := h y List.mem_cons_self
    simp only [List.length_cons] at hl
    rw [List.cons_append]
    simp only [stf]
    rw [if_neg hy, if_neg (by omega), stf_full (y' :: ys) (now ++ [y]) zs (fun z hz => h z (List.mem_cons_of_mem _ hz)) (by simp) (by simp; omega)]
    simp

theorem stf_len : ∀ (l now : List Int), now.length < 254 → (stf l now).length ≤ now.length + l.length + 1 + (now.length + l.length - 1) / 254
  | [], now, h => by simp [stf]
  | x :: xs, now, h => by
    unfold stf
    by_cases hx : x = 0
    · rw [if_pos hx]
      have := stf_len xs [] (by simp)
      simp only [List.length_cons, List.length_append, List.length_nil] at *
      omega
    · rw [if_neg hx]
      by_cases hn : now.length + 1 = 254
      · rw [if_pos hn]
        by_cases he : xs = []
        · subst he; simp <;> omega
        · rw [if_neg he]
          have := stf_len xs [] (by simp)
          have h0 : 0 < xs.length := List.length_pos_iff.2 he
          simp only [List.length_cons, List.length_append, List.length_nil] at *
          omega
      · rw [if_neg hn]
        have := stf_len xs (now ++ [x]) (by simp; omega)
        simp only [List.length_cons, List.length_append, List.length_nil] at *
        omega
theorem stf_len_noz : ∀ (l now : List Int), now.length < 254 → NoZ l → (stf l now).length = now.length + l.length + 1 + (now.length + l.length - 1) / 254
  | [], now, h, _ => by simp [stf]; omega
  | x :: xs, now, h, hz => by
    have hx : x ≠ 0 := hz x List.mem_cons_self
    have hz' : NoZ xs := fun z h => hz z (List.mem_cons_of_mem _ h)
    unfold stf
    rw [if_neg hx]
    by_cases hn : now.length + 1 = 254
    · rw [if_pos hn]
      by_cases he : xs = []
      · subst he; simp <;> omega
      · rw [if_neg he]
        have := stf_len_noz xs [] (by simp) hz'
        have h0 : 0 < xs.length := List.length_pos_iff.2 he
        simp only [List.length_cons, List.length_append, List.length_nil] at *
        omega
    · rw [if_neg hn]
      have := stf_len_noz xs (now ++ [x]) (by simp; omega) hz'
      simp only [List.length_cons, List.length_append, List.length_nil] at *
      omega

theorem stf_noz : ∀ (l now : List Int), NoZ now → now.length < 254 → NoZ (stf l now) ∧ (Bytes now → Bytes l → Bytes (stf l now))
  | [], now, h, hn => by
    refine ⟨fun y hy => ?_, fun hb _ => Bytes.cons (by omega) hb⟩
    rcases List.mem_cons.1 hy with rfl | hy
    · omega
    · exact h y hy
  | x :: xs, now, h, hn => by
    unfold stf
    by_cases hx : x = 0
    · rw [if_pos hx]
      have ih := stf_noz xs [] (fun _ h => by cases h) (by simp)
      refine ⟨fun y hy => ?_, fun hb hl => Bytes.cons (by omega) (hb.append (ih.2 Bytes.nil hl.tail))⟩
      rcases List.mem_cons.1 hy with rfl | hy
      · omega
      · rcases List.mem_append.1 hy with hy | hy
        · exact h y hy
        · exact ih.1 y hy
    · rw [if_neg hx]
      have hnx : NoZ (now ++ [x]) := fun y hy => by
        rcases List.mem_append.1 hy with hy | hy
        · exact h y hy
        · rw [List.mem_singleton.1 hy]; exact hx
      by_cases hn' : now.length + 1 = 254
      · rw [if_pos hn']
        have ih := stf_noz xs [] (fun _ h => by cases h) (by simp)
        refine ⟨fun y hy => ?_, fun hb hl => Bytes.cons (by omega) ((hb.append (Bytes.cons hl.head Bytes.nil)).append ?_)⟩
        · rcases List.mem_cons.1 hy with rfl | hy
          · decide
          · rcases List.mem_append.1 hy with hy | hy
            · exact hnx y hy
            · split at hy
              · cases hy
              · exact ih.1 y hy
        · split
          · exact Bytes.nil
          · exact ih.2 Bytes.nil hl.tail
      · rw [if_neg hn']
        have ih := stf_noz xs (now ++ [x]) hnx (by simp; omega)
        exact ⟨ih.1, fun hb hl => ih.2 (hb.append (Bytes.cons hl.head Bytes.nil)) hl.tail⟩

/-! ### the program's -/
theorem idx0 : ∀ (l : List Int), Bytes l → (NoZ l ∧ Lib.indexByte (Lib.bytesOf l) 0 = -1) ∨ (∃ ys zs, l = ys ++ 0 :: zs ∧ NoZ ys ∧ Lib.indexByte (Lib.bytesOf l) 0 = (ys.length : Int))
  | [], _ => Or.inl ⟨(fun _ h => by cases h), rfl⟩
  | x :: xs, hb => by
    have hx := hb.head
    by_cases h0 : x = 0
    · refine Or.inr ⟨[], xs, by rw [h0]; rfl, (fun _ h => by cases h), ?_⟩
      subst h0
      rfl
    · have hne : ¬ (UInt8.ofNat x.toNat = 0) := fun e => by
        have := congrArg UInt8.toNat e
        simp at this
        omega
      rcases idx0 xs hb.tail with ⟨hz, hi⟩ | ⟨ys, zs, rfl, hz, hi⟩
      · refine Or.inl ⟨fun y hy => ?_, ?_⟩
        · rcases List.mem_cons.1 hy with rfl | hy
          · exact h0
          · exact hz y hy
        · simp only [Lib.bytesOf, List.map_cons, Lib.indexByte] at hi ⊢
          simp [hne, hi]
      · refine Or.inr ⟨x :: ys, zs, rfl, fun y hy => ?_, ?_⟩
        · rcases List.mem_cons.1 hy with rfl | hy
          · exact h0
          · exact hz y hy
        · simp only [Lib.bytesOf, List.map_cons, Lib.indexByte] at hi ⊢
          rw [hi, if_neg (by simpa using hne), if_neg (by simp)]
          simp

theorem stuff_l0 : ∀ (N : Nat) (b out : List Int), b.length ≤ N → Bytes b → N + out.length ≤ 1000000 - b.length → b.length ≤ 400000 → Ev (fun k => cobs_Stuff.l0 k b out) (out ++ stf b []) := by
  intro N
  induction N using Nat.strongRecOn with
  | _ N ih =>
  intro b out hN hb ho hbl
  have hmn : ∃ m : Nat, mn (b.length : Int) 254 = (m : Int) ∧ m = min b.length 254 := ⟨min b.length 254, by unfold mn; split <;> omega, rfl⟩
  obtain ⟨m, hm, hm'⟩ := hmn
  rcases idx0 (b.take m) (hb.take m) with ⟨hz, hi⟩ | ⟨ys, zs, he, hz, hi⟩
  · by_cases hbig : (b.length : Int) > 254
    · have hm2 : m = 254 := by omega
      subst hm2
      have hnx := ih (N - 254) (by omega) (b.drop 254) (out ++ [255] ++ b.take 254) (by rw [List.length_drop]; omega) (hb.drop _) (by simp only [List.length_append, List.length_cons, List.length_nil, List.length_take, List.length_drop]; omega) (by rw [List.length_drop]; omega)
      refine Ev.step (fun k => ?_) (Ev.eq hnx ?_)
      · simp only [cobs_Stuff.l0]
        rw [hm, if_pos (by omega), if_pos (by omega), Int.toNat_natCast]
        simp only [bytes_IndexByte.f, Option.bind_some, show (0 : Int).toNat.toUInt8 = 0 from rfl]
        rw [hi, if_neg (by omega), if_pos hbig, if_pos (by omega), if_pos (by omega), if_pos (by simp only [List.length_append, List.length_cons, List.length_nil, List.length_take]; omega)]
      · have hz' : (b.take 254) ≠ [] := by intro h; have := congrArg List.length h; rw [List.length_take] at this; simp only [List.length_nil] at this; omega
        have hf := stf_full (b.take 254) [] (b.drop 254) hz hz' (by rw [List.length_take]; simp; omega)
        rw [List.take_append_drop, if_neg (by intro h; have := congrArg List.length h; rw [List.length_drop] at this; simp at this; omega)] at hf
        rw [hf]
        simp
    · have hm2 : m = b.length := by omega
      subst hm2
      rw [List.take_length] at hz hi
      refine Ev.step (f := fun _ => some (out ++ [(b.length : Int) + 1] ++ b)) (fun k => ?_) (Ev.eq (Ev.now _) ?_)
      · simp only [cobs_Stuff.l0]
        rw [hm, if_pos (by omega), if_pos (by omega), Int.toNat_natCast, List.take_length]
        simp only [bytes_IndexByte.f, Option.bind_some, show (0 : Int).toNat.toUInt8 = 0 from rfl]
        rw [hi, if_neg (by omega), if_neg hbig, if_pos (by omega), if_pos (by simp only [List.length_append, List.length_cons, List.length_nil]; omega), w64 (by omega) (by omega), Int.emod_eq_of_lt (by omega) (by omega)]
      · by_cases hfull : b.length = 254
        · have hf := stf_full b [] [] hz (by intro h; rw [h] at hfull; simp at hfull) (by simpa using hfull)
          rw [List.append_nil, if_pos rfl] at hf
          rw [hf, hfull]
          simp
        · have hf := stf_end b [] hz (by simp; omega)
          rw [hf]
          simp
  · have hlen : (b.take m).length = ys.length + (zs.length + 1) := by rw [he]; simp
    rw [List.length_take] at hlen
    have hsplit : b = ys ++ 0 :: (zs ++ b.drop m) := by
      calc b = b.take m ++ b.drop m := (List.take_append_drop m b).symm
        _ = _ := by rw [he]; simp
    have hd1 : b.drop (ys.length + 1) = zs ++ b.drop m := by
      generalize zs ++ b.drop m = rest at hsplit ⊢
      rw [hsplit, show ys ++ 0 :: rest = (ys ++ [0]) ++ rest by simp, List.drop_left' (by simp)]
    have ht1 : b.take ys.length = ys := by
      generalize zs ++ b.drop m = rest at hsplit ⊢
      rw [hsplit, List.take_left' rfl]
    have hdl : (b.drop (ys.length + 1)).length = b.length - (ys.length + 1) := by rw [List.length_drop]
    have hnx := ih (N - (ys.length + 1)) (by omega) (b.drop (ys.length + 1)) (out ++ [(ys.length : Int) + 1] ++ ys) (by omega) (hb.drop _) (by simp only [List.length_append, List.length_cons, List.length_nil]; omega) (by omega)
    refine Ev.step (fun k => ?_) (Ev.eq hnx ?_)
    · simp only [cobs_Stuff.l0]
      rw [hm, if_pos (by omega), if_pos (by omega), Int.toNat_natCast]
      simp only [bytes_IndexByte.f, Option.bind_some, show (0 : Int).toNat.toUInt8 = 0 from rfl]
      rw [hi, if_pos (by omega), if_pos (by omega), if_pos (by omega), if_pos (by omega), Int.toNat_natCast, ht1, if_pos (by simp only [List.length_append, List.length_cons, List.length_nil]; omega), w64 (by omega) (by omega), if_pos (by omega), if_pos (by omega), Int.emod_eq_of_lt (by omega) (by omega)]
      rfl
    · rw [hd1]
      have hf := stf_zero ys [] (zs ++ b.drop m) hz (by simp; omega)
      rw [← hsplit] at hf
      rw [hf]
      simp

theorem most_f (n : Int) (h0 : 0 ≤ n) (h1 : n ≤ 1000000000000) : cobs_Most.f n = some (n + 1 + ((n.toNat - 1 : Nat) : Int) / 254) := by
  unfold cobs_Most.f
  by_cases h : n ≤ 0
  · rw [if_pos h]
    obtain rfl : n = 0 := by omega
    rfl
  · have : Int.tdiv (n - 1) 254 = ((n.toNat - 1 : Nat) : Int) / 254 := by rw [Int.tdiv_eq_ediv_of_nonneg (by omega)]; congr 1; omega
    rw [if_neg h, w64 (x := n - 1) (by omega) (by omega), this, w64 (x := n + 1) (by omega) (by omega), w64 (x := _ / 254) (by omega) (by omega), w64 (by omega) (by omega)]

theorem stuff_f (b : List Int) (hb : Bytes b) (hl : b.length ≤ 100000) : Ev (fun k => cobs_Stuff.f k b) (stf b []) := by
  unfold cobs_Stuff.f
  rw [most_f _ (by omega) (by omega)]
  simp only [Option.bind_some]
  refine Ev.congr (fun k => ?_) (stuff_l0 b.length b [] (Nat.le_refl _) hb (by simp; omega) (by omega))
  rw [if_pos (by omega), if_pos (by omega)]

end Go.Proofs.Ytnmdckgaljldhaa.LCobs
