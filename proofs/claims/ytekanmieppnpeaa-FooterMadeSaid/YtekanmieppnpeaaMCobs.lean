/- LCobs LCobsS LCobs2 LCobs3 LCobs4, in one text (merge.py). -/
import Derived.Test.YtekanmieppnpeaaGx3
import Derived.Test.YtekanmieppnpeaaPureKit
import Derived.Lib.IndexLaws
import Derived.OpenShut
import Derived.Test.YtekanmieppnpeaaGx7
import Derived.Test.YtekanmieppnpeaaGx5
import Derived.Test.YtekanmieppnpeaaGx8
/- Plain laws of stuffing: the program's by groups, the document's byte by byte: one and the same row; and back. -/
set_option linter.unusedVariables false
namespace Go.Proofs.Ytekanmieppnpeaa.LCobs
open Go.RowKit Go.Proofs.Ytekanmieppnpeaa.G Go.Proofs.YtekanmieppnpeaaW.PrintWords Go.Proofs.YtekanmieppnpeaaW.PrintLast Go.Proofs.Ytekanmieppnpeaa.PureKit

/-- Stuffed, with what waits in the group. -/
def stf : List Int → List Int → List Int
  | [], now => ((now.length : Int) + 1) :: now
  | x :: xs, now => if x = 0 then ((now.length : Int) + 1) :: (now ++ stf xs []) else
    if now.length + 1 = 254 then 255 :: (now ++ [x] ++ (if xs = [] then [] else stf xs [])) else stf xs (now ++ [x])

def NoZ (l : List Int) : Prop := ∀ y ∈ l, y ≠ 0

theorem stf_ne (l now : List Int) : stf l now ≠ [] := by
  induction l generalizing now with
  | nil => simp [stf]
  | cons x xs ih =>
    unfold stf
    split
    · simp
    · split
      · simp
      · exact ih _

theorem stf_zero : ∀ (ys now zs : List Int), NoZ ys → now.length + ys.length < 254 → stf (ys ++ 0 :: zs) now = (((now.length + ys.length : Nat) : Int) + 1) :: (now ++ ys ++ stf zs [])
  | [], now, zs, _, _ => by simp [stf]
  | y :: ys, now, zs, h, hl => by
    have hy : y ≠ 0 := h y List.mem_cons_self
    rw [List.length_cons] at hl
    simp only [List.cons_append, stf]
    rw [if_neg hy, if_neg (by omega), stf_zero ys (now ++ [y]) zs (fun z hz => h z (List.mem_cons_of_mem _ hz)) (by simp; omega)]
    simp only [List.length_append, List.length_cons, List.length_nil, List.append_assoc, List.cons_append, List.nil_append]
    congr 1
    omega
theorem stf_end : ∀ (ys now : List Int), NoZ ys → now.length + ys.length < 254 → stf ys now = (((now.length + ys.length : Nat) : Int) + 1) :: (now ++ ys)
  | [], now, _, _ => by simp [stf]
  | y :: ys, now, h, hl => by
    have hy : y ≠ 0 := h y List.mem_cons_self
    rw [List.length_cons] at hl
    simp only [stf]
    rw [if_neg hy, if_neg (by omega), stf_end ys (now ++ [y]) (fun z hz => h z (List.mem_cons_of_mem _ hz)) (by simp; omega)]
    simp only [List.length_append, List.length_cons, List.length_nil, List.append_assoc, List.cons_append, List.nil_append]
    congr 1
    omega
theorem stf_full : ∀ (ys now zs : List Int), NoZ ys → ys ≠ [] → now.length + ys.length = 254 → stf (ys ++ zs) now = 255 :: (now ++ ys ++ (if zs = [] then [] else stf zs []))
  | [], now, zs, _, h, _ => absurd rfl h
  | [y], now, zs, h, _, hl => by
    have hy : y ≠ 0 := h y List.mem_cons_self
    simp only [List.cons_append, List.nil_append, stf]
    rw [if_neg hy, if_pos (by simpa using hl)]
  | y :: y' :: ys, now, zs, h, _, hl => by
    have hy : y ≠ 0 := h y List.mem_cons_self
    simp only [List.length_cons] at hl
    rw [List.cons_append]
    simp only [stf]
    rw [if_neg hy, if_neg (by omega), stf_full (y' :: ys) (now ++ [y]) zs (fun z hz => h z (List.mem_cons_of_mem _ hz)) (by simp) (by simp; omega)]
    simp

theorem stf_len : ∀ (l now : List Int), now.length < 254 → (stf l now).length ≤ now.length + l.length + 1 + (now.length + l.length - 1) / 254
  | [], now, h => by simp [stf]
  | x :: xs, now, h => by
    unfold stf
    by_cases hx : x = 0
    · rw [if_pos hx]
      have := stf_len xs [] (by simp)
      simp only [List.length_cons, List.length_append, List.length_nil] at *
      omega
    · rw [if_neg hx]
      by_cases hn : now.length + 1 = 254
      · rw [if_pos hn]
        by_cases he : xs = []
        · subst he; simp <;> omega
        · rw [if_neg he]
          have := stf_len xs [] (by simp)
          have h0 : 0 < xs.length := List.length_pos_iff.2 he
          simp only [List.length_cons, List.length_append, List.length_nil] at *
          omega
      · rw [if_neg hn]
        have := stf_len xs (now ++ [x]) (by simp; omega)
        simp only [List.length_cons, List.length_append, List.length_nil] at *
        omega
theorem stf_len_noz : ∀ (l now : List Int), now.length < 254 → NoZ l → (stf l now).length = now.length + l.length + 1 + (now.length + l.length - 1) / 254
  | [], now, h, _ => by simp [stf]; omega
  | x :: xs, now, h, hz => by
    have hx : x ≠ 0 := hz x List.mem_cons_self
    have hz' : NoZ xs := fun z h => hz z (List.mem_cons_of_mem _ h)
    unfold stf
    rw [if_neg hx]
    by_cases hn : now.length + 1 = 254
    · rw [if_pos hn]
      by_cases he : xs = []
      · subst he; simp <;> omega
      · rw [if_neg he]
        have := stf_len_noz xs [] (by simp) hz'
        have h0 : 0 < xs.length := List.length_pos_iff.2 he
        simp only [List.length_cons, List.length_append, List.length_nil] at *
        omega
    · rw [if_neg hn]
      have := stf_len_noz xs (now ++ [x]) (by simp; omega) hz'
      simp only [List.length_cons, List.length_append, List.length_nil] at *
      omega

theorem stf_noz : ∀ (l now : List Int), NoZ now → now.length < 254 → NoZ (stf l now) ∧ (Bytes now → Bytes l → Bytes (stf l now))
  | [], now, h, hn => by
    refine ⟨fun y hy => ?_, fun hb _ => Bytes.cons (by omega) hb⟩
    rcases List.mem_cons.1 hy with rfl | hy
    · omega
    · exact h y hy
  | x :: xs, now, h, hn => by
    unfold stf
    by_cases hx : x = 0
    · rw [if_pos hx]
      have ih := stf_noz xs [] (fun _ h => by cases h) (by simp)
      refine ⟨fun y hy => ?_, fun hb hl => Bytes.cons (by omega) (hb.append (ih.2 Bytes.nil hl.tail))⟩
      rcases List.mem_cons.1 hy with rfl | hy
      · omega
      · rcases List.mem_append.1 hy with hy | hy
        · exact h y hy
        · exact ih.1 y hy
    · rw [if_neg hx]
      have hnx : NoZ (now ++ [x]) := fun y hy => by
        rcases List.mem_append.1 hy with hy | hy
        · exact h y hy
        · rw [List.mem_singleton.1 hy]; exact hx
      by_cases hn' : now.length + 1 = 254
      · rw [if_pos hn']
        have ih := stf_noz xs [] (fun _ h => by cases h) (by simp)
        refine ⟨fun y hy => ?_, fun hb hl => Bytes.cons (by omega) ((hb.append (Bytes.cons hl.head Bytes.nil)).append ?_)⟩
        · rcases List.mem_cons.1 hy with rfl | hy
          · decide
          · rcases List.mem_append.1 hy with hy | hy
            · exact hnx y hy
            · split at hy
              · cases hy
              · exact ih.1 y hy
        · split
          · exact Bytes.nil
          · exact ih.2 Bytes.nil hl.tail
      · rw [if_neg hn']
        have ih := stf_noz xs (now ++ [x]) hnx (by simp; omega)
        exact ⟨ih.1, fun hb hl => ih.2 (hb.append (Bytes.cons hl.head Bytes.nil)) hl.tail⟩

/-! ### the program's -/
theorem idx0 : ∀ (l : List Int), Bytes l → (NoZ l ∧ Lib.indexByte (Lib.bytesOf l) 0 = -1) ∨ (∃ ys zs, l = ys ++ 0 :: zs ∧ NoZ ys ∧ Lib.indexByte (Lib.bytesOf l) 0 = (ys.length : Int))
  | [], _ => Or.inl ⟨(fun _ h => by cases h), rfl⟩
  | x :: xs, hb => by
    have hx := hb.head
    by_cases h0 : x = 0
    · refine Or.inr ⟨[], xs, by rw [h0]; rfl, (fun _ h => by cases h), ?_⟩
      subst h0
      rfl
    · have hne : ¬ (UInt8.ofNat x.toNat = 0) := fun e => by
        have := congrArg UInt8.toNat e
        simp at this
        omega
      rcases idx0 xs hb.tail with ⟨hz, hi⟩ | ⟨ys, zs, rfl, hz, hi⟩
      · refine Or.inl ⟨fun y hy => ?_, ?_⟩
        · rcases List.mem_cons.1 hy with rfl | hy
          · exact h0
          · exact hz y hy
        · simp only [Lib.bytesOf, List.map_cons, Lib.indexByte] at hi ⊢
          simp [hne, hi]
      · refine Or.inr ⟨x :: ys, zs, rfl, fun y hy => ?_, ?_⟩
        · rcases List.mem_cons.1 hy with rfl | hy
          · exact h0
          · exact hz y hy
        · simp only [Lib.bytesOf, List.map_cons, Lib.indexByte] at hi ⊢
          rw [hi, if_neg (by simpa using hne), if_neg (by simp)]
          simp

theorem stuff_l0 : ∀ (N : Nat) (b out : List Int), b.length ≤ N → Bytes b → N + out.length ≤ 1000000 - b.length → b.length ≤ 400000 → Ev (fun k => cobs_Stuff.l0 k b out) (out ++ stf b []) := by
  intro N
  induction N using Nat.strongRecOn with
  | _ N ih =>
  intro b out hN hb ho hbl
  have hmn : ∃ m : Nat, mn (b.length : Int) 254 = (m : Int) ∧ m = min b.length 254 := ⟨min b.length 254, by unfold mn; split <;> omega, rfl⟩
  obtain ⟨m, hm, hm'⟩ := hmn
  rcases idx0 (b.take m) (hb.take m) with ⟨hz, hi⟩ | ⟨ys, zs, he, hz, hi⟩
  · by_cases hbig : (b.length : Int) > 254
    · have hm2 : m = 254 := by omega
      subst hm2
      have hnx := ih (N - 254) (by omega) (b.drop 254) (out ++ [255] ++ b.take 254) (by rw [List.length_drop]; omega) (hb.drop _) (by simp only [List.length_append, List.length_cons, List.length_nil, List.length_take, List.length_drop]; omega) (by rw [List.length_drop]; omega)
      refine Ev.step (fun k => ?_) (Ev.eq hnx ?_)
      · simp only [cobs_Stuff.l0]
        rw [hm, if_pos (by omega), if_pos (by omega), Int.toNat_natCast]
        simp only [bytes_IndexByte.f, Option.bind_some, show (0 : Int).toNat.toUInt8 = 0 from rfl]
        rw [hi, if_neg (by omega), if_pos hbig, if_pos (by omega), if_pos (by omega), if_pos (by simp only [List.length_append, List.length_cons, List.length_nil, List.length_take]; omega)]
      · have hz' : (b.take 254) ≠ [] := by intro h; have := congrArg List.length h; rw [List.length_take] at this; simp only [List.length_nil] at this; omega
        have hf := stf_full (b.take 254) [] (b.drop 254) hz hz' (by rw [List.length_take]; simp; omega)
        rw [List.take_append_drop, if_neg (by intro h; have := congrArg List.length h; rw [List.length_drop] at this; simp at this; omega)] at hf
        rw [hf]
        simp
    · have hm2 : m = b.length := by omega
      subst hm2
      rw [List.take_length] at hz hi
      refine Ev.step (f := fun _ => some (out ++ [(b.length : Int) + 1] ++ b)) (fun k => ?_) (Ev.eq (Ev.now _) ?_)
      · simp only [cobs_Stuff.l0]
        rw [hm, if_pos (by omega), if_pos (by omega), Int.toNat_natCast, List.take_length]
        simp only [bytes_IndexByte.f, Option.bind_some, show (0 : Int).toNat.toUInt8 = 0 from rfl]
        rw [hi, if_neg (by omega), if_neg hbig, if_pos (by omega), if_pos (by simp only [List.length_append, List.length_cons, List.length_nil]; omega), w64 (by omega) (by omega), Int.emod_eq_of_lt (by omega) (by omega)]
      · by_cases hfull : b.length = 254
        · have hf := stf_full b [] [] hz (by intro h; rw [h] at hfull; simp at hfull) (by simpa using hfull)
          rw [List.append_nil, if_pos rfl] at hf
          rw [hf, hfull]
          simp
        · have hf := stf_end b [] hz (by simp; omega)
          rw [hf]
          simp
  · have hlen : (b.take m).length = ys.length + (zs.length + 1) := by rw [he]; simp
    rw [List.length_take] at hlen
    have hsplit : b = ys ++ 0 :: (zs ++ b.drop m) := by
      calc b = b.take m ++ b.drop m := (List.take_append_drop m b).symm
        _ = _ := by rw [he]; simp
    have hd1 : b.drop (ys.length + 1) = zs ++ b.drop m := by
      generalize zs ++ b.drop m = rest at hsplit ⊢
      rw [hsplit, show ys ++ 0 :: rest = (ys ++ [0]) ++ rest by simp, List.drop_left' (by simp)]
    have ht1 : b.take ys.length = ys := by
      generalize zs ++ b.drop m = rest at hsplit ⊢
      rw [hsplit, List.take_left' rfl]
    have hdl : (b.drop (ys.length + 1)).length = b.length - (ys.length + 1) := by rw [List.length_drop]
    have hnx := ih (N - (ys.length + 1)) (by omega) (b.drop (ys.length + 1)) (out ++ [(ys.length : Int) + 1] ++ ys) (by omega) (hb.drop _) (by simp only [List.length_append, List.length_cons, List.length_nil]; omega) (by omega)
    refine Ev.step (fun k => ?_) (Ev.eq hnx ?_)
    · simp only [cobs_Stuff.l0]
      rw [hm, if_pos (by omega), if_pos (by omega), Int.toNat_natCast]
      simp only [bytes_IndexByte.f, Option.bind_some, show (0 : Int).toNat.toUInt8 = 0 from rfl]
      rw [hi, if_pos (by omega), if_pos (by omega), if_pos (by omega), if_pos (by omega), Int.toNat_natCast, ht1, if_pos (by simp only [List.length_append, List.length_cons, List.length_nil]; omega), w64 (by omega) (by omega), if_pos (by omega), if_pos (by omega), Int.emod_eq_of_lt (by omega) (by omega)]
      rfl
    · rw [hd1]
      have hf := stf_zero ys [] (zs ++ b.drop m) hz (by simp; omega)
      rw [← hsplit] at hf
      rw [hf]
      simp

theorem most_f (n : Int) (h0 : 0 ≤ n) (h1 : n ≤ 1000000000000) : cobs_Most.f n = some (n + 1 + ((n.toNat - 1 : Nat) : Int) / 254) := by
  unfold cobs_Most.f
  by_cases h : n ≤ 0
  · rw [if_pos h]
    obtain rfl : n = 0 := by omega
    rfl
  · have : Int.tdiv (n - 1) 254 = ((n.toNat - 1 : Nat) : Int) / 254 := by rw [Int.tdiv_eq_ediv_of_nonneg (by omega)]; congr 1; omega
    rw [if_neg h, w64 (x := n - 1) (by omega) (by omega), this, w64 (x := n + 1) (by omega) (by omega), w64 (x := _ / 254) (by omega) (by omega), w64 (by omega) (by omega)]

theorem stuff_f (b : List Int) (hb : Bytes b) (hl : b.length ≤ 100000) : Ev (fun k => cobs_Stuff.f k b) (stf b []) := by
  unfold cobs_Stuff.f
  rw [most_f _ (by omega) (by omega)]
  simp only [Option.bind_some]
  refine Ev.congr (fun k => ?_) (stuff_l0 b.length b [] (Nat.le_refl _) hb (by simp; omega) (by omega))
  rw [if_pos (by omega), if_pos (by omega)]

end Go.Proofs.Ytekanmieppnpeaa.LCobs

/- Plain laws: the document's stuffing. -/
set_option linter.unusedVariables false
namespace Go.Proofs.Ytekanmieppnpeaa.LCobs
open Go.RowKit Go.Proofs.Ytekanmieppnpeaa.G Go.Proofs.YtekanmieppnpeaaW.PrintWords Go.Proofs.YtekanmieppnpeaaW.PrintLast Go.Proofs.Ytekanmieppnpeaa.PureKit

theorem nums_one255 : (⟨#[255]⟩ : ByteArray) = strOfNums [255] := by decide
theorem nums_one0 : (⟨#[0]⟩ : ByteArray) = strOfNums [0] := by decide
theorem nums_empty : (⟨#[]⟩ : ByteArray) = strOfNums [] := by decide

def tl (b : List Int) (i : Nat) (now : List Int) : List Int := if b.drop i = [] ∧ now = [] ∧ 0 < i ∧ rd b ((i : Int) - 1) ≠ 0 then [] else stf (b.drop i) now

theorem ref_stuff_j1 (b : List Int) (out now : List Int) (i : Nat) (hi : i < 10000000) (hn : now.length < 254) (ho : out.length ≤ 100000000) (r : ByteArray)
    (h : Ev (fun k => fascicleref05_Stuff.l0 k (strOfNums (b ++ [0])) (strOfNums (out ++ ([(now.length : Int) + 1] ++ now))) (strOfNums []) ((i + 1 : Nat) : Int)) r) :
    Ev (fun k => fascicleref05_Stuff.j1 k (strOfNums (b ++ [0])) (strOfNums out) (strOfNums now) (i : Int) false) r := by
  refine Ev.step (fun k => ?_) h
  have hns : (strOfNums now).size = now.length := nums_size now
  simp only [fascicleref05_Stuff.j1]
  rw [if_neg (by decide), Option.bind_some, hns, w64 (by omega) (by omega), Int.emod_eq_of_lt (by omega) (by omega), if_pos (by rw [nums_size, nums_size]; simp; omega), PureKit.nums_append, if_pos (by rw [nums_size]; simp; omega), PureKit.nums_append, nums_empty, List.append_assoc, w64 (by omega) (by omega)]
  rfl

theorem ref_stuff_l0 (b : List Int) (hb : Bytes b) (hbl : b.length ≤ 1000000) : ∀ (d i : Nat) (out now : List Int), i + d = b.length → NoZ now → now.length < 254 → Bytes now → out.length + now.length + 3 * (d + 1) ≤ 10000000 →
    Ev (fun k => fascicleref05_Stuff.l0 k (strOfNums (b ++ [0])) (strOfNums out) (strOfNums now) (i : Int)) (strOfNums (out ++ tl b i now)) := by
  have hball : Bytes (b ++ [0]) := hb.append (Bytes.cons (by omega) Bytes.nil)
  have hsz : ((strOfNums (b ++ [0])).size : Int) = (b.length : Int) + 1 := by rw [nums_size]; simp
  have hw : wrap64 ((b.length : Int) + 1 - 1) = (b.length : Int) := by rw [w64 (by omega) (by omega)]; omega
  intro d
  induction d with
  | zero =>
    intro i out now hi hz hn hbn ho
    have hb0 : bt (strOfNums (b ++ [0])) (i : Int) = 0 := by
      rw [bt_nums _ hball i (by simp; omega)]
      rw [List.getElem_append_right (by omega)]
      simp
    have hdr : b.drop i = [] := List.drop_of_length_le (by omega)
    have hlast : Ev (fun k => fascicleref05_Stuff.l0 k (strOfNums (b ++ [0])) (strOfNums (out ++ ([(now.length : Int) + 1] ++ now))) (strOfNums []) ((i + 1 : Nat) : Int)) (strOfNums (out ++ ([(now.length : Int) + 1] ++ now))) := by
      refine Ev.step (f := fun _ => some _) (fun k => ?_) (Ev.now _)
      simp only [fascicleref05_Stuff.l0]
      rw [hsz, if_neg (by omega)]
    have hj := ref_stuff_j1 b out now i (by omega) hn (by omega) _ hlast
    by_cases hnow : now = []
    · subst hnow
      by_cases hi0 : 0 < i
      · have hprev : bt (strOfNums (b ++ [0])) ((i : Int) - 1) = rd b ((i : Int) - 1) := by
          rw [show (i : Int) - 1 = ((i - 1 : Nat) : Int) by omega, bt_nums _ hball (i - 1) (by simp; omega), rd_at b (i - 1) (by omega), List.getElem_append_left (by omega)]
        refine Ev.step (f := fun k => fascicleref05_Stuff.j1 k (strOfNums (b ++ [0])) (strOfNums out) (strOfNums []) (i : Int) (rd b ((i : Int) - 1) != 0)) (fun k => ?_) ?_
        · simp only [fascicleref05_Stuff.l0]
          rw [hsz, if_pos (by omega), if_pos (by omega), if_pos hb0, hw, if_pos (by omega), if_pos ((nums_nil []).2 rfl), if_pos (by omega), w64 (by omega) (by omega), if_pos (by omega), if_pos (by omega), hprev]
        · by_cases hr : rd b ((i : Int) - 1) = 0
          · rw [hr, bne_self_eq_false]
            refine Ev.eq hj ?_
            unfold tl
            rw [if_neg (by intro h; exact h.2.2.2 hr), hdr]
            rfl
          · rw [show (rd b ((i : Int) - 1) != 0) = true from bne_iff_ne.2 hr]
            refine Ev.step (f := fun _ => some (strOfNums out)) (fun k => ?_) (Ev.eq (Ev.now _) ?_)
            · simp only [fascicleref05_Stuff.j1]; rfl
            · unfold tl
              rw [if_pos ⟨hdr, rfl, hi0, hr⟩, List.append_nil]
      · refine Ev.step (fun k => ?_) (Ev.eq hj ?_)
        · simp only [fascicleref05_Stuff.l0]
          rw [hsz, if_pos (by omega), if_pos (by omega), if_pos hb0, hw, if_pos (by omega), if_pos ((nums_nil []).2 rfl), if_neg (by omega)]
        · unfold tl
          rw [if_neg (by intro h; exact hi0 h.2.2.1), hdr]
          rfl
    · refine Ev.step (fun k => ?_) (Ev.eq hj ?_)
      · simp only [fascicleref05_Stuff.l0]
        rw [hsz, if_pos (by omega), if_pos (by omega), if_pos hb0, hw, if_pos (by omega), if_neg (fun h => hnow ((nums_nil now).1 h))]
      · unfold tl
        rw [if_neg (by intro h; exact hnow h.2.1), hdr]
        rfl
  | succ d ih =>
    intro i out now hi hz hn hbn ho
    have hlt : i < b.length := by omega
    have hb0 : bt (strOfNums (b ++ [0])) (i : Int) = b[i] := by
      rw [bt_nums _ hball i (by simp; omega), List.getElem_append_left hlt]
    have hdr : b.drop i = b[i] :: b.drop (i + 1) := List.drop_eq_getElem_cons hlt
    have hprev : rd b (((i + 1 : Nat) : Int) - 1) = b[i] := by rw [show ((i + 1 : Nat) : Int) - 1 = (i : Int) by omega]; exact rd_at b i hlt
    have hrhs : tl b i now = stf (b.drop i) now := by
      unfold tl
      rw [if_neg (by intro h; rw [hdr] at h; exact List.cons_ne_nil _ _ h.1)]
    rw [hrhs, hdr]
    by_cases hx : b[i] = 0
    · have hnx := ih (i + 1) (out ++ ([(now.length : Int) + 1] ++ now)) [] (by omega) (fun _ h => by cases h) (by simp) Bytes.nil (by simp; omega)
      have hj := ref_stuff_j1 b out now i (by omega) hn (by omega) _ hnx
      refine Ev.step (fun k => ?_) (Ev.eq hj ?_)
      · simp only [fascicleref05_Stuff.l0]
        rw [hsz, if_pos (by omega), if_pos (by omega), hb0, if_pos hx, hw, if_neg (by omega)]
      · unfold tl
        rw [hprev, if_neg (by intro h; exact h.2.2.2 hx)]
        simp [stf, hx]
    · have hex : (strOfNums (b ++ [0])).extract i (i + 1) = strOfNums [b[i]] := by
        rw [nums_extract]
        congr 1
        rw [List.take_append_of_le_length (by omega), List.drop_take, show i + 1 - i = 1 by omega, hdr]
        rfl
      have hnz' : NoZ (now ++ [b[i]]) := fun y hy => by
        rcases List.mem_append.1 hy with hy | hy
        · exact hz y hy
        · rw [List.mem_singleton.1 hy]; exact hx
      by_cases hfull : now.length + 1 = 254
      · have hnx := ih (i + 1) (out ++ [255] ++ (now ++ [b[i]])) [] (by omega) (fun _ h => by cases h) (by simp) Bytes.nil (by simp; omega)
        refine Ev.step (fun k => ?_) (Ev.eq hnx ?_)
        · simp only [fascicleref05_Stuff.l0]
          rw [hsz, if_pos (by omega), if_pos (by omega), hb0, if_neg hx, w64 (by omega) (by omega), if_pos (by omega), if_pos (by omega)]
          rw [show ((i : Int) + 1).toNat = i + 1 by omega, Int.toNat_natCast, hex, PureKit.nums_append, if_pos (by rw [nums_size, nums_size]; simp; omega), if_pos (by rw [nums_size]; simp; omega), if_pos (by rw [nums_size]; omega), nums_one255, PureKit.nums_append, if_pos (by rw [nums_size, nums_size]; simp; omega), PureKit.nums_append, nums_empty]
          rfl
        · congr 1
          unfold tl
          rw [hprev]
          by_cases hd0 : b.drop (i + 1) = []
          · rw [if_pos ⟨hd0, rfl, by omega, hx⟩, hd0]
            simp [stf, hx, hfull]
          · rw [if_neg (by intro h; exact hd0 h.1)]
            simp [stf, hx, hfull, hd0]
      · have hnx := ih (i + 1) out (now ++ [b[i]]) (by omega) hnz' (by simp; omega) (hbn.append (Bytes.cons (hb _ (List.getElem_mem hlt)) Bytes.nil)) (by simp; omega)
        refine Ev.step (fun k => ?_) (Ev.eq hnx ?_)
        · simp only [fascicleref05_Stuff.l0]
          rw [hsz, if_pos (by omega), if_pos (by omega), hb0, if_neg hx, w64 (by omega) (by omega), if_pos (by omega), if_pos (by omega)]
          rw [show ((i : Int) + 1).toNat = i + 1 by omega, Int.toNat_natCast, hex, PureKit.nums_append, if_pos (by rw [nums_size, nums_size]; simp; omega), if_neg (by rw [nums_size]; simp; omega)]
          rfl
        · congr 1
          unfold tl
          rw [if_neg (by intro h; simp at h)]
          simp [stf, hx, hfull]

theorem ref_stuff_f (b : List Int) (hb : Bytes b) (hl : b.length ≤ 1000000) : Ev (fun k => fascicleref05_Stuff.f k (strOfNums b)) (strOfNums (stf b [])) := by
  have h := ref_stuff_l0 b hb hl b.length 0 [] [] (by omega) (fun _ h => by cases h) (by simp) Bytes.nil (by simp; omega)
  unfold fascicleref05_Stuff.f
  rw [nums_one0, PureKit.nums_append, nums_empty]
  refine Ev.congr (fun k => ?_) (Ev.eq h ?_)
  · rw [if_pos (by rw [nums_size]; omega)]; rfl
  · unfold tl
    rw [if_neg (by intro h; omega)]
    rfl

/-! ### back -/
theorem stuffed_bytes (o : List Int) (h : Bytes o) : Bytes (stf o []) := (stf_noz o [] (fun _ h => by cases h) (by simp)).2 Bytes.nil h

theorem stf_nz (a : List Int) : NoZ (stf a []) := (stf_noz a [] (fun _ h => by cases h) (by simp)).1

theorem stuff_len (a : List Int) : (stf a []).length ≤ a.length + 1 + (a.length - 1) / 254 := by
  have := stf_len a [] (by simp)
  simpa using this

end Go.Proofs.Ytekanmieppnpeaa.LCobs

/- Plain laws of unstuffing. -/
set_option linter.unusedVariables false
namespace Go.Proofs.Ytekanmieppnpeaa.LCobs
open Go.RowKit Go.Proofs.Ytekanmieppnpeaa.G Go.Proofs.YtekanmieppnpeaaW.PrintWords Go.Proofs.YtekanmieppnpeaaW.PrintLast Go.Proofs.Ytekanmieppnpeaa.PureKit

def unl : Nat → List Int → List Int → Option (List Int)
  | 0, out, _ => some out
  | _ + 1, out, [] => some out
  | d + 1, out, n :: rest => if n > (rest.length : Int) + 1 then none else unl d (out ++ rest.take (n.toNat - 1) ++ (if n < 255 ∧ rest.drop (n.toNat - 1) ≠ [] then [0] else [])) (rest.drop (n.toNat - 1))
def fin (b : List Int) : Option (List Int) → List Int × Int
  | none => ([], 2)
  | some o => if stf o [] = b then (o, 0) else ([], 4)

theorem unstuff_l0 (b : List Int) (hb : Bytes b) : ∀ (d : Nat) (out rest : List Int), rest.length ≤ d → NoZ rest → Bytes rest → Bytes out → out.length + rest.length ≤ 100000 →
    Ev (fun k => cobs_Unstuff.l0 k b out rest) (fin b (unl d out rest)) := by
  have hend : ∀ (out : List Int) (d : Nat), Bytes out → out.length ≤ 100000 → Ev (fun k => cobs_Unstuff.l0 k b out []) (fin b (unl d out [])) := by
    intro out d hbo ho
    have hu : unl d out [] = some out := by cases d <;> rfl
    rw [hu]
    refine Ev.step (f := fun k => (cobs_Stuff.f k out).bind fun t307 => (bytes_Equal.f t307 b).bind fun t310 => if t310 = true then some (out, 0) else some ([], 4)) (fun k => ?_) (Ev.bind (f := fun k t307 => (bytes_Equal.f t307 b).bind fun t310 => if t310 = true then some (out, 0) else some ([], 4)) (stuff_f out hbo ho) ?_)
    · simp only [cobs_Unstuff.l0]; rw [if_neg (by simp)]
    · simp only [bytes_Equal.f, Option.bind_some]
      rw [nums_beq (stuffed_bytes out hbo) hb]
      unfold fin
      by_cases h : stf out [] = b
      · simp only [h, decide_true, if_true]; exact Ev.now _
      · simp only [h, decide_false, if_false, Bool.false_eq_true]; exact Ev.now _
  intro d
  induction d with
  | zero =>
    intro out rest hd hz hbr hbo ho
    obtain rfl : rest = [] := List.eq_nil_of_length_eq_zero (by omega)
    exact hend out 0 hbo (by omega)
  | succ d ih =>
    intro out rest hd hz hbr hbo ho
    cases rest with
    | nil => exact hend out _ hbo (by simpa using ho)
    | cons n rest =>
      have hn := hbr.head
      have hn0 : n ≠ 0 := hz n List.mem_cons_self
      have hrd : rd (n :: rest) 0 = n := rfl
      have hw : wrap64 n = n := w64 (by omega) (by omega)
      simp only [List.length_cons] at hd ho
      by_cases hbig : n > (rest.length : Int) + 1
      · refine Ev.step (f := fun _ => some ([], 2)) (fun k => ?_) (Ev.eq (Ev.now _) ?_)
        · simp only [cobs_Unstuff.l0]
          rw [if_pos (by simp), if_pos (by simp), hrd, hw, if_pos (by simp only [List.length_cons]; omega)]
        · simp [unl, hbig, fin]
      · have hu : unl (d + 1) out (n :: rest) = unl d (out ++ rest.take (n.toNat - 1) ++ (if n < 255 ∧ rest.drop (n.toNat - 1) ≠ [] then [0] else [])) (rest.drop (n.toNat - 1)) := by simp only [unl]; rw [if_neg hbig]
        rw [hu]
        have htk : ((n :: rest).take n.toNat).drop 1 = rest.take (n.toNat - 1) := by
          rw [show n.toNat = (n.toNat - 1) + 1 by omega, List.take_succ_cons]; rfl
        have hdp : (n :: rest).drop n.toNat = rest.drop (n.toNat - 1) := by
          rw [show n.toNat = (n.toNat - 1) + 1 by omega, List.drop_succ_cons]; rfl
        have hl1 : (rest.take (n.toNat - 1)).length = n.toNat - 1 := by rw [List.length_take]; omega
        have hl2 : (rest.drop (n.toNat - 1)).length = rest.length - (n.toNat - 1) := by rw [List.length_drop]
        have hzr : NoZ (rest.drop (n.toNat - 1)) := fun y hy => hz y (List.mem_cons_of_mem _ (List.mem_of_mem_drop hy))
        have hstep : ∀ k, cobs_Unstuff.l0 (k + 1) b out (n :: rest) = cobs_Unstuff.l0 k b (out ++ rest.take (n.toNat - 1) ++ (if n < 255 ∧ rest.drop (n.toNat - 1) ≠ [] then [0] else [])) (rest.drop (n.toNat - 1)) := by
          intro k
          simp only [cobs_Unstuff.l0]
          rw [if_pos (by simp), if_pos (by simp), hrd, hw, if_neg (by simp only [List.length_cons]; omega), if_pos (by omega), if_pos (by simp only [List.length_cons]; omega), Option.bind_some, htk, if_pos (by omega), Option.bind_some, if_pos (by omega), Option.bind_some, hdp]
          by_cases h1 : n ≤ 254
          · rw [if_pos h1]
            by_cases h2 : rest.drop (n.toNat - 1) = []
            · rw [if_neg (by rw [h2]; simp), if_neg (by intro h; exact h.2 h2), List.append_nil]
            · have : 0 < (rest.drop (n.toNat - 1)).length := List.length_pos_iff.2 h2
              rw [if_pos (by omega), if_pos (by rw [List.length_append]; omega), if_pos ⟨by omega, h2⟩]
          · rw [if_neg h1, if_neg (by intro h; omega), List.append_nil]
        refine Ev.step hstep (ih _ _ (by omega) hzr (hbr.tail.drop _) ?_ ?_)
        · refine (hbo.append (hbr.tail.take _)).append ?_
          split
          · exact Bytes.cons (by omega) Bytes.nil
          · exact Bytes.nil
        · simp only [List.length_append]
          split
          · rw [List.length_singleton]; omega
          · rw [List.length_nil]; omega

theorem ref_unstuff_l1 (b : List Int) (hb : Bytes b) : ∀ (d : Nat) (out rest : List Int), rest.length ≤ d → NoZ rest → Bytes rest → Bytes out → out.length + rest.length ≤ 100000 →
    Ev (fun k => fascicleref05_Unstuff.l1 k (strOfNums b) (strOfNums out) (strOfNums rest)) (strOfNums (fin b (unl d out rest)).1, (fin b (unl d out rest)).2) := by
  have hend : ∀ (out : List Int) (d : Nat), Bytes out → out.length ≤ 100000 → Ev (fun k => fascicleref05_Unstuff.l1 k (strOfNums b) (strOfNums out) (strOfNums [])) (strOfNums (fin b (unl d out [])).1, (fin b (unl d out [])).2) := by
    intro out d hbo ho
    have hu : unl d out [] = some out := by cases d <;> rfl
    rw [hu]
    refine Ev.step (f := fun k => (fascicleref05_Stuff.f k (strOfNums out)).bind fun t314 => if t314.toList = (strOfNums b).toList then some (strOfNums out, 0) else some (strOfNums [], 4)) (fun k => ?_) (Ev.bind (f := fun k t314 => if t314.toList = (strOfNums b).toList then some (strOfNums out, 0) else some (strOfNums [], 4)) (ref_stuff_f out hbo (by omega)) ?_)
    · simp only [fascicleref05_Unstuff.l1]; rw [if_pos ((nums_nil []).2 rfl), nums_empty]
    · unfold fin
      by_cases h : stf out [] = b
      · refine Ev.eq (Ev.congr (f := fun _ => some (strOfNums out, 0)) (fun k => ?_) (Ev.now _)) ?_
        · rw [if_pos (by rw [h])]
        · simp [h]
      · refine Ev.eq (Ev.congr (f := fun _ => some (strOfNums [], 4)) (fun k => ?_) (Ev.now _)) ?_
        · rw [if_neg (fun e => h ((nums_eq (stuffed_bytes out hbo) hb).1 e))]
        · simp [h]
  intro d
  induction d with
  | zero =>
    intro out rest hd hz hbr hbo ho
    obtain rfl : rest = [] := List.eq_nil_of_length_eq_zero (by omega)
    exact hend out 0 hbo (by omega)
  | succ d ih =>
    intro out rest hd hz hbr hbo ho
    cases rest with
    | nil => exact hend out _ hbo (by simpa using ho)
    | cons n rest =>
      have hn := hbr.head
      have hn0 : n ≠ 0 := hz n List.mem_cons_self
      have hrd : bt (strOfNums (n :: rest)) 0 = n := bt_nums (n :: rest) hbr 0 (by simp)
      have hw : wrap64 n = n := w64 (by omega) (by omega)
      have hsz : ((strOfNums (n :: rest)).size : Int) = (rest.length : Int) + 1 := by rw [nums_size]; simp
      simp only [List.length_cons] at hd ho
      have hne : ¬ (strOfNums (n :: rest)).toList = ([] : List UInt8) := fun h => by simpa using (nums_nil (n :: rest)).1 h
      by_cases hbig : n > (rest.length : Int) + 1
      · refine Ev.step (f := fun _ => some (strOfNums [], 2)) (fun k => ?_) (Ev.eq (Ev.now _) ?_)
        · simp only [fascicleref05_Unstuff.l1]
          rw [if_neg hne, hsz, if_pos (by omega), hrd, hw, if_pos (by omega), nums_empty]
        · simp [unl, hbig, fin]
      · have hu : unl (d + 1) out (n :: rest) = unl d (out ++ rest.take (n.toNat - 1) ++ (if n < 255 ∧ rest.drop (n.toNat - 1) ≠ [] then [0] else [])) (rest.drop (n.toNat - 1)) := by simp only [unl]; rw [if_neg hbig]
        rw [hu]
        have htk : (strOfNums (n :: rest)).extract 1 n.toNat = strOfNums (rest.take (n.toNat - 1)) := by
          rw [nums_extract]
          congr 1
          rw [show n.toNat = (n.toNat - 1) + 1 by omega, List.take_succ_cons]; rfl
        have hdp : (strOfNums (n :: rest)).extract n.toNat (strOfNums (n :: rest)).size = strOfNums (rest.drop (n.toNat - 1)) := by
          rw [nums_extract, nums_size, List.take_length]
          congr 1
          rw [show n.toNat = (n.toNat - 1) + 1 by omega, List.drop_succ_cons]; rfl
        have hl1 : (rest.take (n.toNat - 1)).length = n.toNat - 1 := by rw [List.length_take]; omega
        have hl2 : (rest.drop (n.toNat - 1)).length = rest.length - (n.toNat - 1) := by rw [List.length_drop]
        have hzr : NoZ (rest.drop (n.toNat - 1)) := fun y hy => hz y (List.mem_cons_of_mem _ (List.mem_of_mem_drop hy))
        have hstep : ∀ k, fascicleref05_Unstuff.l1 (k + 1) (strOfNums b) (strOfNums out) (strOfNums (n :: rest)) = fascicleref05_Unstuff.l1 k (strOfNums b) (strOfNums (out ++ rest.take (n.toNat - 1) ++ (if n < 255 ∧ rest.drop (n.toNat - 1) ≠ [] then [0] else []))) (strOfNums (rest.drop (n.toNat - 1))) := by
          intro k
          simp only [fascicleref05_Unstuff.l1]
          rw [if_neg hne, hrd, hw, htk, hdp, hsz, if_pos (by omega), if_neg (by omega), if_pos (by omega), if_pos (by omega), if_pos (by rw [nums_size, nums_size]; omega), if_pos (by omega), PureKit.nums_append]
          by_cases h1 : n < 255
          · rw [if_pos h1]
            by_cases h2 : rest.drop (n.toNat - 1) = []
            · rw [if_pos ((nums_nil _).2 h2), if_neg (by intro h; exact h.2 h2), List.append_nil]
            · rw [if_neg (fun h => h2 ((nums_nil _).1 h)), if_pos (by rw [nums_size, List.length_append]; omega), if_pos ⟨h1, h2⟩, nums_one0, PureKit.nums_append]
          · rw [if_neg h1, if_neg (by intro h; omega), List.append_nil]
        refine Ev.step hstep (ih _ _ (by omega) hzr (hbr.tail.drop _) ?_ ?_)
        · refine (hbo.append (hbr.tail.take _)).append ?_
          split
          · exact Bytes.cons (by omega) Bytes.nil
          · exact Bytes.nil
        · simp only [List.length_append]
          split
          · rw [List.length_singleton]; omega
          · rw [List.length_nil]; omega

open Classical in
theorem unstuff_f (b : List Int) (hb : Bytes b) (hl : b.length ≤ 100000) : Ev (fun k => cobs_Unstuff.f k b) (if ¬ NoZ b then ([], 4) else if b = [] then ([], 2) else fin b (unl b.length [] b)) := by
  unfold cobs_Unstuff.f
  simp only [bytes_IndexByte.f, Option.bind_some, show (0 : Int).toNat.toUInt8 = 0 from rfl]
  rcases idx0 b hb with ⟨hz, hi⟩ | ⟨ys, zs, he, hz, hi⟩
  · rw [hi, if_neg (by simpa using hz)]
    by_cases h0 : b = []
    · rw [if_pos h0]
      refine Ev.congr (f := fun _ => some ([], 2)) (fun k => ?_) (Ev.now _)
      rw [if_neg (by omega), if_pos (by rw [h0]; rfl)]
    · rw [if_neg h0]
      have : 0 < b.length := List.length_pos_iff.2 h0
      refine Ev.congr (fun k => ?_) (unstuff_l0 b hb b.length [] b (Nat.le_refl _) hz hb Bytes.nil (by simpa using hl))
      rw [if_neg (by omega), if_neg (by omega)]
  · have hnz : ¬ NoZ b := fun h => h 0 (by rw [he]; simp) rfl
    rw [if_pos hnz]
    refine Ev.congr (f := fun _ => some ([], 4)) (fun k => ?_) (Ev.now _)
    rw [hi, if_pos (by omega)]

end Go.Proofs.Ytekanmieppnpeaa.LCobs

/- Stuffed and back again. -/
set_option linter.unusedVariables false
namespace Go.Proofs.Ytekanmieppnpeaa.LCobs
open Go.RowKit Go.Proofs.Ytekanmieppnpeaa.G Go.Proofs.YtekanmieppnpeaaW.PrintWords Go.Proofs.YtekanmieppnpeaaW.PrintLast Go.Proofs.Ytekanmieppnpeaa.PureKit

theorem unl_step (d : Nat) (out rest : List Int) (m : Nat) (a c : List Int) (hm : m ≤ 254) (ha : a.length = m) (hr : rest = ((m : Int) + 1) :: (a ++ c)) : unl (d + 1) out rest = unl d (out ++ a ++ (if m < 254 ∧ c ≠ [] then [0] else [])) c := by
  subst hr
  simp only [unl]
  rw [if_neg (by rw [List.length_append]; omega)]
  have h1 : ((m : Int) + 1).toNat - 1 = m := by omega
  rw [h1, List.take_left' ha, List.drop_left' ha]
  by_cases h2 : m < 254 ∧ c ≠ []
  · rw [if_pos h2, if_pos ⟨by omega, h2.2⟩]
  · rw [if_neg h2, if_neg (fun h => h2 ⟨by omega, h.2⟩)]

theorem unl_nil (d : Nat) (out : List Int) : unl d out [] = some out := by cases d <;> rfl

theorem unl_stf : ∀ (l now out : List Int) (d : Nat), now.length < 254 → (stf l now).length ≤ d → unl d out (stf l now) = some (out ++ now ++ l)
  | [], now, out, d, hn, hd => by
    simp only [stf] at hd ⊢
    obtain ⟨d, rfl⟩ : ∃ e, d = e + 1 := ⟨d - 1, by rw [List.length_cons] at hd; omega⟩
    rw [unl_step d out _ now.length now [] (by omega) rfl (by simp), unl_nil]
    simp
  | x :: xs, now, out, d, hn, hd => by
    simp only [stf] at hd ⊢
    by_cases hx : x = 0
    · rw [if_pos hx] at hd ⊢
      obtain ⟨d, rfl⟩ : ∃ e, d = e + 1 := ⟨d - 1, by rw [List.length_cons] at hd; omega⟩
      rw [unl_step d out _ now.length now (stf xs []) (by omega) rfl rfl, if_pos ⟨hn, stf_ne _ _⟩]
      rw [unl_stf xs [] _ d (by simp) (by rw [List.length_cons, List.length_append] at hd; omega)]
      simp [hx]
    · rw [if_neg hx] at hd ⊢
      by_cases hf : now.length + 1 = 254
      · rw [if_pos hf] at hd ⊢
        obtain ⟨d, rfl⟩ : ∃ e, d = e + 1 := ⟨d - 1, by rw [List.length_cons] at hd; omega⟩
        by_cases hxs : xs = []
        · rw [if_pos hxs] at hd ⊢
          rw [unl_step d out _ 254 (now ++ [x]) [] (by omega) (by simp; omega) (by simp), unl_nil]
          simp [hxs]
        · rw [if_neg hxs] at hd ⊢
          rw [unl_step d out _ 254 (now ++ [x]) (stf xs []) (by omega) (by simp; omega) (by simp), if_neg (by omega)]
          rw [unl_stf xs [] _ d (by simp) (by rw [List.length_cons, List.length_append] at hd; omega)]
          simp
      · rw [if_neg hf] at hd ⊢
        rw [unl_stf xs (now ++ [x]) out d (by simp; omega) hd]
        simp

theorem stf_inj {a b : List Int} (h : stf a [] = stf b []) : a = b := by
  have h1 := unl_stf a [] [] (stf a []).length (by simp) (Nat.le_refl _)
  have h2 := unl_stf b [] [] (stf b []).length (by simp) (Nat.le_refl _)
  rw [h, h2] at h1
  simpa using h1.symm

theorem back_f (a : List Int) (hb : Bytes a) (hl : a.length ≤ 90000) : Ev (fun k => cobs_Unstuff.f k (stf a [])) (a, 0) := by
  have hlen := stuff_len a
  have h := unstuff_f (stf a []) (stuffed_bytes a hb) (by omega)
  refine Ev.eq h ?_
  rw [if_neg (by simpa using stf_nz a), if_neg (stf_ne _ _), unl_stf a [] [] _ (by simp) (Nat.le_refl _)]
  simp [fin]

end Go.Proofs.Ytekanmieppnpeaa.LCobs

/- fascicleref05.Unstuff. -/
set_option linter.unusedVariables false
namespace Go.Proofs.Ytekanmieppnpeaa.LCobs
open Go.RowKit Go.Proofs.Ytekanmieppnpeaa.G Go.Proofs.YtekanmieppnpeaaW.PrintWords Go.Proofs.YtekanmieppnpeaaW.PrintLast Go.Proofs.Ytekanmieppnpeaa.PureKit

theorem ref_unstuff_l0 (b : List Int) (hb : Bytes b) (hl : b.length ≤ 100000) (r : ByteArray × Int) : ∀ (d i : Nat), i + d = b.length →
    (NoZ (b.drop i) → Ev (fun k => fascicleref05_Unstuff.l0 k (strOfNums b) (b.length : Int)) r) → (¬ NoZ (b.drop i) → r = (strOfNums [], 4)) → Ev (fun k => fascicleref05_Unstuff.l0 k (strOfNums b) (i : Int)) r := by
  intro d
  induction d with
  | zero =>
    intro i hi h1 _
    have := h1 (by rw [List.drop_of_length_le (by omega)]; exact fun _ h => by cases h)
    rw [show (b.length : Int) = (i : Int) by omega] at this
    exact this
  | succ d ih =>
    intro i hi h1 h2
    have hlt : i < b.length := by omega
    have hdr : b.drop i = b[i] :: b.drop (i + 1) := List.drop_eq_getElem_cons hlt
    have hb0 : bt (strOfNums b) (i : Int) = b[i] := bt_nums b hb i hlt
    by_cases hx : b[i] = 0
    · refine Ev.step (f := fun _ => some (strOfNums [], 4)) (fun k => ?_) (Ev.eq (Ev.now _) ?_)
      · simp only [fascicleref05_Unstuff.l0]
        rw [if_pos (by rw [nums_size]; omega), if_pos (by omega), if_pos (by rw [hb0]; exact hx), nums_empty]
      · exact (h2 (fun h => h b[i] (by rw [hdr]; exact List.mem_cons_self) hx)).symm
    · refine Ev.step (fun k => ?_) (ih (i + 1) (by omega) (fun h => h1 ?_) (fun h => h2 ?_))
      · simp only [fascicleref05_Unstuff.l0]
        rw [if_pos (by rw [nums_size]; omega), if_pos (by omega), if_neg (by rw [hb0]; exact hx), w64 (by omega) (by omega)]
        rfl
      · intro y hy
        rw [hdr] at hy
        rcases List.mem_cons.1 hy with rfl | hy
        · exact hx
        · exact h y hy
      · intro hn
        exact h (fun y hy => hn y (by rw [hdr]; exact List.mem_cons_of_mem _ hy))

open Classical in
theorem ref_unstuff_f (b : List Int) (hb : Bytes b) (hl : b.length ≤ 100000) : Ev (fun k => fascicleref05_Unstuff.f k (strOfNums b))
    (strOfNums (if ¬ NoZ b then ([], 4) else if b = [] then ([], 2) else fin b (unl b.length [] b)).1, (if ¬ NoZ b then ([], 4) else if b = [] then ([], 2) else fin b (unl b.length [] b)).2) := by
  unfold fascicleref05_Unstuff.f
  refine ref_unstuff_l0 b hb hl _ b.length 0 (by omega) (fun hz => ?_) (fun hz => ?_)
  · rw [List.drop_zero] at hz
    rw [if_neg (by simpa using hz)]
    by_cases h0 : b = []
    · subst h0
      refine Ev.step (f := fun _ => some (strOfNums [], 2)) (fun k => ?_) (Ev.now _)
      simp only [fascicleref05_Unstuff.l0]
      rw [if_neg (by rw [nums_size]; omega), if_pos ((nums_nil []).2 rfl), nums_empty]
    · rw [if_neg h0]
      have h := ref_unstuff_l1 b hb b.length [] b (Nat.le_refl _) hz hb Bytes.nil (by simpa using hl)
      refine Ev.step (fun k => ?_) h
      simp only [fascicleref05_Unstuff.l0]
      rw [if_neg (by rw [nums_size]; omega), if_neg (fun h => h0 ((nums_nil b).1 h)), nums_empty]
  · rw [List.drop_zero] at hz
    rw [if_pos hz]

end Go.Proofs.Ytekanmieppnpeaa.LCobs
