/- Plain laws: the document's stuffing. -/
import Derived.Test.YtnmdckgaljldhaaLCobs
import Derived.Test.YtnmdckgaljldhaaGx7
set_option linter.unusedVariables false
namespace Go.Proofs.Ytnmdckgaljldhaa.LCobs
open Go.RowKit Go.Proofs.Ytnmdckgaljldhaa.G Go.Proofs.YtnmdckgaljldhaaW.PrintWords Go.Proofs.YtnmdckgaljldhaaW.PrintLast Go.Proofs.Ytnmdckgaljldhaa.PureKit

theorem nums_one255 : (⟨#[255]⟩ : ByteArray) = strOfNums [255] := by decide
theorem nums_one0 : (⟨#[0]⟩ : ByteArray) = strOfNums [0] := by decide
theorem nums_empty : (⟨#[]⟩ : ByteArray) = strOfNums [] := by decide

def tl (b : List Int) (i : Nat) (now : List Int) : List Int := if b.drop i = [] ∧ now = [] ∧ 0 < i ∧ rd b ((i : Int) - 1) ≠ 0 then [] else stf (b.drop i) now

theorem ref_stuff_j1 (b : List Int) (out now : List Int) (i : Nat) (hi : i < 10000000) (hn : now.length < 254) (ho : out.length ≤ 100000000) (r : ByteArray)
    (h : Ev (fun k => fascicleref05_Stuff.l0 k (strOfNums (b ++ [0])) (strOfNums (out ++ ([(now.length : Int) + 1] ++ now))) (strOfNums []) ((i + 1 : Nat) : Int)) r) :
    Ev (fun k => fascicleref05_Stuff.j1 k (strOfNums (b ++ [0])) (strOfNums out) (strOfNums now) (i : Int) false) r := by
  refine Ev.step (fun k => ?_) h
  have hns : (strOfNums now).size = now.length := nums_size now
  simp only [fascicleref05_Stuff.j1]
  rw [if_neg (by decide), Option.bind_some, hns, w64 (by omega) (by omega), Int.emod_eq_of_lt (by omega) (by omega), if_pos (by rw [nums_size, nums_size]; simp; omega), PureKit.nums_append, if_pos (by rw [nums_size]; simp; omega), PureKit.nums_append, nums_empty, List.append_assoc, w64 (by omega) (by omega)]
  rfl

theorem ref_stuff_l0 (b : List Int) (hb : Bytes b) (hbl : b.length ≤ 1000000) : ∀ (d i : Nat) (out now : List Int), i + d = b.length → NoZ now → now.length < 254 → Bytes now → out.length + now.length + 3 * (d + 1) ≤ 10000000 →
    Ev (fun k => fascicleref05_Stuff.l0 k (strOfNums (b ++ [0])) (strOfNums out) (strOfNums now) (i : Int)) (strOfNums (out ++ tl b i now)) := by
  have hball : Bytes (b ++ [0]) := hb.append (Bytes.cons (by omega) Bytes.nil)
  have hsz : ((strOfNums (b ++ [0])).size : Int) = (b.length : Int) + 1 := by rw [nums_size]; simp
  have hw : wrap64 ((b.length : Int) + 1 - 1) = (b.length : Int) := by rw [w64 (by omega) (by omega)]; omega
  intro d
  induction d with
  | zero =>
    intro i out now hi hz hn hbn ho
    have hb0 : bt (strOfNums (b ++ [0])) (i : Int) = 0 := by
      rw [bt_nums _ hball i (by simp; omega)]
      rw [List.getElem_append_right (by omega)]
      simp
    have hdr : b.drop i = [] := List.drop_of_length_le (by omega)
    have hlast : Ev (fun k => fascicleref05_Stuff.l0 k (strOfNums (b ++ [0])) (strOfNums (out ++ ([(now.length : Int) + 1] ++ now))) (strOfNums []) ((i + 1 : Nat) : Int)) (strOfNums (out ++ ([(now.length : Int) + 1] ++ now))) := by
      refine Ev.step (f := fun _ => some _) (fun k => ?_) (Ev.now _)
      simp only [fascicleref05_Stuff.l0]
      rw [hsz, if_neg (by omega)]
    have hj := ref_stuff_j1 b out now i (by omega) hn (by omega) _ hlast
    by_cases hnow : now = []
    · subst hnow
      by_cases hi0 : 0 < i
      · have hprev : bt (strOfNums (b ++ [0])) ((i : Int) - 1) = rd b ((i : Int) - 1) := by
          rw [show (i : Int) - 1 = ((i - 1 : Nat) : Int) by omega, bt_nums _ hball (i - 1) (by simp; omega), rd_at b (i - 1) (by omega), List.getElem_append_left (by omega)]
        refine Ev.step (f := fun k => fascicleref05_Stuff.j1 k (strOfNums (b ++ [0])) (strOfNums out) (strOfNums []) (i : Int) (rd b ((i : Int) - 1) != 0)) (fun k => ?_) ?_
        · simp only [fascicleref05_Stuff.l0]
          rw [hsz, if_pos (by omega), if_pos (by omega), if_pos hb0, hw, if_pos (by omega), if_pos ((nums_nil []).2 rfl), if_pos (by omega), w64 (by omega) (by omega), if_pos (by omega), if_pos (by omega), hprev]
        · by_cases hr : rd b ((i : Int) - 1) = 0
          · rw [hr, bne_self_eq_false]
            refine Ev.eq hj ?_
            unfold tl
            rw [if_neg (by intro h; exact h.2.2.2 hr), hdr]
            rfl
          · rw [show (rd b ((i : Int) - 1) != 0) = true from bne_iff_ne.2 hr]
            refine Ev.step (f := fun _ => some (strOfNums out)) (fun k => ?_) (Ev.eq (Ev.now _) ?_)
            · simp only [fascicleref05_Stuff.j1]; rfl
            · unfold tl
              rw [if_pos ⟨hdr, rfl, hi0, hr⟩, List.append_nil]
      · refine Ev.step (fun k => ?_) (Ev.eq hj ?_)
        · simp only [fascicleref05_Stuff.l0]
          rw [hsz, if_pos (by omega), if_pos (by omega), if_pos hb0, hw, if_pos (by omega), if_pos ((nums_nil []).2 rfl), if_neg (by omega)]
        · unfold tl
          rw [if_neg (by intro h; exact hi0 h.2.2.1), hdr]
          rfl
    · refine Ev.step (fun k => ?_) (Ev.eq hj ?_)
      · simp only [fascicleref05_Stuff.l0]
        rw [hsz, if_pos (by omega), if_pos (by omega), if_pos hb0, hw, if_pos (by omega), if_neg (fun h => hnow ((nums_nil now).1 h))]
      · unfold tl
        rw [if_neg (by intro h; exact hnow h.2.1), hdr]
        rfl
  | succ d ih =>
    intro i out now hi hz hn hbn ho
    have hlt : i < b.length := by omega
    have hb0 : bt (strOfNums (b ++ [0])) (i : Int) = b[i] := by
      rw [bt_nums _ hball i (by simp; omega), List.getElem_append_left hlt]
    have hdr : b.drop i = b[i] :: b.drop (i + 1) := List.drop_eq_getElem_cons hlt
    have hprev : rd b (((i + 1 : Nat) : Int) - 1) = b[i] := by rw [show ((i + 1 : Nat) : Int) - 1 = (i : Int) by omega]; exact rd_at b i hlt
    have hrhs : tl b i now = stf (b.drop i) now := by
      unfold tl
      rw [if_neg (by intro h; rw [hdr] at h; exact List.cons_ne_nil _ _ h.1)]
    rw [hrhs, hdr]
    by_cases hx : b[i] = 0
    · have hnx := ih (i + 1) (out ++ ([(now.length : Int) + 1] ++ now)) [] (by omega) (fun _ h => by cases h) (by simp) Bytes.nil (by simp; omega)
      have hj := ref_stuff_j1 b out now i (by omega) hn (by omega) _ hnx
      refine Ev.step (fun k => ?_) (Ev.eq hj ?_)
      · simp only [fascicleref05_Stuff.l0]
        rw [hsz, if_pos (by omega), if_pos (by omega), hb0, if_pos hx, hw, if_neg (by omega)]
      · unfold tl
        rw [hprev, if_neg (by intro h; exact h.2.2.2 hx)]
        simp [stf, hx]
    · have hex : (strOfNums (b ++ [0])).extract i (i + 1) = strOfNums [b[i]] := by
        rw [nums_extract]
        congr 1
        rw [List.take_append_of_le_length (by omega), List.drop_take, show i + 1 - i = 1 by omega, hdr]
        rfl
      have hnz' : NoZ (now ++ [b[i]]) := fun y hy => by
        rcases List.mem_append.1 hy with hy | hy
        · exact hz y hy
        · rw [List.mem_singleton.1 hy]; exact hx
      by_cases hfull : now.length + 1 = 254
      · have hnx := ih (i + 1) (out ++ [255] ++ (now ++ [b[i]])) [] (by omega) (fun _ h => by cases h) (by simp) Bytes.nil (by simp; omega)
        refine Ev.step (fun k => ?_) (Ev.eq hnx ?_)
        · simp only [fascicleref05_Stuff.l0]
          rw [hsz, if_pos (by omega), if_pos (by omega), hb0, if_neg hx, w64 (by omega) (by omega), if_pos (by omega), if_pos (by omega)]
          rw [show ((i : Int) + 1).toNat = i + 1 by omega, Int.toNat_natCast, hex, PureKit.nums_append, if_pos (by rw [nums_size, nums_size]; simp; omega), if_pos (by rw [nums_size]; simp; omega), if_pos (by rw [nums_size]; omega), nums_one255, PureKit.nums_append, if_pos (by rw [nums_size, nums_size]; simp; omega), PureKit.nums_append, nums_empty]
          rfl
        · congr 1
          unfold tl
          rw [hprev]
          by_cases hd0 : b.drop (i + 1) = []
          · rw [if_pos ⟨hd0, rfl, by omega, hx⟩, hd0]
            simp [stf, hx, hfull]
          · rw [if_neg (by intro h; exact hd0 h.1)]
            simp [stf, hx, hfull, hd0]
      · have hnx := ih (i + 1) out (now ++ [b[i]]) (by omega) hnz' (by simp; omega) (hbn.append (Bytes.cons (hb _ (List.getElem_mem hlt)) Bytes.nil)) (by simp; omega)
        refine Ev.step (fun k => ?_) (Ev.eq hnx ?_)
        · simp only [fascicleref05_Stuff.l0]
          rw [hsz, if_pos (by omega), if_pos (by omega), hb0, if_neg hx, w64 (by omega) (by omega), if_pos (by omega), if_pos (by omega)]
          rw [show ((i : Int) + 1).toNat = i + 1 by omega, Int.toNat_natCast, hex, PureKit.nums_append, if_pos (by rw [nums_size, nums_size]; simp; omega), if_neg (by rw [nums_size]; simp; omega)]
          rfl
        · congr 1
          unfold tl
          rw [if_neg (by intro h; simp at h)]
          simp [stf, hx, hfull]

theorem ref_stuff_f (b : List Int) (hb : Bytes b) (hl : b.length ≤ 1000000) : Ev (fun k => fascicleref05_Stuff.f k (strOfNums b)) (strOfNums (stf b [])) := by
  have h := ref_stuff_l0 b hb hl b.length 0 [] [] (by omega) (fun _ h => by cases h) (by simp) Bytes.nil (by simp; omega)
  unfold fascicleref05_Stuff.f
  rw [nums_one0, PureKit.nums_append, nums_empty]
  refine Ev.congr (fun k => ?_) (Ev.eq h ?_)
  · rw [if_pos (by rw [nums_size]; omega)]; rfl
  · unfold tl
    rw [if_neg (by intro h; omega)]
    rfl

/-! ### back -/
theorem stuffed_bytes (o : List Int) (h : Bytes o) : Bytes (stf o []) := (stf_noz o [] (fun _ h => by cases h) (by simp)).2 Bytes.nil h

theorem stf_nz (a : List Int) : NoZ (stf a []) := (stf_noz a [] (fun _ h => by cases h) (by simp)).1

theorem stuff_len (a : List Int) : (stf a []).length ≤ a.length + 1 + (a.length - 1) / 254 := by
  have := stf_len a [] (by simp)
  simpa using this

end Go.Proofs.Ytnmdckgaljldhaa.LCobs
