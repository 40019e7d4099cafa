/- Plain laws of unstuffing, and the document's stuffing. -/
import Derived.Test.YtdpghobknhkikaaLCobs
import Derived.Test.YtdpghobknhkikaaGx11
set_option linter.unusedVariables false
namespace Go.Proofs.Ytdpghobknhkikaa.LCobs
open Go.RowKit Go.Proofs.Ytdpghobknhkikaa.G Go.Proofs.YtdpghobknhkikaaW.PrintWords Go.Proofs.YtdpghobknhkikaaW.PrintLast Go.Proofs.Ytdpghobknhkikaa.PureKit

theorem nums_one255 : (⟨#[255]⟩ : ByteArray) = strOfNums [255] := by decide
theorem nums_one0 : (⟨#[0]⟩ : ByteArray) = strOfNums [0] := by decide
theorem nums_empty : (⟨#[]⟩ : ByteArray) = strOfNums [] := by decide

def tl (b : List Int) (i : Nat) (now : List Int) : List Int := if b.drop i = [] ∧ now = [] ∧ 0 < i ∧ rd b ((i : Int) - 1) ≠ 0 then [] else stf (b.drop i) now

theorem ref_stuff_j1 (b : List Int) (out now : List Int) (i : Nat) (hi : i < 10000000) (hn : now.length < 254) (ho : out.length ≤ 100000000) (r : ByteArray)
    (h : Ev (fun k => fascicleref05_Stuff.l0 k (strOfNums (b ++ [0])) (strOfNums (out ++ ([(now.length : Int) + 1] ++ now))) (strOfNums []) ((i + 1 : Nat) : Int)) r) :
    Ev (fun k => fascicleref05_Stuff.j1 k (strOfNums (b ++ [0])) (strOfNums out) (strOfNums now) (i : Int) false) r := by
  refine Ev.step (fun k => ?_) h
  have hns : (strOfNums now).size = now.length := nums_size now
  simp only [fascicleref05_Stuff.j1]
  rw [if_neg (by decide), Option.bind_some, hns, w64 (by omega) (by omega), Int.emod_eq_of_lt (by omega) (by omega), if_pos (by rw [nums_size, nums_size]; simp; omega), PureKit.nums_append, if_pos (by rw [nums_size]; simp; omega), PureKit.nums_append, nums_empty, List.append_assoc, w64 (by omega) (by omega)]
  rfl

theorem ref_stuff_l0 (b : List Int) (hb : Bytes b) (hbl : b.length ≤ 1000000) : ∀ (d i : Nat) (out now : List Int), i + d = b.length → NoZ now → now.length < 254 → Bytes now → out.length + now.length + 3 * (d + 1) ≤ 10000000 →
    Ev (fun k => fascicleref05_Stuff.l0 k (strOfNums (b ++ [0])) (strOfNums out) (strOfNums now) (i : Int)) (strOfNums (out ++ tl b i now)) := by
  have hball : Bytes (b ++ [0]) := hb.append (Bytes.cons (by omega) Bytes.nil)
  have hsz : ((strOfNums (b ++ [0])).size : Int) = (b.length : Int) + 1 := by rw [nums_size]; simp
  have hw : wrap64 ((b.length : Int) + 1 - 1) = (b.length : Int) := by rw [w64 (by omega) (by omega)]; omega
  intro d
  induction d with
  | zero =>
    intro i out now hi hz hn hbn ho
    have hb0 : bt (strOfNums (b ++ [0])) (i : Int) = 0 := by
      rw [bt_nums _ hball i (by simp; omega)]
      rw [List.getElem_append_right (by omega)]
      simp
    have hdr : b.drop i = [] := List.drop_of_length_le (by omega)
    have hlast : Ev (fun k => fascicleref05_Stuff.l0 k (strOfNums (b ++ [0])) (strOfNums (out ++ ([(now.length : Int) + 1] ++ now))) (strOfNums []) ((i + 1 : Nat) : Int)) (strOfNums (out ++ ([(now.length : Int) + 1] ++ now))) := by
      refine Ev.step (f := fun _ => some _) (fun k => ?_) (Ev.now _)
      simp only [fascicleref05_Stuff.l0]
      rw [hsz, if_neg (by omega)]
    have hj := ref_stuff_j1 b out now i (by omega) hn (by omega) _ hlast
    by_cases hnow : now = []
    · subst hnow
      by_cases hi0 : 0 < i
      · have hprev : bt (strOfNums (b ++ [0])) ((i : Int) - 1) = rd b ((i : Int) - 1) := by
          rw [show (i : Int) - 1 = ((i - 1 : Nat) : Int) by omega, bt_nums _ hball (i - 1) (by simp; omega), rd_at b (i - 1) (by omega), List.getElem_append_left (by omega)]
        refine Ev.step (f := fun k => fascicleref05_Stuff.j1 k (strOfNums (b ++ [0])) (strOfNums out) (strOfNums []) (i : Int) (rd b ((i : Int) - 1) != 0)) (fun k => ?_) ?_
        · simp only [fascicleref05_Stuff.l0]
          rw [hsz, if_pos (by omega), if_pos (by omega), if_pos hb0, hw, if_pos (by omega), if_pos ((nums_nil []).2 rfl), if_pos (by omega), w64 (by omega) (by omega), if_pos (by omega), if_pos (by omega), hprev]
        · by_cases hr : rd b ((i : Int) - 1) = 0
          · rw [hr, bne_self_eq_false]
            refine Ev.eq hj ?_
            unfold tl
            rw [if_neg (by intro h; exact h.2.2.2 hr), hdr]
            rfl
          · rw [show (rd b ((i : Int) - 1) != 0) = true from bne_iff_ne.2 hr]
            refine Ev.step (f := fun _ => some (strOfNums out)) (fun k => ?_) (Ev.eq (Ev.now _) ?_)
            · simp only [fascicleref05_Stuff.j1]; rfl
            · unfold tl
              rw [if_pos ⟨hdr, rfl, hi0, hr⟩, List.append_nil]
      · refine Ev.step (fun k => ?_) (Ev.eq hj ?_)
        · simp only [fascicleref05_Stuff.l0]
          rw [hsz, if_pos (by omega), if_pos (by omega), if_pos hb0, hw, if_pos (by omega), if_pos ((nums_nil []).2 rfl), if_neg (by omega)]
        · unfold tl
          rw [if_neg (by intro h; exact hi0 h.2.2.1), hdr]
          rfl
    · refine Ev.step (fun k => ?_) (Ev.eq hj ?_)
      · simp only [fascicleref05_Stuff.l0]
        rw [hsz, if_pos (by omega), if_pos (by omega), if_pos hb0, hw, if_pos (by omega), if_neg (fun h => hnow ((nums_nil now).1 h))]
      · unfold tl
        rw [if_neg (by intro h; exact hnow h.2.1), hdr]
        rfl
  | succ d ih =>
    intro i out now hi hz hn hbn ho
    have hlt : i < b.length := by omega
    have hb0 : bt (strOfNums (b ++ [0])) (i : Int) = b[i] := by
      rw [bt_nums _ hball i (by simp; omega), List.getElem_append_left hlt]
    have hdr : b.drop i = b[i] :: b.drop (i + 1) := List.drop_eq_getElem_cons hlt
    have hprev : rd b (((i + 1 : Nat) : Int) - 1) = b[i] := by rw [show ((i + 1 : Nat) : Int) - 1 = (i : Int) by omega]; exact rd_at b i hlt
    have hrhs : tl b i now = stf (b.drop i) now := by
      unfold tl
      rw [if_neg (by intro h; rw [hdr] at h; exact List.cons_ne_nil _ _ h.1)]
    rw [hrhs, hdr]
    by_cases hx : b[i] = 0
    · have hnx := ih (i + 1) (out ++ ([(now.length : Int) + 1] ++ now)) [] (by omega) (fun _ h => by cases h) (by simp) Bytes.nil (by simp; omega)
      have hj := ref_stuff_j1 b out now i (by omega) hn (by omega) _ hnx
      refine Ev.step (fun k => ?_) (Ev.eq hj ?_)
      · simp only [fascicleref05_Stuff.l0]
        rw [hsz, if_pos (by omega), if_pos (by omega), hb0, if_pos hx, hw, if_neg (by omega)]
      · unfold tl
        rw [hprev, if_neg (by intro h; exact h.2.2.2 hx)]
        simp [stf, hx]
    · have hex : (strOfNums (b ++ [0])).extract i (i + 1) = strOfNums [b[i]] := by
        rw [nums_extract]
        congr 1
        rw [List.take_append_of_le_length (by omega), List.drop_take, show i + 1 - i = 1 by omega, hdr]
        rfl
      have hnz' : NoZ (now ++ [b[i]]) := fun y hy => by
        rcases List.mem_append.1 hy with hy | hy
        · exact hz y hy
        · rw [List.mem_singleton.1 hy]; exact hx
      by_cases hfull : now.length + 1 = 254
      · have hnx := ih (i + 1) (out ++ [255] ++ (now ++ [b[i]])) [] (by omega) (fun _ h => by cases h) (by simp) Bytes.nil (by simp; omega)
        refine Ev.step (fun k => ?_) (Ev.eq hnx ?_)
        · simp only [fascicleref05_Stuff.l0]
          rw [hsz, if_pos (by omega), if_pos (by omega), hb0, if_neg hx, w64 (by omega) (by omega), if_pos (by omega), if_pos (by omega)]
          rw [show ((i : Int) + 1).toNat = i + 1 by omega, Int.toNat_natCast, hex, PureKit.nums_append, if_pos (by rw [nums_size, nums_size]; simp; omega), if_pos (by rw [nums_size]; simp; omega), if_pos (by rw [nums_size]; omega), nums_one255, PureKit.nums_append, if_pos (by rw [nums_size, nums_size]; simp; omega), PureKit.nums_append, nums_empty]
          rfl
        · congr 1
          unfold tl
          rw [hprev]
          by_cases hd0 : b.drop (i + 1) = []
          · rw [if_pos ⟨hd0, rfl, by omega, hx⟩, hd0]
            simp [stf, hx, hfull]
          · rw [if_neg (by intro h; exact hd0 h.1)]
            simp [stf, hx, hfull, hd0]
      · have hnx := ih (i + 1) out (now ++ [b[i]]) (by omega) hnz' (by simp; omega) (hbn.append (Bytes.cons (hb _ (List.getElem_mem hlt)) Bytes.nil)) (by simp; omega)
        refine Ev.step (fun k => ?_) (Ev.eq hnx ?_)
        · simp only [fascicleref05_Stuff.l0]
          rw [hsz, if_pos (by omega), if_pos (by omega), hb0, if_neg hx, w64 (by omega) (by omega), if_pos (by omega), if_pos (by omega)]
          rw [show ((i : Int) + 1).toNat = i + 1 by omega, Int.toNat_natCast, hex, PureKit.nums_append, if_pos (by rw [nums_size, nums_size]; simp; omega), if_neg (by rw [nums_size]; simp; omega)]
          rfl
        · congr 1
          unfold tl
          rw [if_neg (by intro h; simp at h)]
          simp [stf, hx, hfull]

theorem ref_stuff_f (b : List Int) (hb : Bytes b) (hl : b.length ≤ 1000000) : Ev (fun k => fascicleref05_Stuff.f k (strOfNums b)) (strOfNums (stf b [])) := by
  have h := ref_stuff_l0 b hb hl b.length 0 [] [] (by omega) (fun _ h => by cases h) (by simp) Bytes.nil (by simp; omega)
  unfold fascicleref05_Stuff.f
  rw [nums_one0, PureKit.nums_append, nums_empty]
  refine Ev.congr (fun k => ?_) (Ev.eq h ?_)
  · rw [if_pos (by rw [nums_size]; omega)]; rfl
  · unfold tl
    rw [if_neg (by intro h; omega)]
    rfl

/-! ### back -/
def unl : Nat → List Int → List Int → Option (List Int)
  | 0, out, _ => some out
  | _ + 1, out, [] => some out
  | d + 1, out, n :: rest => if n > (rest.length : Int) + 1 then none else unl d (out ++ rest.take (n.toNat - 1) ++ (if n < 255 ∧ rest.drop (n.toNat - 1) ≠ [] then [0] else [])) (rest.drop (n.toNat - 1))
def fin (b : List Int) : Option (List Int) → List Int × Int
  | none => ([], 2)
  | some o => if stf o [] = b then (o, 0) else ([], 4)

theorem stuffed_bytes (o : List Int) (h : Bytes o) : Bytes (stf o []) := (stf_noz o [] (fun _ h => by cases h) (by simp)).2 Bytes.nil h

theorem unstuff_l0 (b : List Int) (hb : Bytes b) : ∀ (d : Nat) (out rest : List Int), rest.length ≤ d → NoZ rest → Bytes rest → Bytes out → out.length + rest.length ≤ 100000 →
    Ev (fun k => cobs_Unstuff.l0 k b out rest) (fin b (unl d out rest)) := by
  have hend : ∀ (out : List Int) (d : Nat), Bytes out → out.length ≤ 100000 → Ev (fun k => cobs_Unstuff.l0 k b out []) (fin b (unl d out [])) := by
    intro out d hbo ho
    have hu : unl d out [] = some out := by cases d <;> rfl
    rw [hu]
    refine Ev.step (f := fun k => (cobs_Stuff.f k out).bind fun t307 => (bytes_Equal.f t307 b).bind fun t310 => if t310 = true then some (out, 0) else some ([], 4)) (fun k => ?_) (Ev.bind (f := fun k t307 => (bytes_Equal.f t307 b).bind fun t310 => if t310 = true then some (out, 0) else some ([], 4)) (stuff_f out hbo ho) ?_)
    · simp only [cobs_Unstuff.l0]; rw [if_neg (by simp)]
    · simp only [bytes_Equal.f, Option.bind_some]
      rw [nums_beq (stuffed_bytes out hbo) hb]
      unfold fin
      by_cases h : stf out [] = b
      · simp only [h, decide_true, if_true]; exact Ev.now _
      · simp only [h, decide_false, if_false, Bool.false_eq_true]; exact Ev.now _
  intro d
  induction d with
  | zero =>
    intro out rest hd hz hbr hbo ho
    obtain rfl : rest = [] := List.eq_nil_of_length_eq_zero (by omega)
    exact hend out 0 hbo (by omega)
  | succ d ih =>
    intro out rest hd hz hbr hbo ho
    cases rest with
    | nil => exact hend out _ hbo (by simpa using ho)
    | cons n rest =>
      have hn := hbr.head
      have hn0 : n ≠ 0 := hz n List.mem_cons_self
      have hrd : rd (n :: rest) 0 = n := rfl
      have hw : wrap64 n = n := w64 (by omega) (by omega)
      simp only [List.length_cons] at hd ho
      by_cases hbig : n > (rest.length : Int) + 1
      · refine Ev.step (f := fun _ => some ([], 2)) (fun k => ?_) (Ev.eq (Ev.now _) ?_)
        · simp only [cobs_Unstuff.l0]
          rw [if_pos (by simp), if_pos (by simp), hrd, hw, if_pos (by simp only [List.length_cons]; omega)]
        · simp [unl, hbig, fin]
      · have hu : unl (d + 1) out (n :: rest) = unl d (out ++ rest.take (n.toNat - 1) ++ (if n < 255 ∧ rest.drop (n.toNat - 1) ≠ [] then [0] else [])) (rest.drop (n.toNat - 1)) := by simp only [unl]; rw [if_neg hbig]
        rw [hu]
        have htk : ((n :: rest).take n.toNat).drop 1 = rest.take (n.toNat - 1) := by
          rw [show n.toNat = (n.toNat - 1) + 1 by omega, List.take_succ_cons]; rfl
        have hdp : (n :: rest).drop n.toNat = rest.drop (n.toNat - 1) := by
          rw [show n.toNat = (n.toNat - 1) + 1 by omega, List.drop_succ_cons]; rfl
        have hl1 : (rest.take (n.toNat - 1)).length = n.toNat - 1 := by rw [List.length_take]; omega
        have hl2 : (rest.drop (n.toNat - 1)).length = rest.length - (n.toNat - 1) := by rw [List.length_drop]
        have hzr : NoZ (rest.drop (n.toNat - 1)) := fun y hy => hz y (List.mem_cons_of_mem _ (List.mem_of_mem_drop hy))
        have hstep : ∀ k, cobs_Unstuff.l0 (k + 1) b out (n :: rest) = cobs_Unstuff.l0 k b (out ++ rest.take (n.toNat - 1) ++ (if n < 255 ∧ rest.drop (n.toNat - 1) ≠ [] then [0] else [])) (rest.drop (n.toNat - 1)) := by
          intro k
          simp only [cobs_Unstuff.l0]
          rw [if_pos (by simp), if_pos (by simp), hrd, hw, if_neg (by simp only [List.length_cons]; omega), if_pos (by omega), if_pos (by simp only [List.length_cons]; omega), Option.bind_some, htk, if_pos (by omega), Option.bind_some, if_pos (by omega), Option.bind_some, hdp]
          by_cases h1 : n ≤ 254
          · rw [if_pos h1]
            by_cases h2 : rest.drop (n.toNat - 1) = []
            · rw [if_neg (by rw [h2]; simp), if_neg (by intro h; exact h.2 h2), List.append_nil]
            · have : 0 < (rest.drop (n.toNat - 1)).length := List.length_pos_iff.2 h2
              rw [if_pos (by omega), if_pos (by rw [List.length_append]; omega), if_pos ⟨by omega, h2⟩]
          · rw [if_neg h1, if_neg (by intro h; omega), List.append_nil]
        refine Ev.step hstep (ih _ _ (by omega) hzr (hbr.tail.drop _) ?_ ?_)
        · refine (hbo.append (hbr.tail.take _)).append ?_
          split
          · exact Bytes.cons (by omega) Bytes.nil
          · exact Bytes.nil
        · simp only [List.length_append]
          split
          · rw [List.length_singleton]; omega
          · rw [List.length_nil]; omega

theorem ref_unstuff_l1 (b : List Int) (hb : Bytes b) : ∀ (d : Nat) (out rest : List Int), rest.length ≤ d → NoZ rest → Bytes rest → Bytes out → out.length + rest.length ≤ 100000 →
    Ev (fun k => fascicleref05_Unstuff.l1 k (strOfNums b) (strOfNums out) (strOfNums rest)) (strOfNums (fin b (unl d out rest)).1, (fin b (unl d out rest)).2) := by
  have hend : ∀ (out : List Int) (d : Nat), Bytes out → out.length ≤ 100000 → Ev (fun k => fascicleref05_Unstuff.l1 k (strOfNums b) (strOfNums out) (strOfNums [])) (strOfNums (fin b (unl d out [])).1, (fin b (unl d out [])).2) := by
    intro out d hbo ho
    have hu : unl d out [] = some out := by cases d <;> rfl
    rw [hu]
    refine Ev.step (f := fun k => (fascicleref05_Stuff.f k (strOfNums out)).bind fun t314 => if t314.toList = (strOfNums b).toList then some (strOfNums out, 0) else some (strOfNums [], 4)) (fun k => ?_) (Ev.bind (f := fun k t314 => if t314.toList = (strOfNums b).toList then some (strOfNums out, 0) else some (strOfNums [], 4)) (ref_stuff_f out hbo (by omega)) ?_)
    · simp only [fascicleref05_Unstuff.l1]; rw [if_pos ((nums_nil []).2 rfl), nums_empty]
    · unfold fin
      by_cases h : stf out [] = b
      · refine Ev.eq (Ev.congr (f := fun _ => some (strOfNums out, 0)) (fun k => ?_) (Ev.now _)) ?_
        · rw [if_pos (by rw [h])]
        · simp [h]
      · refine Ev.eq (Ev.congr (f := fun _ => some (strOfNums [], 4)) (fun k => ?_) (Ev.now _)) ?_
        · rw [if_neg (fun e => h ((nums_eq (stuffed_bytes out hbo) hb).1 e))]
        · simp [h]
  intro d
  induction d with
  | zero =>
    intro out rest hd hz hbr hbo ho
    obtain rfl : rest = [] := List.eq_nil_of_length_eq_zero (by omega)
    exact hend out 0 hbo (by omega)
  | succ d ih =>
    intro out rest hd hz hbr hbo ho
    cases rest with
    | nil => exact hend out _ hbo (by simpa using ho)
    | cons n rest =>
      have hn := hbr.head
      have hn0 : n ≠ 0 := hz n List.mem_cons_self
      have hrd : bt (strOfNums (n :: rest)) 0 = n := bt_nums (n :: rest) hbr 0 (by simp)
      have hw : wrap64 n = n := w64 (by omega) (by omega)
      have hsz : ((strOfNums (n :: rest)).size : Int) = (rest.length : Int) + 1 := by rw [nums_size]; simp
      simp only [List.length_cons] at hd ho
      have hne : ¬ (strOfNums (n :: rest)).toList = ([] : List UInt8) := fun h => by simpa using (nums_nil (n :: rest)).1 h
      by_cases hbig : n > (rest.length : Int) + 1
      · refine Ev.step (f := fun _ => some (strOfNums [], 2)) (fun k => ?_) (Ev.eq (Ev.now _) ?_)
        · simp only [fascicleref05_Unstuff.l1]
          rw [if_neg hne, hsz, if_pos (by omega), hrd, hw, if_pos (by omega), nums_empty]
        · simp [unl, hbig, fin]
      · have hu : unl (d + 1) out (n :: rest) = unl d (out ++ rest.take (n.toNat - 1) ++ (if n < 255 ∧ rest.drop (n.toNat - 1) ≠ [] then [0] else [])) (rest.drop (n.toNat - 1)) := by simp only [unl]; rw [if_neg hbig]
        rw [hu]
        have htk : (strOfNums (n :: rest)).extract 1 n.toNat = strOfNums (rest.take (n.toNat - 1)) := by
          rw [nums_extract]
          congr 1
          rw [show n.toNat = (n.toNat - 1) + 1 by omega, List.take_succ_cons]; rfl
        have hdp : (strOfNums (n :: rest)).extract n.toNat (strOfNums (n :: rest)).size = strOfNums (rest.drop (n.toNat - 1)) := by
          rw [nums_extract, nums_size, List.take_length]
          congr 1
          rw [show n.toNat = (n.toNat - 1) + 1 by omega, List.drop_succ_cons]; rfl
        have hl1 : (rest.take (n.toNat - 1)).length = n.toNat - 1 := by rw [List.length_take]; omega
        have hl2 : (rest.drop (n.toNat - 1)).length = rest.length - (n.toNat - 1) := by rw [List.length_drop]
        have hzr : NoZ (rest.drop (n.toNat - 1)) := fun y hy => hz y (List.mem_cons_of_mem _ (List.mem_of_mem_drop hy))
        have hstep : ∀ k, fascicleref05_Unstuff.l1 (k + 1) (strOfNums b) (strOfNums out) (strOfNums (n :: rest)) = fascicleref05_Unstuff.l1 k (strOfNums b) (strOfNums (out ++ rest.take (n.toNat - 1) ++ (if n < 255 ∧ rest.drop (n.toNat - 1) ≠ [] then [0] else []))) (strOfNums (rest.drop (n.toNat - 1))) := by
          intro k
          simp only [fascicleref05_Unstuff.l1]
          rw [if_neg hne, hrd, hw, htk, hdp, hsz, if_pos (by omega), if_neg (by omega), if_pos (by omega), if_pos (by omega), if_pos (by rw [nums_size, nums_size]; omega), if_pos (by omega), PureKit.nums_append]
          by_cases h1 : n < 255
          · rw [if_pos h1]
            by_cases h2 : rest.drop (n.toNat - 1) = []
            · rw [if_pos ((nums_nil _).2 h2), if_neg (by intro h; exact h.2 h2), List.append_nil]
            · rw [if_neg (fun h => h2 ((nums_nil _).1 h)), if_pos (by rw [nums_size, List.length_append]; omega), if_pos ⟨h1, h2⟩, nums_one0, PureKit.nums_append]
          · rw [if_neg h1, if_neg (by intro h; omega), List.append_nil]
        refine Ev.step hstep (ih _ _ (by omega) hzr (hbr.tail.drop _) ?_ ?_)
        · refine (hbo.append (hbr.tail.take _)).append ?_
          split
          · exact Bytes.cons (by omega) Bytes.nil
          · exact Bytes.nil
        · simp only [List.length_append]
          split
          · rw [List.length_singleton]; omega
          · rw [List.length_nil]; omega

open Classical in
theorem unstuff_f (b : List Int) (hb : Bytes b) (hl : b.length ≤ 100000) : Ev (fun k => cobs_Unstuff.f k b) (if ¬ NoZ b then ([], 4) else if b = [] then ([], 2) else fin b (unl b.length [] b)) := by
  unfold cobs_Unstuff.f
  simp only [bytes_IndexByte.f, Option.bind_some, show (0 : Int).toNat.toUInt8 = 0 from rfl]
  rcases idx0 b hb with ⟨hz, hi⟩ | ⟨ys, zs, he, hz, hi⟩
  · rw [hi, if_neg (by simpa using hz)]
    by_cases h0 : b = []
    · rw [if_pos h0]
      refine Ev.congr (f := fun _ => some ([], 2)) (fun k => ?_) (Ev.now _)
      rw [if_neg (by omega), if_pos (by rw [h0]; rfl)]
    · rw [if_neg h0]
      have : 0 < b.length := List.length_pos_iff.2 h0
      refine Ev.congr (fun k => ?_) (unstuff_l0 b hb b.length [] b (Nat.le_refl _) hz hb Bytes.nil (by simpa using hl))
      rw [if_neg (by omega), if_neg (by omega)]
  · have hnz : ¬ NoZ b := fun h => h 0 (by rw [he]; simp) rfl
    rw [if_pos hnz]
    refine Ev.congr (f := fun _ => some ([], 4)) (fun k => ?_) (Ev.now _)
    rw [hi, if_pos (by omega)]

end Go.Proofs.Ytdpghobknhkikaa.LCobs
