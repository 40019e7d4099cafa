/- Plain laws of entries, written and read: the document's texts and readings. -/
import Derived.Test.YtnmdckgaljldhaaHTGet
import Derived.Test.YtnmdckgaljldhaaLFGet
import Derived.Test.YtnmdckgaljldhaaLTab
import Derived.Test.YtnmdckgaljldhaaGx3
import Derived.Test.YtnmdckgaljldhaaGx5
set_option linter.unusedVariables false
set_option linter.unusedSimpArgs false
namespace Go.Proofs.Ytnmdckgaljldhaa.Tb
open Go Go.RowKit Go.Proofs.YtnmdckgaljldhaaW.PrintWords Go.Proofs.YtnmdckgaljldhaaW.PrintLast Go.Proofs.YtnmdckgaljldhaaW.PrintMore Go.Proofs.Ytnmdckgaljldhaa.PureKit Go.Proofs.Ytnmdckgaljldhaa.Sep Go.Proofs.Ytnmdckgaljldhaa.G
set_option maxRecDepth 100000

theorem nb_lt8 {x : Int} (h0 : 0 ≤ x) (h1 : x < 18446744073709551616) : lev (nbytes 8 x) = x := by
  rw [nbT_lev 8 x h0, show ((256 ^ 8 : Nat) : Int) = 18446744073709551616 by decide]; omega
theorem nb_lt4 {x : Int} (h0 : 0 ≤ x) (h1 : x ≤ 4294967295) : lev (nbytes 4 x) = x := by
  rw [nbT_lev 4 x h0, show ((256 ^ 4 : Nat) : Int) = 4294967296 by decide]; omega
theorem tbytes_append (a b : List E1) : tbytes (a ++ b) = tbytes a ++ tbytes b := List.flatMap_append ..
theorem tbytes_bytes (l : List E1) : Bytes (tbytes l) := by
  induction l with
  | nil => exact Bytes.nil
  | cons x l ih => unfold tbytes at *; rw [List.flatMap_cons]; exact Bytes.append (Bytes.append (nbT_bytes 8 _) (nbT_bytes 4 _)) ih
theorem tbytes_drop (l : List E1) (i : Nat) (h : i < l.length) : (tbytes l).drop (12 * i) = nbytes 8 (l[i]).f0 ++ (nbytes 4 (l[i]).f1 ++ tbytes (l.drop (i + 1))) := by
  have h1 : tbytes l = tbytes (l.take i) ++ tbytes (l.drop i) := by rw [← tbytes_append, List.take_append_drop]
  have h2 : (tbytes (l.take i)).length = 12 * i := by rw [tbytes_len, List.length_take]; congr 1; omega
  rw [h1, List.drop_left' h2, List.drop_eq_getElem_cons h, ← List.append_assoc]
  rfl
theorem entAt_tbytes (l : List E1) (hok : ∀ x ∈ l, OkE x) (i : Nat) (h : i < l.length) : entAt (tbytes l) (0 + 12 * i) = l[i] := by
  have hx := hok _ (List.getElem_mem h)
  have hd := tbytes_drop l i h
  have h8 := nbT_drop hd
  have hd4 : (tbytes l).drop (12 * i + 8) = nbytes 4 (l[i]).f1 ++ tbytes (l.drop (i + 1)) := by
    rw [← List.drop_drop, hd, List.drop_left' (nbytes_len 8 _)]
  have h4 := nbT_drop hd4
  rw [nbytes_len] at h8 h4
  unfold entAt
  rw [Nat.zero_add, h8, h4, nb_lt8 hx.1 hx.2.1, nb_lt4 hx.2.2.1 hx.2.2.2]
theorem ents_tbytes (l : List E1) (hok : ∀ x ∈ l, OkE x) : entsAt (tbytes l) 0 l.length = l := by
  unfold entsAt
  apply List.ext_getElem
  · rw [List.length_map, List.length_range]
  · intro i h1 h2
    rw [List.getElem_map, List.getElem_range]
    exact entAt_tbytes l hok i h2

theorem num32 {x : Int} (h0 : 0 ≤ x) (h1 : x ≤ 4294967295) : IntKind.u64.wrap x = x := wu64 h0 (by omega)
theorem text11_loop (l : List E1) (hl : l.length ≤ 1000000) (hb : ∀ x ∈ l, OkE x) : ∀ (d i : Nat) (acc : List Int), i + d = l.length → acc.length ≤ 12 * i → Ev (fun k => fascicleref11_Text.l0 k (strOfNums acc) (refsE l) (l.length : Int) (i : Int)) (strOfNums (acc ++ tbytes (l.drop i)))
  | 0, i, acc, h, ha => by
    rw [List.drop_of_length_le (by omega), show tbytes [] = [] from rfl, List.append_nil]
    refine Ev.step (f := fun _ => some (strOfNums acc)) (fun k => ?_) (Ev.now _)
    unfold fascicleref11_Text.l0
    rw [if_neg (by omega)]
  | d + 1, i, acc, h, ha => by
    have hi : i < l.length := by omega
    have hx := hb _ (List.getElem_mem hi)
    have hd := List.drop_eq_getElem_cons hi
    have hR := rdR l i _ (List.getElem?_eq_getElem hi)
    have hrl := refsE_len l
    have ih := text11_loop l hl hb d (i + 1) (acc ++ nbytes 8 (l[i]).f0 ++ nbytes 4 (l[i]).f1) (by omega) (by rw [List.length_append, List.length_append, nbytes_len, nbytes_len]; omega)
    refine Ev.step (f := ?_) (fun k => ?_) ?_
    rotate_left
    · simp only [fascicleref11_Text.l0]
      rw [if_pos (by omega), if_pos (by omega), if_pos (by omega), hR]
    refine Ev.bind (nbT_refn 8 (l[i]).f0 (by decide) hx.1 hx.2.1) ?_
    refine Ev.congr (f := ?_) (fun k => ?_) ?_
    rotate_left
    · rw [if_pos (by rw [nums_size, nums_size, nbytes_len]; omega), PureKit.nums_append, show (toR l[i]).f1 = (l[i]).f1 from rfl, num32 hx.2.2.1 hx.2.2.2]
    refine Ev.bind (nbT_refn 4 (l[i]).f1 (by decide) hx.2.2.1 (by have := hx.2.2.2; omega)) ?_
    refine Ev.congr (fun k => ?_) (Ev.eq ih ?_)
    · rw [if_pos (by rw [nums_size, nums_size, nbytes_len, List.length_append, nbytes_len]; omega), PureKit.nums_append, inc64 (by omega)]
    · rw [hd, show tbytes (l[i] :: l.drop (i + 1)) = nbytes 8 (l[i]).f0 ++ nbytes 4 (l[i]).f1 ++ tbytes (l.drop (i + 1)) from rfl]
      simp only [List.append_assoc]
theorem text11_ev (l : List E1) (hl : l.length ≤ 1000000) (hb : ∀ x ∈ l, OkE x) : Ev (fun k => fascicleref11_Text.f k (refsE l)) (strOfNums (tbytes l)) := by
  unfold fascicleref11_Text.f
  rw [refsE_len]
  exact text11_loop l hl hb l.length 0 [] (by omega) (Nat.le_refl _)

theorem lev_at (s : List Int) (p n : Nat) : lev ((s.drop p).take n) = lev ((s.take (p + n)).drop p) := by rw [List.drop_take, Nat.add_sub_cancel_left]
theorem refsE_snoc (l : List E1) (x : E1) : refsE (l ++ [x]) = refsE l ++ [toR x] := by unfold refsE; rw [List.map_append]; rfl
/-- What the document's reading of so many entries leaves. -/
def ref11g (s : List Int) (a : Int) (m : Nat) : ByteArray × Int × Int × List R1 := if riseE (entsAt s 0 m) = true then (strOfNums (s.drop (12 * m)), a + 12 * m, 0, refsE (entsAt s 0 m)) else (strOfNums (s.drop (12 * m)), a + 12 * m, 8, [])
theorem ref11_loop (s : List Int) (hb : Bytes s) (a : Int) (ha0 : 0 ≤ a) (m : Nat) (hm : 12 * m ≤ s.length) (hs : s.length ≤ 1000000) (ha : a ≤ 1000000) : ∀ (d i : Nat), i + d = m →
    Ev (fun k => fascicleref11_Get.l0 k (refsE (entsAt s 0 i)) (m : Int) (i : Int) (strOfNums (s.drop (12 * i))) (a + 12 * (i : Int)) 0) (ref11g s a m)
  | 0, i, h => by
    have hi : i = m := by omega
    subst hi
    have hr := refrise_ev (entsAt s 0 i) (by rw [entsAt_len]; omega)
    refine Ev.step (f := ?_) (fun k => ?_) ?_
    rotate_left
    · simp only [fascicleref11_Get.l0]
      rw [if_neg (by omega)]
    refine Ev.bind hr ?_
    cases hrr : riseE (entsAt s 0 i) with
    | true =>
      have hg : ref11g s a i = (strOfNums (s.drop (12 * i)), a + 12 * i, 0, refsE (entsAt s 0 i)) := by unfold ref11g; rw [hrr]; rfl
      rw [hg]
      exact Ev.congr (f := fun _ => some (strOfNums (s.drop (12 * i)), a + 12 * i, 0, refsE (entsAt s 0 i))) (fun k => if_pos rfl) (Ev.now _)
    | false =>
      have hg : ref11g s a i = (strOfNums (s.drop (12 * i)), a + 12 * i, 8, []) := by unfold ref11g; rw [hrr]; rfl
      rw [hg]
      refine Ev.congr (f := fun _ => some (strOfNums (s.drop (12 * i)), a + 12 * i, 8, [])) (fun k => ?_) (Ev.now _)
      rw [if_neg (by decide), fail12, Option.bind_some]
  | d + 1, i, h => by
    have hG := getn_some (s.drop (12 * i)) (a + 12 * (i : Int)) 8 (by decide) (by decide) (hb.drop _) (by rw [List.length_drop]; omega) (by omega) (by omega)
    rw [lev_at, List.drop_drop, show a + 12 * (i : Int) + ((8 : Nat) : Int) = a + 12 * (i : Int) + 8 from rfl] at hG
    have hG4 := getn_some (s.drop (12 * i + 8)) (a + 12 * (i : Int) + 8) 4 (by decide) (by decide) (hb.drop _) (by rw [List.length_drop]; omega) (by omega) (by omega)
    rw [lev_at, List.drop_drop, show 12 * i + 8 + 4 = 12 * (i + 1) by omega, show a + 12 * (i : Int) + 8 + ((4 : Nat) : Int) = a + 12 * ((i + 1 : Nat) : Int) by omega] at hG4
    have ih := ref11_loop s hb a ha0 m hm hs ha d (i + 1) (by omega)
    have h4 := lev_lt s (12 * i + 8) 4 hb (by omega)
    rw [show (256 : Int) ^ 4 = 4294967296 by decide] at h4
    have hsc := entsAt_succ s 0 i
    rw [Nat.zero_add] at hsc
    have hL : (refsE (entsAt s 0 i)).length = i := by rw [refsE_len, entsAt_len]
    have hE : toR (entAt s (12 * i)) = ⟨lev ((s.take (12 * i + 8)).drop (12 * i)), lev ((s.take (12 * i + 8 + 4)).drop (12 * i + 8))⟩ := rfl
    rw [hsc, refsE_snoc, hE] at ih
    generalize refsE (entsAt s 0 i) = acc at *
    generalize lev ((s.take (12 * i + 8)).drop (12 * i)) = x at *
    rw [show 12 * i + 8 + 4 = 12 * (i + 1) by omega] at h4 ih
    generalize lev ((s.take (12 * (i + 1))).drop (12 * i + 8)) = y at *
    refine Ev.step (f := ?_) (fun k => ?_) ?_
    rotate_left
    · simp only [fascicleref11_Get.l0]
      rw [if_pos (by omega)]
    refine Ev.bind hG ?_
    dsimp only
    refine Ev.bind hG4 ?_
    dsimp only
    refine Ev.congr (fun k => ?_) ih
    rw [if_pos (by rw [hL]; omega), inc64 (by omega), Int.emod_eq_of_lt h4.1 h4.2]
theorem ref11_none (S : ByteArray) (a n : Int) (hn : n ≤ 0) : Ev (fun k => fascicleref11_Get.f k S a 0 n) (S, a, 0, []) := by
  unfold fascicleref11_Get.f
  refine Ev.step (f := fun _ => some (S, a, 0, [])) (fun k => ?_) (Ev.now _)
  rw [if_pos rfl, decide_eq_true hn]
  simp only [fascicleref11_Get.j0]
  rw [if_pos trivial]
theorem quo12 (s : List Int) (h : s.length ≤ 1000000) : wrap64 (((strOfNums s).size : Int) / 12) = ((s.length / 12 : Nat) : Int) := by rw [nums_size, w64 (by omega) (by omega)]; omega
theorem ref11_short (s : List Int) (a n : Int) (hs : s.length ≤ 1000000) (hn : 0 < n) (hsh : n > ((s.length / 12 : Nat) : Int)) : Ev (fun k => fascicleref11_Get.f k (strOfNums s) a 0 n) (strOfNums s, a, 2, []) := by
  unfold fascicleref11_Get.f
  refine Ev.step (f := fun _ => some (strOfNums s, a, 2, [])) (fun k => ?_) (Ev.now _)
  rw [if_pos rfl, decide_eq_false (by omega)]
  simp only [fascicleref11_Get.j0]
  rw [if_neg (by decide), quo12 s hs, if_pos (by omega), fail12, Option.bind_some]
theorem ref11_some (s : List Int) (hb : Bytes s) (a : Int) (ha0 : 0 ≤ a) (m : Nat) (hm0 : 0 < m) (hm : 12 * m ≤ s.length) (hs : s.length ≤ 1000000) (ha : a ≤ 1000000) : Ev (fun k => fascicleref11_Get.f k (strOfNums s) a 0 (m : Int)) (ref11g s a m) := by
  unfold fascicleref11_Get.f
  have := ref11_loop s hb a ha0 m hm hs ha m 0 (by omega)
  refine Ev.step (fun k => ?_) this
  rw [if_pos rfl, decide_eq_false (by omega)]
  simp only [fascicleref11_Get.j0]
  rw [if_neg (by decide), quo12 s hs, if_neg (by omega)]
  simp [entsAt, refsE]

/-- A reading of n entries: how far, the error, the entries. -/
def tget (b : List Int) (n : Int) : Nat × Int × List E1 :=
  if n ≤ 0 then (0, 0, []) else if n > ((b.length / 12 : Nat) : Int) then (0, 2, []) else
    if riseE (entsAt b 0 n.toNat) = true then (12 * n.toNat, 0, entsAt b 0 n.toNat) else (12 * n.toNat, 8, [])
theorem tget_ev (b : List Int) (hb : Bytes b) (hl : b.length ≤ 1000000) (n : Int) : ∃ S : ByteArray, Ev (fun k => fascicleref11_Get.f k (strOfNums b) 0 0 n) (S, ((tget b n).1 : Int), (tget b n).2.1, refsE (tget b n).2.2) := by
  unfold tget
  by_cases h0 : n ≤ 0
  · rw [if_pos h0]
    exact ⟨_, ref11_none _ 0 n h0⟩
  rw [if_neg h0]
  by_cases h1 : n > ((b.length / 12 : Nat) : Int)
  · rw [if_pos h1]
    exact ⟨_, ref11_short b 0 n hl (by omega) h1⟩
  rw [if_neg h1]
  obtain ⟨m, rfl⟩ : ∃ m : Nat, n = m := ⟨n.toNat, by omega⟩
  have h := ref11_some b hb 0 (Int.le_refl _) m (by omega) (by omega) hl (by decide)
  unfold ref11g at h
  rw [Int.toNat_natCast]
  cases hr : riseE (entsAt b 0 m) with
  | true =>
    rw [hr, if_pos rfl] at h
    rw [if_pos rfl]
    exact ⟨strOfNums (b.drop (12 * m)), Ev.eq h (by simp)⟩
  | false =>
    rw [hr, if_neg (by decide)] at h
    rw [if_neg (by decide)]
    exact ⟨strOfNums (b.drop (12 * m)), Ev.eq h (by simp [refsE])⟩
end Go.Proofs.Ytnmdckgaljldhaa.Tb
