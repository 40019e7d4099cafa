/- LNb LElder LElderGet, in one text (merge.py). -/
import Derived.Test.YtmlodmpkcbncjaaMElderAll
import Derived.Test.YtmlodmpkcbncjaaGx5
import Derived.Test.YtmlodmpkcbncjaaMElder
import Derived.Test.YtmlodmpkcbncjaaMRef
import Derived.Test.YtmlodmpkcbncjaaGx6
import Derived.Test.YtmlodmpkcbncjaaGx7
/- A number's bytes, the document's (fascicleref01.Num). -/
set_option linter.unusedVariables false
set_option linter.unusedSimpArgs false
namespace Go.Proofs.Ytmlodmpkcbncjaa.G
open Go Go.RowKit Go.Proofs.YtmlodmpkcbncjaaW.PrintWords Go.Proofs.YtmlodmpkcbncjaaW.PrintLast Go.Proofs.YtmlodmpkcbncjaaW.PrintMore Go.Proofs.Ytmlodmpkcbncjaa.PureKit Go.Proofs.Ytmlodmpkcbncjaa.Sep

/-- The document's bytes of a number. -/
theorem refn_l0 (n : Nat) (hn : n ≤ 8) : ∀ (d i : Nat) (x : Int) (a : List Int), i + d = n → 0 ≤ x → x < 18446744073709551616 → a.length + d ≤ 100 → Ev (fun k => fascicleref01_Num.l0 k x (strOfNums a) (n : Int) (i : Int)) (strOfNums (a ++ nbytes d x)) := by
  intro d
  induction d with
  | zero =>
    intro i x a hi h0 h1 ha
    refine Ev.step (f := fun _ => some (strOfNums (a ++ nbytes 0 x))) (fun k => ?_) (Ev.now _)
    simp only [fascicleref01_Num.l0]
    rw [if_neg (by omega), nbytes, List.append_nil]
  | succ d ih =>
    intro i x a hi h0 h1 ha
    refine Ev.step (fun k => ?_) (Ev.eq (ih (i + 1) (x / 256) (a ++ [x % 256]) (by omega) (by omega) (by omega) (by simp; omega)) (by simp [nbytes]))
    simp only [fascicleref01_Num.l0]
    rw [if_pos (by omega), Int.tmod_eq_emod_of_nonneg h0, Int.tdiv_eq_ediv_of_nonneg h0]
    simp only [Option.bind_some]
    rw [if_pos (by rw [nums_size, nums_size]; simp only [List.length_cons, List.length_nil]; omega), PureKit.nums_append, wu64 (by omega) (by omega), w64 (by omega) (by omega), show x % 256 % 256 = x % 256 by omega]
    rfl
theorem refn (n : Nat) (x : Int) (hn : n ≤ 8) (h0 : 0 ≤ x) (h1 : x < 18446744073709551616) : Ev (fun k => fascicleref01_Num.f k x (n : Int)) (strOfNums (nbytes n x)) := by
  have := refn_l0 n hn n 0 x [] (by omega) h0 h1 (by simp; omega)
  exact this

end Go.Proofs.Ytmlodmpkcbncjaa.G

/- elder: the document's pairs. -/
set_option linter.unusedVariables false
set_option linter.unusedSimpArgs false
namespace Go.Proofs.Ytmlodmpkcbncjaa.G
open Go Go.RowKit Go.Proofs.YtmlodmpkcbncjaaW.PrintWords Go.Proofs.YtmlodmpkcbncjaaW.PrintLast Go.Proofs.YtmlodmpkcbncjaaW.PrintMore Go.Proofs.Ytmlodmpkcbncjaa.PureKit Go.Proofs.Ytmlodmpkcbncjaa.Sep Go.Proofs.Ytmlodmpkcbncjaa.Rol

theorem reftext (K V : ByteArray) (hk : K.size ≤ 100000000) (hv : V.size ≤ 100000000) : Ev (fun k => fascicleref10_Text.f k K V) (strOfNums (ebytes K V)) := by
  unfold fascicleref10_Text.f
  rw [wu64 (x := (K.size : Int)) (by omega) (by omega), wu64 (x := (V.size : Int)) (by omega) (by omega)]
  refine Ev.bind (refn 4 (K.size : Int) (by decide) (by omega) (by omega)) ?_
  refine Ev.bind (refn 4 (V.size : Int) (by decide) (by omega) (by omega)) ?_
  have e1 : strOfNums (nbytes 4 K.size) ++ strOfNums (nbytes 4 V.size) ++ K ++ V = strOfNums (ehead K V) := by
    unfold ehead
    rw [← PureKit.nums_append, ← PureKit.nums_append, ← PureKit.nums_append, nums_sby, nums_sby]
  have s1 : (strOfNums (nbytes 4 K.size)).size = 4 := by rw [nums_size, nbytes_len]
  have s2 : (strOfNums (nbytes 4 V.size)).size = 4 := by rw [nums_size, nbytes_len]
  have s3 : (strOfNums (ehead K V)).size = 8 + K.size + V.size := by rw [nums_size, ehead_len]
  have hS : fascicleref03_Sum.f 0 (strOfNums (ehead K V)) = some ((tsum 0 (ehead K V) : Nat) : Int) := by
    unfold fascicleref03_Sum.f
    rw [if_pos ⟨by decide, by decide, by rw [s3]; omega⟩, sby_nums _ (ehead_bytes K V)]
    rfl
  have hts := tsum_lt 0 (ehead K V)
  refine Ev.congr (f := fun k => (fascicleref01_Num.f k ((tsum 0 (ehead K V) : Nat) : Int) 4).bind fun t121 => if (strOfNums (ehead K V)).size + t121.size ≤ 9223372036854775807 then some (strOfNums (ehead K V) ++ t121) else none) (fun k => ?_) ?_
  · rw [if_pos (by rw [s1, s2]; omega), if_pos (by rw [ByteArray.size_append, s1, s2]; omega), if_pos (by rw [ByteArray.size_append, ByteArray.size_append, s1, s2]; omega), e1, hS, Option.bind_some, wu64 (by omega) (by omega)]
  · refine Ev.bind (refn 4 _ (by decide) (by omega) (by omega)) ?_
    refine Ev.congr (f := fun _ => some (strOfNums (ebytes K V))) (fun k => ?_) (Ev.now _)
    rw [if_pos (by rw [s3, nums_size, nbytes_len]; omega), PureKit.nums_append]
    rfl

end Go.Proofs.Ytmlodmpkcbncjaa.G

/- elder: the document's Get. -/
set_option linter.unusedVariables false
set_option linter.unusedSimpArgs false
namespace Go.Proofs.Ytmlodmpkcbncjaa.G
open Go Go.RowKit Go.Proofs.YtmlodmpkcbncjaaW.PrintWords Go.Proofs.YtmlodmpkcbncjaaW.PrintLast Go.Proofs.YtmlodmpkcbncjaaW.PrintMore Go.Proofs.Ytmlodmpkcbncjaa.PureKit Go.Proofs.Ytmlodmpkcbncjaa.Sep Go.Proofs.Ytmlodmpkcbncjaa.Rol

theorem value_ev (l : List Int) (hb : Bytes l) (hl : l.length ≤ 8) : Ev (fun k => fascicleref01_Value.f k (strOfNums l)) ((leb l : Nat) : Int) := by
  have h := value_l0 l hb hl l.length (Nat.le_refl _)
  rw [List.drop_length] at h
  refine Ev.congr (fun k => ?_) h
  unfold fascicleref01_Value.f
  rw [nums_size, w64 (by omega) (by omega)]
  rfl
set_option maxHeartbeats 1000000 in
theorem refget (l : List Int) (hb : Bytes l) (hl : l.length ≤ 10000000) : Ev (fun k => fascicleref10_Get.f k (strOfNums l)) (eout (eone l 0)) := by
  have hsz0 : (strOfNums l).size = l.length := nums_size l
  unfold fascicleref10_Get.f eone
  simp only [hsz0, Nat.zero_add]
  have hszA := Aside0.mk hsz0
  clear hsz0
  by_cases c8 : l.length < 8
  · rw [if_pos c8]
    refine Ev.congr (f := fun _ => some (⟨#[]⟩, ⟨#[]⟩, 0, 2)) (fun k => ?_) (Ev.now _)
    rw [if_pos (by omega)]
  rw [if_neg c8]
  have hsz := hszA
  have hE4 : (strOfNums l).extract 0 4 = strOfNums (cut l 0 4) := nums_extract l 0 4
  have hE8 : (strOfNums l).extract 4 8 = strOfNums (cut l 4 4) := nums_extract l 4 8
  rw [lev_leb _ (cut_bytes hb 0 4), lev_leb _ (cut_bytes hb 4 4), Int.toNat_natCast, Int.toNat_natCast]
  have hv1 := value_ev (cut l 0 4) (cut_bytes hb 0 4) (by rw [cut_len _ _ _ (by omega)]; omega)
  have hv2 := value_ev (cut l 4 4) (cut_bytes hb 4 4) (by rw [cut_len _ _ _ (by omega)]; omega)
  have hk4 : leb (cut l 0 4) < 4294967296 := leb_lt4 _ (cut_bytes hb 0 4) 4 (by rw [cut_len _ _ _ (by omega)]; omega)
  have hv4 : leb (cut l 4 4) < 4294967296 := leb_lt4 _ (cut_bytes hb 4 4) 4 (by rw [cut_len _ _ _ (by omega)]; omega)
  obtain ⟨k, hk⟩ : ∃ k, leb (cut l 0 4) = k := ⟨_, rfl⟩
  obtain ⟨v, hv⟩ : ∃ v, leb (cut l 4 4) = v := ⟨_, rfl⟩
  rw [hk] at hv1 hk4 ⊢
  rw [hv] at hv2 hv4 ⊢
  refine Ev.congr (f := fun q => (fascicleref01_Value.f q (strOfNums (cut l 0 4))).bind fun t1 => (fascicleref01_Value.f q (strOfNums (cut l 4 4))).bind fun t2 => if t1 = 0 then some (⟨#[]⟩, ⟨#[]⟩, 0, 4) else if t1 > 4096 then fascicleref10_Get.j0 q (strOfNums l) t1 t2 true else fascicleref10_Get.j0 q (strOfNums l) t1 t2 (decide (t2 > 1048576))) (fun q => ?_) ?_
  · rw [if_neg (by omega), if_pos (by omega), if_pos (by omega), hE4]
    congr 1
    funext t1
    rw [if_pos (by omega), if_pos (by omega), hE8]
  refine Ev.bind hv1 ?_
  refine Ev.bind hv2 ?_
  unfold emid elen
  by_cases k0 : k = 0
  · rw [if_pos k0]
    refine Ev.congr (f := fun _ => some (⟨#[]⟩, ⟨#[]⟩, 0, 4)) (fun q => ?_) (Ev.now _)
    rw [if_pos (by omega)]
  rw [if_neg k0]
  have h3 : ∀ b : Bool, b = true → Ev (fun q => fascicleref10_Get.j0 q (strOfNums l) k v b) (⟨#[]⟩, ⟨#[]⟩, 0, 3) := fun b hb => by
    subst hb
    refine Ev.step (f := fun _ => some (⟨#[]⟩, ⟨#[]⟩, 0, 3)) (fun q => ?_) (Ev.now _)
    simp only [fascicleref10_Get.j0, if_true]
  by_cases k1 : k > 4096
  · rw [if_pos k1]
    refine Ev.congr (fun q => ?_) (h3 true rfl)
    rw [if_neg (by omega), if_pos (by omega)]
  rw [if_neg k1]
  refine Ev.congr (f := fun q => fascicleref10_Get.j0 q (strOfNums l) k v (decide ((v : Int) > 1048576))) (fun q => by rw [if_neg (by omega), if_neg (by omega)]) ?_
  by_cases k2 : v > 1048576
  · rw [if_pos k2]
    exact h3 _ (decide_eq_true (by omega))
  rw [if_neg k2, decide_eq_false (by omega), if_neg (by decide)]
  obtain ⟨w1, w2, w3, w4, w5⟩ := wraps5 k v (by omega) (by omega)
  have w1 := Aside0.mk w1
  have w2 := Aside0.mk w2
  have w3 := Aside0.mk w3
  have w4 := Aside0.mk w4
  have w5 := Aside0.mk w5
  by_cases c12 : l.length < 8 + (k + v + 4)
  · rw [if_pos c12]
    refine Ev.step (f := fun _ => some (⟨#[]⟩, ⟨#[]⟩, 0, 2)) (fun q => ?_) (Ev.now _)
    simp only [fascicleref10_Get.j0, w1.out, w2.out, w3.out, w4.out, w5.out, hsz.out]
    rw [if_neg (by decide), if_pos (by omega)]
  rw [if_neg c12]
  obtain ⟨n1, n2, n3⟩ := toNats k v
  have c13 : 8 + k + v + 4 ≤ l.length := Nat.le_of_not_lt (fun h => c12 (by rw [show 8 + (k + v + 4) = 8 + k + v + 4 from by rw [← Nat.add_assoc, ← Nat.add_assoc]]; exact h))
  clear c12 hk4 hv4 hv1 hv2 h3 hE4 hE8 c8
  have x1 : (strOfNums l).extract 8 (8 + k) = strOfNums (cut l 8 k) := nums_extract l 8 (8 + k)
  have x2 : (strOfNums l).extract (8 + k) (8 + k + v) = strOfNums (cut l (8 + k) v) := nums_extract l (8 + k) (8 + k + v)
  have x3 : (strOfNums l).extract 0 (8 + k + v + 4) = strOfNums (l.take (8 + k + v + 4)) := by rw [nums_extract, List.drop_zero]
  have hht := head_take l hb k v hk hv (by omega)
  obtain ⟨KB, hKB⟩ : ∃ KB, strOfNums (cut l 8 k) = KB := ⟨_, rfl⟩
  obtain ⟨VB, hVB⟩ : ∃ VB, strOfNums (cut l (8 + k) v) = VB := ⟨_, rfl⟩
  have hKs : KB.size = k := by rw [← hKB, nums_size, cut_len l 8 k (by omega)]
  have hVs : VB.size = v := by rw [← hVB, nums_size, cut_len l (8 + k) v (by omega)]
  rw [hKB] at x1
  rw [hVB] at x2
  rw [hKB, hVB] at hht
  have htx := reftext KB VB (by omega) (by omega)
  have hiff := end_iff l hb (8 + k + v) (tsum 0 (ehead KB VB)) (tsum_lt 0 _) (by omega)
  have hbe : ebytes KB VB = l.take (8 + k + v) ++ nbytes 4 ((tsum 0 (ehead KB VB) : Nat) : Int) := by
    show ehead KB VB ++ _ = _
    rw [hht]
  rw [← hbe] at hiff
  have hebb : Bytes (ebytes KB VB) := Bytes.app (ehead_bytes KB VB) (nbytes_bytes 4 _)
  unfold eend
  simp only [Nat.zero_add]
  rw [hKB, hVB]
  refine Ev.step (f := fun q => (fascicleref10_Text.f q KB VB).bind fun t154 => if t154.toList = (strOfNums (l.take (8 + k + v + 4))).toList then some (KB, VB, 8 + (k : Int) + (v : Int) + 4, 0) else some (⟨#[]⟩, ⟨#[]⟩, 0, 5)) (fun q => ?_) ?_
  · simp only [fascicleref10_Get.j0, w1.out, w2.out, w3.out, w4.out, w5.out, hsz.out, n1, n2, n3, x1, x2, x3]
    rw [if_neg (by decide), if_neg (by omega), if_pos (by omega), if_pos (by omega), if_pos (by omega), if_pos (by omega), if_pos (by omega)]
    congr 1
    funext t154
    rw [if_pos (by omega), if_pos (by omega)]
  refine Ev.bind htx ?_
  by_cases hq : ((tsum 0 (ehead KB VB) : Nat) : Int) = lev (cut l (8 + k + v) 4)
  · rw [if_pos hq]
    refine Ev.congr (f := fun _ => some (KB, VB, 8 + (k : Int) + (v : Int) + 4, 0)) (fun q => ?_) (Ev.eq (Ev.now _) ?_)
    · rw [if_pos ((nums_eq hebb (hb.take _)).2 (hiff.2 hq))]
    · unfold eout
      simp
  · rw [if_neg hq]
    refine Ev.congr (f := fun _ => some (⟨#[]⟩, ⟨#[]⟩, 0, 5)) (fun q => ?_) (Ev.now _)
    rw [if_neg (fun h => hq (hiff.1 ((nums_eq hebb (hb.take _)).1 h)))]

end Go.Proofs.Ytmlodmpkcbncjaa.G
