/- fasciclelaw10.ElderPuts holds: any pair that may be has the document's bytes and is got from them; for every input, no condition. -/
import Derived.Test.YtmlodmpkcbncjaaGx8
import Derived.Test.YtmlodmpkcbncjaaMLElder
set_option linter.unusedVariables false
set_option linter.unusedSimpArgs false
namespace Go.Proofs.Ytmlodmpkcbncjaa.Pure
open Go Go.RowKit Go.Proofs.Ytmlodmpkcbncjaa.G Go.Proofs.YtmlodmpkcbncjaaW.PrintWords Go.Proofs.YtmlodmpkcbncjaaW.PrintLast Go.Proofs.Ytmlodmpkcbncjaa.PureKit Go.Proofs.Ytmlodmpkcbncjaa.Sep Go.Proofs.Ytmlodmpkcbncjaa.Rol

theorem cut_of {l a b c : List Int} {n m : Nat} (h : l = a ++ (b ++ c)) (ha : a.length = n) (hb : b.length = m) : cut l n m = b := by
  subst h
  subst ha
  subst hb
  unfold cut
  rw [← List.append_assoc, ← List.length_append, List.take_left, List.drop_left]
theorem ebytes_len (K V : ByteArray) : (ebytes K V).length = 12 + K.size + V.size := by
  unfold ebytes
  rw [List.length_append, ehead_len, nbytes_len]
  omega
theorem ebytes_bytes (K V : ByteArray) : Bytes (ebytes K V) := Bytes.append (ehead_bytes K V) (nbytes_bytes 4 _)
theorem lev4 (x : Nat) (h : x < 4294967296) : lev (nbytes 4 (x : Int)) = (x : Int) := by
  rw [lev_nbytes 4 (x : Int) (by omega)]
  omega
theorem eone_put (K V : ByteArray) (r : List Int) (h : echeck K V = 0) : eone (ebytes K V ++ r) 0 = .ok (K, V) (12 + K.size + V.size) := by
  have hz := echeck_sizes h
  obtain ⟨_, hks, hvs⟩ := hz
  obtain ⟨l, hl⟩ : ∃ l, ebytes K V ++ r = l := ⟨_, rfl⟩
  obtain ⟨ts, hts⟩ : ∃ ts, tsum 0 (ehead K V) = ts := ⟨_, rfl⟩
  have htsl : ts < 4294967296 := by rw [← hts]; exact tsum_lt 0 _
  have hll : l.length = 12 + K.size + V.size + r.length := by rw [← hl, List.length_append, ebytes_len]
  have he : l = nbytes 4 K.size ++ (nbytes 4 V.size ++ (sby K ++ (sby V ++ (nbytes 4 (ts : Int) ++ r)))) := by
    rw [← hl]
    unfold ebytes
    rw [hts]
    unfold ehead
    simp only [List.append_assoc]
  have c1 : cut l 0 4 = nbytes 4 K.size := cut_of (a := []) he rfl (nbytes_len 4 _)
  have c2 : cut l 4 4 = nbytes 4 V.size := cut_of he (nbytes_len 4 _) (nbytes_len 4 _)
  have c3 : cut l 8 K.size = sby K := cut_of (a := nbytes 4 K.size ++ nbytes 4 V.size) (c := sby V ++ (nbytes 4 (ts : Int) ++ r)) (by rw [he]; simp only [List.append_assoc]) (by rw [List.length_append, nbytes_len, nbytes_len]) (sby_len K)
  have c4 : cut l (8 + K.size) V.size = sby V := cut_of (a := nbytes 4 K.size ++ nbytes 4 V.size ++ sby K) (c := nbytes 4 (ts : Int) ++ r) (by rw [he]; simp only [List.append_assoc]) (by rw [List.length_append, List.length_append, nbytes_len, nbytes_len, sby_len]) (sby_len V)
  have c5 : cut l (8 + K.size + V.size) 4 = nbytes 4 (ts : Int) := cut_of (a := nbytes 4 K.size ++ nbytes 4 V.size ++ sby K ++ sby V) (c := r) (by rw [he]; simp only [List.append_assoc]) (by rw [List.length_append, List.length_append, List.length_append, nbytes_len, nbytes_len, sby_len, sby_len]) (nbytes_len 4 _)
  rw [hl]
  clear he hl
  unfold eone
  simp only [Nat.zero_add]
  rw [if_neg (by omega), c1, c2, lev4 _ (by omega), lev4 _ (by omega), Int.toNat_natCast, Int.toNat_natCast]
  unfold emid
  have hel : elen K.size V.size = 0 := h
  rw [if_neg (by rw [hel]; simp)]
  simp only [Nat.zero_add]
  rw [if_neg (by omega)]
  unfold eend
  simp only [Nat.zero_add]
  rw [c3, c4, c5, nums_sby, nums_sby, hts, lev4 _ htsl, if_pos rfl, show 8 + K.size + V.size + 4 = 12 + K.size + V.size by omega]

theorem few_one (K V : ByteArray) : Ev (fun k => fasciclelaw10_Few.f k [⟨K, V⟩] 1 5000) (decide (K.size ≤ 5000 ∧ V.size ≤ 5000)) := by
  unfold fasciclelaw10_Few.f
  by_cases h1 : K.size ≤ 5000
  · by_cases h2 : V.size ≤ 5000
    · rw [decide_eq_true ⟨h1, h2⟩]
      refine Ev.step (f := fun k => fasciclelaw10_Few.l0 k [⟨K, V⟩] 1 5000 [⟨K, V⟩] 1 1) (fun k => ?_) ?_
      · simp only [fasciclelaw10_Few.l0, List.length_cons, List.length_nil]
        rw [if_pos (by decide), if_pos (by decide), if_pos (by decide)]
        show (if (K.size : Int) > 5000 then _ else if (V.size : Int) > 5000 then _ else _) = _
        rw [if_neg (by omega), if_neg (by omega)]
        have e1 : wrap64 1 = 1 := w64 (x := 1) (by decide) (by decide)
        simp [e1]
      · refine Ev.step (f := fun _ => some true) (fun k => ?_) (Ev.now _)
        simp only [fasciclelaw10_Few.l0]
        rw [if_neg (by decide)]
        rfl
    · rw [decide_eq_false (fun h => h2 h.2)]
      refine Ev.step (f := fun _ => some false) (fun k => ?_) (Ev.now _)
      simp only [fasciclelaw10_Few.l0, List.length_cons, List.length_nil]
      rw [if_pos (by decide), if_pos (by decide), if_pos (by decide)]
      show (if (K.size : Int) > 5000 then _ else if (V.size : Int) > 5000 then _ else _) = _
      rw [if_neg (by omega), if_pos (by omega)]
  · rw [decide_eq_false (fun h => h1 h.1)]
    refine Ev.step (f := fun _ => some false) (fun k => ?_) (Ev.now _)
    simp only [fasciclelaw10_Few.l0, List.length_cons, List.length_nil]
    rw [if_pos (by decide), if_pos (by decide), if_pos (by decide)]
    show (if (K.size : Int) > 5000 then _ else if (V.size : Int) > 5000 then _ else _) = _
    rw [if_pos (by omega)]

theorem puts_true (K V : ByteArray) (l1 : List Int) : Ev (fun k => fasciclelaw10_ElderPuts.j0 k l1 true K V) true := by
  refine Ev.step (f := fun _ => some true) (fun k => ?_) (Ev.now _)
  simp only [fasciclelaw10_ElderPuts.j0, if_true]
  rfl
theorem puts_j1 (K V : ByteArray) (l1 : List Int) (hb : Bytes l1) (hl : l1.length ≤ 100) (hK : K.size ≤ 5000) (hV : V.size ≤ 5000) (x5 : List Int) (h5 : x5 = if echeck K V = 0 then ebytes K V else []) :
    Ev (fun k => fasciclelaw10_ElderPuts.j1 k l1 x5 (echeck K V) false K V) true := by
  by_cases hc : echeck K V = 0
  · rw [if_pos hc] at h5
    have hlen : x5.length = 12 + K.size + V.size := by rw [h5, ebytes_len]
    have hget : elder_Get.f (x5 ++ l1) = some (K, V, ((x5.length : Nat) : Int), 0) := by
      unfold elder_Get.f
      rw [if_pos ⟨(ebytesb_iff _).2 (Bytes.append (by rw [h5]; exact ebytes_bytes K V) hb), by rw [List.length_append]; omega⟩, h5, eone_put K V l1 hc, ← hlen, h5]
      rfl
    have htx := reftext K V (by omega) (by omega)
    rw [← h5] at htx
    clear h5
    refine Ev.step (f := fun k => (fascicleref10_Text.f k K V).bind fun t149 => if (strOfNums x5).toList = t149.toList then some true else some false) (fun k => ?_) ?_
    · simp only [fasciclelaw10_ElderPuts.j1]
      rw [if_neg (by decide), if_pos hc]
      simp only [Option.bind_some, List.nil_append, List.length_nil]
      rw [if_pos (by omega), if_pos (by omega), hget]
      simp only [Option.bind_some]
      congr 1
      funext t149
      simp
    · refine Ev.bind htx ?_
      refine Ev.congr (f := fun _ => some true) (fun k => ?_) (Ev.now _)
      rw [if_pos rfl]
  · rw [if_neg hc] at h5
    subst h5
    refine Ev.step (f := fun _ => some true) (fun k => ?_) (Ev.now _)
    simp only [fasciclelaw10_ElderPuts.j1]
    rw [if_neg (by decide), if_neg hc]
    rfl
theorem puts_false (K V : ByteArray) (l1 : List Int) (hb : Bytes l1) (hl : l1.length ≤ 100) (hK : K.size ≤ 5000) (hV : V.size ≤ 5000) : Ev (fun k => fasciclelaw10_ElderPuts.j0 k l1 false K V) true := by
  obtain ⟨x5, h5⟩ : ∃ x5, x5 = if echeck K V = 0 then ebytes K V else [] := ⟨_, rfl⟩
  have hput : elder_Put.f K V = some (x5, echeck K V) := by
    unfold elder_Put.f
    rw [if_pos ⟨by omega, by omega⟩, h5]
    by_cases hc : echeck K V = 0
    · rw [if_pos hc, if_pos hc, hc]
    · rw [if_neg hc, if_neg hc]
  refine Ev.step (f := fun k => fasciclelaw10_ElderPuts.j1 k l1 x5 (echeck K V) false K V) (fun k => ?_) (puts_j1 K V l1 hb hl hK hV x5 h5)
  simp only [fasciclelaw10_ElderPuts.j0]
  rw [if_neg (by decide), hput, refcheck]
  simp only [Option.bind_some, if_true]
  rw [elder_Check_ev K V (by omega) (by omega)]
  simp only [Option.bind_some, bne_self_eq_false]
theorem ElderPuts : fasciclelaw10_ElderPuts.Pure := by
  intro K V l1 _ _ _ _ hwf
  have hb := Bytes.of_wf hwf
  refine rounds_of (r := true) ?_
  unfold fasciclelaw10_ElderPuts.f
  refine Ev.congr (f := fun k => (fasciclelaw10_Few.f k [⟨K, V⟩] 1 5000).bind fun t127 => if t127 = true then fasciclelaw10_ElderPuts.j0 k l1 (decide ((l1.length : Int) > 100)) K V else fasciclelaw10_ElderPuts.j0 k l1 true K V) (fun k => ?_) ?_
  · show (some true).bind _ = _
    rw [Option.bind_some, if_pos rfl]
  refine Ev.bind (few_one K V) ?_
  by_cases h : K.size ≤ 5000 ∧ V.size ≤ 5000
  · rw [decide_eq_true h]
    refine Ev.congr (f := fun k => fasciclelaw10_ElderPuts.j0 k l1 (decide ((l1.length : Int) > 100)) K V) (fun k => by rw [if_pos rfl]) ?_
    by_cases hl : (l1.length : Int) > 100
    · rw [decide_eq_true hl]
      exact puts_true K V l1
    · rw [decide_eq_false hl]
      exact puts_false K V l1 hb (by omega) h.1 h.2
  · rw [decide_eq_false h]
    exact Ev.congr (f := fun k => fasciclelaw10_ElderPuts.j0 k l1 true K V) (fun k => by rw [if_neg (by decide)]) (puts_true K V l1)

end Go.Proofs.Ytmlodmpkcbncjaa.Pure
