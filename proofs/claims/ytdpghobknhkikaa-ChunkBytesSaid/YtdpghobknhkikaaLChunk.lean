/- Plain laws of the chunks: what the program's cutter and the document's answer tell is one and the same row. -/
import Derived.Test.YtdpghobknhkikaaGx4
import Derived.Test.YtdpghobknhkikaaPureKit
import Derived.OpenShut
namespace Go.Proofs.Ytdpghobknhkikaa.LChunk
open Go.RowKit Go.Proofs.Ytdpghobknhkikaa.G Go.Proofs.YtdpghobknhkikaaW.PrintWords Go.Proofs.YtdpghobknhkikaaW.PrintLast Go.Proofs.Ytdpghobknhkikaa.PureKit

abbrev C := S55
abbrev D := S38

/-- The chunks of bytes, from a place on. -/
def cout (size : Int) : List Int → Int → Int → Int → List (Int × Int × Int)
  | [], _, _, _ => []
  | x :: xs, s, a, f =>
    if x = 0 then (s, f, a) :: (if a + 1 = size then cout size xs (s + 1) 0 0 else cout size xs s (a + 1) (a + 1))
    else (if a + 1 = size then cout size xs (s + 1) 0 0 else cout size xs s (a + 1) f)
/-- Where it is behind them. -/
def cst (size : Int) : List Int → Int → Int → Int → Int × Int × Int
  | [], s, a, f => (s, a, f)
  | x :: xs, s, a, f =>
    if a + 1 = size then cst size xs (s + 1) 0 0 else cst size xs s (a + 1) (if x = 0 then a + 1 else f)

def mkC (t : Int × Int × Int) : C := ⟨t.1, t.2.1, t.2.2⟩
def mkD (t : Int × Int × Int) : D := ⟨t.1, t.2.1, t.2.2⟩

theorem cout_len (size : Int) : ∀ (l : List Int) (s a f : Int), (cout size l s a f).length = l.countP (· = 0)
  | [], _, _, _ => rfl
  | x :: xs, s, a, f => by
    unfold cout
    by_cases hx : x = 0
    · by_cases he : a + 1 = size <;> simp [hx, he, cout_len size xs]
    · by_cases he : a + 1 = size <;> simp [hx, he, cout_len size xs]

theorem one_f (size s a f x : Int) (out : List C) (hsz : size ≤ 9223372036854775807) (ha : 0 ≤ a) (ha' : a < size) (hs : 0 ≤ s) (hs' : s < 9223372036854775807) (ho : out.length < 1000000000000) :
    chunk_Cutter_one.f size s a f x out = some (if x = 0 then out ++ [mkC (s, f, a)] else out, size, if a + 1 = size then (s + 1, 0, 0) else (s, a + 1, if x = 0 then a + 1 else f)) := by
  unfold chunk_Cutter_one.f
  rw [if_pos ho, w64 (by omega) (by omega), wu64 (by omega) (by omega)]
  by_cases h : a + 1 = size
  · rw [if_pos h, if_pos h]; rfl
  · rw [if_neg h, if_neg h]; rfl

theorem write_l0 (xs : List Int) (size : Int) (hsz : size ≤ 9223372036854775807) (hlen : xs.length ≤ 1000000) : ∀ (d i : Nat) (out : List C) (s a f : Int), i + d = xs.length → 0 ≤ a → a < size → 0 ≤ s → s + d < 9223372036854775807 → out.length + d < 1000000000000 →
    Ev (fun k => chunk_Cutter_Write.l0 k out xs (xs.length : Int) (i : Int) size s a f) (out ++ (cout size (xs.drop i) s a f).map mkC, size, cst size (xs.drop i) s a f) := by
  intro d
  induction d with
  | zero =>
    intro i out s a f hi ha ha' hs hs' ho
    refine Ev.step (f := fun _ => some (out, size, s, a, f)) (fun k => ?_) ?_
    · simp only [chunk_Cutter_Write.l0]; rw [if_neg (by omega)]
    · rw [List.drop_of_length_le (by omega)]; simp [cout, cst]; exact Ev.now _
  | succ d ih =>
    intro i out s a f hi ha ha' hs hs' ho
    have hlt : i < xs.length := by omega
    rw [List.drop_eq_getElem_cons hlt]
    have h1 := one_f size s a f xs[i] out hsz ha ha' hs (by omega) (by omega)
    refine Ev.step (f := fun k => chunk_Cutter_Write.l0 k (if xs[i] = 0 then out ++ [mkC (s, f, a)] else out) xs (xs.length : Int) ((i + 1 : Nat) : Int) size (if a + 1 = size then (s + 1, 0, 0) else (s, a + 1, if xs[i] = 0 then a + 1 else f)).1 (if a + 1 = size then (s + 1, 0, 0) else (s, a + 1, if xs[i] = 0 then a + 1 else f)).2.1 (if a + 1 = size then (s + 1, 0, 0) else (s, a + 1, if xs[i] = 0 then a + 1 else f)).2.2) (fun k => ?_) ?_
    · simp only [chunk_Cutter_Write.l0]
      rw [if_pos (by omega), if_pos (by omega), if_pos (by omega), rd_at xs i hlt, h1, w64 (by omega) (by omega)]
      rfl
    · have hol : (if xs[i] = 0 then out ++ [mkC (s, f, a)] else out).length + d < 1000000000000 := by
        split
        · rw [List.length_append, List.length_singleton]; omega
        · omega
      by_cases he : a + 1 = size
      · simp only [if_pos he]
        have := ih (i + 1) (if xs[i] = 0 then out ++ [mkC (s, f, a)] else out) (s + 1) 0 0 (by omega) (by omega) (by omega) (by omega) (by omega) hol
        refine cast (congrArg _ ?_) this
        by_cases hx : xs[i] = 0
        · simp [cout, cst, he, hx]
        · simp [cout, cst, he, hx]
      · simp only [if_neg he]
        have := ih (i + 1) (if xs[i] = 0 then out ++ [mkC (s, f, a)] else out) s (a + 1) (if xs[i] = 0 then a + 1 else f) (by omega) (by omega) (by omega) (by omega) (by omega) hol
        refine cast (congrArg _ ?_) this
        by_cases hx : xs[i] = 0
        · simp [cout, cst, he, hx]
        · simp [cout, cst, he, hx]

theorem new_f (n : Int) : chunk_New.f n = some (max 1 n, 0, 0, 0) := by
  unfold chunk_New.f mx
  by_cases h : 1 < n
  · rw [if_pos h, Int.max_eq_right (by omega)]
  · rw [if_neg h, Int.max_eq_left (by omega)]

theorem all_f (n : Int) (hn : n ≤ 9223372036854775807) (xs : List Int) (hlen : xs.length ≤ 1000000) : Ev (fun k => chunk_All.f k n xs) ((cout (max 1 n) xs 0 0 0).map mkC) := by
  have h := write_l0 xs (max 1 n) (by omega) hlen xs.length 0 [] 0 0 0 (by omega) (by omega) (by omega) (by omega) (by omega) (by simp; omega)
  unfold chunk_All.f
  rw [new_f]
  simp only [Option.bind_some]
  refine Ev.bind (f := fun _ x => some x.1) (a := ((cout (max 1 n) xs 0 0 0).map mkC, max 1 n, cst (max 1 n) xs 0 0 0)) ?_ (Ev.now _)
  unfold chunk_Cutter_Write.f
  simpa using h

/-! ### the document's -/
/-- What is left behind place i of a part, with what stands behind the part. -/
theorem ref_l1 (size : Int) (h1 : 1 ≤ size) (hsz : size ≤ 9223372036854775807) : ∀ (N : Nat) (part rest : List Int) (i : Nat) (out : List D) (n f : Int), Bytes part → Bytes rest → i ≤ part.length → part.length ≤ size → (rest ≠ [] → (part.length : Int) = size) →
    2 * rest.length + (part.length - i) ≤ N → N ≤ 1000000 → 0 ≤ n → n + N < 9223372036854775807 → out.length + N < 5864062014805 →
    Ev (fun k => fascicleref22_All.l1 k size (strOfNums rest) out n (strOfNums part) f (i : Int)) (out ++ (if (i : Int) = size then cout size rest (n + 1) 0 0 else cout size (part.drop i ++ rest) n i f).map mkD) := by
  intro N
  induction N using Nat.strongRecOn with
  | _ N ih =>
  intro part rest i out n f hbp hbr hi hps hrest hN hN' hn hnN ho
  by_cases hlt : i < part.length
  · -- a byte of the part
    have hne : ¬ (i : Int) = size := by omega
    rw [if_neg hne, List.drop_eq_getElem_cons hlt]
    refine Ev.step (f := fun k => fascicleref22_All.l1 k size (strOfNums rest) (if part[i] = 0 then out ++ [mkD (n, f, i)] else out) n (strOfNums part) (if part[i] = 0 then ((i + 1 : Nat) : Int) else f) ((i + 1 : Nat) : Int)) (fun k => ?_) ?_
    · simp only [fascicleref22_All.l1]
      rw [if_pos (by rw [nums_size]; omega), if_pos (by omega), bt_nums part hbp i hlt, w64 (by omega) (by omega)]
      by_cases hx : part[i] = 0
      · rw [if_pos hx, if_pos hx, if_pos hx, if_pos (by omega)]; rfl
      · rw [if_neg hx, if_neg hx, if_neg hx]; rfl
    · have hol : (if part[i] = 0 then out ++ [mkD (n, f, i)] else out).length + (N - 1) < 5864062014805 := by
        split
        · rw [List.length_append, List.length_singleton]; omega
        · omega
      have := ih (N - 1) (by omega) part rest (i + 1) (if part[i] = 0 then out ++ [mkD (n, f, i)] else out) n (if part[i] = 0 then ((i + 1 : Nat) : Int) else f) hbp hbr (by omega) hps hrest (by omega) (by omega) hn (by omega) hol
      refine Ev.eq this ?_
      by_cases he : ((i + 1 : Nat) : Int) = size
      · rw [if_pos he]
        have hl : part.drop (i + 1) = [] := List.drop_of_length_le (by omega)
        have he' : (i : Int) + 1 = size := by omega
        by_cases hx : part[i] = 0
        · simp only [hx, hl, he', List.cons_append, List.nil_append, cout, if_true, List.map_cons, List.append_assoc]
        · simp only [hx, hl, he', List.cons_append, List.nil_append, cout, if_true, if_false]
      · rw [if_neg he]
        have he' : ¬ (i : Int) + 1 = size := by omega
        by_cases hx : part[i] = 0
        · simp only [hx, he', List.cons_append, cout, if_true, if_false, List.map_cons, List.append_assoc, List.nil_append]; rfl
        · simp only [hx, he', List.cons_append, cout, if_false]; rfl
  · -- the part's end
    have hil : i = part.length := by omega
    rw [List.drop_of_length_le (by omega), List.nil_append]
    refine Ev.step (f := fun k => fascicleref22_All.l0 k size (strOfNums rest) out (n + 1)) (fun k => ?_) ?_
    · simp only [fascicleref22_All.l1]
      rw [if_neg (by rw [nums_size]; omega), wu64 (by omega) (by omega)]
    · by_cases hr : rest = []
      · subst hr
        refine Ev.step (f := fun _ => some out) (fun k => ?_) ?_
        · simp only [fascicleref22_All.l0]
          rw [if_pos ((nums_nil []).2 rfl)]
        · refine Ev.eq (Ev.now _) ?_
          split <;> simp [cout]
      · have hps' := hrest hr
        rw [if_pos (by omega)]
        have hr0 : 0 < rest.length := List.length_pos_iff.2 hr
        have hp0 : 0 < part.length := by omega
        by_cases hbig : (rest.length : Int) > size
        · refine Ev.step (f := fun k => fascicleref22_All.j1 k size (strOfNums rest) out (n + 1) (strOfNums (rest.take size.toNat))) (fun k => ?_) ?_
          · simp only [fascicleref22_All.l0]
            rw [if_neg (fun e => hr ((nums_nil rest).1 e)), if_pos (by rw [nums_size]; exact hbig), if_pos (by omega), if_pos (by rw [nums_size]; omega), nums_extract, List.drop_zero]
          · have hsl : (rest.take size.toNat).length = size.toNat := by rw [List.length_take]; omega
            refine Ev.step (f := fun k => fascicleref22_All.l1 k size (strOfNums (rest.drop size.toNat)) out (n + 1) (strOfNums (rest.take size.toNat)) 0 ((0 : Nat) : Int)) (fun k => ?_) ?_
            · simp only [fascicleref22_All.j1]
              rw [if_pos (by omega), if_pos (by rw [nums_size, nums_size, hsl]; omega), nums_size, nums_size, nums_extract, hsl]
              have : (rest.take rest.length).drop ((size.toNat : Int)).toNat = rest.drop size.toNat := by rw [List.take_length, Int.toNat_natCast]
              rw [this]; rfl
            · have := ih (2 * rest.length - 1) (by omega) (rest.take size.toNat) (rest.drop size.toNat) 0 out (n + 1) 0 (hbr.take _) (hbr.drop _) (by omega) (by rw [hsl]; omega) (fun _ => by rw [hsl]; omega) (by rw [List.length_drop, hsl]; omega) (by omega) (by omega) (by omega) (by omega)
              refine Ev.eq this ?_
              rw [if_neg (by omega)]
              simp
        · refine Ev.step (f := fun k => fascicleref22_All.j1 k size (strOfNums rest) out (n + 1) (strOfNums rest)) (fun k => ?_) ?_
          · simp only [fascicleref22_All.l0]
            rw [if_neg (fun e => hr ((nums_nil rest).1 e)), if_neg (by rw [nums_size]; exact hbig)]
          · refine Ev.step (f := fun k => fascicleref22_All.l1 k size (strOfNums ([] : List Int)) out (n + 1) (strOfNums rest) 0 ((0 : Nat) : Int)) (fun k => ?_) ?_
            · simp only [fascicleref22_All.j1]
              rw [if_pos (by omega), if_pos (by omega), nums_size, nums_extract]
              have : (rest.take rest.length).drop ((rest.length : Int)).toNat = [] := by rw [List.take_length, Int.toNat_natCast, List.drop_length]
              rw [this]; rfl
            · have := ih (2 * rest.length - 1) (by omega) rest [] 0 out (n + 1) 0 hbr Bytes.nil (by omega) (by omega) (fun h => absurd rfl h) (by simp; omega) (by omega) (by omega) (by omega) (by omega)
              refine Ev.eq this ?_
              rw [if_neg (by omega)]
              simp

theorem ref_f (n : Int) (hn : n ≤ 9223372036854775807) (xs : List Int) (hb : Bytes xs) (hlen : xs.length ≤ 100000) : Ev (fun k => fascicleref22_All.f k n (strOfNums xs)) ((cout (max 1 n) xs 0 0 0).map mkD) := by
  have hm : mx 1 n = max 1 n := by
    unfold mx
    by_cases h : 1 < n
    · rw [if_pos h, Int.max_eq_right (by omega)]
    · rw [if_neg h, Int.max_eq_left (by omega)]
  unfold fascicleref22_All.f
  rw [hm]
  by_cases hr : xs = []
  · subst hr
    refine Ev.step (f := fun _ => some []) (fun k => ?_) (Ev.now _)
    simp only [fascicleref22_All.l0]
    rw [if_pos ((nums_nil []).2 rfl)]
  · generalize hz : max 1 n = size
    have h1 : 1 ≤ size := by omega
    have hsz : size ≤ 9223372036854775807 := by omega
    have hr0 : 0 < xs.length := List.length_pos_iff.2 hr
    by_cases hbig : (xs.length : Int) > size
    · have hsl : (xs.take size.toNat).length = size.toNat := by rw [List.length_take]; omega
      refine Ev.step (f := fun k => fascicleref22_All.j1 k size (strOfNums xs) [] 0 (strOfNums (xs.take size.toNat))) (fun k => ?_) ?_
      · simp only [fascicleref22_All.l0]
        rw [if_neg (fun e => hr ((nums_nil xs).1 e)), if_pos (by rw [nums_size]; exact hbig), if_pos (by omega), if_pos (by rw [nums_size]; omega), nums_extract, List.drop_zero]
      · refine Ev.step (f := fun k => fascicleref22_All.l1 k size (strOfNums (xs.drop size.toNat)) [] 0 (strOfNums (xs.take size.toNat)) 0 ((0 : Nat) : Int)) (fun k => ?_) ?_
        · simp only [fascicleref22_All.j1]
          rw [if_pos (by omega), if_pos (by rw [nums_size, nums_size, hsl]; omega), nums_size, nums_size, nums_extract, hsl]
          have : (xs.take xs.length).drop ((size.toNat : Int)).toNat = xs.drop size.toNat := by rw [List.take_length, Int.toNat_natCast]
          rw [this]; rfl
        · have := ref_l1 size h1 hsz (2 * xs.length) (xs.take size.toNat) (xs.drop size.toNat) 0 [] 0 0 (hb.take _) (hb.drop _) (by omega) (by rw [hsl]; omega) (fun _ => by rw [hsl]; omega) (by rw [List.length_drop, hsl]; omega) (by omega) (by omega) (by omega) (by simp; omega)
          refine Ev.eq this ?_
          rw [if_neg (by omega)]
          simp
    · refine Ev.step (f := fun k => fascicleref22_All.j1 k size (strOfNums xs) [] 0 (strOfNums xs)) (fun k => ?_) ?_
      · simp only [fascicleref22_All.l0]
        rw [if_neg (fun e => hr ((nums_nil xs).1 e)), if_neg (by rw [nums_size]; exact hbig)]
      · refine Ev.step (f := fun k => fascicleref22_All.l1 k size (strOfNums ([] : List Int)) [] 0 (strOfNums xs) 0 ((0 : Nat) : Int)) (fun k => ?_) ?_
        · simp only [fascicleref22_All.j1]
          rw [if_pos (by omega), if_pos (by omega), nums_size, nums_extract]
          have : (xs.take xs.length).drop ((xs.length : Int)).toNat = [] := by rw [List.take_length, Int.toNat_natCast, List.drop_length]
          rw [this]; rfl
        · have := ref_l1 size h1 hsz (2 * xs.length) xs [] 0 [] 0 0 hb Bytes.nil (by omega) (by omega) (fun h => absurd rfl h) (by simp; omega) (by omega) (by omega) (by omega) (by simp; omega)
          refine Ev.eq this ?_
          rw [if_neg (by omega)]
          simp

theorem same_l0 (l : List (Int × Int × Int)) (hl : l.length ≤ 1000000) : ∀ (d i : Nat), i + d = l.length → Ev (fun k => fasciclelaw22_same.l0 k (l.map mkC) (l.map mkD) (l.length : Int) (i : Int)) true := by
  intro d
  induction d with
  | zero =>
    intro i hi
    refine Ev.step (f := fun _ => some true) (fun k => ?_) (Ev.now _)
    simp only [fasciclelaw22_same.l0]; rw [if_neg (by omega)]
  | succ d ih =>
    intro i hi
    have hlt : i < l.length := by omega
    refine Ev.step (f := fun k => fasciclelaw22_same.l0 k (l.map mkC) (l.map mkD) (l.length : Int) ((i + 1 : Nat) : Int)) (fun k => ?_) (ih (i + 1) (by omega))
    simp only [fasciclelaw22_same.l0]
    have hc : rd_T55 (l.map mkC) (i : Int) = mkC l[i] := by simp [rd_T55, List.getD_eq_getElem?_getD, hlt]
    have hd : rd_T38 (l.map mkD) (i : Int) = mkD l[i] := by simp [rd_T38, List.getD_eq_getElem?_getD, hlt]
    rw [if_pos (by omega), if_pos (by omega), if_pos (by simpa using by omega), if_pos (by simpa using by omega), hc, hd, if_neg (by simp [mkC, mkD]), w64 (by omega) (by omega)]
    rfl
theorem same_f (l : List (Int × Int × Int)) (hl : l.length ≤ 1000000) : Ev (fun k => fasciclelaw22_same.f k (l.map mkC) (l.map mkD)) true := by
  unfold fasciclelaw22_same.f
  have := same_l0 l hl l.length 0 (by omega)
  simp only [List.length_map, if_true]
  exact this

theorem lives_f : Ev (fun k => fasciclelaw22_lives.f k) true := Ev.of fasciclelaw22_lives.mono (k := 30) (by decide +kernel)

/-! ### the law -/
theorem count_l0 (n : Int) (xs : List Int) (hlen : xs.length ≤ 2000) (out : List C) : ∀ (d i : Nat) (c : Nat), i + d = xs.length → c ≤ i →
    ∀ r, Ev (fun k => (fascicleref22_All.f k n (strOfNums xs)).bind fun t => (fasciclelaw22_same.f k out t).bind fun u => if u = true then some ((out.length : Int) == ((c + (xs.drop i).countP (· = 0) : Nat) : Int)) else some false) r →
    Ev (fun k => fasciclelaw22_ChunkAll.l0 k n xs out (c : Int) xs (xs.length : Int) (i : Int)) r := by
  intro d
  induction d with
  | zero =>
    intro i c hi hc r h
    refine Ev.step (fun k => ?_) h
    simp only [fasciclelaw22_ChunkAll.l0]; rw [if_neg (by omega), List.drop_of_length_le (by omega)]; rfl
  | succ d ih =>
    intro i c hi hc r h
    have hlt : i < xs.length := by omega
    rw [List.drop_eq_getElem_cons hlt] at h
    refine Ev.step (f := fun k => fasciclelaw22_ChunkAll.l0 k n xs out ((if xs[i] = 0 then c + 1 else c : Nat) : Int) xs (xs.length : Int) ((i + 1 : Nat) : Int)) (fun k => ?_) (ih (i + 1) (if xs[i] = 0 then c + 1 else c) (by omega) (by split <;> omega) r ?_)
    · simp only [fasciclelaw22_ChunkAll.l0]
      rw [if_pos (by omega), if_pos (by omega), if_pos (by omega), rd_at xs i hlt, w64 (by omega) (by omega), w64 (by omega) (by omega)]
      by_cases hx : xs[i] = 0
      · rw [if_pos hx, if_pos hx]; rfl
      · rw [if_neg hx, if_neg hx]; rfl
    · refine Ev.congr (fun k => ?_) h
      by_cases hx : xs[i] = 0
      · rw [if_pos hx]
        rw [show c + List.countP (fun x => decide (x = 0)) (xs[i] :: xs.drop (i + 1)) = c + 1 + List.countP (fun x => decide (x = 0)) (xs.drop (i + 1)) from by rw [List.countP_cons_of_pos (by simpa using hx)]; omega]
      · rw [if_neg hx]
        rw [show c + List.countP (fun x => decide (x = 0)) (xs[i] :: xs.drop (i + 1)) = c + List.countP (fun x => decide (x = 0)) (xs.drop (i + 1)) from by rw [List.countP_cons_of_neg (by simpa using hx)]]

theorem law (n : Int) (hn : n ≤ 9223372036854775807) (xs : List Int) (hb : Bytes xs) : Ev (fun k => fasciclelaw22_ChunkAll.f k n xs) true := by
  unfold fasciclelaw22_ChunkAll.f
  refine Ev.bind (f := fun k t => if t = true then fasciclelaw22_ChunkAll.j0 k n xs (decide ((xs.length : Int) > 2000)) else fasciclelaw22_ChunkAll.j0 k n xs true) lives_f ?_
  simp only [if_true]
  by_cases hbig : (xs.length : Int) > 2000
  · rw [decide_eq_true hbig]
    refine Ev.step (f := fun k => (fasciclelaw22_lives.f k).bind fun t => some t) (fun k => ?_) (Ev.bind (f := fun _ t => some t) lives_f (Ev.now _))
    simp only [fasciclelaw22_ChunkAll.j0]; rfl
  · rw [decide_eq_false hbig]
    have hlen : xs.length ≤ 2000 := by omega
    refine Ev.step (f := fun k => (chunk_All.f k n xs).bind fun t => fasciclelaw22_ChunkAll.l0 k n xs t 0 xs (xs.length : Int) 0) (fun k => ?_) ?_
    · simp only [fasciclelaw22_ChunkAll.j0]; rfl
    · refine Ev.bind (f := fun k t => fasciclelaw22_ChunkAll.l0 k n xs t 0 xs (xs.length : Int) 0) (all_f n hn xs (by omega)) ?_
      refine count_l0 n xs hlen _ xs.length 0 0 (by omega) (by omega) true ?_
      have hcl := cout_len (max 1 n) xs 0 0 0
      have hle : (cout (max 1 n) xs 0 0 0).length ≤ 2000 := by rw [hcl]; exact Nat.le_trans List.countP_le_length hlen
      refine Ev.bind (f := fun k t => (fasciclelaw22_same.f k ((cout (max 1 n) xs 0 0 0).map mkC) t).bind fun u => if u = true then some ((((cout (max 1 n) xs 0 0 0).map mkC).length : Int) == ((0 + (xs.drop 0).countP (· = 0) : Nat) : Int)) else some false) (ref_f n hn xs hb (by omega)) ?_
      refine Ev.bind (f := fun k u => if u = true then some ((((cout (max 1 n) xs 0 0 0).map mkC).length : Int) == ((0 + (xs.drop 0).countP (· = 0) : Nat) : Int)) else some false) (same_f _ (by omega)) ?_
      refine Ev.eq (Ev.now _) ?_
      rw [List.length_map, hcl]
      simp

end Go.Proofs.Ytdpghobknhkikaa.LChunk
