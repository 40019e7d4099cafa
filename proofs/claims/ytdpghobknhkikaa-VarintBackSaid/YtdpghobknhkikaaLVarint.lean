/- Plain laws of numbers: what is read, forwards and back; the document's reading is the same. -/
import Derived.Test.YtdpghobknhkikaaHGetFacts
import Derived.Test.YtdpghobknhkikaaHVarint
import Derived.Test.YtdpghobknhkikaaGx4
import Derived.OpenShut
set_option linter.unusedVariables false
set_option linter.unusedSimpArgs false
namespace Go.Proofs.Ytdpghobknhkikaa.Sep
open Go Go.RowKit Go.Proofs.Ytdpghobknhkikaa.G Go.Proofs.YtdpghobknhkikaaW.PrintWords Go.Proofs.YtdpghobknhkikaaW.PrintLast Go.Proofs.YtdpghobknhkikaaW.PrintMore Go.Proofs.Ytdpghobknhkikaa.PureKit

theorem p128 (i : Nat) : (128 : Int) ^ i = ((128 ^ i : Nat) : Int) := by simp
theorem vgo_venc : ∀ (k i y : Nat) (post : List Int) (acc : Int) (a : Nat), i + k = 10 → y * 128 ^ i < 18446744073709551616 → (0 < i → y ≠ 0) →
    vgo k i (venc y ++ post) acc a = .ok (acc + (y : Int) * 128 ^ i) (a + (venc y).length) := by
  intro k
  induction k with
  | zero =>
    intro i y post acc a hi hy h0
    have : i = 10 := by omega
    subst this
    have h10 : 128 ^ 10 = 18446744073709551616 * 64 := by decide
    have := h0 (by decide)
    rw [h10] at hy
    omega
  | succ k ih =>
    intro i y post acc a hi hy h0
    have h9 : i = 9 → y < 2 := by
      intro h
      subst h
      have h9 : 128 ^ 9 = 9223372036854775808 := by decide
      rw [h9] at hy
      omega
    by_cases h : y < 128
    · rw [venc_small h]
      simp only [List.cons_append, List.nil_append, vgo, List.length_cons, List.length_nil]
      rw [if_neg (by omega), if_neg (by omega), if_neg (by omega)]
    · rw [venc_big h]
      simp only [List.cons_append, vgo, List.length_cons]
      have hp : 128 ^ (i + 1) = 128 ^ i * 128 := by rw [Nat.pow_succ]
      have hle : y / 128 * 128 ^ (i + 1) ≤ y * 128 ^ i := by
        rw [hp, Nat.mul_comm (128 ^ i) 128, ← Nat.mul_assoc]
        exact Nat.mul_le_mul_right _ (Nat.div_mul_le_self _ _)
      rw [if_neg (by omega), if_pos (by omega), ih (i + 1) (y / 128) post _ (a + 1) (by omega) (by omega) (by omega)]
      congr 1
      · rw [Int.pow_succ, p128]
        generalize 128 ^ i = P
        have e1 : (y : Int) = ((y % 128 : Nat) : Int) + ((y / 128 : Nat) : Int) * 128 := by omega
        have e2 : ((y % 128 + 128 : Nat) : Int) - 128 = ((y % 128 : Nat) : Int) := by omega
        rw [e2]
        conv => rhs; rw [e1]
        rw [Int.add_mul, Int.mul_comm (P : Int) 128, ← Int.mul_assoc, Int.add_assoc]
      · omega
theorem vget_at {l : List Int} {a x : Nat} {post : List Int} (h : l.drop a = venc x ++ post) (hx : x < 18446744073709551616) : vget l a = .ok (x : Int) (a + (venc x).length) := by
  unfold vget
  rw [h, vgo_venc 10 0 x post 0 a (by decide) (by omega) (by omega)]
  simp
/-- Back: what was read stood there. -/
theorem vgo_inv : ∀ (k i : Nat) (s : List Int) (x : Int) (a : Nat) (y : Int) (a2 : Nat), i + k = 10 → Bytes s → k ≠ 0 → vgo k i s x a = .ok y a2 →
    ∃ z : Nat, y = x + (z : Int) * 128 ^ i ∧ (0 < i → z ≠ 0) ∧ a2 = a + (venc z).length ∧ s = venc z ++ s.drop (venc z).length := by
  intro k
  induction k with
  | zero => intro i s x a y a2 _ _ h; exact absurd rfl h
  | succ k ih =>
    intro i s x a y a2 hi hb _ h
    rcases s with _ | ⟨b, s⟩
    · simp [vgo] at h
    have hbb := hb.head
    unfold vgo at h
    by_cases c1 : i = 9 ∧ 1 < b
    · rw [if_pos c1] at h
      cases h
    rw [if_neg c1] at h
    by_cases c2 : 128 ≤ b
    · rw [if_pos c2] at h
      have hk : k ≠ 0 := by omega
      obtain ⟨z, hz, hz0, ha, hs⟩ := ih (i + 1) s _ (a + 1) y a2 (by omega) hb.tail hk h
      have hz1 := hz0 (by omega)
      have hbig : ¬ (z * 128 + (b.toNat - 128) < 128) := by omega
      refine ⟨z * 128 + (b.toNat - 128), ?_, fun _ => by omega, ?_, ?_⟩
      · rw [hz, Int.pow_succ, p128]
        generalize 128 ^ i = P
        have e2 : b - 128 = ((b.toNat - 128 : Nat) : Int) := by omega
        rw [e2]
        push_cast
        rw [Int.add_mul, Int.mul_comm (P : Int) 128, ← Int.mul_assoc, Int.add_assoc, Int.add_comm (((b.toNat - 128 : Nat) : Int) * (P : Int))]
      · rw [venc_big hbig, show (z * 128 + (b.toNat - 128)) / 128 = z by omega, List.length_cons]
        omega
      · rw [venc_big hbig, show (z * 128 + (b.toNat - 128)) / 128 = z by omega, show (((z * 128 + (b.toNat - 128)) % 128 + 128 : Nat) : Int) = b by omega]
        simp only [List.cons_append, List.length_cons, List.drop_succ_cons]
        rw [← hs]
    rw [if_neg c2] at h
    by_cases c3 : b = 0 ∧ 0 < i
    · rw [if_pos c3] at h
      cases h
    rw [if_neg c3] at h
    cases h
    have hsm : b.toNat < 128 := by omega
    refine ⟨b.toNat, by rw [show ((b.toNat : Nat) : Int) = b by omega], fun h => by omega, ?_, ?_⟩
    · rw [venc_small hsm]; rfl
    · rw [venc_small hsm, show ((b.toNat : Nat) : Int) = b by omega]; rfl
theorem vget_inv {l : List Int} {a a2 : Nat} {y : Int} (hb : Bytes l) (h : vget l a = .ok y a2) : a2 = a + (venc y.toNat).length ∧ l.drop a = venc y.toNat ++ l.drop a2 := by
  obtain ⟨z, hz, _, ha, hs⟩ := vgo_inv 10 0 (l.drop a) 0 a y a2 (by decide) (hb.drop _) (by decide) h
  have hzy : y.toNat = z := by
    have : y = (z : Int) := by simpa using hz
    omega
  rw [hzy]
  refine ⟨ha, ?_⟩
  rw [ha, ← List.drop_drop]
  exact hs
/-! ### the document's -/
theorem tmod128 (b : Int) (h : 0 ≤ b) : Int.tmod b 128 = b % 128 := Int.tmod_eq_emod_of_nonneg h
set_option maxRecDepth 100000 in
theorem value_l0 (l : List Int) (hb : Bytes l) (hl : l.length ≤ 8) : ∀ (j : Nat), j ≤ l.length → Ev (fun k => fascicleref01_Value.l0 k (strOfNums l) (lev (l.drop j)) ((j : Int) - 1)) (lev l) := by
  intro j
  induction j with
  | zero =>
    intro _
    refine Ev.step (f := fun _ => some (lev l)) (fun k => ?_) (Ev.now _)
    simp only [fascicleref01_Value.l0]
    rw [if_neg (by omega)]
    rfl
  | succ j ih =>
    intro hj
    have hj1 : j < l.length := by omega
    refine Ev.step (fun k => ?_) (ih (by omega))
    simp only [fascicleref01_Value.l0]
    have hx := hb _ (List.getElem_mem hj1)
    have hd := List.drop_eq_getElem_cons hj1
    have hbd := lev_bound (l.drop (j + 1)) (hb.drop _)
    have hle : (256 : Int) ^ (l.drop (j + 1)).length ≤ 256 ^ 7 := by
      have := Nat.pow_le_pow_right (show 0 < 256 by decide) (show (l.drop (j + 1)).length ≤ 7 by rw [List.length_drop]; omega)
      exact_mod_cast this
    have h7 : (256 : Int) ^ 7 = 72057594037927936 := by decide
    rw [if_pos (by omega), if_pos (by omega), if_pos (by rw [nums_size]; omega), show (((j + 1 : Nat) : Int) - 1) = (j : Int) by omega, bt_nums l hb j hj1]
    rw [wu64 (x := lev (l.drop (j + 1)) * 256) (by omega) (by omega), wu64 (x := l[j]) (by omega) (by omega), wu64 (by omega) (by omega), w64 (by omega) (by omega), hd]
    congr 1
    show lev (l.drop (j + 1)) * 256 + l[j] = l[j] + 256 * lev (l.drop (j + 1))
    omega
theorem value_f (l : List Int) (hb : Bytes l) (hl : l.length ≤ 8) : Ev (fun k => fascicleref01_Value.f k (strOfNums l)) (lev l) := by
  have := value_l0 l hb hl l.length (Nat.le_refl _)
  refine Ev.congr (fun k => ?_) this
  unfold fascicleref01_Value.f
  rw [nums_size, w64 (by omega) (by omega), List.drop_length]
  rfl
theorem nums_nilE : (⟨#[]⟩ : ByteArray) = strOfNums [] := rfl
theorem take_none (s : List Int) (at_ n : Int) (hn : n ≤ 0) : Ev (fun k => fascicleref01_Take.f k (strOfNums s) at_ 0 n) (strOfNums s, at_, 0, strOfNums []) := by
  refine Ev.step (f := fun _ => some (strOfNums s, at_, 0, strOfNums [])) (fun k => ?_) (Ev.now _)
  unfold fascicleref01_Take.f
  rw [if_pos rfl, decide_eq_true hn]
  rfl
theorem take_short (s : List Int) (at_ n : Int) (hn : 0 < n) (hs : n > s.length) : Ev (fun k => fascicleref01_Take.f k (strOfNums s) at_ 0 n) (strOfNums s, at_, 2, strOfNums []) := by
  refine Ev.step (f := fun _ => some (strOfNums s, at_, 2, strOfNums [])) (fun k => ?_) (Ev.now _)
  unfold fascicleref01_Take.f
  rw [if_pos rfl, decide_eq_false (by omega)]
  simp only [fascicleref01_Take.j0]
  rw [if_neg (by decide), if_pos (by rw [nums_size]; omega)]
  rfl
theorem take_some (s : List Int) (at_ : Int) (n : Nat) (hn : 0 < n) (hs : n ≤ s.length) (h0 : 0 ≤ at_) (h1 : at_ + n ≤ 1000000000000000) : Ev (fun k => fascicleref01_Take.f k (strOfNums s) at_ 0 n) (strOfNums (s.drop n), at_ + n, 0, strOfNums (s.take n)) := by
  refine Ev.step (f := fun _ => some (strOfNums (s.drop n), at_ + n, 0, strOfNums (s.take n))) (fun k => ?_) (Ev.now _)
  unfold fascicleref01_Take.f
  rw [if_pos rfl, decide_eq_false (by omega)]
  simp only [fascicleref01_Take.j0]
  rw [if_neg (by decide), if_neg (by rw [nums_size]; omega), if_pos (by omega), if_pos (by rw [nums_size]; omega), w64 (by omega) (by omega), nums_size, nums_extract, nums_extract, Int.toNat_natCast, List.take_length, List.drop_zero]
theorem getn_short (s : List Int) (at_ n : Int) (hn : 0 < n) (hs : n > s.length) : Ev (fun k => fascicleref01_Get.f k (strOfNums s) at_ 0 n) (strOfNums s, at_, 2, 0) := by
  unfold fascicleref01_Get.f
  refine Ev.bind (take_short s at_ n hn hs) ?_
  exact Ev.bind (value_f [] Bytes.nil (by decide)) (Ev.now _)
theorem getn_some (s : List Int) (at_ : Int) (n : Nat) (hn : 0 < n) (hn8 : n ≤ 8) (hb : Bytes s) (hs : n ≤ s.length) (h0 : 0 ≤ at_) (h1 : at_ + n ≤ 1000000000000000) : Ev (fun k => fascicleref01_Get.f k (strOfNums s) at_ 0 n) (strOfNums (s.drop n), at_ + n, 0, lev (s.take n)) := by
  unfold fascicleref01_Get.f
  refine Ev.bind (take_some s at_ n hn hs h0 h1) ?_
  exact Ev.bind (value_f (s.take n) (hb.take _) (by rw [List.length_take]; omega)) (Ev.now _)

/-- The document's reader, where the reading of these bytes stands. -/
def refat (l : List Int) (r : Res Int) : ByteArray × Int × Int × Int :=
  match r with
  | .ok x a => (strOfNums (l.drop a), a, 0, x)
  | .bad e a => (strOfNums (l.drop a), a, e, 0)
theorem refget_l0 (l : List Int) (hb : Bytes l) (hl : l.length ≤ 1000000000000) : ∀ (k i : Nat) (a : Nat) (x : Int), i + k = 10 → a ≤ l.length → 0 ≤ x → x < 128 ^ i →
    Ev (fun n => fascicleref02_Get.l0 n x (IntKind.u64.wrap (128 ^ i)) (i : Int) (strOfNums (l.drop a)) (a : Int) 0) (refat l (vgo k i (l.drop a) x a)) := by
  intro k
  induction k with
  | zero =>
    intro i a x hi ha h0 h1
    refine Ev.step (f := fun _ => some (refat l (vgo 0 i (l.drop a) x a))) (fun n => ?_) (Ev.now _)
    simp only [fascicleref02_Get.l0]
    rw [if_neg (by omega)]
    rfl
  | succ k ih =>
    intro i a x hi ha h0 h1
    refine Ev.step (f := ?ff1) (fun n => ?hs1) ?ht1
    case hs1 =>
      simp only [fascicleref02_Get.l0]
      rw [if_pos (by omega)]
      try exact rfl
    by_cases hin : a < l.length
    case neg =>
      rw [List.drop_eq_nil_of_le (by omega)]
      refine Ev.bind (getn_short [] (a : Int) 1 (by decide) (by decide)) ?_
      refine Ev.congr (f := fun _ => some (refat l (.bad 2 a))) (fun n => ?_) (Ev.now _)
      dsimp only
      rw [if_neg (by decide), refat, List.drop_eq_nil_of_le (by omega)]
    have hdr := List.drop_eq_getElem_cons hin
    have hbb := hb _ (List.getElem_mem hin)
    have hget := getn_some (l.drop a) (a : Int) 1 (by decide) (by decide) (hb.drop _) (by rw [List.length_drop]; omega) (by omega) (by omega)
    rw [List.drop_drop] at hget
    have h1t : (l.drop a).take 1 = [l[a]] := by rw [hdr]; rfl
    rw [h1t, show lev [l[a]] = l[a] by simp [lev]] at hget
    have hget : Ev (fun k => fascicleref01_Get.f k (strOfNums (l.drop a)) (a : Int) 0 1) (strOfNums (l.drop (a + 1)), (a : Int) + 1, 0, l[a]) := hget
    refine Ev.bind hget ?_
    clear hget
    rw [hdr]
    generalize l[a] = b at *
    simp only [if_true]
    have h9p : (128 : Int) ^ 9 = 9223372036854775808 := by decide
    unfold vgo
    refine Ev.congr (f := fun n => fascicleref02_Get.j1 n x (IntKind.u64.wrap (128 ^ i)) (i : Int) b (i : Int) (decide (i = 9 ∧ 1 < b)) (strOfNums (l.drop (a + 1))) ((a : Int) + 1) 0) (fun n => ?_) ?_
    · by_cases h9 : i = 9
      · rw [if_pos (by omega)]
        congr 1
        exact decide_eq_decide.2 (by omega)
      · rw [if_neg (by omega), decide_eq_false (by omega)]
    by_cases c1 : i = 9 ∧ 1 < b
    · rw [if_pos c1, decide_eq_true c1]
      refine Ev.step (f := fun _ => some (refat l (.bad 3 (a + 1)))) (fun n => ?_) (Ev.now _)
      simp only [fascicleref02_Get.j1, if_true]
      rfl
    rw [if_neg c1, decide_eq_false c1]
    have hpw : (0 : Int) < 128 ^ i := Int.pow_pos (by decide)
    have hup : i < 9 → (128 : Int) ^ (i + 1) ≤ 128 ^ 9 := fun h => by
      have := Nat.pow_le_pow_right (show 0 < 128 by decide) (show i + 1 ≤ 9 by omega)
      exact_mod_cast this
    have hi9 : (128 : Int) ^ i ≤ 128 ^ 9 := by
      have := Nat.pow_le_pow_right (show 0 < 128 by decide) (show i ≤ 9 by omega)
      exact_mod_cast this
    have hp : (0 : Int) ≤ b % 128 * 128 ^ i := Int.mul_nonneg (by omega) (Int.le_of_lt hpw)
    have hp2 : b % 128 * 128 ^ i ≤ 127 * 128 ^ i := Int.mul_le_mul_of_nonneg_right (by omega) (Int.le_of_lt hpw)
    have hp3 : i = 9 → b % 128 * 128 ^ i ≤ 1 * 128 ^ i := fun h => Int.mul_le_mul_of_nonneg_right (by omega) (Int.le_of_lt hpw)
    rw [pow128] at hup
    have hw1 : IntKind.u64.wrap (128 ^ i) = 128 ^ i := wu64 (by omega) (by omega)
    have hw2 : IntKind.u64.wrap (b % 128 * 128 ^ i) = b % 128 * 128 ^ i := wu64 hp (by omega)
    have hw3 : IntKind.u64.wrap (x + b % 128 * 128 ^ i) = x + b % 128 * 128 ^ i := wu64 (by omega) (by omega)
    rw [hw1]
    refine Ev.step (f := ?ff2) (fun n => ?hs2) ?ht2
    case hs2 =>
      simp only [fascicleref02_Get.j1]
      rw [if_neg (by decide), tmod128 b (by omega), hw2, hw3]
      try exact rfl
    by_cases c2 : 128 ≤ b
    · rw [if_pos c2]
      simp only [ge_iff_le, if_pos c2]
      have := ih (i + 1) (a + 1) (x + (b - 128) * 128 ^ i) (by omega) (by omega) (by rw [show b - 128 = b % 128 by omega]; omega) (by rw [show b - 128 = b % 128 by omega, pow128]; omega)
      refine Ev.congr (fun n => ?_) this
      rw [w64 (by omega) (by omega), show b % 128 = b - 128 by omega, Int.pow_succ]
      rfl
    rw [if_neg c2]
    simp only [ge_iff_le, if_neg c2]
    by_cases c3 : b = 0 ∧ 0 < i
    · rw [if_pos c3]
      refine Ev.congr (f := fun _ => some (refat l (.bad 4 (a + 1)))) (fun n => ?_) (Ev.now _)
      rw [if_pos c3.1, if_pos (by omega)]
      rfl
    rw [if_neg c3]
    refine Ev.congr (f := fun _ => some (refat l (.ok (x + b * 128 ^ i) (a + 1)))) (fun n => ?_) (Ev.now _)
    rw [show b % 128 = b by omega]
    by_cases hb0 : b = 0
    · rw [if_pos hb0, if_neg (by omega)]
      rfl
    · rw [if_neg hb0]
      rfl
theorem refget_f (l : List Int) (a : Nat) (hb : Bytes l) (hl : l.length ≤ 1000000000000) (ha : a ≤ l.length) : Ev (fun n => fascicleref02_Get.f n (strOfNums (l.drop a)) (a : Int) 0) (refat l (vget l a)) := by
  have := refget_l0 l hb hl 10 0 a 0 (by decide) ha (by decide) (by decide)
  exact this

end Go.Proofs.Ytdpghobknhkikaa.Sep
