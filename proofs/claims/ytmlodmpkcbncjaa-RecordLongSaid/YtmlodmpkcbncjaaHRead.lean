/- record.Read: a record out of a body. -/
import Derived.Test.YtmlodmpkcbncjaaHGetText
import Derived.Test.YtmlodmpkcbncjaaHRun2
import Derived.Test.YtmlodmpkcbncjaaHRaw
set_option linter.unusedVariables false
set_option linter.unusedSimpArgs false
namespace Go.Proofs.Ytmlodmpkcbncjaa.Sep
open Go Go.RowKit Go.Proofs.YtmlodmpkcbncjaaW.PrintWords Go.Proofs.YtmlodmpkcbncjaaW.PrintLast Go.Proofs.YtmlodmpkcbncjaaW.PrintMore Go.Proofs.Ytmlodmpkcbncjaa.PureKit

theorem vtext_ok {l : List Int} {at_ lo hi : Nat} {s : ByteArray} {a2 : Nat} (hb : Bytes l) (hat : at_ ≤ l.length) (h : vtext l at_ lo hi = .ok s a2) : at_ ≤ a2 ∧ a2 ≤ l.length := by
  unfold vtext at h
  split at h
  · cases h
  · rename_i n a hv
    have := vget_ok hb hat hv
    split at h
    · cases h
    · split at h
      · cases h
      · split at h
        · cases h; omega
        · cases h
theorem vtext_bad {l : List Int} {at_ lo hi : Nat} {e : Int} {a2 : Nat} (hb : Bytes l) (hat : at_ ≤ l.length) (h : vtext l at_ lo hi = .bad e a2) : e ≠ 0 ∧ at_ ≤ a2 ∧ a2 ≤ l.length := by
  unfold vtext at h
  split at h
  · rename_i e' a' hv
    have := vget_bad hb hat hv
    cases h
    exact this
  · rename_i n a hv
    have := vget_ok hb hat hv
    split at h
    · cases h; exact ⟨by decide, this.2.2.1, this.2.2.2⟩
    · split at h
      · cases h; exact ⟨by decide, this.2.2.1, this.2.2.2⟩
      · split at h
        · cases h
        · cases h; exact ⟨by decide, this.2.2.1, this.2.2.2⟩

/-- A record, as a body's bytes tell it. -/
def rread2 (l : List Int) (d : Bool) (s : Int) (k v : ByteArray) (a : Nat) : Res (Bool × Int × ByteArray × ByteArray) :=
  if a < l.length then .bad 3 a else .ok (d, s, k, v) a
def rread1 (l : List Int) (d : Bool) (s : Int) (k : ByteArray) (a : Nat) : Res (Bool × Int × ByteArray × ByteArray) :=
  if d = true then rread2 l d s k ⟨#[]⟩ a else match vtext l a 0 1048576 with
    | .bad e a => .bad e a
    | .ok v a => rread2 l d s k v a
def rread (l : List Int) : Res (Bool × Int × ByteArray × ByteArray) :=
  match l with
  | [] => .bad 2 0
  | b :: _ => if b ≠ 2 ∧ b ≠ 3 then .bad 4 1 else match vget l 1 with
    | .bad e a => .bad e a
    | .ok s a => match vtext l a 1 4096 with
      | .bad e a => .bad e a
      | .ok k a => rread1 l (b == 3) s k a

def rpost (w0 : World) (g gr : Nat) (l : List Int) (ps : List HP) (r : Res (Bool × Int × ByteArray × ByteArray)) (e : Ending) (w2 : World) : Prop :=
  ∃ (at2 : Nat) (x : Int) (qs : List HP), (∃ d s k v, qs = [blk gr #[.bool d, .int .u64 s, .string k, .string v] 44] ∧ match r with | .ok y a => x = 0 ∧ at2 = a ∧ (d, s, k, v) = y | .bad er a => x = er ∧ at2 = a) ∧
    Sep w0 w2 (cur g l at2 true :: (qs ++ ps)) ∧ ((e = .returned (.tuple #[]) ∧ x = 0) ∨ e = .panicked [fault g x])

set_option maxHeartbeats 4000000 in
set_option maxRecDepth 100000 in
theorem record_Read1 (w0 w : World) (g gr : Nat) (l : List Int) (ps : List HP) (hs : Sep w0 w (cur g l 0 true :: blk gr #[.bool false, .int .u64 0, .string ⟨#[]⟩, .string ⟨#[]⟩] 44 :: ps)) (hb : Bytes l) (hl : l.length ≤ 1000000000000) :
    Calls Try.prog 72 #[.pointer (some ⟨g, 0, none⟩), .pointer (some ⟨gr, 0, none⟩)] w fun e w2 => rpost w0 g gr l ps (rread l) e w2 := by
  have hS := Aside0.mk hs
  clear hs
  have hu44 := Try.underlying44
  by_cases hl0 : l = []
  · subst hl0
    go_enter Try.func72, Try.ntmps72
    go_wp2_with (fail)
    refine (cur_Byte_short w0 _ g 0 [] _ hS.out hl rfl).mono ?_
    rintro e w1 ⟨rfl, h1⟩
    exact ⟨rfl, 0, 2, _, ⟨_, _, _, _, rfl, rfl, rfl⟩, h1, .inr rfl⟩
  obtain ⟨b, l', hll⟩ : ∃ b l', l = b :: l' := by
    rcases l with _ | ⟨b, l'⟩
    · exact absurd rfl hl0
    · exact ⟨b, l', rfl⟩
  have hbb : 0 ≤ b ∧ b ≤ 255 := by rw [hll] at hb; exact hb.head
  have hpos : 0 < l.length := by rw [hll]; simp
  have hget : l[0] = b := by subst hll; rfl
  have hv0 : rread l = if b ≠ 2 ∧ b ≠ 3 then .bad 4 1 else match vget l 1 with
    | .bad e a => .bad e a
    | .ok s a => match vtext l a 1 4096 with
      | .bad e a => .bad e a
      | .ok k a => rread1 l (b == 3) s k a := by rw [hll]; rfl
  clear hll hl0
  by_cases c1 : b ≠ 2 ∧ b ≠ 3
  · rw [if_pos c1] at hv0
    have hv := Aside0.mk hv0
    have hgetA := Aside0.mk hget
    clear hv0 hget
    have e2 : (b != 2) = true := bne_iff_ne.2 c1.1
    have e3 : (b != 3) = true := bne_iff_ne.2 c1.2
    go_enter Try.func72, Try.ntmps72
    go_wp2_with (first | ((with_reducible refine gate_callee (f := 33) rfl ?_); refine goesL_ (some 5) rfl rfl Try.func33 (by kernel_rfl) rfl #[.pointer (some ⟨g, 0, none⟩)] rfl (by (try simp only [List.map_toArray, List.map_cons, List.map_nil]); first | done | rfl) ?_; (with_reducible refine (cur_Byte_some w0 _ g 0 l _ hS.out hb hl hpos).mono ?_); rintro e w1 ⟨rfl, h1⟩; refine ⟨_, rfl, ?_⟩; rw [hgetA.out]; have hS1 := Aside0.mk h1; clear h1))
    refine (cur_Fail w0 _ g 1 l _ 4 hS1.out (by decide)).mono ?_
    rintro e w2 ⟨rfl, h2⟩
    refine ⟨rfl, 1, 4, _, ⟨_, _, _, _, rfl, ?_⟩, h2, .inr rfl⟩
    rw [hv.out]
    exact ⟨rfl, rfl⟩
  rw [if_neg c1] at hv0
  obtain ⟨d, hd⟩ : ∃ d, (b == 3) = d := ⟨_, rfl⟩
  rw [hd] at hv0
  have hv := Aside0.mk hv0
  have hgetA := Aside0.mk hget
  clear hv0 hget
  have e2 : (b != 2) = d := by
    cases d
    · have : b ≠ 3 := by simpa using hd
      have : b = 2 := by omega
      subst this
      rfl
    · have : b = 3 := by simpa using hd
      subst this
      rfl
  have e3 : (b != 3) = !d := by rw [← hd]; rfl
  clear c1
  cases d
  · go_enter Try.func72, Try.ntmps72
    go_wp2_with (fail)
    refine (cur_Byte_some w0 _ g 0 l _ hS.out hb hl hpos).mono ?_
    rintro e w1 ⟨rfl, h1⟩
    rw [hgetA.out]
    clear hS
    have hc1_0 : w1.cell? ⟨gr, 0, none⟩ = some (.bool false) := ((h1.pick1).cell 0).trans rfl; have hc1_1 : w1.cell? ⟨gr, 1, none⟩ = some (.int .u64 0) := ((h1.pick1).cell 1).trans rfl; have hc1_2 : w1.cell? ⟨gr, 2, none⟩ = some (.string ⟨#[]⟩) := ((h1.pick1).cell 2).trans rfl; have hc1_3 : w1.cell? ⟨gr, 3, none⟩ = some (.string ⟨#[]⟩) := ((h1.pick1).cell 3).trans rfl
    have hz1 := h1.pick1.frozen 0
    have hS1 : Sep w0 (w1.setCell ⟨gr, 0, none⟩ (.bool false)) (cur g l 1 true :: blk gr #[.bool false, .int .u64 0, .string ⟨#[]⟩, .string ⟨#[]⟩] 44 :: ps) := by
      have := (h1.pick1.set 0 (.bool false)).put1
      simpa using this
    have hS1A := Aside0.mk hS1
    clear h1 hS1
    go_wp2_with (fail)
    clear hc1_0 hc1_1 hc1_2 hc1_3 hz1
    refine (varint_Get w0 _ g 1 l _ hS1A.out hb (by omega) hl).mono ?_
    clear hS1A
    intro e w2 h2
    cases hg1 : vget l 1 with
    | bad er a =>
      rw [hg1] at h2
      obtain ⟨rfl, h2⟩ := h2
      refine ⟨rfl, a, er, _, ⟨_, _, _, _, rfl, ?_⟩, h2, .inr rfl⟩
      rw [hv.out, hg1]
      exact ⟨rfl, rfl⟩
    | ok s a =>
    have hok := vget_ok hb (by omega) hg1
    rw [hg1] at h2
    obtain ⟨rfl, h2⟩ := h2
    have hg1 := Aside0.mk hg1
    have hc2_0 : w2.cell? ⟨gr, 0, none⟩ = some (.bool false) := ((h2.pick1).cell 0).trans rfl; have hc2_1 : w2.cell? ⟨gr, 1, none⟩ = some (.int .u64 0) := ((h2.pick1).cell 1).trans rfl; have hc2_2 : w2.cell? ⟨gr, 2, none⟩ = some (.string ⟨#[]⟩) := ((h2.pick1).cell 2).trans rfl; have hc2_3 : w2.cell? ⟨gr, 3, none⟩ = some (.string ⟨#[]⟩) := ((h2.pick1).cell 3).trans rfl
    have hz2 := h2.pick1.frozen 1
    have hS2 : Sep w0 (w2.setCell ⟨gr, 1, none⟩ (.int .u64 s)) (cur g l a true :: blk gr #[.bool false, .int .u64 s, .string ⟨#[]⟩, .string ⟨#[]⟩] 44 :: ps) := by
      have := (h2.pick1.set 1 (.int .u64 s)).put1
      simpa using this
    have hS2A := Aside0.mk hS2
    clear h2 hS2
    go_wp2_with (fail)
    clear hc2_0 hc2_1 hc2_2 hc2_3 hz2
    refine (varint_GetText w0 _ g a l _ 1 4096 1 4096 rfl rfl hS2A.out hb hok.2.2.2 hl (by decide) (by decide)).mono ?_
    clear hS2A
    rintro e w3 ⟨ps1, hdrop, h3⟩
    cases hg2 : vtext l a 1 4096 with
    | bad er a2 =>
      rw [hg2] at h3
      obtain ⟨rfl, h3⟩ := h3
      have h3 := (h3.pickR0 ps1)
      refine ⟨rfl, a2, er, _, ⟨_, _, _, _, rfl, ?_⟩, h3, .inr rfl⟩
      rw [hv.out, hg1.out]
      simp [hg2]
    | ok k a2 =>
    have hok2 := vtext_ok hb hok.2.2.2 hg2
    rw [hg2] at h3
    obtain ⟨rfl, h3⟩ := h3
    have h3 := (h3.pickR0 ps1)
    clear hdrop
    have hg2 := Aside0.mk hg2
    have hc3_0 : w3.cell? ⟨gr, 0, none⟩ = some (.bool false) := ((h3.pick1).cell 0).trans rfl; have hc3_1 : w3.cell? ⟨gr, 1, none⟩ = some (.int .u64 s) := ((h3.pick1).cell 1).trans rfl; have hc3_2 : w3.cell? ⟨gr, 2, none⟩ = some (.string ⟨#[]⟩) := ((h3.pick1).cell 2).trans rfl; have hc3_3 : w3.cell? ⟨gr, 3, none⟩ = some (.string ⟨#[]⟩) := ((h3.pick1).cell 3).trans rfl
    have hz3 := h3.pick1.frozen 2
    have hS3 : Sep w0 (w3.setCell ⟨gr, 2, none⟩ (.string k)) (cur g l a2 true :: blk gr #[.bool false, .int .u64 s, .string k, .string ⟨#[]⟩] 44 :: ps) := by
      have := (h3.pick1.set 2 (.string k)).put1
      simpa using this
    have hc4 : (w3.setCell ⟨gr, 2, none⟩ (.string k)).cell? ⟨gr, 0, none⟩ = some (.bool false) := ((hS3.pick1).cell 0).trans rfl
    have hS3A := Aside0.mk hS3
    clear h3 hS3
    go_wp2_with (fail)
    clear hc3_0 hc3_1 hc3_2 hc3_3 hz3 hc4
    have hvr : rread l = rread1 l false s k a2 := by
      rw [hv.out, hg1.out]
      simp only [hg2.out]
    clear hg1 hg2
    generalize w3.setCell ⟨gr, 2, none⟩ (.string k) = w4 at hS3A ⊢
    refine (varint_GetText w0 _ g a2 l _ 0 1048576 0 1048576 rfl rfl hS3A.out hb hok2.2 hl (by decide) (by decide)).mono ?_
    clear hS3A
    rintro e w5 ⟨ps1, hdrop, h5⟩
    cases hg3 : vtext l a2 0 1048576 with
    | bad er a3 =>
      rw [hg3] at h5
      obtain ⟨rfl, h5⟩ := h5
      have h5 := (h5.pickR0 ps1)
      refine ⟨rfl, a3, er, _, ⟨_, _, _, _, rfl, ?_⟩, h5, .inr rfl⟩
      rw [hvr, rread1, if_neg (by decide), hg3]
      exact ⟨rfl, rfl⟩
    | ok v a3 =>
    have hok3 := vtext_ok hb hok2.2 hg3
    rw [hg3] at h5
    obtain ⟨rfl, h5⟩ := h5
    have h5 := (h5.pickR0 ps1)
    clear hdrop
    have hvr2 : rread l = rread2 l false s k v a3 := by
      rw [hvr, rread1, if_neg (by decide), hg3]
    clear hg3 hvr
    have hc5_0 : w5.cell? ⟨gr, 0, none⟩ = some (.bool false) := ((h5.pick1).cell 0).trans rfl; have hc5_1 : w5.cell? ⟨gr, 1, none⟩ = some (.int .u64 s) := ((h5.pick1).cell 1).trans rfl; have hc5_2 : w5.cell? ⟨gr, 2, none⟩ = some (.string k) := ((h5.pick1).cell 2).trans rfl; have hc5_3 : w5.cell? ⟨gr, 3, none⟩ = some (.string ⟨#[]⟩) := ((h5.pick1).cell 3).trans rfl
    have hz5 := h5.pick1.frozen 3
    have hS5 : Sep w0 (w5.setCell ⟨gr, 3, none⟩ (.string v)) (cur g l a3 true :: blk gr #[.bool false, .int .u64 s, .string k, .string v] 44 :: ps) := by
      have := (h5.pick1.set 3 (.string v)).put1
      simpa using this
    have hS5A := Aside0.mk hS5
    clear h5 hS5
    go_wp2_with (fail)
    generalize w5.setCell ⟨gr, 3, none⟩ (.string v) = w6 at hS5A ⊢
    by_cases hend : a3 < l.length
    · refine (cur_End_long w0 _ g a3 l _ hS5A.out hend hl).mono ?_
      rintro e w7 ⟨rfl, h7⟩
      refine ⟨rfl, a3, 3, _, ⟨_, _, _, _, rfl, ?_⟩, h7, .inr rfl⟩
      rw [hvr2, rread2, if_pos hend]
      exact ⟨rfl, rfl⟩
    · refine (cur_End_ok w0 _ g a3 l _ hS5A.out (by omega) hl).mono ?_
      rintro e w7 ⟨rfl, h7⟩
      have h7A := Aside0.mk h7
      clear h7
      go_wp2
      go_end0
      refine ⟨a3, 0, _, ⟨_, _, _, _, rfl, ?_⟩, h7A.out, .inl ⟨rfl, rfl⟩⟩
      rw [hvr2, rread2, if_neg hend]
      exact ⟨rfl, rfl, rfl⟩
  · go_enter Try.func72, Try.ntmps72
    go_wp2_with (fail)
    refine (cur_Byte_some w0 _ g 0 l _ hS.out hb hl hpos).mono ?_
    rintro e w1 ⟨rfl, h1⟩
    rw [hgetA.out]
    clear hS
    have hc1_0 : w1.cell? ⟨gr, 0, none⟩ = some (.bool false) := ((h1.pick1).cell 0).trans rfl; have hc1_1 : w1.cell? ⟨gr, 1, none⟩ = some (.int .u64 0) := ((h1.pick1).cell 1).trans rfl; have hc1_2 : w1.cell? ⟨gr, 2, none⟩ = some (.string ⟨#[]⟩) := ((h1.pick1).cell 2).trans rfl; have hc1_3 : w1.cell? ⟨gr, 3, none⟩ = some (.string ⟨#[]⟩) := ((h1.pick1).cell 3).trans rfl
    have hz1 := h1.pick1.frozen 0
    have hS1 : Sep w0 (w1.setCell ⟨gr, 0, none⟩ (.bool true)) (cur g l 1 true :: blk gr #[.bool true, .int .u64 0, .string ⟨#[]⟩, .string ⟨#[]⟩] 44 :: ps) := by
      have := (h1.pick1.set 0 (.bool true)).put1
      simpa using this
    have hS1A := Aside0.mk hS1
    clear h1 hS1
    go_wp2_with (fail)
    clear hc1_0 hc1_1 hc1_2 hc1_3 hz1
    refine (varint_Get w0 _ g 1 l _ hS1A.out hb (by omega) hl).mono ?_
    clear hS1A
    intro e w2 h2
    cases hg1 : vget l 1 with
    | bad er a =>
      rw [hg1] at h2
      obtain ⟨rfl, h2⟩ := h2
      refine ⟨rfl, a, er, _, ⟨_, _, _, _, rfl, ?_⟩, h2, .inr rfl⟩
      rw [hv.out, hg1]
      exact ⟨rfl, rfl⟩
    | ok s a =>
    have hok := vget_ok hb (by omega) hg1
    rw [hg1] at h2
    obtain ⟨rfl, h2⟩ := h2
    have hg1 := Aside0.mk hg1
    have hc2_0 : w2.cell? ⟨gr, 0, none⟩ = some (.bool true) := ((h2.pick1).cell 0).trans rfl; have hc2_1 : w2.cell? ⟨gr, 1, none⟩ = some (.int .u64 0) := ((h2.pick1).cell 1).trans rfl; have hc2_2 : w2.cell? ⟨gr, 2, none⟩ = some (.string ⟨#[]⟩) := ((h2.pick1).cell 2).trans rfl; have hc2_3 : w2.cell? ⟨gr, 3, none⟩ = some (.string ⟨#[]⟩) := ((h2.pick1).cell 3).trans rfl
    have hz2 := h2.pick1.frozen 1
    have hS2 : Sep w0 (w2.setCell ⟨gr, 1, none⟩ (.int .u64 s)) (cur g l a true :: blk gr #[.bool true, .int .u64 s, .string ⟨#[]⟩, .string ⟨#[]⟩] 44 :: ps) := by
      have := (h2.pick1.set 1 (.int .u64 s)).put1
      simpa using this
    have hS2A := Aside0.mk hS2
    clear h2 hS2
    go_wp2_with (fail)
    clear hc2_0 hc2_1 hc2_2 hc2_3 hz2
    refine (varint_GetText w0 _ g a l _ 1 4096 1 4096 rfl rfl hS2A.out hb hok.2.2.2 hl (by decide) (by decide)).mono ?_
    clear hS2A
    rintro e w3 ⟨ps1, hdrop, h3⟩
    cases hg2 : vtext l a 1 4096 with
    | bad er a2 =>
      rw [hg2] at h3
      obtain ⟨rfl, h3⟩ := h3
      have h3 := (h3.pickR0 ps1)
      refine ⟨rfl, a2, er, _, ⟨_, _, _, _, rfl, ?_⟩, h3, .inr rfl⟩
      rw [hv.out, hg1.out]
      simp [hg2]
    | ok k a2 =>
    have hok2 := vtext_ok hb hok.2.2.2 hg2
    rw [hg2] at h3
    obtain ⟨rfl, h3⟩ := h3
    have h3 := (h3.pickR0 ps1)
    clear hdrop
    have hg2 := Aside0.mk hg2
    have hc3_0 : w3.cell? ⟨gr, 0, none⟩ = some (.bool true) := ((h3.pick1).cell 0).trans rfl; have hc3_1 : w3.cell? ⟨gr, 1, none⟩ = some (.int .u64 s) := ((h3.pick1).cell 1).trans rfl; have hc3_2 : w3.cell? ⟨gr, 2, none⟩ = some (.string ⟨#[]⟩) := ((h3.pick1).cell 2).trans rfl; have hc3_3 : w3.cell? ⟨gr, 3, none⟩ = some (.string ⟨#[]⟩) := ((h3.pick1).cell 3).trans rfl
    have hz3 := h3.pick1.frozen 2
    have hS3 : Sep w0 (w3.setCell ⟨gr, 2, none⟩ (.string k)) (cur g l a2 true :: blk gr #[.bool true, .int .u64 s, .string k, .string ⟨#[]⟩] 44 :: ps) := by
      have := (h3.pick1.set 2 (.string k)).put1
      simpa using this
    have hc4 : (w3.setCell ⟨gr, 2, none⟩ (.string k)).cell? ⟨gr, 0, none⟩ = some (.bool true) := ((hS3.pick1).cell 0).trans rfl
    have hS3A := Aside0.mk hS3
    clear h3 hS3
    go_wp2_with (fail)
    clear hc3_0 hc3_1 hc3_2 hc3_3 hz3 hc4
    have hvr : rread l = rread1 l true s k a2 := by
      rw [hv.out, hg1.out]
      simp only [hg2.out]
    clear hg1 hg2
    generalize w3.setCell ⟨gr, 2, none⟩ (.string k) = w4 at hS3A ⊢
    have hvr2 : rread l = rread2 l true s k ⟨#[]⟩ a2 := by
      rw [hvr, rread1, if_pos rfl]
    clear hvr
    by_cases hend : a2 < l.length
    · refine (cur_End_long w0 _ g a2 l _ hS3A.out hend hl).mono ?_
      rintro e w7 ⟨rfl, h7⟩
      refine ⟨rfl, a2, 3, _, ⟨_, _, _, _, rfl, ?_⟩, h7, .inr rfl⟩
      rw [hvr2, rread2, if_pos hend]
      exact ⟨rfl, rfl⟩
    · refine (cur_End_ok w0 _ g a2 l _ hS3A.out (by omega) hl).mono ?_
      rintro e w7 ⟨rfl, h7⟩
      have h7A := Aside0.mk h7
      clear h7
      go_wp2
      go_end0
      refine ⟨a2, 0, _, ⟨_, _, _, _, rfl, ?_⟩, h7A.out, .inl ⟨rfl, rfl⟩⟩
      rw [hvr2, rread2, if_neg hend]
      exact ⟨rfl, rfl, rfl⟩

end Go.Proofs.Ytmlodmpkcbncjaa.Sep
namespace Go.Proofs.Ytmlodmpkcbncjaa.G
open Go Go.RowKit Go.Proofs.YtmlodmpkcbncjaaW.PrintWords Go.Proofs.YtmlodmpkcbncjaaW.PrintLast Go.Proofs.YtmlodmpkcbncjaaW.PrintMore Go.Proofs.Ytmlodmpkcbncjaa.PureKit Go.Proofs.Ytmlodmpkcbncjaa.Sep

def bytesb (l : List Int) : Bool := l.all fun x => decide (0 ≤ x ∧ x ≤ 255)
theorem bytesb_iff (l : List Int) : bytesb l = true ↔ Bytes l := by
  unfold bytesb
  rw [List.all_eq_true]
  exact ⟨fun h x hx => of_decide_eq_true (h x hx), fun h x hx => decide_eq_true (h x hx)⟩
def rout (r : Res (Bool × Int × ByteArray × ByteArray)) : Bool × Int × ByteArray × ByteArray × Int :=
  match r with
  | .ok (d, s, k, v) _ => (d, s, k, v, 0)
  | .bad e _ => (false, 0, ⟨#[]⟩, ⟨#[]⟩, e)
def record_Read.f (l0 : List Int) : Option (Bool × Int × ByteArray × ByteArray × Int) := if bytesb l0 = true ∧ l0.length ≤ 1000000000000 then some (rout (rread l0)) else none

theorem rread_bad {l : List Int} {e : Int} {a : Nat} (hb : Bytes l) (h : rread l = .bad e a) : e ≠ 0 := by
  rcases l with _ | ⟨b, l'⟩
  · cases h; decide
  have hpos : 1 ≤ (b :: l').length := by simp
  generalize hll : b :: l' = l at *
  have hv0 : rread l = if b ≠ 2 ∧ b ≠ 3 then .bad 4 1 else match vget l 1 with
    | .bad e a => .bad e a
    | .ok s a => match vtext l a 1 4096 with
      | .bad e a => .bad e a
      | .ok k a => rread1 l (b == 3) s k a := by rw [← hll]; rfl
  rw [hv0] at h
  have h2 : ∀ d s k v a, rread2 l d s k v a = .bad e a → e ≠ 0 := fun d s k v a h => by
    unfold rread2 at h
    split at h
    · cases h; decide
    · cases h
  have h2' : ∀ d s k v a a', rread2 l d s k v a = .bad e a' → e ≠ 0 := fun d s k v a a' h => by
    unfold rread2 at h
    split at h
    · cases h; decide
    · cases h
  split at h
  · cases h; decide
  cases hg1 : vget l 1 with
  | bad er a1 => rw [hg1] at h; cases h; exact (vget_bad hb hpos hg1).1
  | ok s a1 =>
  have hok := vget_ok hb hpos hg1
  rw [hg1] at h
  simp only [] at h
  cases hg2 : vtext l a1 1 4096 with
  | bad er a2 => rw [hg2] at h; cases h; exact (vtext_bad hb hok.2.2.2 hg2).1
  | ok k a2 =>
  have hok2 := vtext_ok hb hok.2.2.2 hg2
  rw [hg2] at h
  simp only [] at h
  unfold rread1 at h
  split at h
  · exact h2' _ _ _ _ _ _ h
  cases hg3 : vtext l a2 0 1048576 with
  | bad er a3 => rw [hg3] at h; cases h; exact (vtext_bad hb hok2.2 hg3).1
  | ok v a3 => rw [hg3] at h; exact h2' _ _ _ _ _ _ h

set_option maxHeartbeats 4000000 in
set_option maxRecDepth 100000 in
theorem record_Read.calls (A0 : Option Addr) (c0 : Nat) (l0 : List Int) (r1 : Bool) (r2 : Int) (r3 r4 : ByteArray) (r5 : Int) (w : World) (hr0 : Kd.C (Kd.int .u8) w A0 l0.length l0) (hc0 : l0.length ≤ c0) (h : record_Read.f l0 = some (r1, r2, r3, r4, r5)) :
    Calls Try.prog 46 #[.slice A0 l0.length c0] w fun e w' => e = .returned (.tuple #[.agg #[.bool r1, .int .u64 r2, .string r3, .string r4], .int .i64 r5]) ∧ Below w.heap.size w w' := by
  have hu44 := Try.underlying44
  obtain ⟨hb, hl, hro⟩ : Bytes l0 ∧ l0.length ≤ 1000000000000 ∧ rout (rread l0) = (r1, r2, r3, r4, r5) := by
    unfold record_Read.f at h
    split at h
    · rename_i hh
      exact ⟨(bytesb_iff l0).1 hh.1, hh.2, Option.some.inj h⟩
    · cases h
  clear h
  have hsz : ∀ (W : World) (o : Obj), (W.alloc o).heap.size = W.heap.size + 1 := fun W o => by show (W.heap.push _).size = _; simp
  have hS := ((Sep.start w).alloc #[.bool false, .int .u64 0, .string ⟨#[]⟩, .string ⟨#[]⟩] 44).alloc #[.bool false, .int .u64 0, .string ⟨#[]⟩, .string ⟨#[]⟩] 44
  rw [hsz] at hS
  have hS := Aside0.mk hS
  have hR := Aside0.mk hr0
  clear hr0
  have hmf : ∀ (fn : Fn) (first cap : Array Value) (w : World), (Instr.makeFunc fn first cap).run Try.prog w = .ok (.func fn first cap) w := fun _ _ _ _ => rfl
  go_enter Try.func46, Try.ntmps46
  go_wp2_with (fail)
  refine (run_calls w _ A0 c0 l0 72 #[.pointer (some ⟨w.heap.size + 1, 0, none⟩)] [blk (w.heap.size + 1) #[.bool false, .int .u64 0, .string ⟨#[]⟩, .string ⟨#[]⟩] 44] [blk w.heap.size #[.bool false, .int .u64 0, .string ⟨#[]⟩, .string ⟨#[]⟩] 44]
    (fun at2 x qs => ∃ d s k v, qs = [blk (w.heap.size + 1) #[.bool d, .int .u64 s, .string k, .string v] 44] ∧ match rread l0 with | .ok y a => x = 0 ∧ at2 = a ∧ (d, s, k, v) = y | .bad er a => x = er ∧ at2 = a)
    Try.call72 hS.out (Kd.C_alloc (Kd.C_alloc hR.out _) _) hc0 hl (fun w1 g ps' h1 => record_Read1 w w1 g (w.heap.size + 1) l0 ps' h1 hb hl)).mono ?_
  rintro e w2 ⟨at2, x, qs, ⟨d, s, k, v, rfl, hm⟩, rfl, h2⟩
  have h2A := Aside0.mk h2
  have hc2_0 : w2.cell? ⟨(w.heap.size + 1), 0, none⟩ = some (.bool d) := ((h2).cell 0).trans rfl; have hc2_1 : w2.cell? ⟨(w.heap.size + 1), 1, none⟩ = some (.int .u64 s) := ((h2).cell 1).trans rfl; have hc2_2 : w2.cell? ⟨(w.heap.size + 1), 2, none⟩ = some (.string k) := ((h2).cell 2).trans rfl; have hc2_3 : w2.cell? ⟨(w.heap.size + 1), 3, none⟩ = some (.string v) := ((h2).cell 3).trans rfl
  have hd2_0 : w2.cell? ⟨w.heap.size, 0, none⟩ = some (.bool false) := ((h2.pick1).cell 0).trans rfl; have hd2_1 : w2.cell? ⟨w.heap.size, 1, none⟩ = some (.int .u64 0) := ((h2.pick1).cell 1).trans rfl; have hd2_2 : w2.cell? ⟨w.heap.size, 2, none⟩ = some (.string ⟨#[]⟩) := ((h2.pick1).cell 2).trans rfl; have hd2_3 : w2.cell? ⟨w.heap.size, 3, none⟩ = some (.string ⟨#[]⟩) := ((h2.pick1).cell 3).trans rfl
  have hz0 := h2.pick1.frozen 0
  have hz1 := h2.pick1.frozen 1
  have hz2 := h2.pick1.frozen 2
  have hz3 := h2.pick1.frozen 3
  clear h2 hS hR
  cases hrr : rread l0 with
  | bad er a =>
    rw [hrr] at hm hro
    obtain ⟨rfl, rfl⟩ := hm
    have hx := rread_bad hb hrr
    have e1 : (x != 0) = true := bne_iff_ne.2 hx
    clear hrr
    go_wp2
    have h3 := ((((h2A.out.pick1.set 0 (.bool false)).set 1 (.int .u64 0)).set 2 (.string ⟨#[]⟩)).set 3 (.string ⟨#[]⟩))
    simp only [List.setIfInBounds_toArray, List.set_cons_zero, List.set_cons_succ] at h3
    try simp only [Exit.inBlock, Exit.then]
    refine bodyPost_ret (results_ct (P := Try.prog) Try.results46 _ _ w.heap.size 44 _ (0, 0) _ rfl h3.blk_at.1 hu44 rfl (by kernel_rfl)) rfl ?_
    refine ⟨?_, h3.1⟩
    cases hro
    rfl
  | ok y a =>
    rw [hrr] at hm hro
    obtain ⟨rfl, rfl, rfl⟩ := hm
    clear hrr
    go_wp2
    have h3 := ((((h2A.out.pick1.set 0 (.bool d)).set 1 (.int .u64 s)).set 2 (.string k)).set 3 (.string v))
    simp only [List.setIfInBounds_toArray, List.set_cons_zero, List.set_cons_succ] at h3
    try simp only [Exit.inBlock, Exit.then]
    refine bodyPost_ret (results_ct (P := Try.prog) Try.results46 _ _ w.heap.size 44 _ (0, 0) _ rfl h3.blk_at.1 hu44 rfl (by kernel_rfl)) rfl ?_
    refine ⟨?_, h3.1⟩
    cases hro
    rfl

end Go.Proofs.Ytmlodmpkcbncjaa.G
