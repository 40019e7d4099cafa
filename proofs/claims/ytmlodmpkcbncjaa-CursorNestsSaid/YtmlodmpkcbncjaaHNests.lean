/- fasciclelaw01.CursorNests: its closures. -/
import Derived.Test.YtmlodmpkcbncjaaHRunForeign
set_option linter.unusedVariables false
set_option linter.unusedSimpArgs false
namespace Go.Proofs.Ytmlodmpkcbncjaa.G
open Go Go.RowKit Go.Proofs.YtmlodmpkcbncjaaW.PrintWords Go.Proofs.YtmlodmpkcbncjaaW.PrintLast Go.Proofs.YtmlodmpkcbncjaaW.PrintMore Go.Proofs.Ytmlodmpkcbncjaa.PureKit Go.Proofs.Ytmlodmpkcbncjaa.Sep

/-- Where a taking of so many bytes stands, and its error. -/
def tk (l : List Int) (n : Int) : Nat × Int := if n ≤ 0 then (0, 0) else if n ≤ l.length then (n.toNat, 0) else (0, 2)
theorem tk_cases (l : List Int) (n : Int) : (n ≤ 0 ∧ tk l n = (0, 0)) ∨ (0 < n ∧ n ≤ l.length ∧ tk l n = (n.toNat, 0)) ∨ (n > l.length ∧ tk l n = (0, 2)) := by
  unfold tk
  by_cases h : n ≤ 0
  · exact .inl ⟨h, if_pos h⟩
  · by_cases h2 : n ≤ l.length
    · exact .inr (.inl ⟨by omega, h2, by rw [if_neg h, if_pos h2]⟩)
    · exact .inr (.inr ⟨by omega, by rw [if_neg h, if_neg h2]⟩)
/-- A taking, at the bytes' begin. -/
theorem take_tk (w0 w : World) (g : Nat) (l : List Int) (ps : List HP) (n : Int) (hs : Sep.Sep w0 w (cur g l 0 true :: ps)) (hl : l.length ≤ 1000000000000) :
    Calls Try.prog 19 #[.pointer (some ⟨g, 0, none⟩), .int .i64 n] w fun e w' => Sep.Sep w0 w' (cur g l (tk l n).1 true :: ps) ∧ (((tk l n).2 = 0 ∧ ∃ v, e = .returned v) ∨ ((tk l n).2 = 2 ∧ e = .panicked [fault g 2])) := by
  rcases tk_cases l n with ⟨h, ht⟩ | ⟨h1, h2, ht⟩ | ⟨h, ht⟩
  · rw [ht]
    refine (cur_Take_none w0 w g 0 l ps n hs h).mono ?_
    rintro e w1 ⟨rfl, h1⟩
    exact ⟨h1, .inl ⟨rfl, _, rfl⟩⟩
  · rw [ht]
    refine (cur_Take_some w0 w g 0 l ps n.toNat n (by omega) hs (by omega) hl (by omega)).mono ?_
    rintro e w1 ⟨v, rfl, h3⟩
    have h4 := h3.tail
    rw [Nat.zero_add] at h4
    exact ⟨h4, .inl ⟨rfl, _, rfl⟩⟩
  · rw [ht]
    refine (cur_Take_short w0 w g 0 l ps n hs (by omega) (Nat.zero_le _) hl (by omega)).mono ?_
    rintro e w1 ⟨rfl, h1⟩
    exact ⟨h1, .inr ⟨rfl, rfl⟩⟩

set_option maxHeartbeats 4000000 in
theorem clos_inner (w0 w : World) (d gi gn gc : Nat) (lb : List Int) (n : Int) (vc : Value) (ps : List HP) (hs : Sep.Sep w0 w (cur d lb 0 true :: blk gi #[.bool true] 4 :: blk gn #[.int .i64 n] 3 :: ps)) (hl : lb.length ≤ 1000000000000) :
    Calls Try.prog 18 #[.pointer (some ⟨d, 0, none⟩), .pointer (some ⟨gi, 0, none⟩), .pointer (some ⟨gn, 0, none⟩), .pointer (some ⟨gc, 0, none⟩)] w fun e w2 =>
      Sep.Sep w0 w2 (cur d lb (tk lb n).1 true :: blk gi #[.bool true] 4 :: blk gn #[.int .i64 n] 3 :: ps) ∧ (((tk lb n).2 = 0 ∧ e = .returned (.tuple #[])) ∨ ((tk lb n).2 = 2 ∧ e = .panicked [fault d 2])) := by
  have hS := Aside0.mk hs
  have hi_0 : w.cell? ⟨gi, 0, none⟩ = some (.bool true) := ((hs.pick1).cell 0).trans rfl
  have hn_0 : w.cell? ⟨gn, 0, none⟩ = some (.int .i64 n) := ((hs.pick2).cell 0).trans rfl
  clear hs
  go_enter Try.func18, Try.ntmps18
  go_wp2_with (fail)
  refine (take_tk w0 _ d lb _ n hS.out hl).mono ?_
  rintro e w1 ⟨h1, (⟨ht, v, rfl⟩ | ⟨ht, rfl⟩)⟩
  · have h1A := Aside0.mk h1
    have htA := Aside0.mk ht
    clear h1 ht
    go_wp2
    go_end0
    exact ⟨h1A.out, .inl ⟨htA.out, rfl⟩⟩
  · exact ⟨rfl, h1, .inr ⟨ht, rfl⟩⟩

set_option maxHeartbeats 4000000 in
theorem clos_outer (w0 w : World) (d gi gn gc c : Nat) (la lb : List Int) (n : Int) (ps : List HP) (hs : Sep.Sep w0 w (cur d lb 0 true :: cur c la 0 true :: blk gi #[.bool false] 4 :: blk gn #[.int .i64 n] 3 :: blk gc #[.pointer (some ⟨c, 0, none⟩)] 27 :: ps)) (hl : la.length ≤ 1000000000000) :
    Calls Try.prog 18 #[.pointer (some ⟨d, 0, none⟩), .pointer (some ⟨gi, 0, none⟩), .pointer (some ⟨gn, 0, none⟩), .pointer (some ⟨gc, 0, none⟩)] w fun e w2 =>
      Sep.Sep w0 w2 (cur d lb 0 true :: cur c la (tk la n).1 true :: blk gi #[.bool false] 4 :: blk gn #[.int .i64 n] 3 :: blk gc #[.pointer (some ⟨c, 0, none⟩)] 27 :: ps) ∧ (((tk la n).2 = 0 ∧ e = .returned (.tuple #[])) ∨ ((tk la n).2 = 2 ∧ e = .panicked [fault c 2])) := by
  have hS := Aside0.mk hs.pick1
  have hi_0 : w.cell? ⟨gi, 0, none⟩ = some (.bool false) := ((hs.pick2).cell 0).trans rfl
  have hn_0 : w.cell? ⟨gn, 0, none⟩ = some (.int .i64 n) := ((hs.pick3).cell 0).trans rfl
  have hc_0 : w.cell? ⟨gc, 0, none⟩ = some (.pointer (some ⟨c, 0, none⟩)) := ((hs.pick4).cell 0).trans rfl
  clear hs
  go_enter Try.func18, Try.ntmps18
  go_wp2_with (fail)
  refine (take_tk w0 _ c la _ n hS.out hl).mono ?_
  rintro e w1 ⟨h1, (⟨ht, v, rfl⟩ | ⟨ht, rfl⟩)⟩
  · have h1A := Aside0.mk h1.put1
    have htA := Aside0.mk ht
    clear h1 ht
    go_wp2
    go_end0
    exact ⟨h1A.out, .inl ⟨htA.out, rfl⟩⟩
  · exact ⟨rfl, h1.put1, .inr ⟨ht, rfl⟩⟩

/-- The pieces of the outer reading's closure. -/
abbrev np (gb gi gn gin gbe : Nat) (A1 : Option Addr) (c1 : Nat) (lb : List Int) (inner : Bool) (n iv : Int) (be : Bool) : List HP :=
  [blk gb #[.slice A1 lb.length c1] 22, blk gi #[.bool inner] 4, blk gn #[.int .i64 n] 3, blk gin #[.int .i64 iv] 24, blk gbe #[.bool be] 4]

def nestpost (w0 : World) (c gb gi gn gin gbe : Nat) (la lb : List Int) (A1 : Option Addr) (c1 : Nat) (inner : Bool) (n : Int) (ps : List HP) (e : Ending) (w2 : World) : Prop :=
      if inner = true then e = .returned (.tuple #[]) ∧ Sep.Sep w0 w2 (cur c la 0 true :: (np gb gi gn gin gbe A1 c1 lb inner n (tk lb n).2 true ++ ps))
      else if (tk la n).2 = 0 then e = .returned (.tuple #[]) ∧ Sep.Sep w0 w2 (cur c la (tk la n).1 true :: (np gb gi gn gin gbe A1 c1 lb inner n 0 true ++ ps))
      else e = .panicked [fault c 2, { v := (fault c 2).v, recovered := true }] ∧ Sep.Sep w0 w2 (cur c la 0 true :: (np gb gi gn gin gbe A1 c1 lb inner n 0 false ++ ps))

set_option maxHeartbeats 4000000 in
set_option maxRecDepth 100000 in
theorem clos_nests (w0 w : World) (c gb gi gn gin gbe : Nat) (la lb : List Int) (A1 : Option Addr) (c1 : Nat) (inner : Bool) (n : Int) (ps : List HP)
    (hs : Sep.Sep w0 w (cur c la 0 true :: (np gb gi gn gin gbe A1 c1 lb inner n 0 false ++ ps))) (hr : Kd.C (Kd.int .u8) w0 A1 lb.length lb) (hc1 : lb.length ≤ c1) (hla : la.length ≤ 1000000000000) (hlb : lb.length ≤ 1000000000000) :
    Calls Try.prog 17 #[.pointer (some ⟨c, 0, none⟩), .pointer (some ⟨gb, 0, none⟩), .pointer (some ⟨gi, 0, none⟩), .pointer (some ⟨gn, 0, none⟩), .pointer (some ⟨gin, 0, none⟩), .pointer (some ⟨gbe, 0, none⟩)] w fun e w2 =>
      nestpost w0 c gb gi gn gin gbe la lb A1 c1 inner n ps e w2 := by
  have hS := Aside0.mk hs
  have HR := Aside0.mk hr
  clear hs hr
  have hmf : ∀ (fn : Fn) (first cap : Array Value) (w : World), (Instr.makeFunc fn first cap).run Try.prog w = .ok (.func fn first cap) w := fun _ _ _ _ => rfl
  have hent := Try.call18
  cases inner
  · by_cases ht : (tk la n).2 = 0
    · go_enter Try.func17, Try.ntmps17
      go_wp2_with (first | ((with_reducible refine gate_dst (N := 6) rfl ?_); refine Sep.box_event ?hg (N := 6) ?hd (cs := #[.pointer (some ⟨c, 0, none⟩)]) (t := 27) hS.out ?hr ?_; (case hd => rfl); (case hg => rfl); (case hr => first | (go_simp; done) | (go_simp; rfl)); intro g0 wb0 hsb0; have hcb0_0 : wb0.cell? ⟨g0, 0, none⟩ = some (.pointer (some ⟨c, 0, none⟩)) := ((hsb0).cell 0).trans rfl; have hSb0 := Aside0.mk hsb0; clear hsb0; have hq := hSb0.out; have hb_0 : wb0.cell? ⟨gb, 0, none⟩ = some (.slice A1 lb.length c1) := ((hq.pick2).cell 0).trans rfl; clear hq))
      refine (run_calls3 w0 _ A1 c1 lb 18 #[.pointer (some ⟨gi, 0, none⟩), .pointer (some ⟨gn, 0, none⟩), .pointer (some ⟨g0, 0, none⟩)] [cur c la 0 true, blk gi #[.bool false] 4, blk gn #[.int .i64 n] 3, blk g0 #[.pointer (some ⟨c, 0, none⟩)] 27] _
        (fun g at2 x qs => x = 0 ∧ qs = [cur c la (tk la n).1 true, blk gi #[.bool false] 4, blk gn #[.int .i64 n] 3, blk g0 #[.pointer (some ⟨c, 0, none⟩)] 27])
        hent hSb0.out.pick4.pick4.pick3 (Kd.C_below HR.out hSb0.out.1) hc1 hlb (fun w1 g ps' h1 => (clos_outer w0 w1 g gi gn g0 c la lb n ps' h1 hla).mono ?_)).mono ?_
      · rintro e w2 ⟨h2, (⟨_, rfl⟩ | ⟨hbad, _⟩)⟩
        · exact ⟨0, 0, _, ⟨rfl, rfl⟩, h2, .inl ⟨rfl, rfl⟩⟩
        · rw [ht] at hbad
          cases hbad
      rintro e w2 ⟨d, at2, x, qs, ⟨rfl, rfl⟩, rfl, h2⟩
      have h2 := h2.tail
      have htA := Aside0.mk ht
      have hin_0 : w2.cell? ⟨gin, 0, none⟩ = some (.int .i64 0) := ((h2.pick5).cell 0).trans rfl
      have hbe_0 : w2.cell? ⟨gbe, 0, none⟩ = some (.bool false) := ((h2.pick6).cell 0).trans rfl
      have hz5 := h2.pick5.frozen 0
      have hz6 := h2.pick6.frozen 0
      have hA := (h2.pick5.set 0 (.int .i64 0)).put5
      have hbe2 : (w2.setCell ⟨gin, 0, none⟩ (.int .i64 0)).cell? ⟨gbe, 0, none⟩ = some (.bool false) := ((hA.pick6).cell 0).trans rfl
      have hz62 := hA.pick6.frozen 0
      have h3 := (hA.pick6.set 0 (.bool true)).put6
      simp only [List.setIfInBounds_toArray, List.set_cons_zero] at h3
      have h3 := Aside0.mk h3.pick3.tail.pick3.put1
      clear h2 ht hA
      go_wp2
      go_end0
      unfold nestpost
      rw [if_neg (by decide), if_pos htA.out]
      exact ⟨rfl, h3.out⟩
    · have ht2 : (tk la n).2 = 2 := by
        rcases tk_cases la n with ⟨_, h⟩ | ⟨_, _, h⟩ | ⟨_, h⟩
        · rw [h] at ht; exact absurd rfl ht
        · rw [h] at ht; exact absurd rfl ht
        · rw [h]
      have ht1 : (tk la n).1 = 0 := by
        rcases tk_cases la n with ⟨_, h⟩ | ⟨_, _, h⟩ | ⟨_, h⟩
        · rw [h]
        · rw [h] at ht; exact absurd rfl ht
        · rw [h]
      go_enter Try.func17, Try.ntmps17
      go_wp2_with (first | ((with_reducible refine gate_dst (N := 6) rfl ?_); refine Sep.box_event ?hg (N := 6) ?hd (cs := #[.pointer (some ⟨c, 0, none⟩)]) (t := 27) hS.out ?hr ?_; (case hd => rfl); (case hg => rfl); (case hr => first | (go_simp; done) | (go_simp; rfl)); intro g0 wb0 hsb0; have hcb0_0 : wb0.cell? ⟨g0, 0, none⟩ = some (.pointer (some ⟨c, 0, none⟩)) := ((hsb0).cell 0).trans rfl; have hSb0 := Aside0.mk hsb0; clear hsb0; have hq := hSb0.out; have hb_0 : wb0.cell? ⟨gb, 0, none⟩ = some (.slice A1 lb.length c1) := ((hq.pick2).cell 0).trans rfl; clear hq))
      refine (run_foreign w0 _ A1 c1 lb 18 #[.pointer (some ⟨gi, 0, none⟩), .pointer (some ⟨gn, 0, none⟩), .pointer (some ⟨g0, 0, none⟩)] [blk gi #[.bool false] 4, blk gn #[.int .i64 n] 3, blk g0 #[.pointer (some ⟨c, 0, none⟩)] 27] _
        hent c 0 0 la 2 hSb0.out.pick4.pick4.pick3 (Kd.C_below HR.out hSb0.out.1) hc1 hlb (fun w1 g ps' h1 => (clos_outer w0 w1 g gi gn g0 c la lb n ps' h1 hla).mono ?_)).mono ?_
      · rintro e w2 ⟨h2, (⟨hbad, _⟩ | ⟨_, rfl⟩)⟩
        · exact absurd hbad ht
        · rw [ht1] at h2
          exact ⟨rfl, h2⟩
      rintro e w2 ⟨rfl, h2⟩
      refine ⟨rfl, ?_⟩
      show nestpost w0 c gb gi gn gin gbe la lb A1 c1 false n ps _ w2
      unfold nestpost
      rw [if_neg (by decide), if_neg ht]
      exact ⟨rfl, h2.pick3.tail.pick3.put1⟩
  · go_enter Try.func17, Try.ntmps17
    go_wp2_with (first | ((with_reducible refine gate_dst (N := 6) rfl ?_); refine Sep.box_event ?hg (N := 6) ?hd (cs := #[.pointer (some ⟨c, 0, none⟩)]) (t := 27) hS.out ?hr ?_; (case hd => rfl); (case hg => rfl); (case hr => first | (go_simp; done) | (go_simp; rfl)); intro g0 wb0 hsb0; have hcb0_0 : wb0.cell? ⟨g0, 0, none⟩ = some (.pointer (some ⟨c, 0, none⟩)) := ((hsb0).cell 0).trans rfl; have hSb0 := Aside0.mk hsb0; clear hsb0; have hq := hSb0.out; have hb_0 : wb0.cell? ⟨gb, 0, none⟩ = some (.slice A1 lb.length c1) := ((hq.pick2).cell 0).trans rfl; clear hq))
    refine (run_calls3 w0 _ A1 c1 lb 18 #[.pointer (some ⟨gi, 0, none⟩), .pointer (some ⟨gn, 0, none⟩), .pointer (some ⟨g0, 0, none⟩)] [blk gi #[.bool true] 4, blk gn #[.int .i64 n] 3] _
      (fun g at2 x qs => x = (tk lb n).2 ∧ qs = [blk gi #[.bool true] 4, blk gn #[.int .i64 n] 3])
      hent hSb0.out.pick4.pick4 (Kd.C_below HR.out hSb0.out.1) hc1 hlb (fun w1 g ps' h1 => (clos_inner w0 w1 g gi gn g0 lb n (.int .i64 0) ps' h1 hlb).mono ?_)).mono ?_
    · rintro e w2 ⟨h2, (⟨hh, rfl⟩ | ⟨hh, rfl⟩)⟩
      · exact ⟨_, _, _, ⟨rfl, rfl⟩, h2, .inl ⟨rfl, hh⟩⟩
      · exact ⟨_, _, _, ⟨rfl, rfl⟩, h2, .inr ⟨[], by rw [hh], rfl⟩⟩
    rintro e w2 ⟨d, at2, x, qs, ⟨rfl, rfl⟩, rfl, h2⟩
    have h2 := h2.tail
    obtain ⟨iv, hiv⟩ : ∃ iv, (tk lb n).2 = iv := ⟨_, rfl⟩
    rw [hiv]
    have hiv := Aside0.mk hiv
    have hin_0 : w2.cell? ⟨gin, 0, none⟩ = some (.int .i64 0) := ((h2.pick5).cell 0).trans rfl
    have hbe_0 : w2.cell? ⟨gbe, 0, none⟩ = some (.bool false) := ((h2.pick6).cell 0).trans rfl
    have hz5 := h2.pick5.frozen 0
    have hz6 := h2.pick6.frozen 0
    have hA := (h2.pick5.set 0 (.int .i64 iv)).put5
    have hbe2 : (w2.setCell ⟨gin, 0, none⟩ (.int .i64 iv)).cell? ⟨gbe, 0, none⟩ = some (.bool false) := ((hA.pick6).cell 0).trans rfl
    have hz62 := hA.pick6.frozen 0
    have h3 := (hA.pick6.set 0 (.bool true)).put6
    simp only [List.setIfInBounds_toArray, List.set_cons_zero] at h3
    have h3 := Aside0.mk (h3.pick2.tail.perm (List.perm_append_comm_assoc [_, _] [_, _] _))
    clear h2 hA
    go_wp2
    go_end0
    unfold nestpost
    rw [if_pos rfl, hiv.out]
    exact ⟨rfl, h3.out⟩

end Go.Proofs.Ytmlodmpkcbncjaa.G
