/- fasciclelaw04.WideParts, walked. -/
import Derived.Test.YtfeaalfajcdalaaHLives04
import Derived.Test.YtfeaalfajcdalaaLRef04
import Derived.Test.YtfeaalfajcdalaaHRowBlk
set_option linter.unusedVariables false
set_option linter.unusedSimpArgs false
namespace Go.Proofs.Ytfeaalfajcdalaa.G
open Go Go.RowKit Go.Proofs.YtfeaalfajcdalaaW.PrintWords Go.Proofs.YtfeaalfajcdalaaW.PrintLast Go.Proofs.YtfeaalfajcdalaaW.PrintMore Go.Proofs.Ytfeaalfajcdalaa.PureKit Go.Proofs.Ytfeaalfajcdalaa.Sep Go.Proofs.Ytfeaalfajcdalaa.Rol

/-- A row in a row of rows. -/
theorem at_rows {w : World} {e n : Nat} {A : Option Addr} {xs : List (List Int)} {i : Nat} {x : List Int} (h : Kd.C (Kd.slice e (Kd.int .u8)) w A n xs) (hx : xs[i]? = some x) :
    ∃ (ad : Addr) (A' : Option Addr) (c' : Nat), A = some ad ∧ w.cell? (ad.add i) = some (.slice A' x.length c') ∧ x.length ≤ c' ∧ Kd.C (Kd.int .u8) w A' x.length x := by
  obtain ⟨hl, _, hr⟩ := h
  have hi := (List.getElem?_eq_some_iff.1 hx).1
  obtain ⟨ad, rfl, hk⟩ := hr (by omega)
  obtain ⟨cs, _, ⟨A', c', rfl, hc, hC⟩, hcell⟩ := hk i x hx
  refine ⟨ad, A', c', rfl, ?_, hc, hC⟩
  have := hcell 0 _ rfl
  rw [show i * (Kd.slice e (Kd.int .u8)).sz + 0 = i from by show i * 1 + 0 = i; omega] at this
  exact this

set_option maxHeartbeats 4000000 in
theorem wide_len (w0 w : World) (g s : Nat) (a : List Int) (ps : List HP) (hs : Sep.Sep w0 w (wst g s a :: ps)) :
    Calls Try.prog 32 #[.pointer (some ⟨g, 0, none⟩)] w fun e w' => e = .returned (.int .u64 (a.length : Int)) ∧ Below w.heap.size w w' := by
  obtain ⟨v, hO⟩ := wst_open hs
  have hc : w.cell? ⟨g, 6, none⟩ = some (.int .u64 (a.length : Int)) := (hO.cell 6).trans (wcells_rest _ _ _ _ (wvs_len s a)).2
  clear hO hs
  go_enter Try.func32, Try.ntmps32
  go_wp2
  go_ret
  exact ⟨rfl, Below.refl _ _⟩

set_option maxHeartbeats 8000000 in
set_option maxRecDepth 100000 in
theorem wide_parts (w : World) (A : Option Addr) (c : Nat) (l : List (List Int)) (s : Nat) (hC : Kd.C (Kd.slice 42 (Kd.int .u8)) w A l.length l) (hc : l.length ≤ c) (hb : ∀ b ∈ l, Bytes b) (hs : s < 18446744073709551616) (hl : l.length ≤ 16) :
    Calls Try.prog 11 #[.int .u64 (s : Int), .slice A l.length c] w fun e w' => e = .returned (.bool true) ∧ Below w.heap.size w w' := by
  have hCA := Aside0.mk hC
  have hcA := Aside0.mk hc
  have hlA := Aside0.mk hl
  have hd16 : decide ((l.length : Int) > 16) = false := decide_eq_false (by omega)
  clear hC hc hl
  go_enter Try.func11, Try.ntmps11
  go_wp2_with (fail)
  refine (fasciclelaw04_lives.calls true _ lives04).mono ?_
  rintro e w1 ⟨rfl, hb1⟩
  have hS1 := Aside0.mk ((Sep.start w).below hb1)
  clear hb1
  go_wp2_with (fail)
  refine (wide_new w w1 [] s _ rfl hS1.out hs).mono ?_
  rintro e w2 ⟨g, rfl, hS2⟩
  have hS2 := Aside0.mk hS2
  go_wp2_with (fail)
  go_loopg [6, 24] l.length (fun kq v6 v24 w' => ∃ (i : Nat), v6 = .string (strOfNums (l.take i).flatten) ∧ v24 = .int .i64 i ∧ Aside0 (i + kq = l.length ∧ (l.take i).flatten.length ≤ 100 * i ∧ Bytes (l.take i).flatten) ∧ Aside0 (Sep.Sep w w' [wst g s (l.take i).flatten]))
  case atStart => exact ⟨0, rfl, rfl, ⟨by omega, by simp, by simp; exact Bytes.nil⟩, ⟨hS2.out⟩⟩
  case round =>
    obtain ⟨i, rfl, rfl, hA, hS⟩ := hrel
    by_cases hin : i < l.length
    · have hd2 : decide ((i : Int) < (l.length : Int)) = true := decide_eq_true (by omega)
      obtain ⟨k1, rfl⟩ : ∃ k1, gk = k1 + 1 := ⟨gk - 1, by have := hA.out; omega⟩
      obtain ⟨b, hbi⟩ : ∃ b, l[i]? = some b := ⟨_, List.getElem?_eq_getElem hin⟩
      have hbb := hb b (List.mem_of_getElem? hbi)
      have hnext : l.take (i + 1) = l.take i ++ [b] := by rw [List.take_add_one, hbi]; rfl
      obtain ⟨ad, A5, c5, e0, hcell0, hc5, hC5⟩ := at_rows hCA.out hbi
      cases e0
      have hcell := (hS.out.1.cell (World.block_lt_of_cell? w _ hcell0)).trans hcell0
      clear hcell0
      have hC5 := Aside0.mk hC5
      have hc5 := Aside0.mk hc5
      have p0 : ((0 : Int) ≤ (i : Int)) = True := eq_true (by omega)
      have q0 : ((i : Int) < (l.length : Int)) = True := eq_true (by omega)
      have hnA := Aside0.mk hnext
      clear hnext
      by_cases h100 : 100 < b.length
      · have hd : decide ((b.length : Int) > 100) = true := decide_eq_true (by omega)
        go_wp2_with (fail)
        go_ret
        exact ⟨rfl, hS.out.1⟩
      · have hd : decide ((b.length : Int) > 100) = false := decide_eq_false (by omega)
        go_upto_region 11 with (first | ((with_reducible refine gate_dst (N := 31) rfl ?_); refine Kd.R_lit (Kd.int .u8) _ 5 ?hg (N := 31) ?hd (xs := ([] : List Int)) (inner := []) (ok := fun _ => True) (okp := fun _ => True) ?hr ?hp (fun _ hk => hk) trivial (Below.refl _ _) (Nat.le_refl _) (by simp) ?_; (case hd => rfl); (case hg => rfl); (case hr => first | (go_simp; done) | (go_simp; rfl)); (case hp => exact (Reps.none _ _)); intro v31 w5 ho5 hb5 hg_ hnew_; clear hg_ hnew_; have ho5 := Aside0.mk ho5; have hb5 := Aside0.mk hb5) | ((with_reducible refine gate_builtin (b := .append) (xs := #[.tmp 31, .tmp 32]) rfl ?_); at_builtin; refine Kd.R_append_rows (Kd.int .u8) (w0 := wr) wr.heap.size rfl (.tmp 31) (.tmp 32) 42 5 (.int .u8 0) 1 rfl Try.underlying42 winfo8 rfl (by decide) (by omega) v31 [] b _ _ _ (fun _ => True) (fun _ => False) rfl rfl ?aO ?aR (fun _ _ h => h) (fun _ h => h.elim) ?aF ?aB ?aS ?aL ?_; (case aO => exact ho5.out); (case aR => exact Kd.C_below (Kd.C_below hC5.out hS.out.1) hb5.out); (case aF => exact (fun _ _ => trivial)); (case aB => exact hb5.out); (case aS => exact hb5.out.size); (case aL => simp; omega); intro v9 w9 ho9 hb9 hg9 hat9; rw [List.nil_append] at ho9; obtain ⟨A9, c9, e9⟩ := Kd.R_slice ho9; subst e9; have hS9 := Aside0.mk ((Sep.row_new hS.out hb9 ho9).perm (List.Perm.swap _ _ _)); have hr9 := Aside0.mk (Kd.R_reads' ho9); have hB9 := Aside0.mk hb9; clear ho9 hb9 hg9 hat9))
        obtain ⟨al, hale⟩ : ∃ al, (l.take i).flatten = al := ⟨_, rfl⟩
        rw [hale] at hS9 hA ⊢
        have halA := Aside0.mk hale
        have hal : Aside0 (al.length ≤ 1600) := ⟨by have := hA.out.2.1; have := hlA.out; omega⟩
        have hbl : Aside0 (b.length ≤ 100) := ⟨by omega⟩
        have hab : Aside0 (Bytes (al ++ b)) := ⟨fun y hy => by
          rcases List.mem_append.1 hy with h | h
          · exact hA.out.2.2 y h
          · exact hbb y h⟩
        obtain ⟨k, hk⟩ := (ref4_ev (s : Int) (al ++ b) (by omega) (by omega) hab.out (by have := hal.out; have := hbl.out; rw [List.length_append]; omega)).rounds
        rw [Int.toNat_natCast] at hk
        have hkA := Aside0.mk hk
        clear hale hk hd h100
        go_wp2_with (fail)
        refine (wide_write w w9 g s al b [row (Kd.int .u8) 5 (.slice A9 b.length c9) b] A9 c9 b.length rfl hS9.out (fun w' h _ => (Kd.R_reads' h.row_R.choose_spec).2.2) hr9.out.2.1 hA.out.2.2 hbb hs (by have := hal.out; omega) (by have := hbl.out; omega)).mono ?_
        rintro e w10 ⟨rfl, hS10⟩
        have hS10 := Aside0.mk hS10
        go_wp2_with (fail)
        by_cases hbe : b = []
        · have hb0 : b.length = 0 := by rw [hbe]; rfl
          have hb0A := Aside0.mk hb0
          clear hbe
          go_loopg [39] 0 (fun kq v39 w' => v39 = .int .i64 0 ∧ Aside0 (Sep.Sep w w' (wst g s (al ++ b) :: [row (Kd.int .u8) 5 (.slice A9 b.length c9) b])))
          case atStart => exact ⟨rfl, hS10⟩
          case round =>
            obtain ⟨rfl, hS11⟩ := hrel
            have hdz : decide ((0 : Int) < (b.length : Int)) = false := decide_eq_false (by omega)
            have hdz2 : (0 < b.length) = False := eq_false (by omega)
            have hdz4 : decide (0 < b.length) = false := decide_eq_false (by omega)
            clear hb0
            go_upto_region 17 with (fail)
            clear hdz hdz2 hdz4
            have hcvb := Kd.C_string (P := Try.prog) (A := A5) (c := c5) Try.underlying42 Try.underlying5 Try.underlying9 (Kd.C_below hC5.out (hS11.out.1))
            have hcvb0 := hcvb
            rw [hb0A.out] at hcvb0
            have hszf0 : (9223372036854775807 < al.length) = False := eq_false (by have := hal.out; omega)
            have hsz1 : (strOfNums al).size = al.length := nums_size al
            have hsz2 : (strOfNums b).size = b.length := nums_size b
            have hszf : (9223372036854775807 < al.length + b.length) = False := eq_false (by have := hal.out; have := hbl.out; omega)
            have hszt : (al.length + b.length ≤ 9223372036854775807) = True := eq_true (by have := hal.out; have := hbl.out; omega)
            have hap : strOfNums al ++ strOfNums b = strOfNums (al ++ b) := PureKit.nums_append al b
            go_upto_region 18 with (fail)
            clear hcvb0 hszf0
            clear hcvb hsz1 hsz2 hszf hszt
            go_wp2_with (fail)
            refine (wide_sum w _ g s (al ++ b) _ hS11.out hab.out hs (by have := hal.out; have := hbl.out; rw [List.length_append]; omega)).mono ?_
            rintro e w20 ⟨rfl, hb20⟩
            have hS20 := Aside0.mk (Sep.Sep.below hS11.out hb20)
            clear hb20
            go_wp2_with (fail)
            refine (fascicleref04_Sum.calls k (s : Int) (strOfNums (al ++ b)) _ _ hkA.out).mono ?_
            rintro e w21 ⟨rfl, hb21⟩
            have hS21 := Aside0.mk (hS20.out.below hb21)
            clear hb21
            go_wp2_with (fail)
            refine (wide_sum w _ g s (al ++ b) _ hS21.out hab.out hs (by have := hal.out; have := hbl.out; rw [List.length_append]; omega)).mono ?_
            rintro e w22 ⟨rfl, hb22⟩
            have hS22 := Aside0.mk (hS21.out.below hb22)
            clear hb22
            go_wp2_with (fail)
            refine (wide_len w _ g s (al ++ b) _ hS22.out).mono ?_
            rintro e w23 ⟨rfl, hb23⟩
            have hS23 := Aside0.mk (hS22.out.below hb23)
            clear hb23
            have hsz3 : (strOfNums (al ++ b)).size = al.length + b.length := by rw [nums_size, List.length_append]
            have hln : (((al ++ b).length : Nat) : Int) = (al.length : Int) + (b.length : Int) := by rw [List.length_append]; omega
            have hw8 : IntKind.u64.wrap ((al.length : Int) + (b.length : Int)) = (al.length : Int) + (b.length : Int) := wu64 (by omega) (by have := hal.out; have := hbl.out; omega)
            go_wp2_with (fail)
            clear hsz3 hln hw8
            go_roundg k1
            case measure => omega
            case rel => exact ⟨i + 1, by rw [hnA.out, List.flatten_append, halA.out]; simp, by simp; exact w64 (by omega) (by have := hlA.out; omega), ⟨by have := hA.out; omega, by rw [hnA.out, List.flatten_append, halA.out]; have := hA.out.2.1; have := hbl.out; simp; omega, by rw [hnA.out, List.flatten_append, halA.out]; simpa using hab.out⟩, ⟨by rw [hnA.out, List.flatten_append, halA.out]; simpa using hS23.out.pick1.tail⟩⟩
        · obtain ⟨g2, cap, cur, e9, hcap, hS11, hcur⟩ := row_blk (hS10.out.perm (List.Perm.swap _ _ _)) hbe
          injection e9 with e91 e92 e93
          subst e91
          subst e93
          go_loopg [39] b.length (fun kq v39 w' => ∃ (j : Nat) (cur' : Array Value), v39 = .int .i64 j ∧ Aside0 (j + kq = b.length ∧ ∀ q, q < b.length → ∃ y : Int, cur'[q]? = some (.int .u8 y)) ∧ Aside0 (Sep.Sep w w' (blk g2 cur' 5 :: [wst g s (al ++ b)])))
          case atStart => exact ⟨0, cur, rfl, ⟨by omega, fun q hq => ⟨_, hcur q _ (List.getElem?_eq_getElem hq)⟩⟩, ⟨hS11⟩⟩
          case round =>
            obtain ⟨j, cur', rfl, hj, hS12⟩ := hrel
            by_cases hjn : j < b.length
            · have hdj : decide ((j : Int) < (b.length : Int)) = true := decide_eq_true (by omega)
              obtain ⟨k2, rfl⟩ : ∃ k2, gk = k2 + 1 := ⟨gk - 1, by have := hj.out.1; omega⟩
              obtain ⟨y, hy⟩ := hj.out.2 j hjn
              have hcy : wr.cell? ⟨g2, j, none⟩ = some (.int .u8 y) := (hS12.out.cell j).trans hy
              have hzy : wr.frozen? ⟨g2, j, none⟩ = false := hS12.out.frozen j
              have p1 : ((0 : Int) ≤ (j : Int)) = True := eq_true (by omega)
              have q1 : ((j : Int) < (b.length : Int)) = True := eq_true (by omega)
              go_wp2_with (fail)
              clear hcy hzy p1 q1 hdj p0 q0
              go_roundg k2
              case measure => omega
              case rel =>
                refine ⟨j + 1, cur'.setIfInBounds j (.int .u8 _), by simp; exact w64 (by omega) (by have := hbl.out; omega), ⟨by have := hj.out.1; omega, fun q hq => ?_⟩, ⟨hS12.out.set j _⟩⟩
                rw [Array.getElem?_setIfInBounds]
                split
                · rename_i hjq
                  subst hjq
                  rw [if_pos (Array.getElem?_eq_some_iff.1 hy).1]
                  exact ⟨_, rfl⟩
                · exact hj.out.2 q hq
            · have hdj : decide ((j : Int) < (b.length : Int)) = false := decide_eq_false (by omega)
              go_upto_region 17 with (fail)
              clear hdj
              have hcvb := Kd.C_string (P := Try.prog) (A := A5) (c := c5) Try.underlying42 Try.underlying5 Try.underlying9 (Kd.C_below hC5.out (hS12.out.1))
              have hsz1 : (strOfNums al).size = al.length := nums_size al
              have hsz2 : (strOfNums b).size = b.length := nums_size b
              have hszf : (9223372036854775807 < al.length + b.length) = False := eq_false (by have := hal.out; have := hbl.out; omega)
              have hszt : (al.length + b.length ≤ 9223372036854775807) = True := eq_true (by have := hal.out; have := hbl.out; omega)
              have hap : strOfNums al ++ strOfNums b = strOfNums (al ++ b) := PureKit.nums_append al b
              go_upto_region 18 with (fail)
              clear hcvb hsz1 hsz2 hszf hszt
              go_wp2_with (fail)
              refine (wide_sum w _ g s (al ++ b) _ (hS12.out.perm (List.Perm.swap _ _ _)) hab.out hs (by have := hal.out; have := hbl.out; rw [List.length_append]; omega)).mono ?_
              rintro e w20 ⟨rfl, hb20⟩
              have hS20 := Aside0.mk (Sep.Sep.below (hS12.out.perm (List.Perm.swap _ _ _)) hb20)
              clear hb20
              go_wp2_with (fail)
              refine (fascicleref04_Sum.calls k (s : Int) (strOfNums (al ++ b)) _ _ hkA.out).mono ?_
              rintro e w21 ⟨rfl, hb21⟩
              have hS21 := Aside0.mk (hS20.out.below hb21)
              clear hb21
              go_wp2_with (fail)
              refine (wide_sum w _ g s (al ++ b) _ hS21.out hab.out hs (by have := hal.out; have := hbl.out; rw [List.length_append]; omega)).mono ?_
              rintro e w22 ⟨rfl, hb22⟩
              have hS22 := Aside0.mk (hS21.out.below hb22)
              clear hb22
              go_wp2_with (fail)
              refine (wide_len w _ g s (al ++ b) _ hS22.out).mono ?_
              rintro e w23 ⟨rfl, hb23⟩
              have hS23 := Aside0.mk (hS22.out.below hb23)
              clear hb23
              have hsz3 : (strOfNums (al ++ b)).size = al.length + b.length := by rw [nums_size, List.length_append]
              have hln : (((al ++ b).length : Nat) : Int) = (al.length : Int) + (b.length : Int) := by rw [List.length_append]; omega
              have hw8 : IntKind.u64.wrap ((al.length : Int) + (b.length : Int)) = (al.length : Int) + (b.length : Int) := wu64 (by omega) (by have := hal.out; have := hbl.out; omega)
              go_wp2_with (fail)
              clear hsz3 hln hw8
              go_roundg k1
              case measure => omega
              case rel => exact ⟨i + 1, by rw [hnA.out, List.flatten_append, halA.out]; simp, by simp; exact w64 (by omega) (by have := hlA.out; omega), ⟨by have := hA.out; omega, by rw [hnA.out, List.flatten_append, halA.out]; have := hA.out.2.1; have := hbl.out; simp; omega, by rw [hnA.out, List.flatten_append, halA.out]; simpa using hab.out⟩, ⟨by rw [hnA.out, List.flatten_append, halA.out]; simpa using hS23.out.pick1.tail⟩⟩
    · have hie : i = l.length := by have := hA.out; omega
      have hd2 : decide ((i : Int) < (l.length : Int)) = false := decide_eq_false (by omega)
      go_wp2_with (fail)
      go_ret
      exact ⟨rfl, hS.out.1⟩

set_option maxHeartbeats 4000000 in
set_option maxRecDepth 100000 in
theorem wide_parts_long (w : World) (A : Option Addr) (c : Nat) (l : List (List Int)) (a : Int) (hmax : l.length ≤ 9223372036854775807) (hl : 16 < l.length) :
    Calls Try.prog 11 #[.int .u64 a, .slice A l.length c] w fun e w' => e = .returned (.bool true) ∧ Below w.heap.size w w' := by
  have hd16 : decide ((l.length : Int) > 16) = true := decide_eq_true (by omega)
  clear hl hmax
  go_enter Try.func11, Try.ntmps11
  go_wp2_with (fail)
  refine (fasciclelaw04_lives.calls true _ lives04).mono ?_
  rintro e w1 ⟨rfl, hb1⟩
  have hB1 := Aside0.mk hb1
  clear hb1
  go_wp2_with (fail)
  refine (fasciclelaw04_lives.calls true _ lives04).mono ?_
  rintro e w2 ⟨rfl, hb2⟩
  have hB2 := Aside0.mk (below_step hB1.out hb2)
  clear hb2
  go_wp2_with (fail)
  go_ret
  exact ⟨rfl, hB2.out⟩
def fasciclelaw04_WideParts.f (a0 : Int) (l1 : List (List Int)) : Option Bool := if 0 ≤ a0 ∧ a0 < 18446744073709551616 ∧ (∀ b ∈ l1, wbytesOK b = true) then some true else none
theorem fasciclelaw04_WideParts.calls (a0 : Int) (A1 : Option Addr) (c1 : Nat) (l1 : List (List Int)) (r : Bool) (w : World) (hr1 : Kd.C (Kd.slice 42 (Kd.int .u8)) w A1 l1.length l1) (hc1 : l1.length ≤ c1) (h : fasciclelaw04_WideParts.f a0 l1 = some r) :
    Calls Try.prog 11 #[.int .u64 a0, .slice A1 l1.length c1] w fun e w' => e = .returned (.bool r) ∧ Below w.heap.size w w' := by
  unfold fasciclelaw04_WideParts.f at h
  split at h
  · rename_i hh
    cases h
    obtain ⟨h1, h2, h3⟩ := hh
    by_cases hl : l1.length ≤ 16
    · obtain ⟨s, rfl⟩ := Int.eq_ofNat_of_zero_le h1
      exact wide_parts w A1 c1 l1 s hr1 hc1 (fun b hb => (wbytesOK_iff b).1 (h3 b hb)) (by omega) hl
    · exact wide_parts_long w A1 c1 l1 a0 hr1.2.1 (by omega)
  · cases h
def fasciclelaw04_WideParts.Pure : Prop := ∀ (a0 : Int) (l1 : List (List Int)), (Lit.int .u64 a0).wf = true → l1.length ≤ maxLen → l1.length * 24 ≤ 140737488351232 → (∀ y ∈ l1, (y.length ≤ 9223372036854775807 ∧ ∀ yy ∈ y, ((Lit.int .u8 yy).wf = true))) → fasciclelaw04_WideParts.f a0 l1 = some true

end Go.Proofs.Ytfeaalfajcdalaa.G
