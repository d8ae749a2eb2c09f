import Derived.Test.YtghajjjdfhcljaaT5
import Derived.Deep.RegionHeld3
import Derived.Outline
import Derived.RangeFuncBox
namespace Go.Proofs.Ytghajjjdfhcljaa.P
open Go.RowKit Go.Proofs.YtghajjjdfhcljaaW.PrintWords Go.Proofs.YtghajjjdfhcljaaW.PrintLast Go.Proofs.YtghajjjdfhcljaaW.PrintMore
set_option linter.unusedVariables false
set_option linter.unusedSimpArgs false
set_option maxRecDepth 100000 in
set_option maxHeartbeats 4000000 in
theorem eighth1_no (Bl Bk : Nat) (log k : Int) (w : World) (hl : w.heap[Bl]? = some (.cells #[.int .i64 log] 3 (0, 0))) (hk : w.heap[Bk]? = some (.cells #[.int .i64 k] 3 (0, 0))) (h : log < 0 ∨ log > 6 ∨ k < 0 ∨ k > 2 ^ log.toNat) :
    Calls Try.prog 57 #[.pointer (some ⟨Bl, 0, none⟩), .pointer (some ⟨Bk, 0, none⟩)] w fun e w' => e = .returned (.tuple #[.int .i64 0, .int .i64 1]) ∧ Below w.heap.size w w' := by
  have hcl : w.cell? ⟨Bl, 0, none⟩ = some (.int .i64 log) := (blk_cell hl 0).trans rfl
  have hck : w.cell? ⟨Bk, 0, none⟩ = some (.int .i64 k) := (blk_cell hk 0).trans rfl
  clear hl hk
  by_cases h1 : log < 0
  · clear h
    go_enter Try.func57, Try.ntmps57
    go_wp2
    go_quiet (fail)
    go_wp2
    go_ret2
    exact ⟨rfl, pw_below_drewN (Below.refl _ w) nq⟩
  · by_cases h2 : log > 6
    · clear h
      go_enter Try.func57, Try.ntmps57
      go_wp2
      go_quiet (fail)
      go_wp2
      go_ret2
      exact ⟨rfl, pw_below_drewN (Below.refl _ w) nq⟩
    · by_cases h3 : k < 0
      · clear h
        go_enter Try.func57, Try.ntmps57
        go_wp2
        go_quiet (fail)
        go_wp2
        go_ret2
        exact ⟨rfl, pw_below_drewN (Below.refl _ w) nq⟩
      · have b1 : decide (k < 0) = false := by simp; omega
        have hlog : log = 0 ∨ log = 1 ∨ log = 2 ∨ log = 3 ∨ log = 4 ∨ log = 5 ∨ log = 6 := by omega
        have hw : IntKind.i64.wrap (2 ^ log.toNat) = 2 ^ log.toNat := by rcases hlog with rfl | rfl | rfl | rfl | rfl | rfl | rfl <;> rfl
        have h4 : k > 2 ^ log.toNat := by
          rcases h with h | h | h | h
          · exact absurd h h1
          · exact absurd h h2
          · exact absurd h h3
          · exact h
        have b2 : decide (2 ^ log.toNat < k) = true := by simp; exact h4
        have b3 : decide (IntKind.i64.wrap (2 ^ log.toNat) < k) = true := by rw [hw]; exact b2
        have h1' : 0 ≤ log := by omega
        have h2' : log ≤ 6 := by omega
        clear hlog h h4 h3 h1 h2
        go_enter Try.func57, Try.ntmps57
        go_wp2
        go_quiet (fail)
        go_wp2
        go_ret2
        exact ⟨rfl, pw_below_drewN (Below.refl _ w) nq⟩
set_option maxRecDepth 100000 in
set_option maxHeartbeats 4000000 in
theorem eighth1_yes (Bl Bk : Nat) (log k : Int) (w : World) (hl : w.heap[Bl]? = some (.cells #[.int .i64 log] 3 (0, 0))) (hk : w.heap[Bk]? = some (.cells #[.int .i64 k] 3 (0, 0))) (h1 : 0 ≤ log) (h2 : log ≤ 6) (h3 : 0 ≤ k) (h4 : k ≤ 2 ^ log.toNat) :
    Calls Try.prog 57 #[.pointer (some ⟨Bl, 0, none⟩), .pointer (some ⟨Bk, 0, none⟩)] w fun e w' => e = .returned (.tuple #[.int .i64 (wrap64 (56593902016227522 * k) / 2 ^ log.toNat), .int .i64 0]) ∧ Below w.heap.size w w' := by
  have hcl : w.cell? ⟨Bl, 0, none⟩ = some (.int .i64 log) := (blk_cell hl 0).trans rfl
  have hck : w.cell? ⟨Bk, 0, none⟩ = some (.int .i64 k) := (blk_cell hk 0).trans rfl
  have HL := Lib.hid hl
  have HK := Lib.hid hk
  clear hl hk
  have b1 : decide (k < 0) = false := by simp; omega
  have hlog : log = 0 ∨ log = 1 ∨ log = 2 ∨ log = 3 ∨ log = 4 ∨ log = 5 ∨ log = 6 := by omega
  have hw : IntKind.i64.wrap (2 ^ log.toNat) = 2 ^ log.toNat := by rcases hlog with rfl | rfl | rfl | rfl | rfl | rfl | rfl <;> rfl
  have b2 : decide (2 ^ log.toNat < k) = false := by simp; exact h4
  have b3 : decide (IntKind.i64.wrap (2 ^ log.toNat) < k) = false := by rw [hw]; simp; exact h4
  clear hlog h4
  go_enter Try.func57, Try.ntmps57
  go_wp2
  go_quiet (fail)
  go_wp2
  go_region_held3 (fun w' => w'.cell? ⟨Bl, 0, none⟩ = some (.int .i64 log) ∧ w'.cell? ⟨Bk, 0, none⟩ = some (.int .i64 k) ∧ Below w.heap.size w w')
    (first
      | exact ⟨hcl, hck, (pw_below_drewN (Below.refl _ w) nq).drew⟩
      | go_keep
      | exact ⟨(blk_cell (blk_below (blk_drewN HL.out (nq + 1)) hb) 0).trans rfl, (blk_cell (blk_below (blk_drewN HK.out (nq + 1)) hb) 0).trans rfl, below_step (pw_below_drewN (Below.refl _ w) (nq + 1)) hb⟩)
    ((go_at_call 16; refine (arc_Quarter.calls 56593902016227522 _ quarter_val).mono ?_; rintro e W1 ⟨rfl, hb⟩))
  case _ hH =>
    go_wp2
    go_ret2
    exact ⟨congrArg (fun q => Ending.returned (.tuple #[.int .i64 (q / 2 ^ log.toNat), .int .i64 0])) (i64_w _), hH.2.2⟩
set_option maxRecDepth 100000 in
set_option maxHeartbeats 8000000 in
theorem told_eighthB (Bl Bk : Nat) (log k : Int) (w : World) (hbl : w.heap[Bl]? = some (.cells #[.int .i64 log] 3 (0, 0))) (hbk : w.heap[Bk]? = some (.cells #[.int .i64 k] 3 (0, 0))) (h : log < 0 ∨ log > 6 ∨ k < 0 ∨ k > 2 ^ log.toNat) :
    Calls Try.prog 55 #[.func (.func 57) #[] #[.pointer (some ⟨Bl, 0, none⟩), .pointer (some ⟨Bk, 0, none⟩)]] w fun x w' => x = .returned (.tuple #[.agg #[.int .i64 0, .int .i64 0], .int .i64 1]) ∧ Below w.heap.size w w' := by
  have HL := Lib.hid hbl
  have HK := Lib.hid hbk
  clear hbl hbk
  go_enter Try.func55, Try.ntmps55
  go_wp2_with (first
    | ((with_reducible refine gate_dst (N := 2) rfl ?_); refine box_event ?hg (N := 2) ?hd (cs := #[.int .i64 0, .int .i64 0]) (t := 37) ?hr ?_; (case hd => rfl); (case hg => rfl); (case hr => rfl); intro g4 hg W0 hbox hb; have B0 := Lib.hid hbox; have HB0 := Lib.hid hb; have LG4 : w.heap.size ≤ g4 := (by rw [hg]; exact Nat.le_refl _); clear hbox hb hg)
    | (go_at_call 57; refine (eighth1_no Bl Bk log k _ (blk_below HL.out HB0.out) (blk_below HK.out HB0.out) h).mono ?_; rintro e W1 ⟨rfl, hb⟩; have B1 := Lib.hid (blk_below B0.out hb); have HB1 := Lib.hid (below_step HB0.out hb); clear hb B0 HB0)
    | ((with_reducible refine gate_store (t := 37) (p := 2) rfl ?_); refine row_event rfl 37 _ _ rfl g4 #[.int .i64 0, .int .i64 0] rfl rfl 37 #[.int .i64 0, .int .i64 0] B1.out (size37 _ _) rfl (one37 _ _) ?_; intro W7 hq hoth hbel; have B7 := Lib.hid hq; have HB7 := Lib.hid hbel; clear hq hoth hbel))
  refine bodyPost_ret (results_ct rfl _ _ g4 37 #[.int .i64 0, .int .i64 0] (0, 0) _ rfl B7.out Try.underlying37 rfl (size37 _ _)) rfl ?_
  exact ⟨rfl, HB7.out _ _ LG4 HB1.out⟩
set_option maxRecDepth 100000 in
set_option maxHeartbeats 8000000 in
theorem told_eighth (Bl Bk : Nat) (log k : Int) (r1 r2 r3 r4 : Int) (w : World) (hbl : w.heap[Bl]? = some (.cells #[.int .i64 log] 3 (0, 0))) (hbk : w.heap[Bk]? = some (.cells #[.int .i64 k] 3 (0, 0))) (h1 : 0 ≤ log) (h2 : log ≤ 6) (h3 : 0 ≤ k) (h4 : k ≤ 2 ^ log.toNat)
    (h : gain_Run.f 43757185469210200 (wrap64 (56593902016227522 * k) / 2 ^ log.toNat) = some (r1, r2, r3, r4)) :
    Calls Try.prog 55 #[.func (.func 57) #[] #[.pointer (some ⟨Bl, 0, none⟩), .pointer (some ⟨Bk, 0, none⟩)]] w fun x w' => x = .returned (.tuple #[.agg #[.int .i64 r1, .int .i64 r2], .int .i64 r4]) ∧ Below w.heap.size w w' := by
  have HL := Lib.hid hbl
  have HK := Lib.hid hbk
  have HR := Lib.hid h
  have H4 := Lib.hid h4
  clear hbl hbk h h4
  go_enter Try.func55, Try.ntmps55
  go_wp2_with (first
    | ((with_reducible refine gate_dst (N := 2) rfl ?_); refine box_event ?hg (N := 2) ?hd (cs := #[.int .i64 0, .int .i64 0]) (t := 37) ?hr ?_; (case hd => rfl); (case hg => rfl); (case hr => rfl); intro g4 hg W0 hbox hb; have B0 := Lib.hid hbox; have HB0 := Lib.hid hb; have LG4 : w.heap.size ≤ g4 := (by rw [hg]; exact Nat.le_refl _); clear hbox hb hg)
    | (go_at_call 57; refine (eighth1_yes Bl Bk log k _ (blk_below HL.out HB0.out) (blk_below HK.out HB0.out) h1 h2 h3 H4.out).mono ?_; rintro e W1 ⟨rfl, hb⟩; have B1 := Lib.hid (blk_below B0.out hb); have HB1 := Lib.hid (below_step HB0.out hb); clear hb B0 HB0)
    | (go_at_call 29; refine (Inverse_any _).mono ?_; rintro e W2 ⟨rfl, hb⟩; have B2 := Lib.hid (blk_below B1.out hb); have HB2 := Lib.hid (below_step HB1.out hb); clear hb B1 HB1)
    | (go_at_call 23; refine (Run_calls _ _ r1 r2 r3 r4 _ HR.out).mono ?_; rintro e W3 ⟨rfl, hb⟩; have B3 := Lib.hid (blk_below B2.out hb); have HB3 := Lib.hid (below_step HB2.out hb); clear hb B2 HB2)
    | ((with_reducible refine gate_dst (N := 6) rfl ?_); refine box_event ?hg (N := 6) ?hd (cs := #[.int .i64 0, .int .i64 0]) (t := 37) ?hr ?_; (case hd => rfl); (case hg => rfl); (case hr => rfl); intro g7 hg W4 hbox hb; have B4 := Lib.hid hbox; have B34 := Lib.hid (blk_below B3.out hb); have N47 : g4 ≠ g7 := (by rw [hg]; exact Nat.ne_of_lt (blk_lt B3.out)); have LG7 : w.heap.size ≤ g7 := (by rw [hg]; exact HB3.out.size); have HB4 := Lib.hid (below_step HB3.out hb); clear hbox hb hg HB3 B3)
    | ((with_reducible refine gate_store (t := 37) (p := 6) rfl ?_); refine row_event rfl 37 _ _ rfl g7 #[.int .i64 r1, .int .i64 r2] rfl rfl 37 #[.int .i64 0, .int .i64 0] B4.out (size37 _ _) rfl (one37 _ _) ?_; intro W5 hq hoth hbel; have B5 := Lib.hid hq; have B35 := Lib.hid ((hoth g4 N47).trans B34.out); have HB5 := Lib.hid (hbel _ _ LG7 HB4.out); clear hq hoth hbel HB4 B4 B34)
    | ((with_reducible refine gate_dst (N := 24) rfl ?_); refine wpList_load_row rfl 37 _ rfl g7 rfl 37 #[.int .i64 r1, .int .i64 r2] (0, 0) _ B5.out Try.underlying37 rfl (size37 _ _) ?_)
    | ((with_reducible refine gate_store (t := 37) (p := 2) rfl ?_); refine row_event rfl 37 _ _ rfl g4 #[.int .i64 r1, .int .i64 r2] rfl rfl 37 #[.int .i64 0, .int .i64 0] B35.out (size37 _ _) rfl (one37 _ _) ?_; intro W7 hq hoth hbel; have B7 := Lib.hid hq; have HB7 := Lib.hid hbel; clear hq hoth hbel))
  refine bodyPost_ret (results_ct rfl _ _ g4 37 #[.int .i64 r1, .int .i64 r2] (0, 0) _ rfl B7.out Try.underlying37 rfl (size37 _ _)) rfl ?_
  exact ⟨rfl, HB7.out _ _ LG4 HB5.out⟩
set_option maxRecDepth 100000 in
set_option maxHeartbeats 4000000 in
theorem Eighth_no (k log : Int) (w : World) (h : log < 0 ∨ log > 6 ∨ k < 0 ∨ k > 2 ^ log.toNat) :
    Calls Try.prog 34 #[.int .i64 k, .int .i64 log] w fun e w' => e = .returned (.tuple #[.agg #[.int .i64 0, .int .i64 0], .int .i64 1]) ∧ Below w.heap.size w w' := by
  have HH := Lib.hid h
  clear h
  go_enter Try.func34, Try.ntmps34
  go_wp2_with (first
    | ((with_reducible refine gate_dst (N := 2) rfl ?_); refine box_event ?hg (N := 2) ?hd (cs := #[.int .i64 k]) (t := 3) ?hr ?_; (case hd => rfl); (case hg => rfl); (case hr => rfl); intro gk hg W0 hbox hb; have B0 := Lib.hid hbox; have HB0 := Lib.hid hb; clear hbox hb hg)
    | ((with_reducible refine gate_dst (N := 3) rfl ?_); refine box_event ?hg (N := 3) ?hd (cs := #[.int .i64 log]) (t := 3) ?hr ?_; (case hd => rfl); (case hg => rfl); (case hr => rfl); intro gl hg W1 hbox hb; have B1 := Lib.hid hbox; have B01 := Lib.hid (blk_below B0.out hb); have HB1 := Lib.hid (below_step HB0.out hb); clear hbox hb hg HB0 B0)
    | ((with_reducible refine gate_dst (N := 4) rfl ?_); refine box_event ?hg (N := 4) ?hd (cs := #[.int .i64 0, .int .i64 0]) (t := 37) ?hr ?_; (case hd => rfl); (case hg => rfl); (case hr => rfl); intro g4 hg W2 hbox hb; have B2 := Lib.hid hbox; have B12 := Lib.hid (blk_below B1.out hb); have B02 := Lib.hid (blk_below B01.out hb); have LG4 : w.heap.size ≤ g4 := (by rw [hg]; exact HB1.out.size); have HB2 := Lib.hid (below_step HB1.out hb); clear hbox hb hg HB1 B1 B01)
    | (go_at_call 55; refine (told_eighthB gl gk log k _ B12.out B02.out HH.out).mono ?_; rintro e W3 ⟨rfl, hb⟩; have B3 := Lib.hid (blk_below B2.out hb); have HB3 := Lib.hid (below_step HB2.out hb); clear hb B2 HB2)
    | ((with_reducible refine gate_store (t := 37) (p := 4) rfl ?_); refine row_event rfl 37 _ _ rfl g4 #[.int .i64 0, .int .i64 0] rfl rfl 37 #[.int .i64 0, .int .i64 0] B3.out (size37 _ _) rfl (one37 _ _) ?_; intro W7 hq hoth hbel; have B7 := Lib.hid hq; have HB7 := Lib.hid hbel; clear hq hoth hbel))
  refine bodyPost_ret (results_ct rfl _ _ g4 37 #[.int .i64 0, .int .i64 0] (0, 0) _ rfl B7.out Try.underlying37 rfl (size37 _ _)) rfl ?_
  exact ⟨rfl, HB7.out _ _ LG4 HB3.out⟩
set_option maxRecDepth 100000 in
set_option maxHeartbeats 4000000 in
theorem Eighth_yes (k log : Int) (r1 r2 r3 r4 : Int) (w : World) (h1 : 0 ≤ log) (h2 : log ≤ 6) (h3 : 0 ≤ k) (h4 : k ≤ 2 ^ log.toNat) (h : gain_Run.f 43757185469210200 (wrap64 (56593902016227522 * k) / 2 ^ log.toNat) = some (r1, r2, r3, r4)) :
    Calls Try.prog 34 #[.int .i64 k, .int .i64 log] w fun e w' => e = .returned (.tuple #[.agg #[.int .i64 r1, .int .i64 r2], .int .i64 r4]) ∧ Below w.heap.size w w' := by
  have HR := Lib.hid h
  have H4 := Lib.hid h4
  clear h h4
  go_enter Try.func34, Try.ntmps34
  go_wp2_with (first
    | ((with_reducible refine gate_dst (N := 2) rfl ?_); refine box_event ?hg (N := 2) ?hd (cs := #[.int .i64 k]) (t := 3) ?hr ?_; (case hd => rfl); (case hg => rfl); (case hr => rfl); intro gk hg W0 hbox hb; have B0 := Lib.hid hbox; have HB0 := Lib.hid hb; clear hbox hb hg)
    | ((with_reducible refine gate_dst (N := 3) rfl ?_); refine box_event ?hg (N := 3) ?hd (cs := #[.int .i64 log]) (t := 3) ?hr ?_; (case hd => rfl); (case hg => rfl); (case hr => rfl); intro gl hg W1 hbox hb; have B1 := Lib.hid hbox; have B01 := Lib.hid (blk_below B0.out hb); have HB1 := Lib.hid (below_step HB0.out hb); clear hbox hb hg HB0 B0)
    | ((with_reducible refine gate_dst (N := 4) rfl ?_); refine box_event ?hg (N := 4) ?hd (cs := #[.int .i64 0, .int .i64 0]) (t := 37) ?hr ?_; (case hd => rfl); (case hg => rfl); (case hr => rfl); intro g4 hg W2 hbox hb; have B2 := Lib.hid hbox; have B12 := Lib.hid (blk_below B1.out hb); have B02 := Lib.hid (blk_below B01.out hb); have LG4 : w.heap.size ≤ g4 := (by rw [hg]; exact HB1.out.size); have HB2 := Lib.hid (below_step HB1.out hb); clear hbox hb hg HB1 B1 B01)
    | (go_at_call 55; refine (told_eighth gl gk log k r1 r2 r3 r4 _ B12.out B02.out h1 h2 h3 H4.out HR.out).mono ?_; rintro e W3 ⟨rfl, hb⟩; have B3 := Lib.hid (blk_below B2.out hb); have HB3 := Lib.hid (below_step HB2.out hb); clear hb B2 HB2)
    | ((with_reducible refine gate_store (t := 37) (p := 4) rfl ?_); refine row_event rfl 37 _ _ rfl g4 #[.int .i64 r1, .int .i64 r2] rfl rfl 37 #[.int .i64 0, .int .i64 0] B3.out (size37 _ _) rfl (one37 _ _) ?_; intro W7 hq hoth hbel; have B7 := Lib.hid hq; have HB7 := Lib.hid hbel; clear hq hoth hbel))
  refine bodyPost_ret (results_ct rfl _ _ g4 37 #[.int .i64 r1, .int .i64 r2] (0, 0) _ rfl B7.out Try.underlying37 rfl (size37 _ _)) rfl ?_
  exact ⟨rfl, HB7.out _ _ LG4 HB3.out⟩
end Go.Proofs.Ytghajjjdfhcljaa.P
