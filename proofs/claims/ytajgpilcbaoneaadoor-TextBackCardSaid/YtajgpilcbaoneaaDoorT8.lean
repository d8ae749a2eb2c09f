/- headroomlaw24.TextBack walked: what is printed is read, what is read is printed: true. -/
import Derived.Test.YtajgpilcbaoneaaDoorT7
namespace Go.Proofs.YtajgpilcbaoneaaDoor.P
open Go.RowKit Go.Proofs.YtajgpilcbaoneaaDoorW.PrintWords Go.Proofs.YtajgpilcbaoneaaDoorW.PrintLast Go.Proofs.YtajgpilcbaoneaaDoorW.PrintMore
attribute [local go_sem] max2_int min2_int max_two min_two
set_option linter.unusedVariables false
set_option linter.unusedSimpArgs false
theorem Join_J (J : ByteArray) (ws : List ByteArray) (hJ : (⟨(Lib.join (ws.map (·.data.toList)) (⟨#[32]⟩ : ByteArray).data.toList).toArray⟩ : ByteArray) = J) (hl : (Lib.join (ws.map (·.data.toList)) (⟨#[32]⟩ : ByteArray).data.toList).length ≤ 140737488355328) (hn : ws.length ≤ 140737488355328)
    (g c : Nat) (w : World) (hC : Kd.C Kd.string w (some ⟨g, 0, none⟩) ws.length ws) (hg : g < w.heap.size) (hc : ws.length ≤ c) :
    Calls Tryd.prog 16 #[.slice (some ⟨g, 0, none⟩) ws.length c, .string ⟨#[32]⟩] w fun e w' => e = .returned (.string J) ∧ Below w.heap.size w w' :=
  (Join_any g 0 c ws ⟨#[32]⟩ w (cells_words hC rfl) hg hn hc hl).mono fun e w' h => by rw [hJ] at h; exact h
set_option maxRecDepth 100000 in
set_option maxHeartbeats 8000000 in
theorem back_pr (K : Nat) (x0 x1 x2 x3 x4 : Int) (x5 : Bool) (s : ByteArray) (A : Nat → Addr) (c : Nat → Nat) (w : World) (hsz : s.size ≤ 9223372036854775807) (hp : Places A c w)
    (hA : ∀ w1, Places A c w1 → Calls Tryd.prog 8 #[] w1 fun e w' => e = .returned (.bool true) ∧ Below w1.heap.size w1 w')
    (t : ByteArray) (hPr : ∀ w1, Places A c w1 → Calls Tryd.prog 9 #[.agg #[.int .i64 x0, .int .i64 x1, .int .i64 x2, .int .i64 x3, .int .i64 x4, .bool x5]] w1 fun e w' => e = .returned (.tuple #[.string t, .int .i64 0]) ∧ Below w1.heap.size w1 w')
    (hPt : ∀ w1, Places A c w1 → Calls Tryd.prog 6 #[.string t] w1 fun e w' => e = .returned (.tuple #[.agg #[.int .i64 x0, .int .i64 x1, .int .i64 x2, .int .i64 x3, .int .i64 x4, .bool x5], .int .i64 0, .int .i64 0]) ∧ Below w1.heap.size w1 w')
    (y0 y1 y2 y3 y4 : Int) (y5 : Bool) (J : ByteArray) (ws : List ByteArray) (ats : List Int)
    (hPs : ∀ w1, Places A c w1 → Calls Tryd.prog 6 #[.string (cutS s)] w1 fun e w' => e = .returned (.tuple #[.agg #[.int .i64 y0, .int .i64 y1, .int .i64 y2, .int .i64 y3, .int .i64 y4, .bool y5], .int .i64 0, .int .i64 0]) ∧ Below w1.heap.size w1 w')
    (hPq : ∀ w1, Places A c w1 → Calls Tryd.prog 9 #[.agg #[.int .i64 y0, .int .i64 y1, .int .i64 y2, .int .i64 y3, .int .i64 y4, .bool y5]] w1 fun e w' => e = .returned (.tuple #[.string J, .int .i64 0]) ∧ Below w1.heap.size w1 w')
    (hW : text_Words.f K (cutS s) = some (ws, ats)) (hWs : 0 < ws.length) (hJ : ∀ (g c : Nat) (w : World), Kd.C Kd.string w (some ⟨g, 0, none⟩) ws.length ws → g < w.heap.size → ws.length ≤ c → Calls Tryd.prog 16 #[.slice (some ⟨g, 0, none⟩) ws.length c, .string ⟨#[32]⟩] w fun e w' => e = .returned (.string J) ∧ Below w.heap.size w w') :
    Calls Tryd.prog 5 #[.agg #[.int .i64 x0, .int .i64 x1, .int .i64 x2, .int .i64 x3, .int .i64 x4, .bool x5], .string s] w fun e w' => e = .returned (.bool true) ∧ Below w.heap.size w w' := by
  have HT := Lib.hid hp
  have HA := Lib.hid hA
  have HPr := Lib.hid hPr
  have HPs := Lib.hid hPs
  have HPt := Lib.hid hPt
  have HPq := Lib.hid hPq
  have HW := Lib.hid hW
  have HWs := Lib.hid hWs
  have HJ := Lib.hid hJ
  clear hp hA hPr hPs hPt hPq hW hWs hJ
  by_cases h3 : 300 < s.size
  · have e1 : cutS s = s.extract 0 300 := by unfold cutS; rw [if_pos h3]
    rw [e1] at HPs HW
    have c1 : ((300 : Int) < (s.size : Int)) = True := eq_true (by omega)
    have c2 : decide ((300 : Int) ≤ (s.size : Int)) = true := decide_eq_true (by omega)
    have c3 : 300 ≤ s.size := by omega
    clear e1 h3
    go_enter Tryd.func5, Tryd.ntmps5
    go_wp2_with (first
      | ((with_reducible refine gate_dst (N := 2) rfl ?_); refine box_event ?hg (N := 2) ?hd (cs := #[.int .i64 x0, .int .i64 x1, .int .i64 x2, .int .i64 x3, .int .i64 x4, .bool x5]) (t := 23) ?hr ?_; (case hd => rfl); (case hg => rfl); (case hr => first | (go_simp; done) | (go_simp; rfl)); intro g2 hg W0 hbox hbl; have B20 := Lib.hid hbox; have HB0 := Lib.hid hbl; have T0 := Lib.hid (HT.out.below hbl); clear hbox hbl hg)
      | ((with_reducible refine gate_dst (N := 23) rfl ?_); refine wpList_load_row rfl 23 _ rfl g2 rfl 23 #[.int .i64 x0, .int .i64 x1, .int .i64 x2, .int .i64 x3, .int .i64 x4, .bool x5] (0, 0) _ B20.out Tryd.underlying23 rfl (size23 _ _ _ _ _ _) ?_)
      | (go_at_call 9; first | ((with_reducible refine (HPq.out _ T7.out).mono ?_); rintro e W8 ⟨rfl, hb⟩; have HB8 := Lib.hid (below_step HB7.out hb); have T8 := Lib.hid (T7.out.below hb); clear hb) | ((with_reducible refine (HPr.out _ T0.out).mono ?_); rintro e W1 ⟨rfl, hb⟩; have B21 := Lib.hid (blk_below B20.out hb); have HB1 := Lib.hid (below_step HB0.out hb); have T1 := Lib.hid (T0.out.below hb); clear hb))
      | (go_at_call 6; first | ((with_reducible refine (HPs.out _ T4.out).mono ?_); rintro e W5 ⟨rfl, hb⟩; have HB5 := Lib.hid (below_step HB4.out hb); have T5 := Lib.hid (T4.out.below hb); clear hb) | ((with_reducible refine (HPt.out _ T1.out).mono ?_); rintro e W2 ⟨rfl, hb⟩; have B22 := Lib.hid (blk_below B21.out hb); have HB2 := Lib.hid (below_step HB1.out hb); have T2 := Lib.hid (T1.out.below hb); clear hb))
      | ((with_reducible refine gate_dst (N := 7) rfl ?_); refine box_event ?hg (N := 7) ?hd (cs := #[.int .i64 0, .int .i64 0, .int .i64 0, .int .i64 0, .int .i64 0, .bool false]) (t := 23) ?hr ?_; (case hd => rfl); (case hg => rfl); (case hr => first | (go_simp; done) | (go_simp; rfl)); intro g7 hg W3 hbox hbl; have B7 := Lib.hid hbox; have B23 := Lib.hid (blk_below B22.out hbl); have HB3 := Lib.hid (below_step HB2.out hbl); have HB23 := Lib.hid hbl; have L7 := Lib.hid (show W2.heap.size ≤ g7 from by rw [hg]; exact Nat.le_refl _); have N27 : g2 ≠ g7 := (by rw [hg]; exact Nat.ne_of_lt (blk_lt B22.out)); clear hbox hbl hg)
      | ((with_reducible refine gate_store (t := 23) (p := 7) rfl ?_); refine row_event rfl 23 _ _ rfl g7 #[.int .i64 x0, .int .i64 x1, .int .i64 x2, .int .i64 x3, .int .i64 x4, .bool x5] rfl rfl 23 #[.int .i64 0, .int .i64 0, .int .i64 0, .int .i64 0, .int .i64 0, .bool false] B7.out (size23 _ _ _ _ _ _) rfl (one23 _ _ _ _ _ _) ?_; intro W4 hq hoth hbel; have f0 : W4.cell? ⟨g7, 0, none⟩ = some (.int .i64 x0) := (blk_cell hq 0).trans rfl; have f1 : W4.cell? ⟨g7, 1, none⟩ = some (.int .i64 x1) := (blk_cell hq 1).trans rfl; have f2 : W4.cell? ⟨g7, 2, none⟩ = some (.int .i64 x2) := (blk_cell hq 2).trans rfl; have f3 : W4.cell? ⟨g7, 3, none⟩ = some (.int .i64 x3) := (blk_cell hq 3).trans rfl; have f4 : W4.cell? ⟨g7, 4, none⟩ = some (.int .i64 x4) := (blk_cell hq 4).trans rfl; have f5 : W4.cell? ⟨g7, 5, none⟩ = some (.bool x5) := (blk_cell hq 5).trans rfl; have hb2 := (hoth g2 N27).trans B23.out; have k0 : W4.cell? ⟨g2, 0, none⟩ = some (.int .i64 x0) := (blk_cell hb2 0).trans rfl; have k1 : W4.cell? ⟨g2, 1, none⟩ = some (.int .i64 x1) := (blk_cell hb2 1).trans rfl; have k2 : W4.cell? ⟨g2, 2, none⟩ = some (.int .i64 x2) := (blk_cell hb2 2).trans rfl; have k3 : W4.cell? ⟨g2, 3, none⟩ = some (.int .i64 x3) := (blk_cell hb2 3).trans rfl; have k4 : W4.cell? ⟨g2, 4, none⟩ = some (.int .i64 x4) := (blk_cell hb2 4).trans rfl; have k5 : W4.cell? ⟨g2, 5, none⟩ = some (.bool x5) := (blk_cell hb2 5).trans rfl; have hb4 := hbel _ _ L7.out HB23.out; have HB4 := Lib.hid (below_step HB2.out hb4); have T4 := Lib.hid (T2.out.below hb4); clear hq hoth hbel hb4 hb2)
      | ((with_reducible refine gate_dst (N := 10) rfl ?_); refine box_event ?hg (N := 10) ?hd (cs := #[.int .i64 0, .int .i64 0, .int .i64 0, .int .i64 0, .int .i64 0, .bool false]) (t := 23) ?hr ?_; (case hd => rfl); (case hg => rfl); (case hr => first | (go_simp; done) | (go_simp; rfl)); intro g10 hg W6 hbox hbl; have B10 := Lib.hid hbox; have HB6 := Lib.hid (below_step HB5.out hbl); have HB56 := Lib.hid hbl; have L10 := Lib.hid (show W5.heap.size ≤ g10 from by rw [hg]; exact Nat.le_refl _); clear hbox hbl hg)
      | ((with_reducible refine gate_store (t := 23) (p := 10) rfl ?_); refine row_event rfl 23 _ _ rfl g10 #[.int .i64 y0, .int .i64 y1, .int .i64 y2, .int .i64 y3, .int .i64 y4, .bool y5] rfl rfl 23 #[.int .i64 0, .int .i64 0, .int .i64 0, .int .i64 0, .int .i64 0, .bool false] B10.out (size23 _ _ _ _ _ _) rfl (one23 _ _ _ _ _ _) ?_; intro W7 hq hoth hbel; have B107 := Lib.hid hq; have hb7 := hbel _ _ L10.out HB56.out; have HB7 := Lib.hid (below_step HB5.out hb7); have T7 := Lib.hid (T5.out.below hb7); clear hq hoth hbel hb7)
      | ((with_reducible refine gate_dst (N := 71) rfl ?_); refine wpList_load_row rfl 23 _ rfl g10 rfl 23 #[.int .i64 y0, .int .i64 y1, .int .i64 y2, .int .i64 y3, .int .i64 y4, .bool y5] (0, 0) _ B107.out Tryd.underlying23 rfl (size23 _ _ _ _ _ _) ?_)
      | (go_at_call 10; (with_reducible refine (text_Words.calls K (s.extract 0 300) ws ats _ HW.out).mono ?_); rintro e W9 ⟨v0, v1, rfl, h0, h1, hb⟩; obtain ⟨gj, cj, rfl, hb1, hb2, _⟩ := Kd.R_form h0 HWs.out; obtain ⟨_, hcap, hCj⟩ := Kd.R_reads' h0; obtain ⟨A1, c1, rfl, hc1, hC1⟩ := Kd.R_reads h1; have CJ := Lib.hid hCj; have GJ := Lib.hid hb2; have HCap := Lib.hid hcap; have HB9 := Lib.hid (below_step HB8.out hb); have T9 := Lib.hid (T8.out.below hb); clear hb h0 h1 hb1 hb2 hCj hcap hc1 hC1)
      | (go_at_call 8; (with_reducible refine (HA.out _ T9.out).mono ?_); rintro e W10 ⟨rfl, hb⟩; have CJ1 := Lib.hid (Kd.C_below CJ.out hb); have GJ1 := Lib.hid (Nat.lt_of_lt_of_le GJ.out hb.size); have HB10 := Lib.hid (below_step HB9.out hb); clear hb)
      | (go_at_call 16; (with_reducible refine (HJ.out gj cj _ CJ1.out GJ1.out HCap.out).mono ?_); rintro e W11 ⟨rfl, hb⟩; have HB11 := Lib.hid (below_step HB10.out hb); clear hb))
    go_ret
    exact ⟨rfl, HB11.out⟩
  · have e1 : cutS s = s := by unfold cutS; rw [if_neg h3]; simp
    rw [e1] at HPs HW
    have c1 : ((300 : Int) < (s.size : Int)) = False := eq_false (by omega)
    clear e1 h3
    go_enter Tryd.func5, Tryd.ntmps5
    go_wp2_with (first
      | ((with_reducible refine gate_dst (N := 2) rfl ?_); refine box_event ?hg (N := 2) ?hd (cs := #[.int .i64 x0, .int .i64 x1, .int .i64 x2, .int .i64 x3, .int .i64 x4, .bool x5]) (t := 23) ?hr ?_; (case hd => rfl); (case hg => rfl); (case hr => first | (go_simp; done) | (go_simp; rfl)); intro g2 hg W0 hbox hbl; have B20 := Lib.hid hbox; have HB0 := Lib.hid hbl; have T0 := Lib.hid (HT.out.below hbl); clear hbox hbl hg)
      | ((with_reducible refine gate_dst (N := 23) rfl ?_); refine wpList_load_row rfl 23 _ rfl g2 rfl 23 #[.int .i64 x0, .int .i64 x1, .int .i64 x2, .int .i64 x3, .int .i64 x4, .bool x5] (0, 0) _ B20.out Tryd.underlying23 rfl (size23 _ _ _ _ _ _) ?_)
      | (go_at_call 9; first | ((with_reducible refine (HPq.out _ T7.out).mono ?_); rintro e W8 ⟨rfl, hb⟩; have HB8 := Lib.hid (below_step HB7.out hb); have T8 := Lib.hid (T7.out.below hb); clear hb) | ((with_reducible refine (HPr.out _ T0.out).mono ?_); rintro e W1 ⟨rfl, hb⟩; have B21 := Lib.hid (blk_below B20.out hb); have HB1 := Lib.hid (below_step HB0.out hb); have T1 := Lib.hid (T0.out.below hb); clear hb))
      | (go_at_call 6; first | ((with_reducible refine (HPs.out _ T4.out).mono ?_); rintro e W5 ⟨rfl, hb⟩; have HB5 := Lib.hid (below_step HB4.out hb); have T5 := Lib.hid (T4.out.below hb); clear hb) | ((with_reducible refine (HPt.out _ T1.out).mono ?_); rintro e W2 ⟨rfl, hb⟩; have B22 := Lib.hid (blk_below B21.out hb); have HB2 := Lib.hid (below_step HB1.out hb); have T2 := Lib.hid (T1.out.below hb); clear hb))
      | ((with_reducible refine gate_dst (N := 7) rfl ?_); refine box_event ?hg (N := 7) ?hd (cs := #[.int .i64 0, .int .i64 0, .int .i64 0, .int .i64 0, .int .i64 0, .bool false]) (t := 23) ?hr ?_; (case hd => rfl); (case hg => rfl); (case hr => first | (go_simp; done) | (go_simp; rfl)); intro g7 hg W3 hbox hbl; have B7 := Lib.hid hbox; have B23 := Lib.hid (blk_below B22.out hbl); have HB3 := Lib.hid (below_step HB2.out hbl); have HB23 := Lib.hid hbl; have L7 := Lib.hid (show W2.heap.size ≤ g7 from by rw [hg]; exact Nat.le_refl _); have N27 : g2 ≠ g7 := (by rw [hg]; exact Nat.ne_of_lt (blk_lt B22.out)); clear hbox hbl hg)
      | ((with_reducible refine gate_store (t := 23) (p := 7) rfl ?_); refine row_event rfl 23 _ _ rfl g7 #[.int .i64 x0, .int .i64 x1, .int .i64 x2, .int .i64 x3, .int .i64 x4, .bool x5] rfl rfl 23 #[.int .i64 0, .int .i64 0, .int .i64 0, .int .i64 0, .int .i64 0, .bool false] B7.out (size23 _ _ _ _ _ _) rfl (one23 _ _ _ _ _ _) ?_; intro W4 hq hoth hbel; have f0 : W4.cell? ⟨g7, 0, none⟩ = some (.int .i64 x0) := (blk_cell hq 0).trans rfl; have f1 : W4.cell? ⟨g7, 1, none⟩ = some (.int .i64 x1) := (blk_cell hq 1).trans rfl; have f2 : W4.cell? ⟨g7, 2, none⟩ = some (.int .i64 x2) := (blk_cell hq 2).trans rfl; have f3 : W4.cell? ⟨g7, 3, none⟩ = some (.int .i64 x3) := (blk_cell hq 3).trans rfl; have f4 : W4.cell? ⟨g7, 4, none⟩ = some (.int .i64 x4) := (blk_cell hq 4).trans rfl; have f5 : W4.cell? ⟨g7, 5, none⟩ = some (.bool x5) := (blk_cell hq 5).trans rfl; have hb2 := (hoth g2 N27).trans B23.out; have k0 : W4.cell? ⟨g2, 0, none⟩ = some (.int .i64 x0) := (blk_cell hb2 0).trans rfl; have k1 : W4.cell? ⟨g2, 1, none⟩ = some (.int .i64 x1) := (blk_cell hb2 1).trans rfl; have k2 : W4.cell? ⟨g2, 2, none⟩ = some (.int .i64 x2) := (blk_cell hb2 2).trans rfl; have k3 : W4.cell? ⟨g2, 3, none⟩ = some (.int .i64 x3) := (blk_cell hb2 3).trans rfl; have k4 : W4.cell? ⟨g2, 4, none⟩ = some (.int .i64 x4) := (blk_cell hb2 4).trans rfl; have k5 : W4.cell? ⟨g2, 5, none⟩ = some (.bool x5) := (blk_cell hb2 5).trans rfl; have hb4 := hbel _ _ L7.out HB23.out; have HB4 := Lib.hid (below_step HB2.out hb4); have T4 := Lib.hid (T2.out.below hb4); clear hq hoth hbel hb4 hb2)
      | ((with_reducible refine gate_dst (N := 10) rfl ?_); refine box_event ?hg (N := 10) ?hd (cs := #[.int .i64 0, .int .i64 0, .int .i64 0, .int .i64 0, .int .i64 0, .bool false]) (t := 23) ?hr ?_; (case hd => rfl); (case hg => rfl); (case hr => first | (go_simp; done) | (go_simp; rfl)); intro g10 hg W6 hbox hbl; have B10 := Lib.hid hbox; have HB6 := Lib.hid (below_step HB5.out hbl); have HB56 := Lib.hid hbl; have L10 := Lib.hid (show W5.heap.size ≤ g10 from by rw [hg]; exact Nat.le_refl _); clear hbox hbl hg)
      | ((with_reducible refine gate_store (t := 23) (p := 10) rfl ?_); refine row_event rfl 23 _ _ rfl g10 #[.int .i64 y0, .int .i64 y1, .int .i64 y2, .int .i64 y3, .int .i64 y4, .bool y5] rfl rfl 23 #[.int .i64 0, .int .i64 0, .int .i64 0, .int .i64 0, .int .i64 0, .bool false] B10.out (size23 _ _ _ _ _ _) rfl (one23 _ _ _ _ _ _) ?_; intro W7 hq hoth hbel; have B107 := Lib.hid hq; have hb7 := hbel _ _ L10.out HB56.out; have HB7 := Lib.hid (below_step HB5.out hb7); have T7 := Lib.hid (T5.out.below hb7); clear hq hoth hbel hb7)
      | ((with_reducible refine gate_dst (N := 71) rfl ?_); refine wpList_load_row rfl 23 _ rfl g10 rfl 23 #[.int .i64 y0, .int .i64 y1, .int .i64 y2, .int .i64 y3, .int .i64 y4, .bool y5] (0, 0) _ B107.out Tryd.underlying23 rfl (size23 _ _ _ _ _ _) ?_)
      | (go_at_call 10; (with_reducible refine (text_Words.calls K s ws ats _ HW.out).mono ?_); rintro e W9 ⟨v0, v1, rfl, h0, h1, hb⟩; obtain ⟨gj, cj, rfl, hb1, hb2, _⟩ := Kd.R_form h0 HWs.out; obtain ⟨_, hcap, hCj⟩ := Kd.R_reads' h0; obtain ⟨A1, c1, rfl, hc1, hC1⟩ := Kd.R_reads h1; have CJ := Lib.hid hCj; have GJ := Lib.hid hb2; have HCap := Lib.hid hcap; have HB9 := Lib.hid (below_step HB8.out hb); have T9 := Lib.hid (T8.out.below hb); clear hb h0 h1 hb1 hb2 hCj hcap hc1 hC1)
      | (go_at_call 8; (with_reducible refine (HA.out _ T9.out).mono ?_); rintro e W10 ⟨rfl, hb⟩; have CJ1 := Lib.hid (Kd.C_below CJ.out hb); have GJ1 := Lib.hid (Nat.lt_of_lt_of_le GJ.out hb.size); have HB10 := Lib.hid (below_step HB9.out hb); clear hb)
      | (go_at_call 16; (with_reducible refine (HJ.out gj cj _ CJ1.out GJ1.out HCap.out).mono ?_); rintro e W11 ⟨rfl, hb⟩; have HB11 := Lib.hid (below_step HB10.out hb); clear hb))
    go_ret
    exact ⟨rfl, HB11.out⟩
set_option maxRecDepth 100000 in
set_option maxHeartbeats 8000000 in
theorem back_pe (K : Nat) (x0 x1 x2 x3 x4 : Int) (x5 : Bool) (s : ByteArray) (A : Nat → Addr) (c : Nat → Nat) (w : World) (hsz : s.size ≤ 9223372036854775807) (hp : Places A c w)
    (hA : ∀ w1, Places A c w1 → Calls Tryd.prog 8 #[] w1 fun e w' => e = .returned (.bool true) ∧ Below w1.heap.size w1 w')
    (t : ByteArray) (hPr : ∀ w1, Places A c w1 → Calls Tryd.prog 9 #[.agg #[.int .i64 x0, .int .i64 x1, .int .i64 x2, .int .i64 x3, .int .i64 x4, .bool x5]] w1 fun e w' => e = .returned (.tuple #[.string t, .int .i64 0]) ∧ Below w1.heap.size w1 w')
    (hPt : ∀ w1, Places A c w1 → Calls Tryd.prog 6 #[.string t] w1 fun e w' => e = .returned (.tuple #[.agg #[.int .i64 x0, .int .i64 x1, .int .i64 x2, .int .i64 x3, .int .i64 x4, .bool x5], .int .i64 0, .int .i64 0]) ∧ Below w1.heap.size w1 w')
    (r7 r8 : Int) (hPs : ∀ w1, Places A c w1 → Calls Tryd.prog 6 #[.string (cutS s)] w1 fun e w' => e = .returned (.tuple #[.agg #[.int .i64 0, .int .i64 0, .int .i64 0, .int .i64 0, .int .i64 0, .bool false], .int .i64 r7, .int .i64 r8]) ∧ Below w1.heap.size w1 w')
    (hr7 : 0 ≤ r7) (hr7' : r7 ≤ (cutS s).size) (hr8 : r8 ≠ 0) :
    Calls Tryd.prog 5 #[.agg #[.int .i64 x0, .int .i64 x1, .int .i64 x2, .int .i64 x3, .int .i64 x4, .bool x5], .string s] w fun e w' => e = .returned (.bool true) ∧ Below w.heap.size w w' := by
  have HT := Lib.hid hp
  have HA := Lib.hid hA
  have HPr := Lib.hid hPr
  have HPs := Lib.hid hPs
  have HPt := Lib.hid hPt
  clear hp hA hPr hPs hPt
  by_cases h3 : 300 < s.size
  · have e1 : cutS s = s.extract 0 300 := by unfold cutS; rw [if_pos h3]
    rw [e1] at HPs hr7'
    have c1 : ((300 : Int) < (s.size : Int)) = True := eq_true (by omega)
    have c2 : decide ((300 : Int) ≤ (s.size : Int)) = true := decide_eq_true (by omega)
    have c3 : 300 ≤ s.size := by omega
    clear e1 h3
    have d1 : decide (0 ≤ r7) = true := decide_eq_true hr7
    have d2 : (r8 != 0) = true := bne_iff_ne.mpr hr8
    have e3 : (s.extract 0 300).size = 300 := by rw [ByteArray.size_extract]; omega
    have d3 : decide (r7 ≤ 300) = true := decide_eq_true (by rw [e3] at hr7'; omega)
    have d4 : decide (r7 ≤ ((s.extract 0 300).size : Int)) = true := decide_eq_true hr7'
    have HE3 := Lib.hid e3
    clear e3 hr7' hr8
    go_enter Tryd.func5, Tryd.ntmps5
    go_wp2_with (first
      | ((with_reducible refine gate_dst (N := 2) rfl ?_); refine box_event ?hg (N := 2) ?hd (cs := #[.int .i64 x0, .int .i64 x1, .int .i64 x2, .int .i64 x3, .int .i64 x4, .bool x5]) (t := 23) ?hr ?_; (case hd => rfl); (case hg => rfl); (case hr => first | (go_simp; done) | (go_simp; rfl)); intro g2 hg W0 hbox hbl; have B20 := Lib.hid hbox; have HB0 := Lib.hid hbl; have T0 := Lib.hid (HT.out.below hbl); clear hbox hbl hg)
      | ((with_reducible refine gate_dst (N := 23) rfl ?_); refine wpList_load_row rfl 23 _ rfl g2 rfl 23 #[.int .i64 x0, .int .i64 x1, .int .i64 x2, .int .i64 x3, .int .i64 x4, .bool x5] (0, 0) _ B20.out Tryd.underlying23 rfl (size23 _ _ _ _ _ _) ?_)
      | (go_at_call 9; first | ((with_reducible refine (HPr.out _ T0.out).mono ?_); rintro e W1 ⟨rfl, hb⟩; have B21 := Lib.hid (blk_below B20.out hb); have HB1 := Lib.hid (below_step HB0.out hb); have T1 := Lib.hid (T0.out.below hb); clear hb))
      | (go_at_call 6; first | ((with_reducible refine (HPs.out _ T4.out).mono ?_); rintro e W5 ⟨rfl, hb⟩; have HB5 := Lib.hid (below_step HB4.out hb); have T5 := Lib.hid (T4.out.below hb); clear hb) | ((with_reducible refine (HPt.out _ T1.out).mono ?_); rintro e W2 ⟨rfl, hb⟩; have B22 := Lib.hid (blk_below B21.out hb); have HB2 := Lib.hid (below_step HB1.out hb); have T2 := Lib.hid (T1.out.below hb); clear hb))
      | ((with_reducible refine gate_dst (N := 7) rfl ?_); refine box_event ?hg (N := 7) ?hd (cs := #[.int .i64 0, .int .i64 0, .int .i64 0, .int .i64 0, .int .i64 0, .bool false]) (t := 23) ?hr ?_; (case hd => rfl); (case hg => rfl); (case hr => first | (go_simp; done) | (go_simp; rfl)); intro g7 hg W3 hbox hbl; have B7 := Lib.hid hbox; have B23 := Lib.hid (blk_below B22.out hbl); have HB3 := Lib.hid (below_step HB2.out hbl); have HB23 := Lib.hid hbl; have L7 := Lib.hid (show W2.heap.size ≤ g7 from by rw [hg]; exact Nat.le_refl _); have N27 : g2 ≠ g7 := (by rw [hg]; exact Nat.ne_of_lt (blk_lt B22.out)); clear hbox hbl hg)
      | ((with_reducible refine gate_store (t := 23) (p := 7) rfl ?_); refine row_event rfl 23 _ _ rfl g7 #[.int .i64 x0, .int .i64 x1, .int .i64 x2, .int .i64 x3, .int .i64 x4, .bool x5] rfl rfl 23 #[.int .i64 0, .int .i64 0, .int .i64 0, .int .i64 0, .int .i64 0, .bool false] B7.out (size23 _ _ _ _ _ _) rfl (one23 _ _ _ _ _ _) ?_; intro W4 hq hoth hbel; have f0 : W4.cell? ⟨g7, 0, none⟩ = some (.int .i64 x0) := (blk_cell hq 0).trans rfl; have f1 : W4.cell? ⟨g7, 1, none⟩ = some (.int .i64 x1) := (blk_cell hq 1).trans rfl; have f2 : W4.cell? ⟨g7, 2, none⟩ = some (.int .i64 x2) := (blk_cell hq 2).trans rfl; have f3 : W4.cell? ⟨g7, 3, none⟩ = some (.int .i64 x3) := (blk_cell hq 3).trans rfl; have f4 : W4.cell? ⟨g7, 4, none⟩ = some (.int .i64 x4) := (blk_cell hq 4).trans rfl; have f5 : W4.cell? ⟨g7, 5, none⟩ = some (.bool x5) := (blk_cell hq 5).trans rfl; have hb2 := (hoth g2 N27).trans B23.out; have k0 : W4.cell? ⟨g2, 0, none⟩ = some (.int .i64 x0) := (blk_cell hb2 0).trans rfl; have k1 : W4.cell? ⟨g2, 1, none⟩ = some (.int .i64 x1) := (blk_cell hb2 1).trans rfl; have k2 : W4.cell? ⟨g2, 2, none⟩ = some (.int .i64 x2) := (blk_cell hb2 2).trans rfl; have k3 : W4.cell? ⟨g2, 3, none⟩ = some (.int .i64 x3) := (blk_cell hb2 3).trans rfl; have k4 : W4.cell? ⟨g2, 4, none⟩ = some (.int .i64 x4) := (blk_cell hb2 4).trans rfl; have k5 : W4.cell? ⟨g2, 5, none⟩ = some (.bool x5) := (blk_cell hb2 5).trans rfl; have hb4 := hbel _ _ L7.out HB23.out; have HB4 := Lib.hid (below_step HB2.out hb4); have T4 := Lib.hid (T2.out.below hb4); clear hq hoth hbel hb4 hb2)
      | ((with_reducible refine gate_dst (N := 10) rfl ?_); refine box_event ?hg (N := 10) ?hd (cs := #[.int .i64 0, .int .i64 0, .int .i64 0, .int .i64 0, .int .i64 0, .bool false]) (t := 23) ?hr ?_; (case hd => rfl); (case hg => rfl); (case hr => first | (go_simp; done) | (go_simp; rfl)); intro g10 hg W6 hbox hbl; have B10 := Lib.hid hbox; have HB6 := Lib.hid (below_step HB5.out hbl); have HB56 := Lib.hid hbl; have L10 := Lib.hid (show W5.heap.size ≤ g10 from by rw [hg]; exact Nat.le_refl _); clear hbox hbl hg)
      | ((with_reducible refine gate_store (t := 23) (p := 10) rfl ?_); refine row_event rfl 23 _ _ rfl g10 #[.int .i64 0, .int .i64 0, .int .i64 0, .int .i64 0, .int .i64 0, .bool false] rfl rfl 23 #[.int .i64 0, .int .i64 0, .int .i64 0, .int .i64 0, .int .i64 0, .bool false] B10.out (size23 _ _ _ _ _ _) rfl (one23 _ _ _ _ _ _) ?_; intro W7 hq hoth hbel; have B107 := Lib.hid hq; have hb7 := hbel _ _ L10.out HB56.out; have HB7 := Lib.hid (below_step HB5.out hb7); have T7 := Lib.hid (T5.out.below hb7); clear hq hoth hbel hb7)
      | (go_at_call 8; (with_reducible refine (HA.out _ T7.out).mono ?_); rintro e W8 ⟨rfl, hb⟩; have q0 : W8.cell? ⟨g10, 0, none⟩ = some (.int .i64 0) := (blk_cell (blk_below B107.out hb) 0).trans rfl; have q1 : W8.cell? ⟨g10, 1, none⟩ = some (.int .i64 0) := (blk_cell (blk_below B107.out hb) 1).trans rfl; have q2 : W8.cell? ⟨g10, 2, none⟩ = some (.int .i64 0) := (blk_cell (blk_below B107.out hb) 2).trans rfl; have q3 : W8.cell? ⟨g10, 3, none⟩ = some (.int .i64 0) := (blk_cell (blk_below B107.out hb) 3).trans rfl; have q4 : W8.cell? ⟨g10, 4, none⟩ = some (.int .i64 0) := (blk_cell (blk_below B107.out hb) 4).trans rfl; have q5 : W8.cell? ⟨g10, 5, none⟩ = some (.bool false) := (blk_cell (blk_below B107.out hb) 5).trans rfl; have HB8 := Lib.hid (below_step HB7.out hb); clear hb))
    go_ret
    exact ⟨rfl, HB8.out⟩
  · have e1 : cutS s = s := by unfold cutS; rw [if_neg h3]; simp
    rw [e1] at HPs hr7'
    have c1 : ((300 : Int) < (s.size : Int)) = False := eq_false (by omega)
    clear e1 h3
    have d1 : decide (0 ≤ r7) = true := decide_eq_true hr7
    have d2 : (r8 != 0) = true := bne_iff_ne.mpr hr8
    have d4 : decide (r7 ≤ (s.size : Int)) = true := decide_eq_true hr7'
    clear hr7' hr8
    go_enter Tryd.func5, Tryd.ntmps5
    go_wp2_with (first
      | ((with_reducible refine gate_dst (N := 2) rfl ?_); refine box_event ?hg (N := 2) ?hd (cs := #[.int .i64 x0, .int .i64 x1, .int .i64 x2, .int .i64 x3, .int .i64 x4, .bool x5]) (t := 23) ?hr ?_; (case hd => rfl); (case hg => rfl); (case hr => first | (go_simp; done) | (go_simp; rfl)); intro g2 hg W0 hbox hbl; have B20 := Lib.hid hbox; have HB0 := Lib.hid hbl; have T0 := Lib.hid (HT.out.below hbl); clear hbox hbl hg)
      | ((with_reducible refine gate_dst (N := 23) rfl ?_); refine wpList_load_row rfl 23 _ rfl g2 rfl 23 #[.int .i64 x0, .int .i64 x1, .int .i64 x2, .int .i64 x3, .int .i64 x4, .bool x5] (0, 0) _ B20.out Tryd.underlying23 rfl (size23 _ _ _ _ _ _) ?_)
      | (go_at_call 9; first | ((with_reducible refine (HPr.out _ T0.out).mono ?_); rintro e W1 ⟨rfl, hb⟩; have B21 := Lib.hid (blk_below B20.out hb); have HB1 := Lib.hid (below_step HB0.out hb); have T1 := Lib.hid (T0.out.below hb); clear hb))
      | (go_at_call 6; first | ((with_reducible refine (HPs.out _ T4.out).mono ?_); rintro e W5 ⟨rfl, hb⟩; have HB5 := Lib.hid (below_step HB4.out hb); have T5 := Lib.hid (T4.out.below hb); clear hb) | ((with_reducible refine (HPt.out _ T1.out).mono ?_); rintro e W2 ⟨rfl, hb⟩; have B22 := Lib.hid (blk_below B21.out hb); have HB2 := Lib.hid (below_step HB1.out hb); have T2 := Lib.hid (T1.out.below hb); clear hb))
      | ((with_reducible refine gate_dst (N := 7) rfl ?_); refine box_event ?hg (N := 7) ?hd (cs := #[.int .i64 0, .int .i64 0, .int .i64 0, .int .i64 0, .int .i64 0, .bool false]) (t := 23) ?hr ?_; (case hd => rfl); (case hg => rfl); (case hr => first | (go_simp; done) | (go_simp; rfl)); intro g7 hg W3 hbox hbl; have B7 := Lib.hid hbox; have B23 := Lib.hid (blk_below B22.out hbl); have HB3 := Lib.hid (below_step HB2.out hbl); have HB23 := Lib.hid hbl; have L7 := Lib.hid (show W2.heap.size ≤ g7 from by rw [hg]; exact Nat.le_refl _); have N27 : g2 ≠ g7 := (by rw [hg]; exact Nat.ne_of_lt (blk_lt B22.out)); clear hbox hbl hg)
      | ((with_reducible refine gate_store (t := 23) (p := 7) rfl ?_); refine row_event rfl 23 _ _ rfl g7 #[.int .i64 x0, .int .i64 x1, .int .i64 x2, .int .i64 x3, .int .i64 x4, .bool x5] rfl rfl 23 #[.int .i64 0, .int .i64 0, .int .i64 0, .int .i64 0, .int .i64 0, .bool false] B7.out (size23 _ _ _ _ _ _) rfl (one23 _ _ _ _ _ _) ?_; intro W4 hq hoth hbel; have f0 : W4.cell? ⟨g7, 0, none⟩ = some (.int .i64 x0) := (blk_cell hq 0).trans rfl; have f1 : W4.cell? ⟨g7, 1, none⟩ = some (.int .i64 x1) := (blk_cell hq 1).trans rfl; have f2 : W4.cell? ⟨g7, 2, none⟩ = some (.int .i64 x2) := (blk_cell hq 2).trans rfl; have f3 : W4.cell? ⟨g7, 3, none⟩ = some (.int .i64 x3) := (blk_cell hq 3).trans rfl; have f4 : W4.cell? ⟨g7, 4, none⟩ = some (.int .i64 x4) := (blk_cell hq 4).trans rfl; have f5 : W4.cell? ⟨g7, 5, none⟩ = some (.bool x5) := (blk_cell hq 5).trans rfl; have hb2 := (hoth g2 N27).trans B23.out; have k0 : W4.cell? ⟨g2, 0, none⟩ = some (.int .i64 x0) := (blk_cell hb2 0).trans rfl; have k1 : W4.cell? ⟨g2, 1, none⟩ = some (.int .i64 x1) := (blk_cell hb2 1).trans rfl; have k2 : W4.cell? ⟨g2, 2, none⟩ = some (.int .i64 x2) := (blk_cell hb2 2).trans rfl; have k3 : W4.cell? ⟨g2, 3, none⟩ = some (.int .i64 x3) := (blk_cell hb2 3).trans rfl; have k4 : W4.cell? ⟨g2, 4, none⟩ = some (.int .i64 x4) := (blk_cell hb2 4).trans rfl; have k5 : W4.cell? ⟨g2, 5, none⟩ = some (.bool x5) := (blk_cell hb2 5).trans rfl; have hb4 := hbel _ _ L7.out HB23.out; have HB4 := Lib.hid (below_step HB2.out hb4); have T4 := Lib.hid (T2.out.below hb4); clear hq hoth hbel hb4 hb2)
      | ((with_reducible refine gate_dst (N := 10) rfl ?_); refine box_event ?hg (N := 10) ?hd (cs := #[.int .i64 0, .int .i64 0, .int .i64 0, .int .i64 0, .int .i64 0, .bool false]) (t := 23) ?hr ?_; (case hd => rfl); (case hg => rfl); (case hr => first | (go_simp; done) | (go_simp; rfl)); intro g10 hg W6 hbox hbl; have B10 := Lib.hid hbox; have HB6 := Lib.hid (below_step HB5.out hbl); have HB56 := Lib.hid hbl; have L10 := Lib.hid (show W5.heap.size ≤ g10 from by rw [hg]; exact Nat.le_refl _); clear hbox hbl hg)
      | ((with_reducible refine gate_store (t := 23) (p := 10) rfl ?_); refine row_event rfl 23 _ _ rfl g10 #[.int .i64 0, .int .i64 0, .int .i64 0, .int .i64 0, .int .i64 0, .bool false] rfl rfl 23 #[.int .i64 0, .int .i64 0, .int .i64 0, .int .i64 0, .int .i64 0, .bool false] B10.out (size23 _ _ _ _ _ _) rfl (one23 _ _ _ _ _ _) ?_; intro W7 hq hoth hbel; have B107 := Lib.hid hq; have hb7 := hbel _ _ L10.out HB56.out; have HB7 := Lib.hid (below_step HB5.out hb7); have T7 := Lib.hid (T5.out.below hb7); clear hq hoth hbel hb7)
      | (go_at_call 8; (with_reducible refine (HA.out _ T7.out).mono ?_); rintro e W8 ⟨rfl, hb⟩; have q0 : W8.cell? ⟨g10, 0, none⟩ = some (.int .i64 0) := (blk_cell (blk_below B107.out hb) 0).trans rfl; have q1 : W8.cell? ⟨g10, 1, none⟩ = some (.int .i64 0) := (blk_cell (blk_below B107.out hb) 1).trans rfl; have q2 : W8.cell? ⟨g10, 2, none⟩ = some (.int .i64 0) := (blk_cell (blk_below B107.out hb) 2).trans rfl; have q3 : W8.cell? ⟨g10, 3, none⟩ = some (.int .i64 0) := (blk_cell (blk_below B107.out hb) 3).trans rfl; have q4 : W8.cell? ⟨g10, 4, none⟩ = some (.int .i64 0) := (blk_cell (blk_below B107.out hb) 4).trans rfl; have q5 : W8.cell? ⟨g10, 5, none⟩ = some (.bool false) := (blk_cell (blk_below B107.out hb) 5).trans rfl; have HB8 := Lib.hid (below_step HB7.out hb); clear hb))
    go_ret
    exact ⟨rfl, HB8.out⟩
set_option maxRecDepth 100000 in
set_option maxHeartbeats 8000000 in
theorem back_nr (K : Nat) (x0 x1 x2 x3 x4 : Int) (x5 : Bool) (s : ByteArray) (A : Nat → Addr) (c : Nat → Nat) (w : World) (hsz : s.size ≤ 9223372036854775807) (hp : Places A c w)
    (hA : ∀ w1, Places A c w1 → Calls Tryd.prog 8 #[] w1 fun e w' => e = .returned (.bool true) ∧ Below w1.heap.size w1 w')
    (hPr : ∀ w1, Places A c w1 → Calls Tryd.prog 9 #[.agg #[.int .i64 x0, .int .i64 x1, .int .i64 x2, .int .i64 x3, .int .i64 x4, .bool x5]] w1 fun e w' => e = .returned (.tuple #[.string ⟨#[]⟩, .int .i64 4]) ∧ Below w1.heap.size w1 w')
    (y0 y1 y2 y3 y4 : Int) (y5 : Bool) (J : ByteArray) (ws : List ByteArray) (ats : List Int)
    (hPs : ∀ w1, Places A c w1 → Calls Tryd.prog 6 #[.string (cutS s)] w1 fun e w' => e = .returned (.tuple #[.agg #[.int .i64 y0, .int .i64 y1, .int .i64 y2, .int .i64 y3, .int .i64 y4, .bool y5], .int .i64 0, .int .i64 0]) ∧ Below w1.heap.size w1 w')
    (hPq : ∀ w1, Places A c w1 → Calls Tryd.prog 9 #[.agg #[.int .i64 y0, .int .i64 y1, .int .i64 y2, .int .i64 y3, .int .i64 y4, .bool y5]] w1 fun e w' => e = .returned (.tuple #[.string J, .int .i64 0]) ∧ Below w1.heap.size w1 w')
    (hW : text_Words.f K (cutS s) = some (ws, ats)) (hWs : 0 < ws.length) (hJ : ∀ (g c : Nat) (w : World), Kd.C Kd.string w (some ⟨g, 0, none⟩) ws.length ws → g < w.heap.size → ws.length ≤ c → Calls Tryd.prog 16 #[.slice (some ⟨g, 0, none⟩) ws.length c, .string ⟨#[32]⟩] w fun e w' => e = .returned (.string J) ∧ Below w.heap.size w w') :
    Calls Tryd.prog 5 #[.agg #[.int .i64 x0, .int .i64 x1, .int .i64 x2, .int .i64 x3, .int .i64 x4, .bool x5], .string s] w fun e w' => e = .returned (.bool true) ∧ Below w.heap.size w w' := by
  have HT := Lib.hid hp
  have HA := Lib.hid hA
  have HPr := Lib.hid hPr
  have HPs := Lib.hid hPs
  have HPq := Lib.hid hPq
  have HW := Lib.hid hW
  have HWs := Lib.hid hWs
  have HJ := Lib.hid hJ
  clear hp hA hPr hPs hPq hW hWs hJ
  by_cases h3 : 300 < s.size
  · have e1 : cutS s = s.extract 0 300 := by unfold cutS; rw [if_pos h3]
    rw [e1] at HPs HW
    have c1 : ((300 : Int) < (s.size : Int)) = True := eq_true (by omega)
    have c2 : decide ((300 : Int) ≤ (s.size : Int)) = true := decide_eq_true (by omega)
    have c3 : 300 ≤ s.size := by omega
    clear e1 h3
    go_enter Tryd.func5, Tryd.ntmps5
    go_wp2_with (first
      | ((with_reducible refine gate_dst (N := 2) rfl ?_); refine box_event ?hg (N := 2) ?hd (cs := #[.int .i64 x0, .int .i64 x1, .int .i64 x2, .int .i64 x3, .int .i64 x4, .bool x5]) (t := 23) ?hr ?_; (case hd => rfl); (case hg => rfl); (case hr => first | (go_simp; done) | (go_simp; rfl)); intro g2 hg W0 hbox hbl; have B20 := Lib.hid hbox; have HB0 := Lib.hid hbl; have T0 := Lib.hid (HT.out.below hbl); clear hbox hbl hg)
      | ((with_reducible refine gate_dst (N := 23) rfl ?_); refine wpList_load_row rfl 23 _ rfl g2 rfl 23 #[.int .i64 x0, .int .i64 x1, .int .i64 x2, .int .i64 x3, .int .i64 x4, .bool x5] (0, 0) _ B20.out Tryd.underlying23 rfl (size23 _ _ _ _ _ _) ?_)
      | (go_at_call 9; first | ((with_reducible refine (HPq.out _ T7.out).mono ?_); rintro e W8 ⟨rfl, hb⟩; have HB8 := Lib.hid (below_step HB7.out hb); have T8 := Lib.hid (T7.out.below hb); clear hb) | ((with_reducible refine (HPr.out _ T0.out).mono ?_); rintro e W1 ⟨rfl, hb⟩; have B21 := Lib.hid (blk_below B20.out hb); have HB1 := Lib.hid (below_step HB0.out hb); have T1 := Lib.hid (T0.out.below hb); clear hb))
      | (go_at_call 6; first | ((with_reducible refine (HPs.out _ T1.out).mono ?_); rintro e W5 ⟨rfl, hb⟩; have HB5 := Lib.hid (below_step HB1.out hb); have T5 := Lib.hid (T1.out.below hb); clear hb))
      | ((with_reducible refine gate_dst (N := 10) rfl ?_); refine box_event ?hg (N := 10) ?hd (cs := #[.int .i64 0, .int .i64 0, .int .i64 0, .int .i64 0, .int .i64 0, .bool false]) (t := 23) ?hr ?_; (case hd => rfl); (case hg => rfl); (case hr => first | (go_simp; done) | (go_simp; rfl)); intro g10 hg W6 hbox hbl; have B10 := Lib.hid hbox; have HB6 := Lib.hid (below_step HB5.out hbl); have HB56 := Lib.hid hbl; have L10 := Lib.hid (show W5.heap.size ≤ g10 from by rw [hg]; exact Nat.le_refl _); clear hbox hbl hg)
      | ((with_reducible refine gate_store (t := 23) (p := 10) rfl ?_); refine row_event rfl 23 _ _ rfl g10 #[.int .i64 y0, .int .i64 y1, .int .i64 y2, .int .i64 y3, .int .i64 y4, .bool y5] rfl rfl 23 #[.int .i64 0, .int .i64 0, .int .i64 0, .int .i64 0, .int .i64 0, .bool false] B10.out (size23 _ _ _ _ _ _) rfl (one23 _ _ _ _ _ _) ?_; intro W7 hq hoth hbel; have B107 := Lib.hid hq; have hb7 := hbel _ _ L10.out HB56.out; have HB7 := Lib.hid (below_step HB5.out hb7); have T7 := Lib.hid (T5.out.below hb7); clear hq hoth hbel hb7)
      | ((with_reducible refine gate_dst (N := 71) rfl ?_); refine wpList_load_row rfl 23 _ rfl g10 rfl 23 #[.int .i64 y0, .int .i64 y1, .int .i64 y2, .int .i64 y3, .int .i64 y4, .bool y5] (0, 0) _ B107.out Tryd.underlying23 rfl (size23 _ _ _ _ _ _) ?_)
      | (go_at_call 10; (with_reducible refine (text_Words.calls K (s.extract 0 300) ws ats _ HW.out).mono ?_); rintro e W9 ⟨v0, v1, rfl, h0, h1, hb⟩; obtain ⟨gj, cj, rfl, hb1, hb2, _⟩ := Kd.R_form h0 HWs.out; obtain ⟨_, hcap, hCj⟩ := Kd.R_reads' h0; obtain ⟨A1, c1, rfl, hc1, hC1⟩ := Kd.R_reads h1; have CJ := Lib.hid hCj; have GJ := Lib.hid hb2; have HCap := Lib.hid hcap; have HB9 := Lib.hid (below_step HB8.out hb); have T9 := Lib.hid (T8.out.below hb); clear hb h0 h1 hb1 hb2 hCj hcap hc1 hC1)
      | (go_at_call 8; (with_reducible refine (HA.out _ T9.out).mono ?_); rintro e W10 ⟨rfl, hb⟩; have CJ1 := Lib.hid (Kd.C_below CJ.out hb); have GJ1 := Lib.hid (Nat.lt_of_lt_of_le GJ.out hb.size); have HB10 := Lib.hid (below_step HB9.out hb); clear hb)
      | (go_at_call 16; (with_reducible refine (HJ.out gj cj _ CJ1.out GJ1.out HCap.out).mono ?_); rintro e W11 ⟨rfl, hb⟩; have HB11 := Lib.hid (below_step HB10.out hb); clear hb))
    go_ret
    exact ⟨rfl, HB11.out⟩
  · have e1 : cutS s = s := by unfold cutS; rw [if_neg h3]; simp
    rw [e1] at HPs HW
    have c1 : ((300 : Int) < (s.size : Int)) = False := eq_false (by omega)
    clear e1 h3
    go_enter Tryd.func5, Tryd.ntmps5
    go_wp2_with (first
      | ((with_reducible refine gate_dst (N := 2) rfl ?_); refine box_event ?hg (N := 2) ?hd (cs := #[.int .i64 x0, .int .i64 x1, .int .i64 x2, .int .i64 x3, .int .i64 x4, .bool x5]) (t := 23) ?hr ?_; (case hd => rfl); (case hg => rfl); (case hr => first | (go_simp; done) | (go_simp; rfl)); intro g2 hg W0 hbox hbl; have B20 := Lib.hid hbox; have HB0 := Lib.hid hbl; have T0 := Lib.hid (HT.out.below hbl); clear hbox hbl hg)
      | ((with_reducible refine gate_dst (N := 23) rfl ?_); refine wpList_load_row rfl 23 _ rfl g2 rfl 23 #[.int .i64 x0, .int .i64 x1, .int .i64 x2, .int .i64 x3, .int .i64 x4, .bool x5] (0, 0) _ B20.out Tryd.underlying23 rfl (size23 _ _ _ _ _ _) ?_)
      | (go_at_call 9; first | ((with_reducible refine (HPq.out _ T7.out).mono ?_); rintro e W8 ⟨rfl, hb⟩; have HB8 := Lib.hid (below_step HB7.out hb); have T8 := Lib.hid (T7.out.below hb); clear hb) | ((with_reducible refine (HPr.out _ T0.out).mono ?_); rintro e W1 ⟨rfl, hb⟩; have B21 := Lib.hid (blk_below B20.out hb); have HB1 := Lib.hid (below_step HB0.out hb); have T1 := Lib.hid (T0.out.below hb); clear hb))
      | (go_at_call 6; first | ((with_reducible refine (HPs.out _ T1.out).mono ?_); rintro e W5 ⟨rfl, hb⟩; have HB5 := Lib.hid (below_step HB1.out hb); have T5 := Lib.hid (T1.out.below hb); clear hb))
      | ((with_reducible refine gate_dst (N := 10) rfl ?_); refine box_event ?hg (N := 10) ?hd (cs := #[.int .i64 0, .int .i64 0, .int .i64 0, .int .i64 0, .int .i64 0, .bool false]) (t := 23) ?hr ?_; (case hd => rfl); (case hg => rfl); (case hr => first | (go_simp; done) | (go_simp; rfl)); intro g10 hg W6 hbox hbl; have B10 := Lib.hid hbox; have HB6 := Lib.hid (below_step HB5.out hbl); have HB56 := Lib.hid hbl; have L10 := Lib.hid (show W5.heap.size ≤ g10 from by rw [hg]; exact Nat.le_refl _); clear hbox hbl hg)
      | ((with_reducible refine gate_store (t := 23) (p := 10) rfl ?_); refine row_event rfl 23 _ _ rfl g10 #[.int .i64 y0, .int .i64 y1, .int .i64 y2, .int .i64 y3, .int .i64 y4, .bool y5] rfl rfl 23 #[.int .i64 0, .int .i64 0, .int .i64 0, .int .i64 0, .int .i64 0, .bool false] B10.out (size23 _ _ _ _ _ _) rfl (one23 _ _ _ _ _ _) ?_; intro W7 hq hoth hbel; have B107 := Lib.hid hq; have hb7 := hbel _ _ L10.out HB56.out; have HB7 := Lib.hid (below_step HB5.out hb7); have T7 := Lib.hid (T5.out.below hb7); clear hq hoth hbel hb7)
      | ((with_reducible refine gate_dst (N := 71) rfl ?_); refine wpList_load_row rfl 23 _ rfl g10 rfl 23 #[.int .i64 y0, .int .i64 y1, .int .i64 y2, .int .i64 y3, .int .i64 y4, .bool y5] (0, 0) _ B107.out Tryd.underlying23 rfl (size23 _ _ _ _ _ _) ?_)
      | (go_at_call 10; (with_reducible refine (text_Words.calls K s ws ats _ HW.out).mono ?_); rintro e W9 ⟨v0, v1, rfl, h0, h1, hb⟩; obtain ⟨gj, cj, rfl, hb1, hb2, _⟩ := Kd.R_form h0 HWs.out; obtain ⟨_, hcap, hCj⟩ := Kd.R_reads' h0; obtain ⟨A1, c1, rfl, hc1, hC1⟩ := Kd.R_reads h1; have CJ := Lib.hid hCj; have GJ := Lib.hid hb2; have HCap := Lib.hid hcap; have HB9 := Lib.hid (below_step HB8.out hb); have T9 := Lib.hid (T8.out.below hb); clear hb h0 h1 hb1 hb2 hCj hcap hc1 hC1)
      | (go_at_call 8; (with_reducible refine (HA.out _ T9.out).mono ?_); rintro e W10 ⟨rfl, hb⟩; have CJ1 := Lib.hid (Kd.C_below CJ.out hb); have GJ1 := Lib.hid (Nat.lt_of_lt_of_le GJ.out hb.size); have HB10 := Lib.hid (below_step HB9.out hb); clear hb)
      | (go_at_call 16; (with_reducible refine (HJ.out gj cj _ CJ1.out GJ1.out HCap.out).mono ?_); rintro e W11 ⟨rfl, hb⟩; have HB11 := Lib.hid (below_step HB10.out hb); clear hb))
    go_ret
    exact ⟨rfl, HB11.out⟩
set_option maxRecDepth 100000 in
set_option maxHeartbeats 8000000 in
theorem back_ne (K : Nat) (x0 x1 x2 x3 x4 : Int) (x5 : Bool) (s : ByteArray) (A : Nat → Addr) (c : Nat → Nat) (w : World) (hsz : s.size ≤ 9223372036854775807) (hp : Places A c w)
    (hA : ∀ w1, Places A c w1 → Calls Tryd.prog 8 #[] w1 fun e w' => e = .returned (.bool true) ∧ Below w1.heap.size w1 w')
    (hPr : ∀ w1, Places A c w1 → Calls Tryd.prog 9 #[.agg #[.int .i64 x0, .int .i64 x1, .int .i64 x2, .int .i64 x3, .int .i64 x4, .bool x5]] w1 fun e w' => e = .returned (.tuple #[.string ⟨#[]⟩, .int .i64 4]) ∧ Below w1.heap.size w1 w')
    (r7 r8 : Int) (hPs : ∀ w1, Places A c w1 → Calls Tryd.prog 6 #[.string (cutS s)] w1 fun e w' => e = .returned (.tuple #[.agg #[.int .i64 0, .int .i64 0, .int .i64 0, .int .i64 0, .int .i64 0, .bool false], .int .i64 r7, .int .i64 r8]) ∧ Below w1.heap.size w1 w')
    (hr7 : 0 ≤ r7) (hr7' : r7 ≤ (cutS s).size) (hr8 : r8 ≠ 0) :
    Calls Tryd.prog 5 #[.agg #[.int .i64 x0, .int .i64 x1, .int .i64 x2, .int .i64 x3, .int .i64 x4, .bool x5], .string s] w fun e w' => e = .returned (.bool true) ∧ Below w.heap.size w w' := by
  have HT := Lib.hid hp
  have HA := Lib.hid hA
  have HPr := Lib.hid hPr
  have HPs := Lib.hid hPs
  clear hp hA hPr hPs
  by_cases h3 : 300 < s.size
  · have e1 : cutS s = s.extract 0 300 := by unfold cutS; rw [if_pos h3]
    rw [e1] at HPs hr7'
    have c1 : ((300 : Int) < (s.size : Int)) = True := eq_true (by omega)
    have c2 : decide ((300 : Int) ≤ (s.size : Int)) = true := decide_eq_true (by omega)
    have c3 : 300 ≤ s.size := by omega
    clear e1 h3
    have d1 : decide (0 ≤ r7) = true := decide_eq_true hr7
    have d2 : (r8 != 0) = true := bne_iff_ne.mpr hr8
    have e3 : (s.extract 0 300).size = 300 := by rw [ByteArray.size_extract]; omega
    have d3 : decide (r7 ≤ 300) = true := decide_eq_true (by rw [e3] at hr7'; omega)
    have d4 : decide (r7 ≤ ((s.extract 0 300).size : Int)) = true := decide_eq_true hr7'
    have HE3 := Lib.hid e3
    clear e3 hr7' hr8
    go_enter Tryd.func5, Tryd.ntmps5
    go_wp2_with (first
      | ((with_reducible refine gate_dst (N := 2) rfl ?_); refine box_event ?hg (N := 2) ?hd (cs := #[.int .i64 x0, .int .i64 x1, .int .i64 x2, .int .i64 x3, .int .i64 x4, .bool x5]) (t := 23) ?hr ?_; (case hd => rfl); (case hg => rfl); (case hr => first | (go_simp; done) | (go_simp; rfl)); intro g2 hg W0 hbox hbl; have B20 := Lib.hid hbox; have HB0 := Lib.hid hbl; have T0 := Lib.hid (HT.out.below hbl); clear hbox hbl hg)
      | ((with_reducible refine gate_dst (N := 23) rfl ?_); refine wpList_load_row rfl 23 _ rfl g2 rfl 23 #[.int .i64 x0, .int .i64 x1, .int .i64 x2, .int .i64 x3, .int .i64 x4, .bool x5] (0, 0) _ B20.out Tryd.underlying23 rfl (size23 _ _ _ _ _ _) ?_)
      | (go_at_call 9; first | ((with_reducible refine (HPr.out _ T0.out).mono ?_); rintro e W1 ⟨rfl, hb⟩; have B21 := Lib.hid (blk_below B20.out hb); have HB1 := Lib.hid (below_step HB0.out hb); have T1 := Lib.hid (T0.out.below hb); clear hb))
      | (go_at_call 6; first | ((with_reducible refine (HPs.out _ T1.out).mono ?_); rintro e W5 ⟨rfl, hb⟩; have HB5 := Lib.hid (below_step HB1.out hb); have T5 := Lib.hid (T1.out.below hb); clear hb))
      | ((with_reducible refine gate_dst (N := 10) rfl ?_); refine box_event ?hg (N := 10) ?hd (cs := #[.int .i64 0, .int .i64 0, .int .i64 0, .int .i64 0, .int .i64 0, .bool false]) (t := 23) ?hr ?_; (case hd => rfl); (case hg => rfl); (case hr => first | (go_simp; done) | (go_simp; rfl)); intro g10 hg W6 hbox hbl; have B10 := Lib.hid hbox; have HB6 := Lib.hid (below_step HB5.out hbl); have HB56 := Lib.hid hbl; have L10 := Lib.hid (show W5.heap.size ≤ g10 from by rw [hg]; exact Nat.le_refl _); clear hbox hbl hg)
      | ((with_reducible refine gate_store (t := 23) (p := 10) rfl ?_); refine row_event rfl 23 _ _ rfl g10 #[.int .i64 0, .int .i64 0, .int .i64 0, .int .i64 0, .int .i64 0, .bool false] rfl rfl 23 #[.int .i64 0, .int .i64 0, .int .i64 0, .int .i64 0, .int .i64 0, .bool false] B10.out (size23 _ _ _ _ _ _) rfl (one23 _ _ _ _ _ _) ?_; intro W7 hq hoth hbel; have B107 := Lib.hid hq; have hb7 := hbel _ _ L10.out HB56.out; have HB7 := Lib.hid (below_step HB5.out hb7); have T7 := Lib.hid (T5.out.below hb7); clear hq hoth hbel hb7)
      | (go_at_call 8; (with_reducible refine (HA.out _ T7.out).mono ?_); rintro e W8 ⟨rfl, hb⟩; have q0 : W8.cell? ⟨g10, 0, none⟩ = some (.int .i64 0) := (blk_cell (blk_below B107.out hb) 0).trans rfl; have q1 : W8.cell? ⟨g10, 1, none⟩ = some (.int .i64 0) := (blk_cell (blk_below B107.out hb) 1).trans rfl; have q2 : W8.cell? ⟨g10, 2, none⟩ = some (.int .i64 0) := (blk_cell (blk_below B107.out hb) 2).trans rfl; have q3 : W8.cell? ⟨g10, 3, none⟩ = some (.int .i64 0) := (blk_cell (blk_below B107.out hb) 3).trans rfl; have q4 : W8.cell? ⟨g10, 4, none⟩ = some (.int .i64 0) := (blk_cell (blk_below B107.out hb) 4).trans rfl; have q5 : W8.cell? ⟨g10, 5, none⟩ = some (.bool false) := (blk_cell (blk_below B107.out hb) 5).trans rfl; have HB8 := Lib.hid (below_step HB7.out hb); clear hb))
    go_ret
    exact ⟨rfl, HB8.out⟩
  · have e1 : cutS s = s := by unfold cutS; rw [if_neg h3]; simp
    rw [e1] at HPs hr7'
    have c1 : ((300 : Int) < (s.size : Int)) = False := eq_false (by omega)
    clear e1 h3
    have d1 : decide (0 ≤ r7) = true := decide_eq_true hr7
    have d2 : (r8 != 0) = true := bne_iff_ne.mpr hr8
    have d4 : decide (r7 ≤ (s.size : Int)) = true := decide_eq_true hr7'
    clear hr7' hr8
    go_enter Tryd.func5, Tryd.ntmps5
    go_wp2_with (first
      | ((with_reducible refine gate_dst (N := 2) rfl ?_); refine box_event ?hg (N := 2) ?hd (cs := #[.int .i64 x0, .int .i64 x1, .int .i64 x2, .int .i64 x3, .int .i64 x4, .bool x5]) (t := 23) ?hr ?_; (case hd => rfl); (case hg => rfl); (case hr => first | (go_simp; done) | (go_simp; rfl)); intro g2 hg W0 hbox hbl; have B20 := Lib.hid hbox; have HB0 := Lib.hid hbl; have T0 := Lib.hid (HT.out.below hbl); clear hbox hbl hg)
      | ((with_reducible refine gate_dst (N := 23) rfl ?_); refine wpList_load_row rfl 23 _ rfl g2 rfl 23 #[.int .i64 x0, .int .i64 x1, .int .i64 x2, .int .i64 x3, .int .i64 x4, .bool x5] (0, 0) _ B20.out Tryd.underlying23 rfl (size23 _ _ _ _ _ _) ?_)
      | (go_at_call 9; first | ((with_reducible refine (HPr.out _ T0.out).mono ?_); rintro e W1 ⟨rfl, hb⟩; have B21 := Lib.hid (blk_below B20.out hb); have HB1 := Lib.hid (below_step HB0.out hb); have T1 := Lib.hid (T0.out.below hb); clear hb))
      | (go_at_call 6; first | ((with_reducible refine (HPs.out _ T1.out).mono ?_); rintro e W5 ⟨rfl, hb⟩; have HB5 := Lib.hid (below_step HB1.out hb); have T5 := Lib.hid (T1.out.below hb); clear hb))
      | ((with_reducible refine gate_dst (N := 10) rfl ?_); refine box_event ?hg (N := 10) ?hd (cs := #[.int .i64 0, .int .i64 0, .int .i64 0, .int .i64 0, .int .i64 0, .bool false]) (t := 23) ?hr ?_; (case hd => rfl); (case hg => rfl); (case hr => first | (go_simp; done) | (go_simp; rfl)); intro g10 hg W6 hbox hbl; have B10 := Lib.hid hbox; have HB6 := Lib.hid (below_step HB5.out hbl); have HB56 := Lib.hid hbl; have L10 := Lib.hid (show W5.heap.size ≤ g10 from by rw [hg]; exact Nat.le_refl _); clear hbox hbl hg)
      | ((with_reducible refine gate_store (t := 23) (p := 10) rfl ?_); refine row_event rfl 23 _ _ rfl g10 #[.int .i64 0, .int .i64 0, .int .i64 0, .int .i64 0, .int .i64 0, .bool false] rfl rfl 23 #[.int .i64 0, .int .i64 0, .int .i64 0, .int .i64 0, .int .i64 0, .bool false] B10.out (size23 _ _ _ _ _ _) rfl (one23 _ _ _ _ _ _) ?_; intro W7 hq hoth hbel; have B107 := Lib.hid hq; have hb7 := hbel _ _ L10.out HB56.out; have HB7 := Lib.hid (below_step HB5.out hb7); have T7 := Lib.hid (T5.out.below hb7); clear hq hoth hbel hb7)
      | (go_at_call 8; (with_reducible refine (HA.out _ T7.out).mono ?_); rintro e W8 ⟨rfl, hb⟩; have q0 : W8.cell? ⟨g10, 0, none⟩ = some (.int .i64 0) := (blk_cell (blk_below B107.out hb) 0).trans rfl; have q1 : W8.cell? ⟨g10, 1, none⟩ = some (.int .i64 0) := (blk_cell (blk_below B107.out hb) 1).trans rfl; have q2 : W8.cell? ⟨g10, 2, none⟩ = some (.int .i64 0) := (blk_cell (blk_below B107.out hb) 2).trans rfl; have q3 : W8.cell? ⟨g10, 3, none⟩ = some (.int .i64 0) := (blk_cell (blk_below B107.out hb) 3).trans rfl; have q4 : W8.cell? ⟨g10, 4, none⟩ = some (.int .i64 0) := (blk_cell (blk_below B107.out hb) 4).trans rfl; have q5 : W8.cell? ⟨g10, 5, none⟩ = some (.bool false) := (blk_cell (blk_below B107.out hb) 5).trans rfl; have HB8 := Lib.hid (below_step HB7.out hb); clear hb))
    go_ret
    exact ⟨rfl, HB8.out⟩
end Go.Proofs.YtajgpilcbaoneaaDoor.P
