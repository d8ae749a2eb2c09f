/- The law's own plan is read: headroomlaw24.alive tells true. -/
import Derived.Test.YtajgpilcbaoneaaDoorT4
namespace Go.Proofs.YtajgpilcbaoneaaDoor.P
open Go.RowKit Go.Proofs.YtajgpilcbaoneaaDoorW.PrintWords Go.Proofs.YtajgpilcbaoneaaDoorW.PrintLast Go.Proofs.YtajgpilcbaoneaaDoorW.PrintMore
set_option linter.unusedVariables false
set_option linter.unusedSimpArgs false
/-- q15 8  four half even inverse -/
abbrev aliveS : ByteArray := ⟨#[113, 49, 53, 32, 56, 32, 32, 102, 111, 117, 114, 32, 104, 97, 108, 102, 32, 101, 118, 101, 110, 32, 105, 110, 118, 101, 114, 115, 101]⟩
def aliveW : List ByteArray := [⟨#[113, 49, 53]⟩, ⟨#[56]⟩, ⟨#[102, 111, 117, 114]⟩, ⟨#[104, 97, 108, 102]⟩, ⟨#[101, 118, 101, 110]⟩, ⟨#[105, 110, 118, 101, 114, 115, 101]⟩]
theorem alive_words : text_Words.f 100 aliveS = some (aliveW, [0, 4, 7, 12, 17, 22]) := by decide +kernel
theorem alive_pl : pl aliveS.size aliveW [0, 4, 7, 12, 17, 22] 0 [0, 0, 0, 0, 0, 0] = (0, 3, 1, 0, 2, true, 0, 0) := by kernel_rfl
theorem Parse_alive (A : Nat → Addr) (c : Nat → Nat) (w : World) (hp : Places A c w)
    (hI : ∀ k x, k < 6 → slices_Index_string_string.f 7 (row k) x = some (idx (row k) x)) (hC : ∀ n, plan_Check.f (n.getD 0 0) (wrap64 (n.getD 1 0 + 2)) (n.getD 2 0) (n.getD 3 0) (n.getD 4 0) (n.getD 5 0 == 1) = some (chk n)) :
    Calls Tryd.prog 6 #[.string aliveS] w fun e w' => e = .returned (.tuple #[.agg #[.int .i64 0, .int .i64 3, .int .i64 1, .int .i64 0, .int .i64 2, .bool true], .int .i64 0, .int .i64 0]) ∧ Below w.heap.size w w' :=
  (Parse_any 100 aliveS aliveW _ A c w alive_words rfl hp hI hC).mono fun e w' h => by rw [alive_pl] at h; exact h
set_option maxRecDepth 100000 in
set_option maxHeartbeats 4000000 in
theorem alive_any (A : Nat → Addr) (c : Nat → Nat) (w : World) (hp : Places A c w)
    (hI : ∀ k x, k < 6 → slices_Index_string_string.f 7 (row k) x = some (idx (row k) x)) (hC : ∀ n, plan_Check.f (n.getD 0 0) (wrap64 (n.getD 1 0 + 2)) (n.getD 2 0) (n.getD 3 0) (n.getD 4 0) (n.getD 5 0 == 1) = some (chk n)) :
    Calls Tryd.prog 8 #[] w fun e w' => e = .returned (.bool true) ∧ Below w.heap.size w w' := by
  have HT := Lib.hid hp
  have HI := Lib.hid hI
  have HK := Lib.hid hC
  clear hp hI hC
  go_enter Tryd.func8, Tryd.ntmps8
  go_wp2_with (first
    | (go_at_call 6; (with_reducible refine (Parse_alive A c _ HT.out HI.out HK.out).mono ?_); rintro e W1 ⟨rfl, hb⟩; have HB1 := Lib.hid hb; clear hb)
    | ((with_reducible refine gate_dst (N := 1) rfl ?_); refine box_event ?hg (N := 1) ?hd (cs := #[.int .i64 0, .int .i64 0, .int .i64 0, .int .i64 0, .int .i64 0, .bool false]) (t := 23) ?hr ?_; (case hd => rfl); (case hg => rfl); (case hr => first | (go_simp; done) | (go_simp; rfl)); intro g1 hg W2 hbox hbl; have B1 := Lib.hid hbox; have HB2 := Lib.hid (below_step HB1.out hbl); have L1 := Lib.hid (show w.heap.size ≤ g1 from by rw [hg]; exact HB1.out.size); clear hbox hbl hg)
    | ((with_reducible refine gate_store (t := 23) (p := 1) rfl ?_); refine row_event rfl 23 _ _ rfl g1 #[.int .i64 0, .int .i64 3, .int .i64 1, .int .i64 0, .int .i64 2, .bool true] rfl rfl 23 #[.int .i64 0, .int .i64 0, .int .i64 0, .int .i64 0, .int .i64 0, .bool false] B1.out (size23 _ _ _ _ _ _) rfl (one23 _ _ _ _ _ _) ?_; intro W3 hq hoth hbel; have B13 := Lib.hid hq; have f0 : W3.cell? ⟨g1, 0, none⟩ = some (.int .i64 0) := (blk_cell hq 0).trans rfl; have f1 : W3.cell? ⟨g1, 1, none⟩ = some (.int .i64 3) := (blk_cell hq 1).trans rfl; have f2 : W3.cell? ⟨g1, 2, none⟩ = some (.int .i64 1) := (blk_cell hq 2).trans rfl; have f3 : W3.cell? ⟨g1, 3, none⟩ = some (.int .i64 0) := (blk_cell hq 3).trans rfl; have f4 : W3.cell? ⟨g1, 4, none⟩ = some (.int .i64 2) := (blk_cell hq 4).trans rfl; have f5 : W3.cell? ⟨g1, 5, none⟩ = some (.bool true) := (blk_cell hq 5).trans rfl; have HB3 := Lib.hid (hbel _ _ L1.out HB2.out); clear hq hoth hbel))
  go_ret
  exact ⟨rfl, HB3.out⟩
end Go.Proofs.YtajgpilcbaoneaaDoor.P
