/- Each plan that may be: its text's words are the table's, and tell the plan again (by the kernel, over all of them). -/
import Derived.Test.YtajgpilcbaoneaaDoorPlain
namespace Go.Proofs.YtajgpilcbaoneaaDoor.P
open Go.RowKit Go.Proofs.YtajgpilcbaoneaaDoorW.PrintWords Go.Proofs.YtajgpilcbaoneaaDoorW.PrintLast Go.Proofs.YtajgpilcbaoneaaDoorW.PrintMore
/-- A plan's text. -/
def txt (D : List Int) : ByteArray := ⟨(Lib.join ((wordsTo D 6).map (·.data.toList)) [32]).toArray⟩
def same (r : Res) (a b c d e : Int) (f : Bool) : Bool := r.1 == a && r.2.1 == b && r.2.2.1 == c && r.2.2.2.1 == d && r.2.2.2.2.1 == e && r.2.2.2.2.2.1 == f && r.2.2.2.2.2.2.1 == 0 && r.2.2.2.2.2.2.2 == 0
def good (a b c d e f : Nat) : Bool :=
  match text_Words.f 1000 (txt [a, b, c, d, e, f]) with
  | some (ws, ats) => decide (ws = wordsTo [a, b, c, d, e, f] 6) && ats.length == 6 && same (pl (txt [a, b, c, d, e, f]).size ws ats 0 [0, 0, 0, 0, 0, 0]) a ((b : Int) + 2) c d e ((f : Int) == 1) && decide (headroomref24_Print.f a ((b : Int) + 2) c d e ((f : Int) == 1) = some (txt [a, b, c, d, e, f])) && decide ((Lib.join ((wordsTo [a, b, c, d, e, f] 6).map (·.data.toList)) [32]).length ≤ 1000)
  | none => false
def goods (a f : Nat) : Bool := (List.range 5).all fun b => (List.range 3).all fun c => (List.range 3).all fun d => (List.range 3).all fun e => (c == 2 && d != 0) || good a b c d e f
set_option maxRecDepth 100000
theorem goods_00 : goods 0 0 = true := by decide +kernel
theorem goods_01 : goods 0 1 = true := by decide +kernel
theorem goods_10 : goods 1 0 = true := by decide +kernel
theorem goods_11 : goods 1 1 = true := by decide +kernel
theorem good_all (a b c d e f : Nat) (ha : a < 2) (hb : b < 5) (hc : c < 3) (hd : d < 3) (he : e < 3) (hf : f < 2) (h : c = 2 → d = 0) : good a b c d e f = true := by
  have hg : goods a f = true := by
    have ha' : a = 0 ∨ a = 1 := by omega
    have hf' : f = 0 ∨ f = 1 := by omega
    rcases ha' with rfl | rfl <;> rcases hf' with rfl | rfl
    · exact goods_00
    · exact goods_01
    · exact goods_10
    · exact goods_11
  unfold goods at hg
  have h1 := List.all_eq_true.1 hg b (List.mem_range.2 hb)
  have h2 := List.all_eq_true.1 h1 c (List.mem_range.2 hc)
  have h3 := List.all_eq_true.1 h2 d (List.mem_range.2 hd)
  have h4 := List.all_eq_true.1 h3 e (List.mem_range.2 he)
  rw [Bool.or_eq_true] at h4
  rcases h4 with h5 | h5
  · simp at h5
    exact absurd (h h5.1) h5.2
  · exact h5
end Go.Proofs.YtajgpilcbaoneaaDoor.P
