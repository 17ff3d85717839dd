/- The laws of leap over arguments as they lie. Conditions: what an argument is. -/
import Derived.Test.YtfbegkddkdenbaaDoorLcJ
import Derived.Test.YtfbegkddkdenbaaDoorEngR
namespace Go.Proofs.YtfbegkddkdenbaaDoor
open Go.Eng Go
set_option linter.unusedVariables false

abbrev shTm : Shp := .cons 1 (.i .i64) (.cons 1 (.i .i64) (.cons 1 (.i .i64) (.cons 1 (.sl 2 (.cons 1 (.i .i64) (.cons 1 (.i .i64) (.nil)))) (.nil))))
theorem tabm_open {w : World} {cs : List Value} (h : Okc w shTm cs) : ∃ (m : Tb) (s : Sl), cs = cT m s ∧ RowsP w s m.ls ∧ (∀ l ∈ m.ls, I64 l.1 ∧ I64 l.2) ∧ I64 m.st ∧ I64 m.ah ∧ I64 m.en := by
  obtain ⟨_, _, rfl, _, ⟨a, rfl, wa⟩, _, _, rfl, _, ⟨b, rfl, wb⟩, _, _, rfl, _, ⟨c, rfl, wc⟩, _, _, rfl, _, ⟨s, rfl, _, _, rows, hl, hR, hrow⟩, rfl⟩ := h
  obtain ⟨xs, hf, hlen, hI⟩ := typed_rows (cs := K2) (Q := fun _ => True) (R := fun x => I64 x.1 ∧ I64 x.2.1) rows fun r hr => by
    obtain ⟨_, _, _, rfl, _, ⟨x, rfl, wx⟩, _, _, rfl, _, ⟨y, rfl, wy⟩, rfl⟩ := hrow r hr
    exact ⟨(x, y, ()), rfl, i64_of wx, i64_of wy⟩
  refine ⟨⟨a, b, c, xs.map fun x => (x.1, x.2.1)⟩, s, rfl, ?_, ?_, i64_of wa, i64_of wb, i64_of wc⟩
  · show Row w s 2 _
    have e : (xs.map fun x => ((x.1, x.2.1) : P2)).map t2 = xs := by
      rw [List.map_map]
      conv => rhs; rw [← List.map_id xs]
      rfl
    rw [e, ← hf]; exact hR
  · intro l hl
    obtain ⟨x, hx, rfl⟩ := List.mem_map.1 hl
    exact hI x hx
theorem law21_LeapSteps.fin {cs : List Value} {day : Int} {w : World} (h : Okc w shTm cs) (hd : I64 day) : clS Tryd.prog F.law21_LeapSteps [.agg cs.toArray, .int .i64 day] w false RB1 (Holds w) := by
  obtain ⟨m, s, rfl, hR, hI, hm⟩ := tabm_open h
  exact law21_LeapSteps.cl hR hI hm hd
theorem law21_LeapCuts.fin {cs : List Value} {day : Int} {w : World} (h : Okc w shTm cs) (hd : I64 day) : clS Tryd.prog F.law21_LeapCuts [.agg cs.toArray, .int .i64 day] w false RB1 (Holds w) := by
  obtain ⟨m, s, rfl, hR, hI, hm⟩ := tabm_open h
  exact law21_LeapCuts.cl hR hI hm hd
theorem law21_LeapBack.fin {cs : List Value} {day : Int} {w : World} (h : Okc w shTm cs) (hd : I64 day) : clS Tryd.prog F.law21_LeapBack [.agg cs.toArray, .int .i64 day] w false RB1 (Holds w) := by
  obtain ⟨m, s, rfl, hR, hI, hm⟩ := tabm_open h
  exact law21_LeapBack.cl hR hI hm hd
theorem law21_LeapReads.fin {s : ByteArray} {w : World} : clS Tryd.prog F.law21_LeapReads [.string s] w false RB1 (Holds w) := by
  rw [← toL_ofL s]
  exact law21_LeapReads.cl
end Go.Proofs.YtfbegkddkdenbaaDoor
