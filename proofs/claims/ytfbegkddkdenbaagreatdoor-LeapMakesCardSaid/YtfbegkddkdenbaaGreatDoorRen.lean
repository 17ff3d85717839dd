/- The shelf's numbers at this seat; a builder's check of its place. Conditions: none. -/
import Derived.Test.YtfbegkddkdenbaaGreatDoorNm
import Derived.WalkKit
import Derived.Lib.Builder
import Derived.Lib.Walk
import Derived.RowKit
import Derived.Shelf.Strings.BuilderX
namespace Go.Proofs.YtfbegkddkdenbaaGreatDoor
open Go Go.Shelf Go.RowKit
set_option maxHeartbeats 1000000
set_option maxRecDepth 100000
def shr : Ren := ⟨fun n => if n = 129 then 77 else if n = 138 then 58 else if n = 143 then 59 else if n = 169 then 23 else if n = 171 then 22 else if n = 172 then 62 else if n = 195 then 68 else if n = 197 then 69 else if n = 205 then 97 else if n = 217 then 82 else if n = 218 then 70 else if n = 219 then 71 else if n = 221 then 42 else if n = 224 then 84 else if n = 225 then 83 else if n = 243 then 38 else if n = 244 then 74 else if n = 245 then 75 else if n = 246 then 53 else if n = 247 then 86 else if n = 260 then 81 else if n = 266 then 93 else if n = 267 then 85 else if n = 268 then 57 else if n = 279 then 87 else if n = 280 then 88 else if n = 281 then 89 else if n = 282 then 90 else if n = 283 then 64 else if n = 284 then 65 else if n = 285 then 66 else if n = 286 then 67 else if n = 287 then 95 else if n = 314 then 94 else if n = 316 then 96 else if n = 317 then 76 else if n = 318 then 78 else if n = 319 then 79 else if n = 320 then 80 else if n = 321 then 98 else if n = 322 then 99 else if n = 337 then 91 else if n = 338 then 92 else n,
  fun t => if t = 0 then 0 else if t = 2 then 2 else if t = 3 then 3 else if t = 4 then 4 else if t = 5 then 5 else if t = 9 then 9 else if t = 20 then 20 else if t = 21 then 21 else if t = 31 then 69 else if t = 37 then 56 else if t = 46 then 77 else if t = 51 then 115 else if t = 53 then 102 else if t = 70 then 55 else if t = 72 then 58 else if t = 75 then 60 else if t = 76 then 61 else if t = 80 then 36 else if t = 85 then 120 else if t = 105 then 107 else if t = 119 then 126 else if t = 127 then 82 else if t = 138 then 128 else if t = 139 then 129 else if t = 143 then 141 else if t = 145 then 143 else if t = 146 then 130 else if t = 167 then 119 else if t = 168 then 122 else if t = 171 then 101 else if t = 173 then 105 else if t = 175 then 132 else if t = 210 then 136 else if t = 212 then 114 else if t = 213 then 116 else if t = 232 then 138 else if t = 233 then 139 else t,
  fun g => if g = 1 then 1 else if g = 3 then 2 else if g = 4 then 3 else if g = 15 then 4 else if g = 16 then 5 else if g = 17 then 0 else if g = 18 then 6 else if g = 19 then 7 else g⟩
theorem shX72 : Builder.X72 Tryz.prog shr := by constructor <;> kernel_rfl
theorem shX : Builder.Extra Tryz.prog shr := { shX72 with
  t5 := by kernel_rfl
  a5 := fun w => by kernel_rfl
  z5 := fun w => by kernel_rfl
  v5 := fun w => by kernel_rfl
  infoByte := by kernel_rfl
  cellsByte := by kernel_rfl
  sizeByte := by kernel_rfl
  neB5 := by decide }
/-- a builder that was written finds itself where it was -/
theorem cc_used (b : Nat) (w : World) (h0 : w.cell? ⟨b, 0, none⟩ = some (.pointer (some ⟨b, 0, none⟩))) :
    Calls Tryz.prog 35 #[.pointer (some ⟨b, 0, none⟩)] w fun e w' => e = .returned (.tuple #[]) ∧ w' = w := by
  obtain ⟨j, hj, _⟩ := Option.map_eq_some_iff.1 shX72.sizeBuilder
  go_enter Tryz.func35, Tryz.ntmps35
  go_wp2
  rw [Lib.run_neq_ptr_same w _ Tryz.underlying55 hj]
  go_wp2
  go_end0
  exact ⟨rfl, rfl⟩
/-- a fresh builder keeps where it is -/
theorem cc_fresh (b : Nat) (w : World) (h0 : w.cell? ⟨b, 0, none⟩ = some (.pointer none)) (hsh : w.shape? b = some (58, 2)) (hfz : w.frozen? ⟨b, 0, none⟩ = false) :
    Calls Tryz.prog 35 #[.pointer (some ⟨b, 0, none⟩)] w fun e w' => e = .returned (.tuple #[]) ∧ w' = w.setCell ⟨b, 0, none⟩ (.pointer (some ⟨b, 0, none⟩)) := by
  obtain ⟨j, hj, hjs⟩ := Option.map_eq_some_iff.1 shX72.sizeBuilder
  go_enter Tryz.func35, Tryz.ntmps35
  go_wp2
  rw [Lib.run_to_unsafe w ⟨b, 0, none⟩ Tryz.underlying55 Tryz.underlying89 hj (by rw [hjs]; decide) hsh (Nat.zero_lt_succ 1)]
  simp only [Result.andThen]
  rw [Oper.upon_value]
  go_wp2
  rw [run_callFunc_extern Tryz.func48 (by kernel_rfl) (by kernel_rfl) (by kernel_rfl) (e := Extern.AbiNoEscape.same) (by kernel_rfl)]
  rw [Lib.run_noEscape]
  simp only [Result.andThen]
  rw [Oper.upon_value]
  go_wp2
  rw [Lib.run_from_unsafe w ⟨b, 0, none⟩ Tryz.underlying89 Tryz.underlying55 hj hsh shX72.liesBuilder]
  simp only [Result.andThen]
  rw [Oper.upon_value]
  go_wp2
  go_end0
  exact ⟨rfl, rfl⟩
end Go.Proofs.YtfbegkddkdenbaaGreatDoor
