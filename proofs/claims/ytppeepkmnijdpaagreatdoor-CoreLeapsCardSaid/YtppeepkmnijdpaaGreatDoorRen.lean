/- The shelf's numbers at this seat; a builder's check of its place. Conditions: none. -/
import Derived.Test.YtppeepkmnijdpaaGreatDoorNm
import Derived.WalkKit
import Derived.Lib.Builder
import Derived.Lib.Walk
import Derived.RowKit
import Derived.Shelf.Strings.BuilderX
namespace Go.Proofs.YtppeepkmnijdpaaGreatDoor
open Go Go.Shelf Go.RowKit
set_option maxHeartbeats 1000000
set_option maxRecDepth 100000
def shr : Ren := ⟨fun n => if n = 129 then 221 else if n = 138 then 112 else if n = 143 then 113 else if n = 169 then 32 else if n = 171 then 30 else if n = 172 then 116 else if n = 195 then 173 else if n = 197 then 174 else if n = 205 then 247 else if n = 217 then 211 else if n = 218 then 175 else if n = 219 then 176 else if n = 221 then 57 else if n = 224 then 213 else if n = 225 then 212 else if n = 243 then 65 else if n = 244 then 178 else if n = 245 then 179 else if n = 246 then 121 else if n = 247 then 215 else if n = 260 then 210 else if n = 266 then 243 else if n = 267 then 214 else if n = 268 then 111 else if n = 279 then 216 else if n = 280 then 217 else if n = 281 then 218 else if n = 282 then 219 else if n = 283 then 180 else if n = 284 then 181 else if n = 285 then 182 else if n = 286 then 183 else if n = 287 then 245 else if n = 314 then 244 else if n = 316 then 246 else if n = 317 then 220 else if n = 318 then 222 else if n = 319 then 223 else if n = 320 then 224 else if n = 321 then 260 else if n = 322 then 261 else if n = 337 then 248 else if n = 338 then 151 else n,
  fun t => if t = 0 then 0 else if t = 2 then 2 else if t = 3 then 3 else if t = 4 then 4 else if t = 5 then 5 else if t = 9 then 9 else if t = 20 then 20 else if t = 21 then 21 else if t = 31 then 85 else if t = 37 then 98 else if t = 46 then 223 else if t = 51 then 66 else if t = 53 then 123 else if t = 70 then 97 else if t = 72 then 100 else if t = 75 then 102 else if t = 76 then 103 else if t = 80 then 33 else if t = 85 then 355 else if t = 105 then 311 else if t = 119 then 385 else if t = 127 then 155 else if t = 138 then 387 else if t = 139 then 388 else if t = 143 then 412 else if t = 145 then 414 else if t = 146 then 389 else if t = 167 then 354 else if t = 168 then 357 else if t = 171 then 316 else if t = 173 then 318 else if t = 175 then 391 else if t = 210 then 395 else if t = 212 then 361 else if t = 213 then 362 else if t = 232 then 415 else if t = 233 then 331 else t,
  fun g => if g = 1 then 1 else if g = 3 then 3 else if g = 4 then 4 else if g = 15 then 5 else if g = 16 then 6 else if g = 17 then 2 else if g = 18 then 7 else if g = 19 then 0 else g⟩
theorem Afx : Builder.X72 Tryz.prog shr := by constructor <;> kernel_rfl
theorem shX : Builder.Extra Tryz.prog shr := { Afx with
  t5 := by kernel_rfl
  a5 := fun w => by kernel_rfl
  z5 := fun w => by kernel_rfl
  v5 := fun w => by kernel_rfl
  infoByte := by kernel_rfl
  cellsByte := by kernel_rfl
  sizeByte := by kernel_rfl
  neB5 := by decide }
/-- a builder that was written finds itself where it was -/
theorem Aot (b : Nat) (w : World) (h0 : w.cell? ⟨b, 0, none⟩ = some (.pointer (some ⟨b, 0, none⟩))) :
    Calls Tryz.prog 62 #[.pointer (some ⟨b, 0, none⟩)] w fun e w' => e = .returned (.tuple #[]) ∧ w' = w := by
  obtain ⟨j, hj, _⟩ := Option.map_eq_some_iff.1 Afx.sizeBuilder
  go_enter Tryz.func62, Tryz.ntmps62
  go_wp2
  rw [Lib.run_neq_ptr_same w _ Tryz.underlying97 hj]
  go_wp2
  go_end0
  exact ⟨rfl, rfl⟩
/-- a fresh builder keeps where it is -/
theorem Amv (b : Nat) (w : World) (h0 : w.cell? ⟨b, 0, none⟩ = some (.pointer none)) (hsh : w.shape? b = some (100, 2)) (hfz : w.frozen? ⟨b, 0, none⟩ = false) :
    Calls Tryz.prog 62 #[.pointer (some ⟨b, 0, none⟩)] w fun e w' => e = .returned (.tuple #[]) ∧ w' = w.setCell ⟨b, 0, none⟩ (.pointer (some ⟨b, 0, none⟩)) := by
  obtain ⟨j, hj, hjs⟩ := Option.map_eq_some_iff.1 Afx.sizeBuilder
  go_enter Tryz.func62, Tryz.ntmps62
  go_wp2
  rw [Lib.run_to_unsafe w ⟨b, 0, none⟩ Tryz.underlying97 Tryz.underlying219 hj (by rw [hjs]; decide) hsh (Nat.zero_lt_succ 1)]
  simp only [Result.andThen]
  rw [Oper.upon_value]
  go_wp2
  rw [run_callFunc_extern Tryz.func119 (by kernel_rfl) (by kernel_rfl) (by kernel_rfl) (e := Extern.AbiNoEscape.same) (by kernel_rfl)]
  rw [Lib.run_noEscape]
  simp only [Result.andThen]
  rw [Oper.upon_value]
  go_wp2
  rw [Lib.run_from_unsafe w ⟨b, 0, none⟩ Tryz.underlying219 Tryz.underlying97 hj hsh Afx.liesBuilder]
  simp only [Result.andThen]
  rw [Oper.upon_value]
  go_wp2
  go_end0
  exact ⟨rfl, rfl⟩
end Go.Proofs.YtppeepkmnijdpaaGreatDoor
