/- Contracts of the package fix, of bits.Mul64 and bits.Div64, and of the reference's layer 1. Conditions: arguments are integers of 64 bits. -/
import Derived.Test.YtnjmfbjgcfnanaaGreatEngB
import Derived.Test.YtnjmfbjgcfnanaaGreatSh
namespace Go.Proofs.YtnjmfbjgcfnanaaGreat
open Go.Eng

def addV (a b : Int) : Int := if I64 (a + b) then a + b else 0
def addB (a b : Int) : Bool := decide (I64 (a + b))
theorem fix_Add.cl {a b : Int} (ha : I64 a) (hb : I64 b) {w : World} {k : TR [(false, [.i .i64]), (false, [.b])] → World → Prop} (h : k ((addV a b, ()), (addB a b, ()), ()) w) :
    clS Tryz.prog F.fix_Add [.int .i64 a, .int .i64 b] w true [(false, [.i .i64]), (false, [.b])] k := by
  refine fix_Add.ok ?_
  unfold fix_Add.wp
  by_cases hs : I64 (a + b)
  · simp only [addV, addB, hs, if_true, decide_true] at h
    rw [w64_in hs]
    have e : (!((decide (a + b > a)) == (decide (b > 0)))) = false := by
      by_cases h1 : b > 0 <;> by_cases h2 : a + b > a <;> simp [h1, h2] <;> omega
    rw [e]; exact h
  · simp only [addV, addB, hs, if_false, decide_false] at h
    have e : (!((decide (IntKind.wrap .i64 (a + b) > a)) == (decide (b > 0)))) = true := by
      rw [w64]; unfold I64 at *
      by_cases h1 : b > 0 <;> by_cases h2 : (a + b + 9223372036854775808) % 18446744073709551616 - 9223372036854775808 > a <;> simp [h1, h2] <;> omega
    have e2 : (b != 0) = true := by unfold I64 at *; simp; omega
    rw [e, e2]; exact h

def subV (a b : Int) : Int := if I64 (a - b) then a - b else 0
def subB (a b : Int) : Bool := decide (I64 (a - b))
def sat (a b : Int) : Int := if a + b > 9223372036854775807 then 9223372036854775807 else if a + b < -9223372036854775808 then -9223372036854775808 else a + b
theorem fix_Sat.cl {a b : Int} (ha : I64 a) (hb : I64 b) {w : World} {k : TR [(false, [.i .i64])] → World → Prop} (h : k ((sat a b, ()), ()) w) :
    clS Tryz.prog F.fix_Sat [.int .i64 a, .int .i64 b] w false [(false, [.i .i64])] k := by
  refine fix_Sat.ok ?_
  unfold fix_Sat.wp
  refine fix_Add.cl ha hb ?_
  by_cases hs : I64 (a + b)
  · have e : sat a b = a + b := by unfold sat; unfold I64 at hs; rw [if_neg (by omega), if_neg (by omega)]
    simp only [addB, addV, hs, decide_true, brB_true, if_true]
    rw [e] at h; exact h
  · simp only [addB, addV, hs, decide_false, brB_false]
    rw [brB_if]
    unfold I64 at *
    split
    · rename_i h1; simp only [decide_eq_true_eq] at h1
      have e : sat a b = 9223372036854775807 := by unfold sat; rw [if_pos (by omega)]
      rw [e] at h; exact h
    · rename_i h1; simp only [decide_eq_true_eq] at h1
      have e : sat a b = Int.negSucc 9223372036854775807 := by rw [negS]; unfold sat; rw [if_neg (by omega), if_pos (by omega)]; rfl
      rw [e] at h; exact h

theorem fix_Size.cl {n : Int} (hn : I64 n) {w : World} {k : TR [(false, [.i .u64])] → World → Prop} (h : k (((n.natAbs : Int), ()), ()) w) :
    clS Tryz.prog F.fix_Size [.int .i64 n] w false [(false, [.i .u64])] k := by
  refine fix_Size.ok ?_
  unfold fix_Size.wp
  rw [brB_if]
  unfold I64 at hn
  split
  · rename_i h1; simp only [decide_eq_true_eq] at h1
    have e : IntKind.wrap .u64 (0 - IntKind.wrap .u64 n) = (n.natAbs : Int) := by simp only [wu64]; omega
    rw [e]; exact h
  · rename_i h1; simp only [decide_eq_true_eq] at h1
    have e : IntKind.wrap .u64 n = (n.natAbs : Int) := by simp only [wu64]; omega
    rw [e]; exact h

def floorV (a b : Int) : Int := if b < 1 then 0 else a / b
def floorR (a b : Int) : Int := if b < 1 then 0 else a % b
theorem fix_Floor.cl {a b : Int} (ha : I64 a) (hb : I64 b) {w : World} {k : TR [(false, [.i .i64]), (false, [.i .i64]), (false, [.b])] → World → Prop}
    (h : ∀ w', Gro w w' → k ((floorV a b, ()), (floorR a b, ()), (!decide (b < 1), ()), ()) w') :
    clS Tryz.prog F.fix_Floor [.int .i64 a, .int .i64 b] w true [(false, [.i .i64]), (false, [.i .i64]), (false, [.b])] k := by
  refine fix_Floor.ok ?_
  unfold fix_Floor.wp
  by_cases h1 : b < 1
  · have := h w (Gro.refl w)
    simp only [floorV, floorR, h1, if_true, decide_true, Bool.not_true] at this
    simp only [h1, decide_true, brB_true]; exact this
  · have h := h w.drew (Gro.drew w)
    simp only [floorV, floorR, h1, if_false, decide_false, Bool.not_false] at h
    simp only [h1, decide_false, brB_false, drK_eq]
    rw [nzK_eq (by omega), nzK_eq (by omega), brB_if]
    have hb0 : 0 < b := by omega
    have e1 := Int.mul_tdiv_add_tmod a b
    have e2 : Int.tmod a b < b := by have := Int.tmod_lt_of_pos a hb0; exact this
    have e3 : -b < Int.tmod a b := by have := Int.lt_tmod_of_pos a hb0; exact this
    have e4 : I64 (a / b) := by
      have g1 := Int.emod_nonneg a (b := b) (by omega)
      have g2 := Int.emod_lt_of_pos a hb0
      have g3 := Int.mul_ediv_add_emod a b
      unfold I64 at *
      refine ⟨Int.le_ediv_of_mul_le hb0 ?_, Int.le_of_lt_add_one (Int.ediv_lt_of_lt_mul hb0 ?_)⟩ <;> omega
    by_cases hr : Int.tmod a b < 0
    · obtain ⟨q1, q2⟩ := (Int.ediv_emod_unique hb0 (a := a) (q := Int.tdiv a b - 1) (r := Int.tmod a b + b)).2 ⟨by rw [Int.mul_sub]; omega, by omega, by omega⟩
      rw [if_pos (by simpa using hr)]
      have w1 : IntKind.wrap .i64 (IntKind.wrap .i64 (Int.tdiv a b) - 1) = a / b := by
        rw [q1]; simp only [w64]; unfold I64 at e4; rw [q1] at e4; omega
      have w2 : IntKind.wrap .i64 (Int.tmod a b + b) = a % b := by
        rw [q2]; refine w64_in ?_; unfold I64 at *; omega
      rw [w1, w2]; exact h
    · obtain ⟨q1, q2⟩ := (Int.ediv_emod_unique hb0 (a := a) (q := Int.tdiv a b) (r := Int.tmod a b)).2 ⟨by omega, by omega, by omega⟩
      rw [if_neg (by simpa using hr)]
      have w1 : IntKind.wrap .i64 (Int.tdiv a b) = a / b := by rw [← q1]; exact w64_in e4
      rw [w1, ← q2]; exact h

def clamp (x lo hi : Int) : Int := max (min x hi) lo
theorem fix_Clamp.cl {x lo hi : Int} {w : World} {k : TR [(false, [.i .i64])] → World → Prop} (h : k ((clamp x lo hi, ()), ()) w) :
    clS Tryz.prog F.fix_Clamp [.int .i64 x, .int .i64 lo, .int .i64 hi] w false [(false, [.i .i64])] k := by
  refine fix_Clamp.ok ?_
  unfold fix_Clamp.wp
  have e : (if lo > (if hi < x then hi else x) then lo else (if hi < x then hi else x)) = clamp x lo hi := by
    unfold clamp; split <;> split <;> simp only [Int.max_def, Int.min_def] <;> repeat' split <;> omega
  rw [e]; exact h

/-! ### the reference's layer 1 -/
theorem ref01_Size.cl {n : Int} (hn : I64 n) {w : World} {k : TR [(false, [.i .u64])] → World → Prop} (h : k (((n.natAbs : Int), ()), ()) w) :
    clS Tryz.prog F.ref01_Size [.int .i64 n] w false [(false, [.i .u64])] k := by
  refine ref01_Size.ok ?_
  unfold ref01_Size.wp
  rw [brB_if]
  unfold I64 at hn
  split
  · rename_i h1; simp only [decide_eq_true_eq] at h1
    have e : IntKind.wrap .u64 n = (n.natAbs : Int) := by simp only [wu64]; omega
    rw [e]; exact h
  · rename_i h1; simp only [decide_eq_true_eq] at h1
    have e : IntKind.wrap .u64 (IntKind.wrap .u64 (IntKind.wrap .i64 (0 - IntKind.wrap .i64 (n + 1))) + 1) = (n.natAbs : Int) := by simp only [wu64, w64]; omega
    rw [e]; exact h

theorem ref01_Floor.cl {a b : Int} (ha : I64 a) (hb : I64 b) (h1 : 1 ≤ b) {w : World} {k : TR [(false, [.i .i64]), (false, [.i .i64])] → World → Prop}
    (h : ∀ w', Gro w w' → k ((a / b, ()), (a % b, ()), ()) w') :
    clS Tryz.prog F.ref01_Floor [.int .i64 a, .int .i64 b] w true [(false, [.i .i64]), (false, [.i .i64])] k := by
  refine ref01_Floor.ok ?_
  unfold ref01_Floor.wp
  have h := h w.drew (Gro.drew w)
  rw [nzK_eq (by omega)]
  refine CutT.inl ?_
  rw [nzK_eq (by omega)]
  have hb0 : 0 < b := by omega
  have e1 := Int.mul_tdiv_add_tmod a b
  have e2 : Int.tmod a b < b := Int.tmod_lt_of_pos a hb0
  have e3 : -b < Int.tmod a b := Int.lt_tmod_of_pos a hb0
  have e4 : I64 (a / b) := by
    have g1 := Int.emod_nonneg a (b := b) (by omega)
    have g2 := Int.emod_lt_of_pos a hb0
    have g3 := Int.mul_ediv_add_emod a b
    unfold I64 at *
    refine ⟨Int.le_ediv_of_mul_le hb0 ?_, Int.le_of_lt_add_one (Int.ediv_lt_of_lt_mul hb0 ?_)⟩ <;> omega
  by_cases hr : Int.tmod a b < 0
  · obtain ⟨q1, q2⟩ := (Int.ediv_emod_unique hb0 (a := a) (q := Int.tdiv a b - 1) (r := Int.tmod a b + b)).2 ⟨by rw [Int.mul_sub]; omega, by omega, by omega⟩
    have ha0 : a < 0 := by
      by_cases h : a < 0
      · exact h
      · have := Int.tmod_nonneg b (show 0 ≤ a by omega); omega
    have c1 : (Int.tmod a b != 0) = true := by simp; omega
    have w1 : IntKind.wrap .i64 (IntKind.wrap .i64 (Int.tdiv a b) - 1) = a / b := by
      rw [q1]; simp only [w64]; unfold I64 at e4; rw [q1] at e4; omega
    have w2 : IntKind.wrap .i64 (Int.tmod a b + b) = a % b := by
      rw [q2]; refine w64_in ?_; unfold I64 at *; omega
    simp only [c1, ha0, decide_true, brB_true, drK_eq]
    intro _
    rw [nzK_eq (by omega), w1, w2]; exact h
  · obtain ⟨q1, q2⟩ := (Int.ediv_emod_unique hb0 (a := a) (q := Int.tdiv a b) (r := Int.tmod a b)).2 ⟨by omega, by omega, by omega⟩
    have w1 : IntKind.wrap .i64 (Int.tdiv a b) = a / b := by rw [← q1]; exact w64_in e4
    by_cases h0 : Int.tmod a b = 0
    · have c1 : (Int.tmod a b != 0) = false := by simp [h0]
      simp only [c1, brB_false, drK_eq]
      intro _
      rw [nzK_eq (by omega), w1, ← q2]; exact h
    · have c1 : (Int.tmod a b != 0) = true := by simp [h0]
      have ha0 : ¬ a < 0 := by
        intro hlt
        have := Int.tmod_nonneg b (show 0 ≤ -a by omega)
        rw [Int.neg_tmod] at this
        omega
      simp only [c1, ha0, decide_false, brB_true, brB_false, drK_eq]
      intro _
      rw [nzK_eq (by omega), w1, ← q2]; exact h
end Go.Proofs.YtnjmfbjgcfnanaaGreat
