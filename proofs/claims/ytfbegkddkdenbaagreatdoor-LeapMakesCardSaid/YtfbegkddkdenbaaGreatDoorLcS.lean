/- What the library's functions on strings answer, off the shelf: Split at one byte, Itoa and Atoi of two digits, a Builder. Conditions: lengths. -/
import Derived.Test.YtfbegkddkdenbaaGreatDoorRen
import Derived.Test.YtfbegkddkdenbaaGreatDoorLpA
import Derived.Shelf.Strings.SplitCore
import Derived.Shelf.Strings.Search3
import Derived.Shelf.Strings.Count
import Derived.Shelf.Strings.BuilderK
import Derived.Shelf.Strconv.Itoa3
import Derived.Shelf.Strconv.Atoi
import Derived.Lib.SplitLaws
import Derived.Lib.AtoiErrMem
namespace Go.Proofs.YtfbegkddkdenbaaGreatDoor
open Go.Eng Go Go.Shelf
set_option linter.unusedVariables false
set_option linter.unusedSimpArgs false

theorem ly221 : Lays.n221 Tryz.prog shr := by constructor <;> first | kernel_rfl | (intro w; kernel_rfl)
theorem ly143 : Lays.n143 Tryz.prog shr := by constructor <;> first | kernel_rfl | (intro w; kernel_rfl)
theorem ly138 : Lays.n138 Tryz.prog shr := by constructor <;> first | kernel_rfl | (intro w; kernel_rfl)
theorem ly171 : Lays.n171 Tryz.prog shr := by constructor <;> first | kernel_rfl | (intro w; kernel_rfl)
theorem ly172 : Lays.n172 Tryz.prog shr := by constructor <;> first | kernel_rfl | (intro w; kernel_rfl)
theorem ly169 : Lays.n169 Tryz.prog shr := by constructor <;> first | kernel_rfl | (intro w; kernel_rfl)

/-! ### Split -/
abbrev RowS (w : World) (s : Sl) (ls : List Bs) : Prop := Row w s 1 (ls.map fun l => Value.string (ofL l))
theorem RowS.len' {w : World} {s : Sl} {ls : List Bs} (h : RowS w s ls) : s.2.1 = ls.length := by have := h.len; rw [List.length_map] at this; omega
theorem RowS.get {w : World} {s : Sl} {ls : List Bs} (h : RowS w s ls) {z : Int} {i : Nat} {l : Bs} (hz : z = i) (hi : ls[i]? = some l) {k : ByteArray → Prop} (hk : k (ofL l)) : ixK s.1 s.2.1 z fun a => ld1 .s (a.add (z.toNat * 1)) w k := by
  subst hz
  have hlt := (List.getElem?_eq_some_iff.1 hi).1
  obtain ⟨a, ha⟩ := Row.addr h (by rw [List.length_map]; omega)
  have hl := h.len'
  rw [ha, ixK_eq (by omega), Int.toNat_natCast, Nat.mul_one]
  exact ld1_cell (Row.ld h ha (by rw [List.getElem?_map, hi]; rfl)) rfl hk
theorem splitK_pcs (a : UInt8) : ∀ s : Bs, Lib.splitK [a] 0 (Lib.count s [a]) s = pcs a s
  | [] => by rw [Lib.count_miss (by rfl)]; rfl
  | c :: l => by
    have ih := splitK_pcs a l
    by_cases h : c = a
    · subst h
      have hix : Lib.index (c :: l) [c] = 0 := by rw [Lib.index]; simp [List.isPrefixOf]
      rw [Lib.count_cons_eq, Nat.add_comm, Lib.splitK, hix, if_neg (by decide), pcs, if_pos rfl]
      simp [ih]
    · have hp : ([a] : List UInt8).isPrefixOf (c :: l) = false := by simp [List.isPrefixOf, Ne.symm h]
      have hix : Lib.index (c :: l) [a] = if Lib.index l [a] == -1 then -1 else Lib.index l [a] + 1 := by rw [Lib.index, hp]; simp
      have hge := Lib.index_ge l [a]
      rw [Lib.count_cons_ne c a l h, pcs, if_neg h, ← ih]
      by_cases hm : Lib.index l [a] = -1
      · rw [Lib.count_miss hm, Lib.splitK, Lib.splitK]
      · obtain ⟨j, hj⟩ : ∃ j : Nat, Lib.index l [a] = j := ⟨(Lib.index l [a]).toNat, by omega⟩
        rw [if_neg (fun e => hm (beq_iff_eq.1 e)), hj] at hix
        rw [Lib.count_hit (by simp) hj, Nat.add_comm, Lib.splitK, Lib.splitK, hix, hj, if_neg (fun e => by have := beq_iff_eq.1 e; omega), if_neg (fun e => by have := beq_iff_eq.1 e; omega)]
        have e1 : ((j : Int) + 1).toNat = j + 1 := by omega
        simp only [e1, Int.toNat_natCast, List.length_singleton, Nat.add_zero]
        simp
theorem splitB_pcs (a : UInt8) (l : Bs) : (Lib.splitB ⟨#[a]⟩ 0 (Lib.countB (ofL l) ⟨#[a]⟩) (ofL l)).map Value.string = (pcs a l).map fun x => Value.string (ofL x) := by
  have h := Lib.splitB_data ⟨#[a]⟩ 0 (Lib.countB (ofL l) ⟨#[a]⟩) (ofL l)
  have e : Lib.countB (ofL l) ⟨#[a]⟩ = Lib.count l [a] := by unfold Lib.countB; simp [ofL]
  rw [e] at h ⊢
  have e2 : (ofL l).data.toList = l := by simp [ofL]
  have e3 : (⟨#[a]⟩ : ByteArray).data.toList = [a] := rfl
  rw [e2, e3, splitK_pcs] at h
  rw [← h, List.map_map]
  refine List.map_congr_left fun x _ => ?_
  simp [toL_ofL]
theorem indexB_one (x : ByteArray) (a : UInt8) : Lib.indexB x ⟨#[a]⟩ = Lib.indexByte x.data.toList a := by
  unfold Lib.indexB
  have e3 : (⟨#[a]⟩ : ByteArray).data.toList = [a] := rfl
  rw [e3]
  generalize x.data.toList = s
  induction s with
  | nil => rfl
  | cons c l ih =>
    rw [Lib.index, Lib.indexByte, ih]
    by_cases h : c = a
    · subst h; simp [List.isPrefixOf]
    · simp [List.isPrefixOf, h, Ne.symm h]
theorem strings_genSplit.cl {l : Bs} {a : UInt8} (hl : l.length < 4000000000) {w : World} {k : TR [(false, [.sl])] → World → Prop}
    (h : ∀ (s : Sl) w', RowS w' s (pcs a l) → s.1 = some ⟨w.heap.size, 0, none⟩ → Gro w w' → k ((s, ()), ()) w') :
    clS Tryz.prog F.strings_genSplit [.string (ofL l), .string ⟨#[a]⟩, .int .i64 0, .int .i64 (Int.negSucc 0)] w false [(false, [.sl])] k := by
  have hsz : (ofL l).size = l.length := ofL_size l
  have h1 : 1 ≤ (⟨#[a]⟩ : ByteArray).size := Nat.le_refl 1
  have hle := Lib.countB_le ⟨#[a]⟩ h1 (ofL l).size (ofL l) (Nat.le_refl _)
  have hlen := Lib.splitB_all ⟨#[a]⟩ h1 0 _ (ofL l) rfl
  have c := Any.strings_genSplit_core ly221 (by kernel_rfl) (ofL l) ⟨#[a]⟩ 0 (-1) (Lib.countB (ofL l) ⟨#[a]⟩ + 1) w (by omega) h1 (Nat.zero_le _)
    (fun x cs _ => by
      have := Any.strings_Index_one ly143 x a (w.alloc (.cells cs (shr.t 9)))
      rw [indexB_one]; exact this)
    (by
      have := Any.strings_Count_one ly138 (ofL l) a w
      have e : Lib.countByte (ofL l).data.toList a = Lib.countB (ofL l) ⟨#[a]⟩ := by
        unfold Lib.countB Lib.countByte
        have e3 : (⟨#[a]⟩ : ByteArray).data.toList = [a] := rfl
        rw [e3, Lib.count_one]
      rw [← e]; exact this)
    (by decide) (by decide) (by rw [if_pos (by decide)]; omega)
  rw [Nat.add_sub_cancel, hlen] at c
  have e2 : Lib.cellsOf (Lib.splitB ⟨#[a]⟩ 0 (Lib.countB (ofL l) ⟨#[a]⟩) (ofL l)) (Lib.countB (ofL l) ⟨#[a]⟩ + 1) = ((Lib.splitB ⟨#[a]⟩ 0 (Lib.countB (ofL l) ⟨#[a]⟩) (ofL l)).map Value.string).toArray := by
    rw [← hlen]; exact Lib.cellsOf_full _
  rw [e2, splitB_pcs] at c
  have hn : (pcs a l).length = Lib.countB (ofL l) ⟨#[a]⟩ + 1 := by
    have := congrArg List.length (splitB_pcs a l)
    rw [List.length_map, List.length_map, hlen] at this; exact this.symm
  refine Calls.mono (P := Tryz.prog) (f := F.strings_genSplit) c ?_
  rintro e w' ⟨rfl, rfl⟩
  refine ⟨((((some ⟨w.heap.size, 0, none⟩, Lib.countB (ofL l) ⟨#[a]⟩ + 1, Lib.countB (ofL l) ⟨#[a]⟩ + 1) : Sl), ()), ()), rfl, ?_⟩
  refine h _ _ ⟨by rw [List.length_map, hn, Nat.mul_one], fun _ => ⟨_, rfl, fun i v hi => ?_⟩⟩ rfl ((Gro.refl w).alloc _)
  rw [add_eq, Nat.zero_add, (Blk.new w _ _).cell]; exact hi
theorem strings_Split.cl {l : Bs} {a : UInt8} (hl : l.length < 4000000000) {w : World} {k : TR [(false, [.sl])] → World → Prop}
    (h : ∀ (s : Sl) w', RowS w' s (pcs a l) → s.1 = some ⟨w.heap.size, 0, none⟩ → Gro w w' → k ((s, ()), ()) w') :
    clS Tryz.prog F.strings_Split [.string (ofL l), .string ⟨#[a]⟩] w false [(false, [.sl])] k := by
  refine strings_Split.ok ?_
  unfold strings_Split.wp
  exact strings_genSplit.cl hl h
/-! ### Itoa, Atoi -/
theorem decS_lib {n : Nat} (h : n < 100) : Lib.decDigits n = decS n := by
  have hd : ∀ m, dgc m = UInt8.ofNat (48 + m % 10) := fun m => rfl
  unfold decS
  by_cases c : n < 10
  · rw [if_pos c, Lib.decDigits_one c, hd, Nat.mod_eq_of_lt c]
  · rw [if_neg c, Lib.decDigits_two c h, hd, hd, Nat.mod_eq_of_lt (show n / 10 < 10 by omega)]
theorem strconv_Itoa.cl {n : Nat} (hn : n < 100) {w : World} {k : TR [(false, [.s])] → World → Prop} (h : k ((ofL (decS n), ()), ()) w) : clS Tryz.prog F.strconv_Itoa [.int .i64 (n : Int)] w false [(false, [.s])] k := by
  refine Calls.mono (P := Tryz.prog) (f := F.strconv_Itoa) (Any.strconv_Itoa_small ly171 n hn w) ?_
  rintro e w' ⟨rfl, rfl⟩
  refine ⟨((ofL (decS n), ()), ()), ?_, h⟩
  rw [decS_lib hn]; rfl
theorem atoi_plain {l : Bs} (h : plainL l) : Lib.atoi l = some (valD l : Int) := by
  obtain ⟨h1, h2⟩ := h
  have hdv : ∀ {a : UInt8}, isDg a → Lib.digitVal a = some (a.toNat - 48) := fun {a} ha => by unfold isDg at ha; unfold Lib.digitVal; rw [if_pos ha]
  have h45 : ∀ {a : UInt8}, isDg a → (a == 45) = false ∧ (a == 43) = false := fun {a} ha => by
    unfold isDg at ha
    constructor <;> (rw [beq_eq_false_iff_ne]; rintro rfl; revert ha; decide)
  rcases h1 with h1 | ⟨h1, _⟩
  · match l, h1 with
    | [a], _ =>
      have ha := h2 a (by simp)
      simp [Lib.atoi, h45 ha, Lib.decNat, Lib.decFrom, hdv ha, valD_one]
  · match l, h1 with
    | [a, b], _ =>
      have ha := h2 a (by simp)
      have hb := h2 b (by simp)
      simp [Lib.atoi, h45 ha, Lib.decNat, Lib.decFrom, hdv ha, hdv hb, valD_two]
      omega
theorem Gro.ofBelow {w w' : World} (h : Go.RowKit.Below w.heap.size w w') : Gro w w' := ⟨h.os, h.tape, h.output, h.size, fun k hk _ => h.block k hk⟩
theorem strconv_Atoi.cl {l : Bs} (hp : plainL l) {w : World} {k : TR [(false, [.i .i64]), (false, [.any])] → World → Prop} (h : ∀ w', Gro w w' → k ((valD l, ()), (.nilIface, ()), ()) w') :
    clS Tryz.prog F.strconv_Atoi [.string (ofL l)] w true [(false, [.i .i64]), (false, [.any])] k := by
  have hl : (ofL l).size ≤ 18 := by rw [ofL_size]; rcases hp.1 with h | h <;> omega
  have ha : Lib.atoi (ofL l).data.toList = some (valD l : Int) := by
    have : (ofL l).data.toList = l := by simp [ofL]
    rw [this]; exact atoi_plain hp
  refine Calls.mono (P := Tryz.prog) (f := F.strconv_Atoi) (Any.strconv_Atoi ly172 (ofL l) (valD l) hl ha w) ?_
  rintro e w' ⟨rfl, t, rfl⟩
  exact ⟨_, rfl, h _ (Gro.ofBelow (Lib.bytesWorld_below w _ t))⟩
end Go.Proofs.YtfbegkddkdenbaaGreatDoor
