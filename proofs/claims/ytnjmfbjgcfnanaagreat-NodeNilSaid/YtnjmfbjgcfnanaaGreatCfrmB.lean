/- Contracts for layer 4 (octet), the document's 03 and 04. Conditions: a number's bytes are eight at most. -/
import Derived.Test.YtnjmfbjgcfnanaaGreatCfrmA
import Derived.Test.YtnjmfbjgcfnanaaGreatCfloP
import Derived.Test.YtnjmfbjgcfnanaaGreatCsrc2
import Derived.Test.YtnjmfbjgcfnanaaGreatCrefP
namespace Go.Proofs.YtnjmfbjgcfnanaaGreat
open Go Go.Eng
set_option linter.unusedVariables false
set_option linter.unusedSimpArgs false

/-- a pen, and what it wrote; O are the blocks that it holds -/
structure Pen (w : World) (O : Nat → Prop) (p : Nat) (xs : List Nat) : Prop where
  ex : ∃ s : Sl, Blk w p [.slice s.1 s.2.1 s.2.2] ∧ OwnB w 0 s xs ∧ ∀ a, s.1 = some a → a.block ≠ p ∧ O a.block
  op : O p
  lt : ∀ z, O z → z < w.heap.size
theorem Pen.upd {S O : Nat → Prop} {w w' : World} {p : Nat} {xs : List Nat} (h : Pen w O p xs) (u : Upd S w w') (hS : ∀ z, O z → ¬ S z) : Pen w' O p xs := by
  obtain ⟨⟨s, k, o, d⟩, op, lt⟩ := h
  exact ⟨⟨s, k.upd u (hS p op), o.upd u fun a ha => hS _ (d a ha).2, d⟩, op, fun z hz => Nat.lt_of_lt_of_le (lt z hz) u.size⟩
theorem Pen.gro {O : Nat → Prop} {w w' : World} {p : Nat} {xs : List Nat} (h : Pen w O p xs) (u : Gro w w') : Pen w' O p xs := h.upd u fun _ _ x => x
theorem Pen.new {w : World} {p : Nat} (k : Blk w p [.slice none 0 0]) : Pen w (fun z => z = p) p [] :=
  ⟨⟨(none, 0, 0), k, OwnR.nil _ _ _ _, fun a ha => by cases ha⟩, rfl, fun z hz => by rw [hz]; exact k.lt⟩
theorem shr_put {v m : Nat} (hm : m ≤ 7) : IntKind.wrap .u8 (shrX .u64 (v : Int) (IntKind.wrap .i64 (8 * (m : Int)))) = ((v / 256 ^ m % 256 : Nat) : Int) := by
  rw [w64_in (by unfold I64; omega), show 8 * (m : Int) = ((8 * m : Nat) : Int) by omega, shr_eq (k := .u64) (8 * m) (by show 8 * m ≤ 64; omega), IntKind.wrap_u8,
    show ((2 ^ (8 * m) : Nat) : Int) = ((256 ^ m : Nat) : Int) by rw [Nat.pow_mul]]
  omega
abbrev RP : List (Bool × List CK) := [(false, [.p])]
set_option maxRecDepth 20000 in
theorem octet_Pen_Num.cl {O : Nat → Prop} {p n v : Nat} {xs : List Nat} (hn : n ≤ 8) (hx : xs.length ≤ 900000) {w : World} (hP : Pen w O p xs) {k : TR RP → World → Prop} (h : ∀ w' O', Pen w' O' p (xs ++ putB n v) → Nx O w O' w' → k ((some ⟨p, 0, none⟩, ()), ()) w') :
    clS Tryz.prog F.octet_Pen_Num [.pointer (some ⟨p, 0, none⟩), .int .i64 (n : Int), .int .u64 (v : Int)] w false RP k := by
  refine octet_Pen_Num.ok ?_
  unfold octet_Pen_Num.wp
  refine brF rfl ?_
  have h0 : (if 8 < (if 0 > (n : Int) then 0 else (n : Int)) then 8 else (if 0 > (n : Int) then 0 else (n : Int))) = (n : Int) := by
    rw [if_neg (by omega), if_neg (by omega)]
  rw [h0]
  refine LoopT.by (fun z W => ∃ j : Nat, j ≤ n ∧ z = ((n : Int) - 1 - j, ()) ∧ ∃ O', Pen W O' p (xs ++ (putB n v).take j) ∧ Nx O w O' W) (fun z => (z.1 + 1).toNat) ⟨0, by omega, ?_, O, by simpa using hP, Nx.of (Gro.refl _)⟩ ?_
  · rw [w64_in (by unfold I64; omega)]; simp
  · rintro z W ⟨j, hj, rfl, O1, hP, hU⟩ _
    refine brD (fun c => ?_) fun c => ?_
    · have c : (n : Int) - 1 - j ≥ 0 := c
      obtain ⟨⟨s, kp, o, dj⟩, op, lt1⟩ := hP
      have hlt : p < W.heap.size := kp.lt
      have hm : (n : Int) - 1 - j = ((n - 1 - j : Nat) : Int) := by omega
      show drK W _
      rw [drK_eq, ncK_eq]
      refine Blk.sl0 (w := W.drew) kp ?_
      have e8 : IntKind.wrap .i64 (8 * ((n : Int) - 1 - j)) = 8 * ((n : Int) - 1 - j) := w64_in (by unfold I64; omega)
      rw [shK_eq (by show 0 ≤ IntKind.wrap .i64 (8 * ((n : Int) - 1 - j)); rw [e8]; omega)]
      show alK [.int .u8 (IntKind.wrap .u8 (shrX .u64 (v : Int) (IntKind.wrap .i64 (8 * ((n : Int) - 1 - j)))))] _ _ _
      rw [hm, shr_put (by omega)]
      refine alK_by fun q w8 e8' k8 g8 => ⟨⟨kp.hold (w := W.drew) g8 (fun x => x) 0 (by simp), trivial⟩, ?_⟩
      have o8 : OwnB w8 0 s (xs ++ (putB n v).take j) := o.gro ((Gro.drew W).trans g8)
      have lp : (putB n v)[j]? = some (v / 256 ^ (n - 1 - j) % 256) := by
        unfold putB
        rw [List.getElem?_map, List.getElem?_range (by omega)]; rfl
      have ltk : (xs ++ (putB n v).take j).length = xs.length + j := by rw [List.length_append, List.length_take, putB_len]; omega
      refine ap_own (s := s) (x := (some ⟨q, 0, none⟩, 1, 1)) (base := 0) (e := T.uint8) (size := 1) (n := (xs ++ (putB n v).take j).length) (xs := u8s (xs ++ (putB n v).take j)) (news := u8s [v / 256 ^ (n - 1 - j) % 256]) (by kernel_rfl) (by kernel_rfl) (by decide) o8 (k8.row rfl) (u8s_one _) (by rw [ltk]; show xs.length + j + 1 ≤ 1000000000; omega) (Nat.zero_le _) fun y w10 o10 u10 hb10 => ⟨trivial, ?_⟩
      have k10 : Blk w10 p [.slice s.1 s.2.1 s.2.2] := (kp.gro ((Gro.drew W).trans g8)).upd u10 fun ⟨a, ha, hb⟩ => (dj a ha).1 hb
      have g8' := (Gro.drew W).trans g8
      have U10 : Upd (fun z => ∃ a, s.1 = some a ∧ a.block = z) W w10 := Upd.trans (Upd.of_gro g8') u10 fun _ _ x => x
      rw [ncK_eq]
      refine k10.sta [.slice y.1 y.2.1 y.2.2] rfl rfl fun w12 k12 u12 => ⟨trivial, ⟨j + 1, by omega, ?_, fun z => O1 z ∨ ∃ a, y.1 = some a ∧ a.block = z, ⟨⟨y, k12, ?_, ?_⟩, .inl op, ?_⟩, ?_⟩, ?_⟩
      · show (IntKind.wrap .i64 (((n - 1 - j : Nat) : Int) - 1), ()) = ((n : Int) - 1 - ((j + 1 : Nat) : Int), ())
        rw [w64_in (by unfold I64; omega)]; congr 1; omega
      · have e : xs ++ (putB n v).take (j + 1) = (xs ++ (putB n v).take j) ++ [v / 256 ^ (n - 1 - j) % 256] := by
          rw [List.append_assoc, List.take_add_one, lp]; rfl
        rw [e]
        have o10 : OwnR w10 0 T.uint8 1 y ((xs ++ (putB n v).take j).length + 1) (u8s (xs ++ (putB n v).take j) ++ u8s [v / 256 ^ (n - 1 - j) % 256]) := o10
        have o12 := o10.upd u12 fun a ha h => by
          rcases hb10 a ha with ⟨a0, h0, hb⟩ | hb
          · exact (dj a0 h0).1 (by omega)
          · have := g8'.size; omega
        unfold OwnB
        rw [u8s_app, List.length_append]
        exact o12
      · intro a ha
        refine ⟨?_, .inr ⟨a, ha, rfl⟩⟩
        rcases hb10 a ha with ⟨a0, h0, hb⟩ | hb
        · have := (dj a0 h0).1; omega
        · have := g8'.size; omega
      · rintro z (hz | ⟨a, ha, rfl⟩)
        · exact Nat.lt_of_lt_of_le (lt1 z hz) (Nat.le_trans U10.size u12.size)
        · exact Nat.lt_of_lt_of_le (o10.blk ha).2.1 u12.size
      · refine hU.trans ⟨Upd.trans (U10.mono fun z ⟨a, ha, hb⟩ => hb ▸ (dj a ha).2) u12 fun z hz h => by rw [h]; exact op, ?_⟩
        rintro z (hz | ⟨a, ha, rfl⟩)
        · exact .inl hz
        · rcases hb10 a ha with ⟨a0, h0, hb⟩ | hb
          · exact .inl (hb ▸ (dj a0 h0).2)
          · exact .inr (Nat.le_trans g8'.size hb)
      · show (IntKind.wrap .i64 (((n - 1 - j : Nat) : Int) - 1) + 1).toNat < (((n - 1 - j : Nat) : Int) + 1).toNat
        rw [w64_in (by unfold I64; omega)]; omega
    · have c : ¬ (n : Int) - 1 - j ≥ 0 := c
      have : j = n := by omega
      subst this
      refine h W O1 ?_ hU
      rwa [List.take_of_length_le (by rw [putB_len]; omega)] at hP
set_option maxRecDepth 20000 in
theorem octet_Pen_Bytes.cl {O : Nat → Prop} {p : Nat} {xs : List Nat} (hx : xs.length ≤ 900000) {w : World} (hP : Pen w O p xs) {k : TR RSL → World → Prop} (h : ∀ s' w', OwnB w' w.heap.size s' xs → Gro w w' → k (((s'.1, s'.2.1, s'.2.2), ()), ()) w') :
    clS Tryz.prog F.octet_Pen_Bytes [.pointer (some ⟨p, 0, none⟩)] w false RSL k := by
  refine octet_Pen_Bytes.ok ?_
  unfold octet_Pen_Bytes.wp
  obtain ⟨⟨s, kp, o, _⟩, _, _⟩ := hP
  refine brF rfl ?_
  rw [ncK_eq]
  refine kp.sl0 ?_
  have hl := o.row.clen
  rw [List.length_map] at hl
  refine ap_own (s := (none, 0, 0)) (x := s) (base := w.heap.size) (e := T.uint8) (size := 1) (n := 0) (xs := []) (news := u8s xs) (by kernel_rfl) (by kernel_rfl) (by decide) (OwnR.nil _ _ _ _) o.row (u8s_one _) (by omega) (Nat.le_refl _) fun y w4 o4 u4 _ => ?_
  refine h y w4 ?_ (u4.mono fun z ⟨a, ha, _⟩ => by cases ha)
  have e : 0 + s.2.1 = xs.length := by omega
  rw [e] at o4
  exact o4
set_option maxRecDepth 20000 in
theorem ref04_Put.cl {n v : Nat} (hn : n ≤ 8) {w : World} {k : TR RSL → World → Prop} (h : ∀ s' w', OwnB w' w.heap.size s' (putB n v) → Gro w w' → k (((s'.1, s'.2.1, s'.2.2), ()), ()) w') (hv : v < 18446744073709551616) :
    clS Tryz.prog F.ref04_Put [.int .i64 (n : Int), .int .u64 (v : Int)] w false RSL k := by
  refine ref04_Put.ok ?_
  unfold ref04_Put.wp
  refine LoopT.by (fun z W => ∃ j m : Nat, j ≤ n ∧ m = v / 256 ^ j ∧ z.1 = (m : Int) ∧ z.2.2.1 = (j : Int) ∧ OwnB W w.heap.size z.2.1 (putB j v) ∧ Gro w W) (fun z => (n - z.2.2.1).toNat) ⟨0, v, by omega, by simp, rfl, rfl, OwnR.nil _ _ _ _, Gro.refl _⟩ ?_
  rintro ⟨m', s, j', _⟩ W ⟨j, m, hj, hm, rfl, rfl, o, g⟩ _
  have fin : ∀ {K : Prop}, j = n → (OwnB W w.heap.size s (putB n v) → Gro w W → K) → K := fun e K => by subst e; exact K o g
  refine brD (fun c => ?_) fun c => ?_
  · have c : (j : Int) < n := c
    refine brD (fun d => ?_) fun d => ?_
    · rw [nzK_eq (by decide)]
      show alK [.int .u8 (IntKind.wrap .u8 (Int.tmod (m : Int) 256))] _ _ _
      have e1 : IntKind.wrap .u8 (Int.tmod (m : Int) 256) = ((v / 256 ^ j % 256 : Nat) : Int) := by
        rw [Int.tmod_eq_emod_of_nonneg (by omega), IntKind.wrap_u8, ← hm]; omega
      rw [e1]
      have hs := o.row.clen
      rw [List.length_map, putB_len] at hs
      have hs : s.2.1 = j := hs
      refine alK_own 1 1 (by simp) (by omega) fun q w5 e5 o5 g5 => ?_
      have o5' : OwnB w5 q (some ⟨q, 0, none⟩, 1, 1) [v / 256 ^ j % 256] := o5
      refine ap_own (s := (some ⟨q, 0, none⟩, 1, 1)) (x := s) (base := q) (e := T.uint8) (size := 1) (n := 1) (xs := u8s [v / 256 ^ j % 256]) (news := u8s (putB j v)) (by kernel_rfl) (by kernel_rfl) (by decide) o5 (Row.gro o.row g5) (u8s_one _) (by show 1 + s.2.1 ≤ 1000000000; omega) (by have := g5.size; omega) fun y w7 o7 u7 hb7 => ?_
      have g7 : Gro W w7 := Upd.trans g5 u7 fun z hz ⟨a, ha, hb⟩ => by cases ha; simp only [] at hb; omega
      rw [nzK_eq (by decide)]
      have e2 : IntKind.wrap .u64 (Int.tdiv (m : Int) 256) = ((v / 256 ^ (j + 1) : Nat) : Int) := by
        have hml : m ≤ v := by rw [hm]; exact Nat.div_le_self _ _
        rw [Int.tdiv_eq_ediv_of_nonneg (by omega), wu64_in (by unfold U64; omega), Nat.pow_succ, ← Nat.div_div_eq_div_mul, ← hm]; omega
      refine ⟨⟨j + 1, v / 256 ^ (j + 1), by omega, rfl, e2, ?_, ?_, g.trans g7⟩, ?_⟩
      · show IntKind.wrap .i64 ((j : Int) + 1) = _
        rw [w64_in (by unfold I64; omega)]; omega
      · rw [putB_cons]
        have o7 : OwnR w7 q T.uint8 1 y (1 + s.2.1) (u8s [v / 256 ^ j % 256] ++ u8s (putB j v)) := o7
        rw [hs, Nat.add_comm] at o7
        have o7 := o7.rebase (base' := w.heap.size) fun a ha => by have := (o7.blk ha).1; have := g.size; omega
        unfold OwnB
        rw [List.length_cons, putB_len]
        exact o7
      · show ((n : Int) - IntKind.wrap .i64 ((j : Int) + 1)).toNat < ((n : Int) - (j : Int)).toNat
        rw [w64_in (by unfold I64; omega)]; omega
    · have d : ¬ (j : Int) < 8 := d
      omega
  · have c : ¬ (j : Int) < n := c
    exact fin (by omega) fun o g => h s W o g
end Go.Proofs.YtnjmfbjgcfnanaaGreat
/- Contracts for layers 6, 10, 11, 17, 18, 24 as a node uses them. Conditions: as each says. -/
namespace Go.Proofs.YtnjmfbjgcfnanaaGreat
open Go Go.Eng
set_option linter.unusedVariables false
set_option linter.unusedSimpArgs false

abbrev RPI : List (Bool × List CK) := [(false, [.p]), (false, [.i .i64])]
abbrev RI1 : List (Bool × List CK) := [(false, [.i .i64])]
abbrev RBo : List (Bool × List CK) := [(false, [.b])]
/-! ### the clock -/
abbrev ckC (d n : Int) : List Value := [.int .i64 d, .int .u32 (n % 4294967296), .int .i64 n]
theorem wu32 (n : Int) : IntKind.wrap .u32 n = n % 4294967296 := by simp [IntKind.wrap, IntKind.bits, IntKind.signed]
theorem tick_New.cl {d : Int} (h0 : 0 ≤ d) (h1 : d ≤ 10) {w : World} {k : TR RPI → World → Prop} (h : ∀ b w', w.heap.size = b → Blk w' b (ckC d 0) → Gro w w' → k ((some ⟨b, 0, none⟩, ()), (0, ()), ()) w') : clS Tryz.prog F.tick_New [.int .i64 d] w true RPI k := by
  refine tick_New.ok ?_
  unfold tick_New.wp
  refine brD (fun c => absurd (show d < 0 from c) (by omega)) fun _ => brD (fun c => absurd (show d > 10 from c) (by omega)) fun _ => ?_
  exact alK_by fun b w' e k1 u => h b w' e k1 u
theorem tick_Clock_Boot.cl {b : Nat} {d n raw : Int} (h0 : 0 ≤ raw) (h1 : raw < 4294967296) {w : World} (hB : Blk w b (ckC d n)) {k : TR [] → World → Prop} (h : ∀ w', Blk w' b (ckC d raw) → Upd (fun z => z = b) w w' → k () w') : clS Tryz.prog F.tick_Clock_Boot [.pointer (some ⟨b, 0, none⟩), .int .u32 raw] w true [] k := by
  refine tick_Clock_Boot.ok ?_
  unfold tick_Clock_Boot.wp
  refine brT rfl ?_
  rw [ncK_eq, w64_in (by unfold I64; omega)]
  refine hB.sN 1 [.int .u32 raw] (by simp) rfl fun w2 k2 u2 => ?_
  rw [ncK_eq]
  refine k2.sN 2 [.int .i64 raw] (by simp [splice]) rfl fun w4 k4 u4 => h w4 ?_ (Upd.trans u2 u4 fun _ _ x => x)
  have e : raw % 4294967296 = raw := by omega
  unfold ckC
  rw [e]; exact k4
theorem tick_Clock_Now.cl {b : Nat} {d n : Int} {w : World} (hB : Blk w b (ckC d n)) {k : TR RI1 → World → Prop} (h : k ((n, ()), ()) w) : clS Tryz.prog F.tick_Clock_Now [.pointer (some ⟨b, 0, none⟩)] w false RI1 k := by
  refine tick_Clock_Now.ok ?_
  unfold tick_Clock_Now.wp
  refine brF rfl ?_
  rw [ncK_eq]
  exact hB.c1 2 rfl h
def fitT (d t : Int) : Bool := decide (1000 - d ≤ t) && decide (t ≤ 1000 + d)
theorem fitT_iff {d t : Int} : fitT d t = true ↔ 1000 - d ≤ t ∧ t ≤ 1000 + d := by unfold fitT; simp
theorem fitT_no {d t : Int} (h : ¬ (1000 - d ≤ t ∧ t ≤ 1000 + d)) : fitT d t = false := by
  cases hb : fitT d t
  · rfl
  · exact absurd (fitT_iff.1 hb) h
theorem tick_Clock_Fits.cl {b : Nat} {d n t : Int} (h0 : 0 ≤ d) (h1 : d ≤ 10) {w : World} (hB : Blk w b (ckC d n)) {k : TR RBo → World → Prop} (h : k ((fitT d t, ()), ()) w) : clS Tryz.prog F.tick_Clock_Fits [.pointer (some ⟨b, 0, none⟩), .int .i64 t] w false RBo k := by
  refine tick_Clock_Fits.ok ?_
  unfold tick_Clock_Fits.wp
  refine brT rfl ?_
  rw [ncK_eq]
  refine hB.c0 rfl ?_
  rw [w64_in (by unfold I64; omega)]
  refine brD (fun c => ?_) fun c => ?_
  · have c : t ≥ 1000 - d := c
    rw [ncK_eq]
    refine hB.c0 rfl ?_
    rw [w64_in (by unfold I64; omega)]
    have e : decide (t ≤ 1000 + d) = fitT d t := by unfold fitT; rw [decide_eq_true c, Bool.true_and]
    rw [e]; exact h
  · have c : ¬ t ≥ 1000 - d := c
    rw [fitT_no (by omega)] at h; exact h
def goT (d n t : Int) : Int := if fitT d t = true then if n + t > 1125899906842624 then 8 else 0 else 1
theorem wrap_Extend.cl {n t : Int} (h0 : 0 ≤ n) (h1 : n ≤ 1125899906842624) (t0 : 0 ≤ t) (t1 : t < 4294967296) {w : World} {k : TR [(false, [.i .i64]), (false, [.b])] → World → Prop} (h : k (if n + t > 1125899906842624 then ((0, ()), (false, ()), ()) else ((n + t, ()), (true, ()), ())) w) :
    clS Tryz.prog F.wrap_Extend [.int .i64 n, .int .u32 (IntKind.wrap .u32 (n % 4294967296 + IntKind.wrap .u32 t))] w true [(false, [.i .i64]), (false, [.b])] k := by
  refine wrap_Extend.ok ?_
  unfold wrap_Extend.wp
  refine brD (fun c => absurd (show n < 0 from c) (by omega)) fun _ => brD (fun c => absurd (show n > _ from c) (by omega)) fun _ => ?_
  have e : IntKind.wrap .i64 (n + IntKind.wrap .i64 (IntKind.wrap .u32 (IntKind.wrap .u32 (n % 4294967296 + IntKind.wrap .u32 t) - IntKind.wrap .u32 n))) = n + t := by
    have e1 : IntKind.wrap .u32 (IntKind.wrap .u32 (n % 4294967296 + IntKind.wrap .u32 t) - IntKind.wrap .u32 n) = t := by rw [wu32, wu32, wu32, wu32]; omega
    rw [e1, w64_in (n := t) (by unfold I64; omega), w64_in (by unfold I64; omega)]
  rw [e]
  refine brD (fun c => ?_) fun c => ?_
  · rw [if_pos c] at h; exact h
  · rw [if_neg c] at h; exact h
theorem tick_Clock_Go.cl {b : Nat} {d n t : Int} (h0 : 0 ≤ d) (h1 : d ≤ 10) (n0 : 0 ≤ n) (n1 : n ≤ 1125899906842624) {w : World} (hB : Blk w b (ckC d n)) {k : TR RI1 → World → Prop}
    (h : ∀ w', Blk w' b (ckC d (if goT d n t = 0 then n + t else n)) → Upd (fun z => z = b) w w' → k ((goT d n t, ()), ()) w') : clS Tryz.prog F.tick_Clock_Go [.pointer (some ⟨b, 0, none⟩), .int .i64 t] w false RI1 k := by
  refine tick_Clock_Go.ok ?_
  unfold tick_Clock_Go.wp
  refine brF rfl (tick_Clock_Fits.cl h0 h1 hB ?_)
  unfold goT at h
  refine brNot (fun c => ?_) fun c => ?_
  · have c : fitT d t = false := c
    rw [c] at h
    exact h w (by simpa using hB) (Upd.refl _ _)
  · have c : fitT d t = true := c
    rw [c, if_pos rfl] at h
    have ft := fitT_iff.1 c
    rw [drK_eq, ncK_eq]
    refine hB.drew.c1 2 rfl ?_
    rw [ncK_eq]
    refine hB.drew.c1 1 (c := .i .u32) (x := n % 4294967296) rfl (wrap_Extend.cl n0 n1 (by omega) (by omega) ⟨⟨hB.hold (w := w.drew) (Gro.refl w.drew) (fun x => x) 1 (by simp), trivial⟩, ?_⟩)
    by_cases ho : n + t > 1125899906842624
    · rw [if_pos ho]
      rw [if_pos ho] at h
      exact brT rfl (h w.drew (by simpa using hB.drew) (Upd.drew (Upd.refl _ _)))
    · rw [if_neg ho]
      rw [if_neg ho] at h
      refine brF rfl ?_
      rw [ncK_eq]
      refine hB.drew.c1 1 (c := .i .u32) (x := n % 4294967296) rfl ?_
      rw [ncK_eq]
      refine hB.drew.sN 1 [_] (by simp) rfl fun w13 k13 u13 => ?_
      rw [ncK_eq]
      refine k13.sN 2 [_] (by simp [splice]) rfl fun w15 k15 u15 => h w15 ?_ (Upd.trans (Upd.drew (Upd.refl _ w)) (Upd.trans u13 u15 fun _ _ x => x) fun _ _ x => x)
      have e : IntKind.wrap .u32 (n % 4294967296 + IntKind.wrap .u32 t) = (n + t) % 4294967296 := by rw [wu32, wu32]; omega
      have k15 : Blk w15 b [.int .i64 d, .int .u32 (IntKind.wrap .u32 (n % 4294967296 + IntKind.wrap .u32 t)), .int .i64 (n + t)] := k15
      rw [e] at k15
      exact k15
/-! ### the level -/
abbrev lvC (me lev par : Int) : List Value := [.int .i64 me, .int .i64 lev, .int .i64 par]
theorem level_New.cl {me : Int} (h0 : 0 ≤ me) (h1 : me < 64) {w : World} {k : TR RPI → World → Prop} (h : ∀ b w', w.heap.size = b → Blk w' b (lvC me (-1) (-1)) → Gro w w' → k ((some ⟨b, 0, none⟩, ()), (0, ()), ()) w') : clS Tryz.prog F.level_New [.int .i64 me] w true RPI k := by
  refine level_New.ok ?_
  unfold level_New.wp
  refine brD (fun c => absurd (show me < 0 from c) (by omega)) fun _ => brD (fun c => absurd (show me ≥ 64 from c) (by omega)) fun _ => ?_
  exact alK_by fun b w' e k1 u => h b w' e k1 u
theorem level_Level_Lose.cl {b : Nat} {me lev par : Int} {w : World} (hB : Blk w b (lvC me lev par)) {k : TR [] → World → Prop} (h : ∀ w', Blk w' b (lvC me (-1) (-1)) → Upd (fun z => z = b) w w' → k () w') : clS Tryz.prog F.level_Level_Lose [.pointer (some ⟨b, 0, none⟩)] w true [] k := by
  refine level_Level_Lose.ok ?_
  unfold level_Level_Lose.wp
  refine brT rfl ?_
  rw [ncK_eq]
  refine hB.sN 1 [_] (by simp) rfl fun w2 k2 u2 => ?_
  rw [ncK_eq]
  exact k2.sN 2 [_] (by simp [splice]) rfl fun w4 k4 u4 => h w4 k4 (Upd.trans u2 u4 fun _ _ x => x)
theorem level_Level_Parent.cl {b : Nat} {me lev par : Int} {w : World} (hB : Blk w b (lvC me lev par)) {k : TR RI1 → World → Prop} (h : k ((par, ()), ()) w) : clS Tryz.prog F.level_Level_Parent [.pointer (some ⟨b, 0, none⟩)] w false RI1 k := by
  refine level_Level_Parent.ok ?_
  unfold level_Level_Parent.wp
  refine brF rfl ?_
  rw [ncK_eq]
  exact hB.c1 2 rfl h
theorem level_Level_Level.cl {b : Nat} {me lev par : Int} {w : World} (hB : Blk w b (lvC me lev par)) {k : TR RI1 → World → Prop} (h : k ((lev, ()), ()) w) : clS Tryz.prog F.level_Level_Level [.pointer (some ⟨b, 0, none⟩)] w false RI1 k := by
  refine level_Level_Level.ok ?_
  unfold level_Level_Level.wp
  refine brF rfl ?_
  rw [ncK_eq]
  exact hB.c1 1 rfl h
/-! ### the pair -/
structure Pr where
  me : Int
  to : Int
  sent : Int
  waits : Bool
  waited : Int
  tries : Int
  rest : Int
abbrev prC (p : Pr) : List Value := [.int .i64 p.me, .int .i64 p.to, .int .i64 p.sent, .bool p.waits, .int .i64 p.waited, .int .i64 p.tries, .int .i64 p.rest]
def prN (me : Int) : Pr := ⟨me, 0, 0, false, 0, 0, 0⟩
theorem pair_New.cl {me : Int} (h0 : 0 ≤ me) (h1 : me < 64) {w : World} {k : TR RPI → World → Prop} (h : ∀ b w', w.heap.size = b → Blk w' b (prC (prN me)) → Gro w w' → k ((some ⟨b, 0, none⟩, ()), (0, ()), ()) w') : clS Tryz.prog F.pair_New [.int .i64 me] w true RPI k := by
  refine pair_New.ok ?_
  unfold pair_New.wp
  refine brD (fun c => absurd (show me < 0 from c) (by omega)) fun _ => brD (fun c => absurd (show me ≥ 64 from c) (by omega)) fun _ => ?_
  exact alK_by fun b w' e k1 u => h b w' e k1 u
theorem pair_Pair_Boot.cl {b : Nat} {p : Pr} {w : World} (hB : Blk w b (prC p)) {k : TR [] → World → Prop} (h : ∀ w', Blk w' b (prC (prN p.me)) → Upd (fun z => z = b) w w' → k () w') : clS Tryz.prog F.pair_Pair_Boot [.pointer (some ⟨b, 0, none⟩)] w true [] k := by
  refine pair_Pair_Boot.ok ?_
  unfold pair_Pair_Boot.wp
  refine brT rfl ?_
  rw [ncK_eq]
  refine hB.c0 rfl ?_
  rw [ncK_eq]
  exact hB.sta _ rfl rfl fun w4 k4 u4 => h w4 k4 u4
theorem pair_Pair_Waits.cl {b : Nat} {p : Pr} {w : World} (hB : Blk w b (prC p)) {k : TR RBo → World → Prop} (h : k ((p.waits, ()), ()) w) : clS Tryz.prog F.pair_Pair_Waits [.pointer (some ⟨b, 0, none⟩)] w false RBo k := by
  refine pair_Pair_Waits.ok ?_
  unfold pair_Pair_Waits.wp
  refine brT rfl ?_
  rw [ncK_eq]
  exact hB.c1 3 rfl h
/-- A round is over for who asked nobody. -/
theorem pair_Pair_Beat.quiet {b : Nat} {p : Pr} {w : World} (hB : Blk w b (prC p)) (hw : p.waits = false) (hr : 0 ≤ p.rest ∧ p.rest ≤ 1000) {k : TR RBo → World → Prop} (h : ∀ w', Blk w' b (prC { p with rest := max 0 (p.rest - 1) }) → Upd (fun z => z = b) w w' → k ((false, ()), ()) w') :
    clS Tryz.prog F.pair_Pair_Beat [.pointer (some ⟨b, 0, none⟩)] w false RBo k := by
  refine pair_Pair_Beat.ok ?_
  unfold pair_Pair_Beat.wp
  refine brF rfl ?_
  rw [ncK_eq]
  refine hB.c1 3 (c := .b) (x := p.waits) rfl ?_
  rw [hw]
  refine brT rfl ?_
  rw [ncK_eq]
  refine hB.c1 6 rfl ?_
  rw [ncK_eq]
  refine hB.sN 6 [_] (by simp) rfl fun w6 k6 u6 => h w6 ?_ u6
  have e : (if 0 > IntKind.wrap .i64 (p.rest - 1) then 0 else IntKind.wrap .i64 (p.rest - 1)) = max 0 (p.rest - 1) := by
    rw [w64_in (by unfold I64; omega)]; split <;> omega
  have k6 : Blk w6 b [.int .i64 p.me, .int .i64 p.to, .int .i64 p.sent, .bool p.waits, .int .i64 p.waited, .int .i64 p.tries, .int .i64 (if 0 > IntKind.wrap .i64 (p.rest - 1) then 0 else IntKind.wrap .i64 (p.rest - 1))] := k6
  rw [e] at k6
  exact k6
/-! ### the plan -/
def plG (a b c : Int) : Bool := decide (1 ≤ a) && decide (a ≤ 64) && decide (1 ≤ b) && decide (b ≤ a) && decide (0 ≤ c) && decide (c < a)
theorem plG_iff {a b c : Int} : plG a b c = true ↔ 1 ≤ a ∧ a ≤ 64 ∧ 1 ≤ b ∧ b ≤ a ∧ 0 ≤ c ∧ c < a := by unfold plG; simp [and_assoc]
theorem plG_no {a b c : Int} (h : ¬ (1 ≤ a ∧ a ≤ 64 ∧ 1 ≤ b ∧ b ≤ a ∧ 0 ≤ c ∧ c < a)) : plG a b c = false := by
  cases hb : plG a b c
  · rfl
  · exact absurd (plG_iff.1 hb) h
theorem duty_Plan_Good.cl {a b c : Int} {w : World} {k : TR RBo → World → Prop} (h : ∀ w', Gro w w' → k ((plG a b c, ()), ()) w') : clS Tryz.prog F.duty_Plan_Good [.agg #[.int .i64 a, .int .i64 b, .int .i64 c]] w false RBo k := by
  refine duty_Plan_Good.ok ?_
  unfold duty_Plan_Good.wp
  refine alK_by fun p w4 e k4 u4 => ?_
  have no : ¬ (1 ≤ a ∧ a ≤ 64 ∧ 1 ≤ b ∧ b ≤ a ∧ 0 ≤ c ∧ c < a) → k ((false, ()), ()) w4 := fun hn => by have := h w4 u4; rw [plG_no hn] at this; exact this
  refine k4.c0 rfl (brD (fun c1 => k4.c0 rfl (brD (fun c2 => k4.c1 1 rfl (brD (fun c3 => k4.c1 1 rfl (k4.c0 rfl (brD (fun c4 => k4.c1 2 rfl (brD (fun c5 => k4.c1 2 rfl (k4.c0 rfl ?_)) fun n => no fun q => n q.2.2.2.2.1)) fun n => no fun q => n q.2.2.2.1))) fun n => no fun q => n q.2.2.1)) fun n => no fun q => n q.2.1)) fun n => no fun q => n q.1)
  have := h w4 u4
  have e : plG a b c = decide (c < a) := by
    unfold plG
    rw [decide_eq_true (show 1 ≤ a from c1), decide_eq_true (show a ≤ 64 from c2), decide_eq_true (show 1 ≤ b from c3), decide_eq_true (show b ≤ a from c4), decide_eq_true (show 0 ≤ c from c5)]; rfl
  rw [e] at this
  exact this
def miG (a c step : Int) : Bool := decide (0 ≤ step) && (step % a == c)
theorem duty_Plan_Mine.cl {a b c step : Int} (hg : plG a b c = true) {w : World} {k : TR RBo → World → Prop} (h : ∀ w', Gro w w' → k ((miG a c step, ()), ()) w') : clS Tryz.prog F.duty_Plan_Mine [.agg #[.int .i64 a, .int .i64 b, .int .i64 c], .int .i64 step] w false RBo k := by
  refine duty_Plan_Mine.ok ?_
  unfold duty_Plan_Mine.wp
  have hp := plG_iff.1 hg
  refine alK_by fun p w4 e k4 u4 => ?_
  rw [drK_eq]
  refine k4.drew.cA (cs := [.i .i64, .i .i64, .i .i64]) (a, b, c, ()) rfl (duty_Plan_Good.cl fun w8 u8 => ⟨trivial, ?_⟩)
  have g8 := (u4.trans (Gro.drew _)).trans u8
  rw [hg]
  have k8 := k4.drew.gro u8
  refine brT rfl (brD (fun c1 => k8.c0 rfl ?_) fun c1 => ?_)
  · rw [nzK_eq (by omega)]
    refine k8.c1 2 rfl ?_
    have := h w8 g8
    have c1 : step ≥ 0 := c1
    have e : miG a c step = (Int.tmod step a == c) := by
      unfold miG; rw [decide_eq_true (show 0 ≤ step from c1), Bool.true_and, Int.tmod_eq_emod_of_nonneg c1]
    rw [e] at this
    exact this
  · have := h w8 g8
    have c1 : ¬ step ≥ 0 := c1
    have e : miG a c step = false := by unfold miG; rw [decide_eq_false (by omega), Bool.false_and]
    rw [e] at this
    exact this
end Go.Proofs.YtnjmfbjgcfnanaaGreat
/- A frame's bytes: the program's and the document's are the same. Conditions: fields that fit. -/
namespace Go.Proofs.YtnjmfbjgcfnanaaGreat
open Go Go.Eng
set_option linter.unusedVariables false
set_option linter.unusedSimpArgs false

abbrev RSI : List (Bool × List CK) := [(false, [.sl]), (false, [.i .i64])]
/-- fields whose sizes are small, and that fit -/
def Fds (fs : List E3) : Prop := fs.length ≤ 100 ∧ ∀ e ∈ fs, 0 ≤ e.1 ∧ e.1 ≤ 8 ∧ 0 ≤ e.2.1 ∧ e.2.1 ≤ 1125899906842624
theorem putB_lt' {n v : Nat} : Byt (putB n v) := fun x hx => putB_lt x hx
theorem fldB_byt (fs : List E3) : Byt (fldB fs) := by
  intro x hx
  simp only [fldB, List.mem_flatMap] at hx
  obtain ⟨f, _, h⟩ := hx
  exact putB_lt x h
theorem fldB_len {fs : List E3} (h : ∀ e ∈ fs, 0 ≤ e.1 ∧ e.1 ≤ 8) : (fldB fs).length ≤ fs.length * 8 := by
  unfold fldB
  induction fs with
  | nil => simp
  | cons f fs ih =>
    rw [List.flatMap_cons, List.length_append, putB_len, List.length_cons]
    have := h f (by simp)
    have := ih fun e he => h e (by simp [he])
    omega
theorem putB_1 {k : Nat} (h : k < 256) : putB 1 k = [k] := by simp [putB]; omega
theorem u64_n {n : Int} (h : 0 ≤ n) (h2 : n ≤ 1125899906842624) : IntKind.wrap .u64 n = ((n.toNat : Nat) : Int) := by rw [wu64_in (by unfold U64; omega)]; omega
theorem fld_one (e : E3) (h : 0 ≤ e.2.1 ∧ e.2.1 ≤ 1125899906842624) : fldB [e] = putB e.1.toNat e.2.1.toNat := by
  unfold fldB
  rw [List.flatMap_cons, List.flatMap_nil, List.append_nil, u64_n h.1 h.2, Int.toNat_natCast]
theorem fld_app (a b : List E3) : fldB (a ++ b) = fldB a ++ fldB b := by unfold fldB; rw [List.flatMap_append]
set_option maxRecDepth 20000 in
/-- The program's loop that writes a frame's fields. -/
theorem enc_loop {q : Sl} {fs : List E3} {p kd : Nat} {O : Nat → Prop} {w10 w : World} (hF : Fds fs) (hE : Ents w10 q fs) (hq : ∀ a, q.1 = some a → ¬ O a.block) (hk : kd < 256) (hP : Pen w10 O p [kd]) (hw : Gro w w10) (hO : ∀ z, O z → w.heap.size ≤ z) {R : TR RSI → World → Prop} (h : ∀ (s : Sl) w', OwnB w' w.heap.size s (frmB kd fs) → Gro w w' → R (((s.1, s.2.1, s.2.2), ()), (0, ()), ()) w') :
    LoopT (fun (self11 : ((Int) × Unit) → World → Prop) (z12 : (Int) × Unit) w13 => ∀ _ : Nat → Value,
brB (decide (z12.1 < (q.2.1 : Int))) (
ixK q.1 q.2.1 z12.1 fun a14 =>
ldN [.i .i64, .i .i64, .i .i64] (a14.add (z12.1.toNat * 3)) 0 w13 fun x15 =>
alK [.int .i64 0, .int .i64 0, .int .i64 0] T.frame_field w13 fun p16 w17 =>
stN [.int .i64 x15.1, .int .i64 x15.2.1, .int .i64 x15.2.2.1] p16 0 w17 fun w18 =>
ld1 (.i .i64) p16 w18 fun x19 =>
ld1 (.i .i64) (p16.add 1) w18 fun x20 =>
clS Tryz.prog F.octet_Pen_Num [.pointer (some ⟨p, 0, none⟩), .int .i64 x19, .int .u64 (IntKind.wrap .u64 x20)] w18 false [(false, [.p])] fun r21 w22 =>
self11 (IntKind.wrap .i64 (z12.1 + 1), ()) w22) (
clS Tryz.prog F.octet_Pen_Bytes [.pointer (some ⟨p, 0, none⟩)] w13 false [(false, [.sl])] fun r23 w24 =>
clS Tryz.prog F.crc_Seal [.slice r23.1.1.1 r23.1.1.2.1 r23.1.1.2.2] w24 false [(false, [.sl])] fun r25 w26 =>
R (((r25.1.1.1, r25.1.1.2.1, r25.1.1.2.2), ()), (0, ()), ()) w26)) (0, ()) w10 := by
  have hl := hE.len
  have h100 := hF.1
  have h1 : ∀ e ∈ fs, 0 ≤ e.1 ∧ e.1 ≤ 8 := fun e he => ⟨(hF.2 e he).1, (hF.2 e he).2.1⟩
  refine LoopT.by (fun z W => ∃ i : Nat, i ≤ fs.length ∧ z = ((i : Int), ()) ∧ ∃ O', Pen W O' p (kd :: fldB (fs.take i)) ∧ Nx O w10 O' W ∧ Ents W q fs ∧ (∀ a, q.1 = some a → ¬ O' a.block)) (fun z => ((fs.length : Int) - z.1).toNat) ⟨0, by omega, rfl, O, hP, Nx.of (Gro.refl _), hE, hq⟩ ?_
  rintro z W ⟨i, hi, rfl, O', hP, hX, hE, hq⟩ _
  have hlen : (kd :: fldB (fs.take i)).length ≤ 900 := by
    have h2 := fldB_len (fs := fs.take i) fun e he => h1 e (List.mem_of_mem_take he)
    have h3 := hF.1
    rw [List.length_take] at h2
    rw [List.length_cons]; omega
  refine brD (fun c => ?_) fun c => ?_
  · have c : (i : Int) < (q.2.1 : Int) := c
    have hi' : i < fs.length := by omega
    have he : fs[i]? = some fs[i] := List.getElem?_eq_getElem hi'
    have hm : fs[i] ∈ fs := List.getElem_mem hi'
    generalize hge : fs[i] = e at he hm
    have hf := hF.2 e hm
    refine hE.ix (z := (i : Int)) rfl he fun ad ha => hE.ldN ha he ?_
    refine alK_by fun b w17 e17 k17 u17 => k17.sta [_, _, _] rfl rfl fun w18 k18 u18 => k18.c0 (c := .i .i64) (x := e.1) rfl (k18.c1 1 (c := .i .i64) (x := e.2.1) rfl ?_)
    have g18 : Gro W w18 := Gro.fresh (Gro.refl _) u17 u18 e17
    rw [u64_n hf.2.2.1 hf.2.2.2, show e.1 = ((e.1.toNat : Nat) : Int) by omega]
    refine octet_Pen_Num.cl (by omega) (by omega) (hP.gro g18) fun w22 O2 P22 X22 => ⟨⟨i + 1, by omega, ?_, O2, ?_, (hX.gro g18).trans X22, ?_, ?_⟩, ?_⟩
    · show (IntKind.wrap .i64 ((i : Int) + 1), ()) = _
      rw [w64_in (by unfold I64; omega)]; rfl
    · have e2 : fs.take (i + 1) = fs.take i ++ [e] := by rw [List.take_add_one, he]; rfl
      rw [e2, fld_app, fld_one e ⟨hf.2.2.1, hf.2.2.2⟩, ← List.cons_append]
      exact P22
    · exact Row.upd (hE.gro g18) X22.u hq
    · intro a ha h2
      rcases X22.sub _ h2 with h3 | h3
      · exact hq a ha h3
      · obtain ⟨v, hv⟩ : ∃ v, w18.cell? (a.add 0) = some v := by
          have hne : flat3 fs ≠ [] := by
            intro h0
            have := flat3_length fs
            rw [h0] at this; simp at this; omega
          obtain ⟨a', ha', hc⟩ := (hE.gro g18).at_ hne
          rw [ha] at ha'; cases ha'
          have hl0 : 0 < (flat3 fs).length := by rw [flat3_length]; omega
          exact ⟨_, hc 0 _ (List.getElem?_eq_getElem hl0)⟩
        have := cell_lt hv
        rw [add_block] at this
        omega
    · show ((fs.length : Int) - IntKind.wrap .i64 ((i : Int) + 1)).toNat < ((fs.length : Int) - (i : Int)).toNat
      rw [w64_in (by unfold I64; omega)]; omega
  · have c : ¬ (i : Int) < (q.2.1 : Int) := c
    have : i = fs.length := by omega
    subst this
    rw [List.take_length] at hP hlen
    have gW : Gro w W := Upd.trans hw hX.u fun z hz h => by have := hO z h; omega
    refine octet_Pen_Bytes.cl (by omega) hP fun s w24 o24 g24 => ?_
    have hb : Byt (kd :: fldB fs) := by
      intro x hx
      rcases List.mem_cons.1 hx with rfl | hx
      · exact hk
      · exact fldB_byt fs x hx
    refine crc_Seal.cl hb o24.row (by omega) fun s' w26 o26 g26 => h s' w26 (OwnR.rebase o26 fun a ha => ?_) ((gW.trans g24).trans g26)
    have := (o26.blk ha).1
    have := (gW.trans g24).size
    omega
/-! ### the program's Encode -/
theorem okF_fds {fs : List E3} (h : okF fs = true) (hl : fs.length ≤ 100) (hs : ∀ e ∈ fs, 0 ≤ e.1 ∧ e.1 ≤ 8 ∧ e.2.2 ≤ 1125899906842624) : Fds fs := by
  unfold okF at h
  rw [List.all_eq_true] at h
  exact ⟨hl, fun e he => by have := inF_iff.1 (h e he); have := hs e he; omega⟩
theorem flS_small (s : S6) : ∀ e ∈ flS s, 0 ≤ e.1 ∧ e.1 ≤ 8 ∧ e.2.2 ≤ 1125899906842624 := by
  intro e he
  simp only [flS, List.mem_cons, List.not_mem_nil, or_false] at he
  rcases he with rfl | rfl | rfl | rfl | rfl | rfl <;> refine ⟨?_, ?_, ?_⟩ <;> dsimp only <;> omega
set_option maxRecDepth 20000 in
theorem frame_Encode_of_frame_Sync.cl {s : S6} {w : World} {k : TR RSI → World → Prop} (hn : okF (flS s) = false → ∀ w', Gro w w' → k (((none, 0, 0), ()), (1, ()), ()) w')
    (h : okF (flS s) = true → ∀ (y : Sl) w', OwnB w' w.heap.size y (frmB 1 (flS s)) → Gro w w' → k (((y.1, y.2.1, y.2.2), ()), (0, ()), ()) w') : clS Tryz.prog F.frame_Encode [.iface T.frame_Sync (vS s)] w true RSI k := by
  refine frame_Encode_of_frame_Sync.ok ?_
  unfold frame_Encode_of_frame_Sync.wp
  refine frame_Good_of_frame_Sync.cl (s := s) fun w2 u2 => brNot (fun c => hn c w2 u2) fun c => ?_
  have c : okF (flS s) = true := c
  refine alK_by fun p w4 e4 k4 u4 => frame_kind_of_frame_Sync.cl (s := s) rfl ?_
  have P4 := Pen.new k4
  refine octet_Pen_Num.cl (n := 1) (v := 1) (by decide) (by simp) P4 fun w8 O8 P8 X8 => ?_
  have g8 : Gro w w8 := Upd.trans (u2.trans u4) X8.u fun z hz h => by have := u2.size; omega
  have hO : ∀ z, O8 z → w2.heap.size ≤ z := fun z hz => by
    rcases X8.sub z hz with h1 | h1
    · omega
    · have := u4.size; omega
  refine frame_Sync_fields.clF (s := s) fun q w10 u10 hE hqf => ?_
  have hq : ∀ a, q.1 = some a → ¬ O8 a.block := fun a ha hz => by
    have := hqf a ha
    have := P8.lt _ hz
    omega
  exact enc_loop (kd := 1) (okF_fds c (by show 6 ≤ 100; decide) (flS_small s)) hE hq (by decide) (P8.gro u10) (g8.trans u10) (fun z hz => Nat.le_trans u2.size (hO z hz)) (h c)
end Go.Proofs.YtnjmfbjgcfnanaaGreat
/- A frame's bytes: Want; the document's bytes; sent. Conditions: fields that fit. -/
namespace Go.Proofs.YtnjmfbjgcfnanaaGreat
open Go Go.Eng
set_option linter.unusedVariables false
set_option linter.unusedSimpArgs false

def flW (me : Int) : List E3 := [(1, me, 63)]
abbrev vW (me : Int) : Value := .agg #[.int .i64 me]
theorem frame_Want_fields.clF {me : Int} {w : World} {k : TR RSL → World → Prop} (h : ∀ (q : Sl) w', Gro w w' → Ents w' q (flW me) → (∀ a, q.1 = some a → w.heap.size ≤ a.block) → k ((q, ()), ()) w') : clS Tryz.prog F.frame_Want_fields [vW me] w false RSL k := by
  refine frame_Want_fields.ok ?_
  unfold frame_Want_fields.wp
  refine alK_by fun p w2 e2 k2 u2 => k2.c0 rfl (frame_node.cl fun w5 u5 => alK_by fun p6 w7 e7 k7 u7 => h (some ⟨p6, 0, none⟩, 1, 1) w7 ((u2.trans u5).trans u7) (ents_new k7 rfl rfl) fun a ha => by cases ha; exact Nat.le_trans (u2.trans u5).size (Nat.le_of_eq e7))
theorem frame_kind_of_frame_Want.cl {v : Value} {me : Int} (hv : v = vW me) {w : World} {k : TR [(false, [.i .u8])] → World → Prop} (h : k ((3, ()), ()) w) : clS Tryz.prog F.frame_kind [.iface T.frame_Want v] w false [(false, [.i .u8])] k := by
  subst hv
  refine frame_kind_of_frame_Want.ok ?_
  unfold frame_kind_of_frame_Want.wp
  exact h
set_option maxRecDepth 20000 in
theorem frame_Good_of_frame_Want.cl {s : Int} {w : World} {k : TR [(false, [.b])] → World → Prop} (h : ∀ w', Gro w w' → k ((okF (flW s), ()), ()) w') : clS Tryz.prog F.frame_Good [.iface T.frame_Want (vW s)] w false [(false, [.b])] k := by
  refine frame_Good_of_frame_Want.ok ?_
  unfold frame_Good_of_frame_Want.wp
  refine frame_kind_of_frame_Want.cl (me := s) rfl (brF rfl (frame_Want_fields.clF (me := s) fun q w4 u4 hE _ => ?_))
  have hl := hE.len
  have h6 : (flW s).length = 1 := rfl
  refine LoopT.by (fun z w' => Gro w4 w' ∧ ∃ i : Nat, z = ((i : Int), ()) ∧ i ≤ (flW s).length ∧ ∀ e ∈ (flW s).take i, inF e = true) (fun z => (1000 - z.1).toNat) ⟨Gro.refl _, 0, rfl, by omega, by simp⟩ ?_
  rintro z w7 ⟨g, i, rfl, hi, hgood⟩ _
  have out : ∀ w', Gro w4 w' → okF (flW s) = false → k ((false, ()), ()) w' := fun w' g h0 => by
    have := h w' (u4.trans g)
    rw [h0] at this; exact this
  refine brD (fun c => ?_) fun c => ?_
  · have hi' : i < (flW s).length := by have c : (i : Int) < (q.2.1 : Int) := c; omega
    have he : (flW s)[i]? = some (flW s)[i] := List.getElem?_eq_getElem hi'
    generalize (flW s)[i] = e at he
    have hE7 := hE.gro g
    refine hE7.ix (z := (i : Int)) rfl he fun ad ha => hE7.ldN ha he ?_
    refine alK_by fun p10 w11 e10 k10 u11 => k10.sta _ rfl rfl fun w12 k12 u12 => k12.i1 1 rfl ?_
    have g12 := Gro.fresh g u11 u12 e10
    refine brD (fun c => out w12 g12 (okF_no he ?_)) fun c1 => k12.i1 1 rfl (k12.i1 2 rfl (brD (fun c => out w12 g12 (okF_no he ?_)) fun c2 => ⟨⟨g12, i + 1, ?_, by omega, ?_⟩, ?_⟩))
    · have c : e.2.1 < 0 := c
      cases hb : inF e
      · rfl
      · have := inF_iff.1 hb; omega
    · have c : e.2.1 > e.2.2 := c
      cases hb : inF e
      · rfl
      · have := inF_iff.1 hb; omega
    · show (IntKind.wrap .i64 ((i : Int) + 1), ()) = _
      rw [w64_in (by unfold I64; omega)]; rfl
    · have c1 : ¬ e.2.1 < 0 := c1
      have c2 : ¬ e.2.1 > e.2.2 := c2
      rw [List.take_add_one, he]
      intro x hx
      rcases List.mem_append.1 hx with hx | hx
      · exact hgood x hx
      · have : x = e := by simpa using hx
        subst this
        exact inF_iff.2 ⟨by omega, by omega⟩
    · show (1000 - IntKind.wrap .i64 ((i : Int) + 1)).toNat < (1000 - (i : Int)).toNat
      rw [w64_in (by unfold I64; omega)]; omega
  · have hi' : i = (flW s).length := by have c : ¬ (i : Int) < (q.2.1 : Int) := c; omega
    subst hi'
    rw [List.take_length] at hgood
    have := h w7 (u4.trans g)
    rw [okF_take hgood] at this
    exact this
theorem flW_small (s : Int) : ∀ e ∈ flW s, 0 ≤ e.1 ∧ e.1 ≤ 8 ∧ e.2.2 ≤ 1125899906842624 := by
  intro e he
  simp only [flW, List.mem_cons, List.not_mem_nil, or_false] at he
  subst he
  refine ⟨?_, ?_, ?_⟩ <;> dsimp only <;> omega
set_option maxRecDepth 20000 in
theorem frame_Encode_of_frame_Want.cl {s : Int} {w : World} {k : TR RSI → World → Prop} (hn : okF (flW s) = false → ∀ w', Gro w w' → k (((none, 0, 0), ()), (1, ()), ()) w')
    (h : okF (flW s) = true → ∀ (y : Sl) w', OwnB w' w.heap.size y (frmB 3 (flW s)) → Gro w w' → k (((y.1, y.2.1, y.2.2), ()), (0, ()), ()) w') : clS Tryz.prog F.frame_Encode [.iface T.frame_Want (vW s)] w true RSI k := by
  refine frame_Encode_of_frame_Want.ok ?_
  unfold frame_Encode_of_frame_Want.wp
  refine frame_Good_of_frame_Want.cl (s := s) fun w2 u2 => brNot (fun c => hn c w2 u2) fun c => ?_
  have c : okF (flW s) = true := c
  refine alK_by fun p w4 e4 k4 u4 => frame_kind_of_frame_Want.cl (me := s) rfl ?_
  have P4 := Pen.new k4
  refine octet_Pen_Num.cl (n := 1) (v := 3) (by decide) (by simp) P4 fun w8 O8 P8 X8 => ?_
  have g8 : Gro w w8 := Upd.trans (u2.trans u4) X8.u fun z hz h => by have := u2.size; omega
  have hO : ∀ z, O8 z → w2.heap.size ≤ z := fun z hz => by
    rcases X8.sub z hz with h1 | h1
    · omega
    · have := u4.size; omega
  refine frame_Want_fields.clF (me := s) fun q w10 u10 hE hqf => ?_
  have hq : ∀ a, q.1 = some a → ¬ O8 a.block := fun a ha hz => by
    have := hqf a ha
    have := P8.lt _ hz
    omega
  exact enc_loop (kd := 3) (okF_fds c (by show 1 ≤ 100; decide) (flW_small s)) hE hq (by decide) (P8.gro u10) (g8.trans u10) (fun z hz => Nat.le_trans u2.size (hO z hz)) (h c)
/-! ### the document's bytes -/
def wantP (me : Int) : P14 := (3, me, 0, 0, 0, 0, 0, 0, 0, 0, 0, 0, 0, 0, ())
theorem ref05_Fields.clF3 {x : P14} (h3 : x.1 = 3) {w : World} {k : TR RSL → World → Prop} (h : ∀ (s : Sl) w', Gro w w' → Ents w' s (flW x.2.1) → (∀ a, s.1 = some a → w.heap.size ≤ a.block) → k ((s, ()), ()) w') : clS Tryz.prog F.ref05_Fields [vP x] w false RSL k := by
  refine ref05_Fields.ok ?_
  unfold ref05_Fields.wp
  refine alK_by fun p1 w2 e1 k1 u1 => ?_
  change Blk w2 p1 (encs K14 x) at k1
  refine k1.c1 1 rfl (alK_by fun p4 w5 e4 k4 u4 => k4.sta _ rfl rfl fun w6 k6 u6 => ?_)
  have l1 := k1.lt
  have q1 := (k1.gro u4).upd u6 (by omega)
  have g6 := Gro.fresh u1 u4 u6 e4
  refine q1.c0 rfl ?_
  rw [h3]
  refine brF rfl (brF rfl (brT rfl (k6.ld3 ?_)))
  exact alK_by fun p44 w45 e44 k44 u44 => h (some ⟨p44, 0, none⟩, 1, 1) w45 (g6.trans u44) (ents_new k44 rfl rfl) fun a ha => by cases ha; exact Nat.le_trans g6.size (Nat.le_of_eq e44)
theorem ref03_Goes.cl {s : Nat} {xs : List Nat} (hs : s < 65536) (hx : Byt xs) {b : Sl} {w : World} (hR : RowB w b xs) (hl : xs.length ≤ 1000000) {k : TR RU16 → World → Prop} (h : k ((((crcL s xs : Nat) : Int), ()), ()) w) : clS Tryz.prog F.ref03_Goes [.int .u16 (s : Int), .slice b.1 b.2.1 b.2.2] w false RU16 k := by
  refine ref03_Goes.ok ?_
  unfold ref03_Goes.wp
  have hn := hR.len'
  rw [w64_in (n := (s : Int)) (by unfold I64; omega)]
  refine LoopT.by (fun z W => W = w ∧ ∃ i : Nat, i ≤ xs.length ∧ z = (((crcL s (xs.take i) : Nat) : Int), ((i : Nat) : Int), ())) (fun z => ((xs.length : Int) - z.2.1).toNat) ⟨rfl, 0, by omega, rfl⟩ ?_
  rintro z W ⟨rfl, i, hi, rfl⟩ _
  refine brD (fun c => ?_) fun c => ?_
  · have c : (i : Int) < (b.2.1 : Int) := c
    have hi' : i < xs.length := by omega
    refine hR.ixc (c := .i .u8) (z := (i : Int)) rfl (u8s_get (List.getElem?_eq_getElem hi')) (dec_i _ _) ?_
    have hxi := hx _ (List.getElem_mem hi')
    have e0 : xs.take (i + 1) = xs.take i ++ [xs[i]] := by simp
    have hcl := crcL_lt hs (xs.take i)
    generalize xs[i] = x at hxi e0
    refine LoopT.by (fun z W' => W' = W ∧ ∃ j : Nat, j ≤ 8 ∧ z = (((rIt j (crcL s (xs.take i)) x : Nat) : Int), (7 : Int) - j, ())) (fun z => (z.2.1 + 1).toNat) ⟨rfl, 0, by omega, rfl⟩ ?_
    rintro z W' ⟨rfl, j, hj, rfl⟩ _
    refine brD (fun d => ?_) fun d => ?_
    · have d : (7 : Int) - j ≥ 0 := d
      have hl := rIt_lt (x := x) hcl j
      have e1 : IntKind.wrap .u64 ((7 : Int) - j) = ((7 - j : Nat) : Int) := by rw [wu64_in (by unfold U64; omega)]; omega
      dsimp only
      rw [e1, shK_eq (by omega), nzK_eq (by decide), nzK_eq (by decide), w64_in (n := (x : Int)) (by unfold I64; omega), shr_eq (k := .i64) (7 - j) (by show 7 - j ≤ 64; omega)]
      have e2 : (x : Int) / ((2 ^ (7 - j) : Nat) : Int) = ((x / 2 ^ (7 - j) : Nat) : Int) := by omega
      have hq : x / 2 ^ (7 - j) ≤ x := Nat.div_le_self _ _
      rw [e2, bx_and64 (by omega)]
      have e3 : IntKind.wrap .i64 (Int.tdiv ((rIt j (crcL s (xs.take i)) x : Nat) : Int) 32768) = ((rIt j (crcL s (xs.take i)) x / 32768 : Nat) : Int) := by
        rw [Int.tdiv_eq_ediv_of_nonneg (by omega), w64_in (by unfold I64; omega)]; omega
      have e4 : Int.tmod (IntKind.wrap .i64 (((rIt j (crcL s (xs.take i)) x : Nat) : Int) * 2)) 65536 = ((rIt j (crcL s (xs.take i)) x * 2 % 65536 : Nat) : Int) := by
        rw [w64_in (by unfold I64; omega), Int.tmod_eq_emod_of_nonneg (by omega)]; omega
      rw [e3, e4]
      have e5 : IntKind.wrap .i64 ((7 : Int) - j - 1) = (7 : Int) - ((j + 1 : Nat) : Int) := by rw [w64_in (by unfold I64; omega)]; omega
      rw [e5]
      have ms : ((7 : Int) - ((j + 1 : Nat) : Int) + 1).toNat < ((7 : Int) - (j : Int) + 1).toNat := by omega
      refine brN (fun c1 => ⟨⟨rfl, j + 1, by omega, ?_⟩, ms⟩) fun c1 => ⟨⟨rfl, j + 1, by omega, ?_⟩, ms⟩
      · have e6 := bx_xor64 (a := rIt j (crcL s (xs.take i)) x * 2 % 65536) (b := 4129) (by omega) (by decide)
        have e6 : bitsX .xor .i64 ((rIt j (crcL s (xs.take i)) x * 2 % 65536 : Nat) : Int) 4129 = _ := e6
        rw [e6]
        show _ = (((stR1 (rIt j (crcL s (xs.take i)) x) (x / 2 ^ (7 - j) % 2) : Nat) : Int), _)
        unfold stR1
        rw [if_pos (by omega)]
      · show _ = (((stR1 (rIt j (crcL s (xs.take i)) x) (x / 2 ^ (7 - j) % 2) : Nat) : Int), _)
        unfold stR1
        rw [if_neg (by omega), Nat.xor_zero]
    · have d : ¬ (7 : Int) - j ≥ 0 := d
      have : j = 8 := by omega
      subst this
      rw [rIt_8, ← crc_same hcl hxi]
      refine ⟨⟨rfl, i + 1, by omega, ?_⟩, ?_⟩
      · show (_, IntKind.wrap .i64 ((i : Int) + 1), ()) = _
        rw [e0, crcL_app, w64_in (by unfold I64; omega)]
        rfl
      · show ((xs.length : Int) - IntKind.wrap .i64 ((i : Int) + 1)).toNat < ((xs.length : Int) - (i : Int)).toNat
        rw [w64_in (by unfold I64; omega)]; omega
  · have c : ¬ (i : Int) < (b.2.1 : Int) := c
    have : i = xs.length := by omega
    subst this
    dsimp only
    rw [List.take_length, w16n _ (crcL_lt hs xs)]
    exact h
theorem ref03_Sum.cl {xs : List Nat} (hx : Byt xs) {b : Sl} {w : World} (hR : RowB w b xs) (hl : xs.length ≤ 1000000) {k : TR RU16 → World → Prop} (h : k ((((crcL 65535 xs : Nat) : Int), ()), ()) w) : clS Tryz.prog F.ref03_Sum [.slice b.1 b.2.1 b.2.2] w false RU16 k := by
  refine ref03_Sum.ok ?_
  unfold ref03_Sum.wp
  exact ref03_Goes.cl (s := 65535) (by decide) hx hR hl h
set_option maxRecDepth 20000 in
theorem ref05_Bytes.cl {x : P14} {kd : Nat} {fs : List E3} (h1 : x.1 = kd) (hk : kd < 256) (hF : Fds fs)
    (hf : ∀ {w : World} {k : TR RSL → World → Prop}, (∀ (s : Sl) w', Gro w w' → Ents w' s fs → (∀ a, s.1 = some a → w.heap.size ≤ a.block) → k ((s, ()), ()) w') → clS Tryz.prog F.ref05_Fields [vP x] w false RSL k)
    {w : World} {k : TR RSL → World → Prop} (h : ∀ (s : Sl) w', OwnB w' w.heap.size s (frmB kd fs) → Gro w w' → k (((s.1, s.2.1, s.2.2), ()), ()) w') : clS Tryz.prog F.ref05_Bytes [vP x] w false RSL k := by
  refine ref05_Bytes.ok ?_
  unfold ref05_Bytes.wp
  refine alK_by fun p1 w2 e1 k1 u1 => ?_
  change Blk w2 p1 (encs K14 x) at k1
  refine k1.c0 rfl ?_
  have e3 : IntKind.wrap .u8 x.1 = (kd : Int) := by rw [h1, IntKind.wrap_u8]; omega
  rw [e3]
  refine alK_own 1 1 (by simp) (by omega) fun p4 w5 e4 o5 u5 => ?_
  refine (k1.gro u5).cA x rfl (hf fun q w8 u8 hE hq8 => ?_)
  have g5 := u1.trans u5
  have g8 := g5.trans u8
  have hl := hE.len
  have h100 := hF.1
  have h8 : ∀ e ∈ fs, 0 ≤ e.1 ∧ e.1 ≤ 8 := fun e he => ⟨(hF.2 e he).1, (hF.2 e he).2.1⟩
  have o8 : OwnB w8 w.heap.size (some ⟨p4, 0, none⟩, 1, 1) [kd] := (OwnR.gro o5 u8).rebase fun a ha => by cases ha; exact Nat.le_trans u1.size (Nat.le_of_eq e4)
  refine LoopT.by (fun z W => ∃ i : Nat, i ≤ fs.length ∧ z.2.1 = (i : Int) ∧ OwnB W w.heap.size z.1 (kd :: fldB (fs.take i)) ∧ Gro w W ∧ Ents W q fs ∧ (∀ a b, q.1 = some a → z.1.1 = some b → a.block ≠ b.block)) (fun z => ((fs.length : Int) - z.2.1).toNat) ⟨0, by omega, rfl, by simpa [fldB] using o8, g8, hE, ?_⟩ ?_
  · intro a b ha hb
    cases hb
    have := hq8 a ha
    have := (o5.blk rfl).2.1
    show a.block ≠ p4
    have : p4 < w5.heap.size := this
    omega
  rintro ⟨s, j', _⟩ W ⟨i, hi, rfl, o, g, hE, hq⟩ _
  have hlen : (kd :: fldB (fs.take i)).length ≤ 900 := by
    have h2 := fldB_len (fs := fs.take i) fun e he => h8 e (List.mem_of_mem_take he)
    rw [List.length_take] at h2
    rw [List.length_cons]; omega
  have hb : Byt (kd :: fldB (fs.take i)) := by
    intro x hx
    rcases List.mem_cons.1 hx with rfl | hx
    · exact hk
    · exact fldB_byt _ x hx
  refine brD (fun c => ?_) fun c => ?_
  · have c : (i : Int) < (q.2.1 : Int) := c
    have hi' : i < fs.length := by omega
    have he : fs[i]? = some fs[i] := List.getElem?_eq_getElem hi'
    have hm : fs[i] ∈ fs := List.getElem_mem hi'
    generalize hge : fs[i] = e at he hm
    have hfe := hF.2 e hm
    refine hE.ix (z := (i : Int)) rfl he fun ad ha => hE.ldN ha he ?_
    refine alK_by fun b w15 e15 k15 u15 => k15.sta [_, _, _] rfl rfl fun w16 k16 u16 => k16.c0 (c := .i .i64) (x := e.1) rfl (k16.c1 1 (c := .i .i64) (x := e.2.1) rfl ?_)
    have g16 : Gro W w16 := Gro.fresh (Gro.refl _) u15 u16 e15
    rw [u64_n hfe.2.2.1 hfe.2.2.2, show e.1 = ((e.1.toNat : Nat) : Int) by omega]
    refine ref04_Put.cl (by omega) (fun y w20 o20 g20 => ?_) (by omega)
    have gW := g16.trans g20
    have hy := o20.row.clen
    rw [List.length_map, putB_len] at hy
    refine ap_own (s := s) (x := y) (base := w.heap.size) (e := T.uint8) (size := 1) (n := (kd :: fldB (fs.take i)).length) (xs := u8s (kd :: fldB (fs.take i))) (news := u8s (putB e.1.toNat e.2.1.toNat)) (by kernel_rfl) (by kernel_rfl) (by decide) (o.gro gW) o20.row (u8s_one _) (by omega) (g.trans gW).size fun y2 w22 o22 u22 hb22 => ?_
    refine ⟨⟨i + 1, by omega, ?_, ?_, ?_, ?_, ?_⟩, ?_⟩
    · show IntKind.wrap .i64 ((i : Int) + 1) = _
      rw [w64_in (by unfold I64; omega)]; rfl
    · have e2 : fs.take (i + 1) = fs.take i ++ [e] := by rw [List.take_add_one, he]; rfl
      have o22 : OwnR w22 w.heap.size T.uint8 1 y2 ((kd :: fldB (fs.take i)).length + y.2.1) (u8s (kd :: fldB (fs.take i)) ++ u8s (putB e.1.toNat e.2.1.toNat)) := o22
      show OwnB w22 w.heap.size y2 (kd :: fldB (fs.take (i + 1)))
      rw [e2, fld_app, fld_one e ⟨hfe.2.2.1, hfe.2.2.2⟩, ← List.cons_append]
      unfold OwnB
      rw [u8s_app, @List.length_append _ (kd :: fldB (fs.take i)), putB_len]
      rw [hy] at o22
      exact o22
    · exact Upd.trans (g.trans gW) u22 fun z hz ⟨a, ha, hb⟩ => by have := (o.blk ha).1; omega
    · exact Row.upd (hE.gro gW) u22 fun a ha ⟨b', hb', hbb⟩ => hq a b' ha hb' hbb.symm
    · intro a b' ha hb'
      rcases hb22 b' hb' with ⟨b0, h0, hbb⟩ | hbb
      · have := hq a b0 ha h0; omega
      · obtain ⟨v, hv⟩ : ∃ v, W.cell? (a.add 0) = some v := by
          have hne : flat3 fs ≠ [] := by
            intro h0
            have := flat3_length fs
            rw [h0] at this; simp at this; omega
          obtain ⟨a', ha', hc⟩ := hE.at_ hne
          rw [ha] at ha'; cases ha'
          have hl0 : 0 < (flat3 fs).length := by rw [flat3_length]; omega
          exact ⟨_, hc 0 _ (List.getElem?_eq_getElem hl0)⟩
        have := cell_lt hv
        rw [add_block] at this
        have := gW.size
        omega
    · show ((fs.length : Int) - IntKind.wrap .i64 ((i : Int) + 1)).toNat < ((fs.length : Int) - (i : Int)).toNat
      rw [w64_in (by unfold I64; omega)]; omega
  · have c : ¬ (i : Int) < (q.2.1 : Int) := c
    have : i = fs.length := by omega
    subst this
    rw [List.take_length] at o hb hlen
    have hsl := o.row.clen
    rw [List.length_map] at hsl
    refine ref03_Sum.cl hb o.row (by omega) ?_
    rw [nzK_eq (by decide), nzK_eq (by decide)]
    have hc := crcL_lt (s := 65535) (by decide) (kd :: fldB fs)
    have hh1 : IntKind.wrap .u8 (IntKind.wrap .u16 (Int.tdiv ((crcL 65535 (kd :: fldB fs) : Nat) : Int) 256)) = ((crcL 65535 (kd :: fldB fs) / 256 : Nat) : Int) := by
      rw [Int.tdiv_eq_ediv_of_nonneg (by omega), wu16, IntKind.wrap_u8]; omega
    have hh2 : IntKind.wrap .u8 (Int.tmod ((crcL 65535 (kd :: fldB fs) : Nat) : Int) 256) = ((crcL 65535 (kd :: fldB fs) % 256 : Nat) : Int) := by
      rw [Int.tmod_eq_emod_of_nonneg (by omega), IntKind.wrap_u8]; omega
    dsimp only
    rw [hh1, hh2]
    refine alK_by fun p25 w26 e26 k26 g26 => ?_
    refine ap_own (s := s) (x := (some ⟨p25, 0, none⟩, 2, 2)) (base := w.heap.size) (e := T.uint8) (size := 1) (n := (kd :: fldB fs).length) (xs := u8s (kd :: fldB fs)) (news := u8s [crcL 65535 (kd :: fldB fs) / 256, crcL 65535 (kd :: fldB fs) % 256]) (by kernel_rfl) (by kernel_rfl) (by decide) (o.gro g26) (k26.row rfl) (u8s_one _) (by show (kd :: fldB fs).length + 2 ≤ 1000000000; omega) (Nat.le_trans g.size g26.size) fun y w28 o28 u28 _ => h y w28 ?_ (Upd.trans (g.trans g26) u28 fun z hz ⟨a, ha, hb⟩ => by have := (o.blk ha).1; omega)
    have o28 : OwnR w28 w.heap.size T.uint8 1 y ((kd :: fldB fs).length + 2) (u8s (kd :: fldB fs) ++ u8s [crcL 65535 (kd :: fldB fs) / 256, crcL 65535 (kd :: fldB fs) % 256]) := o28
    unfold OwnB frmB sealB
    rw [u8s_app, List.length_append]
    exact o28
end Go.Proofs.YtnjmfbjgcfnanaaGreat
