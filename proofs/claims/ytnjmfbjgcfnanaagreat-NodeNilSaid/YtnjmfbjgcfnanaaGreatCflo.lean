/- Contracts of layers 15 and 16, the first part: a node's election and flood, made, and asked whether they are synchronized. Conditions: numbers of 16 bits are such. -/
import Derived.Test.YtnjmfbjgcfnanaaGreatCanc2
namespace Go.Proofs.YtnjmfbjgcfnanaaGreat
open Go.Eng Go
set_option linter.unusedVariables false
set_option linter.unusedSimpArgs false

abbrev MK : List CK := [.i .u16, .i .u16]
abbrev M2 := Int × Int
def mk2 (m : M2) : Tvs MK := (m.1, m.2, ())
/-- an election's ints: me, timeout, ignore, boot, seq, root, beats, quiet -/
structure El where
  me : Int
  tmo : Int
  ign : Int
  boot : Int
  seq : Int
  root : Int
  beats : Int
  quiet : Int
def elC (e : El) (q : Option Nat) : List Value := [.int .i64 e.me, .int .i64 e.tmo, .int .i64 e.ign, .int .u16 e.boot, .int .u16 e.seq, .int .i64 e.root, .int .i64 e.beats, .int .i64 e.quiet, .map q]
abbrev MkL := List (Int × Tvs MK)
/-- The block b is this election. -/
structure ElB (w : World) (b r : Nat) (e : El) (l : MkL) : Prop where
  blk : Blk w b (elC e (some r))
  map : MapT w r true MK l

theorem MapT.ne {w : World} {r b : Nat} {cs : List Value} {ag : Bool} {ks : List CK} {l : List (Int × Tvs ks)} (h : MapT w r ag ks l) (k : Blk w b cs) : b ≠ r := by
  intro e; subst e
  obtain ⟨es, c, h1, _⟩ := h
  obtain ⟨t, h2⟩ := k
  rw [h1] at h2; cases h2
theorem ElB.upd {S : Nat → Prop} {w w' : World} {b r : Nat} {e : El} {l : MkL} (h : ElB w b r e l) (u : Upd S w w') (h1 : ¬ S b) (h2 : ¬ S r) : ElB w' b r e l := ⟨h.blk.upd u h1, h.map.upd u h2⟩
theorem ElB.gro {w w' : World} {b r : Nat} {e : El} {l : MkL} (h : ElB w b r e l) (u : Gro w w') : ElB w' b r e l := h.upd u (fun x => x) fun x => x

/-- a flood's own ints -/
structure Fl where
  me : Int
  tmo : Int
  ign : Int
  need : Int
  drift : Int
  ll : Int
  lg : Int
  lh : Int
def flC (be : Nat) (f : Fl) (s : Sl) : List Value := [.pointer (some ⟨be, 0, none⟩), .int .i64 f.me, .int .i64 f.tmo, .int .i64 f.ign, .int .i64 f.need, .int .i64 f.drift, .slice s.1 s.2.1 s.2.2, .int .i64 f.ll, .int .i64 f.lg, .int .i64 f.lh]

/-- rules for an election -/
def elG (r0 r1 : Int) : Bool := decide (1 ≤ r0) && decide (r0 ≤ 1000) && decide (0 ≤ r1) && decide (r1 ≤ 1000)
def flG (r0 r1 r2 r3 : Int) : Bool := elG r0 r1 && decide (1 ≤ r2) && decide (r2 ≤ 8) && decide (0 ≤ r3) && decide (r3 ≤ 10)
theorem elG_iff {a b : Int} : elG a b = true ↔ 1 ≤ a ∧ a ≤ 1000 ∧ 0 ≤ b ∧ b ≤ 1000 := by unfold elG; simp [and_assoc]
theorem flG_iff {a b c d : Int} : flG a b c d = true ↔ elG a b = true ∧ 1 ≤ c ∧ c ≤ 8 ∧ 0 ≤ d ∧ d ≤ 10 := by unfold flG; simp [and_assoc]

theorem elect_Rules_Good.cl {r0 r1 : Int} {w : World} {k : TR [(false, [.b])] → World → Prop} (h : ∀ w', Gro w w' → k ((elG r0 r1, ()), ()) w') : clS Tryz.prog F.elect_Rules_Good [.agg #[.int .i64 r0, .int .i64 r1]] w false [(false, [.b])] k := by
  refine elect_Rules_Good.ok ?_
  unfold elect_Rules_Good.wp
  refine alK_by fun p1 w2 e1 k1 u1 => ?_
  have key : ∀ b : Bool, (b = true ↔ 1 ≤ r0 ∧ r0 ≤ 1000 ∧ 0 ≤ r1 ∧ r1 ≤ 1000) → k ((b, ()), ()) w2 := fun b hb => by
    have : b = elG r0 r1 := by rw [Bool.eq_iff_iff, hb, elG_iff]
    rw [this]; exact h w2 u1
  refine k1.i0 rfl (brD (fun c1 => k1.i0 rfl (brD (fun c2 => k1.i1 1 rfl (brD (fun c3 => k1.i1 1 rfl (key _ ?_)) fun c3 => key _ ?_)) fun c2 => key _ ?_)) fun c1 => key _ ?_) <;> ((try replace c1 : r0 ≥ 1 := c1); (try replace c1 : ¬ r0 ≥ 1 := c1); (try replace c2 : r0 ≤ 1000 := c2); (try replace c2 : ¬ r0 ≤ 1000 := c2); (try replace c3 : r1 ≥ 0 := c3); (try replace c3 : ¬ r1 ≥ 0 := c3); (try show decide (r1 ≤ 1000) = true ↔ _); simp; omega)

set_option maxRecDepth 20000 in
theorem flood_Rules_Good.cl {r0 r1 r2 r3 : Int} {w : World} {k : TR [(false, [.b])] → World → Prop} (h : ∀ w', Gro w w' → k ((flG r0 r1 r2 r3, ()), ()) w') : clS Tryz.prog F.flood_Rules_Good [.agg #[.int .i64 r0, .int .i64 r1, .int .i64 r2, .int .i64 r3]] w false [(false, [.b])] k := by
  refine flood_Rules_Good.ok ?_
  unfold flood_Rules_Good.wp
  refine alK_by fun p1 w2 e1 k1 u1 => ?_
  refine k1.cN 0 (cs := [.i .i64, .i .i64]) (r0, r1, ()) rfl (elect_Rules_Good.cl fun w5 u5 => ?_)
  have key : ∀ b : Bool, (b = true ↔ elG r0 r1 = true ∧ 1 ≤ r2 ∧ r2 ≤ 8 ∧ 0 ≤ r3 ∧ r3 ≤ 10) → k ((b, ()), ()) w5 := fun b hb => by
    have : b = flG r0 r1 r2 r3 := by rw [Bool.eq_iff_iff, hb, flG_iff]
    rw [this]; exact h w5 (u1.trans u5)
  have q := k1.gro u5
  dsimp only
  refine brC (fun c0 => q.i1 2 rfl (brD (fun c1 => q.i1 2 rfl (brD (fun c2 => q.i1 3 rfl (brD (fun c3 => q.i1 3 rfl (key _ ?_)) fun c3 => key _ ?_)) fun c2 => key _ ?_)) fun c1 => key _ ?_)) fun c0 => key _ ?_
  all_goals (have c0 : elG r0 r1 = _ := c0; rw [c0]; (try replace c1 : r2 ≥ 1 := c1); (try replace c1 : ¬ r2 ≥ 1 := c1); (try replace c2 : r2 ≤ 8 := c2); (try replace c2 : ¬ r2 ≤ 8 := c2); (try replace c3 : r3 ≥ 0 := c3); (try replace c3 : ¬ r3 ≥ 0 := c3); (try show decide (r3 ≤ 10) = true ↔ _); simp)
  all_goals omega

set_option maxRecDepth 20000 in
theorem elect_Elect_Boot.cl {b : Nat} {q : Option Nat} {e : El} {boot : Int} {w : World} (hB : Blk w b (elC e q)) {k : TR [] → World → Prop}
    (h : ∀ w' m, w.heap.size ≤ m → ElB w' b m { e with boot := boot, seq := 0, root := -1, beats := 0, quiet := 0 } [] → Upd (fun x => x = b) w w' → k () w') :
    clS Tryz.prog F.elect_Elect_Boot [.pointer (some ⟨b, 0, none⟩), .int .u16 boot] w true [] k := by
  refine elect_Elect_Boot.ok ?_
  unfold elect_Elect_Boot.wp
  refine brT rfl ?_
  rw [drK_eq, ncK_eq]
  have lb := hB.lt
  have B := hB.drew
  refine B.i0 rfl ?_
  rw [ncK_eq]
  refine B.cN 1 (cs := [.i .i64, .i .i64]) (e.tmo, e.ign, ()) rfl (maK_by true MK fun m w7 e6 M6 u6 => ⟨?_, ?_⟩)
  · exact ⟨B.hold2 u6 (fun x => x) 1 0 (by simp [elC]), B.hold2 u6 (fun x => x) 1 1 (by simp [elC]), B.hold u6 (fun x => x) 0 (by simp [elC]), trivial⟩
  · rw [ncK_eq]
    have g7 := (Gro.drew w).trans u6
    refine (hB.gro g7).sta _ rfl rfl fun w9 k9 u9 => ⟨trivial, ?_⟩
    have lm : w.heap.size ≤ m := by have : w.drew.heap.size = w.heap.size := rfl; omega
    refine h w9 m lm ⟨k9, M6.upd u9 (by omega)⟩ (Upd.trans (Upd.of_gro g7) u9 fun i hi h => h)

theorem elect_New.cl {me r0 r1 : Int} {w : World} {k : TR [(false, [.p]), (false, [.i .i64])] → World → Prop}
    (h0 : (me < 0 ∨ 64 ≤ me ∨ elG r0 r1 = false) → ∀ w', Gro w w' → k ((none, ()), (1, ()), ()) w')
    (h1 : 0 ≤ me → me < 64 → elG r0 r1 = true → ∀ b m w', w.heap.size ≤ b → w.heap.size ≤ m → ElB w' b m ⟨me, r0, r1, 0, 0, -1, 0, 0⟩ [] → Gro w w' → k ((some ⟨b, 0, none⟩, ()), (0, ()), ()) w') :
    clS Tryz.prog F.elect_New [.int .i64 me, .agg #[.int .i64 r0, .int .i64 r1]] w true [(false, [.p]), (false, [.i .i64])] k := by
  refine elect_New.ok ?_
  unfold elect_New.wp
  refine alK_by fun p1 w2 e1 k1 u1 => ?_
  refine brD (fun c => h0 (.inl c) w2 u1) fun c1 => brD (fun c => h0 (.inr (.inl c)) w2 u1) fun c2 => ?_
  have c1 : ¬ me < 0 := c1
  have c2 : ¬ me ≥ 64 := c2
  refine k1.ld2 (elect_Rules_Good.cl fun w5 u5 => brNot (fun c => h0 (.inr (.inr c)) w5 (u1.trans u5)) fun c3 => (k1.gro u5).ld2 ?_)
  refine alK_by fun p7 w8 e7 k7 u7 => ?_
  have g8 := (u1.trans u5).trans u7
  have s5 := (u1.trans u5).size
  refine elect_Elect_Boot.cl (q := none) (e := ⟨me, r0, r1, 0, 0, 0, 0, 0⟩) k7 fun w10 m lm E10 u10 => ?_
  refine h1 (by omega) (by omega) c3 p7 m w10 (by omega) (by have := u7.size; omega) E10 (Upd.trans g8 u10 fun i hi h => by omega)

/-- The flood at bf is this, its election at be, the election's map at r, its entries behind s. -/
structure FlB (w : World) (bf be r : Nat) (f : Fl) (s : Sl) (e : El) (l : MkL) (es : List E3) : Prop where
  blk : Blk w bf (flC be f s)
  el : ElB w be r e l
  ents : Ents w s es
  ne : bf ≠ be
theorem FlB.gro {w w' : World} {bf be r : Nat} {f : Fl} {s : Sl} {e : El} {l : MkL} {es : List E3} (h : FlB w bf be r f s e l es) (u : Gro w w') : FlB w' bf be r f s e l es := ⟨h.blk.gro u, h.el.gro u, h.ents.gro u, h.ne⟩
theorem FlB.upd {S : Nat → Prop} {w w' : World} {bf be r : Nat} {f : Fl} {s : Sl} {e : El} {l : MkL} {es : List E3} (h : FlB w bf be r f s e l es) (u : Upd S w w') (h1 : ¬ S bf) (h2 : ¬ S be) (h3 : ¬ S r) (h4 : ∀ a, s.1 = some a → ¬ S a.block) : FlB w' bf be r f s e l es := ⟨h.blk.upd u h1, h.el.upd u h2 h3, Row.upd h.ents u h4, h.ne⟩
theorem Ents.nil (w : World) : Ents w (none, 0, 0) [] := ⟨rfl, fun h => absurd rfl h⟩

theorem flood_New.cl {me r0 r1 r2 r3 : Int} {w : World} {k : TR [(false, [.p]), (false, [.i .i64])] → World → Prop}
    (h0 : (me < 0 ∨ 64 ≤ me ∨ flG r0 r1 r2 r3 = false) → ∀ w', Gro w w' → k ((none, ()), (1, ()), ()) w')
    (h1 : 0 ≤ me → me < 64 → flG r0 r1 r2 r3 = true → ∀ bf be m w', w.heap.size ≤ bf → w.heap.size ≤ be → w.heap.size ≤ m → FlB w' bf be m ⟨me, r0, r1, r2, r3, 0, 0, 0⟩ (none, 0, 0) ⟨me, r0, r1, 0, 0, -1, 0, 0⟩ [] [] → Gro w w' → k ((some ⟨bf, 0, none⟩, ()), (0, ()), ()) w') :
    clS Tryz.prog F.flood_New [.int .i64 me, .agg #[.int .i64 r0, .int .i64 r1, .int .i64 r2, .int .i64 r3]] w true [(false, [.p]), (false, [.i .i64])] k := by
  refine flood_New.ok ?_
  unfold flood_New.wp
  refine alK_by fun p1 w2 e1 k1 u1 => ?_
  refine k1.cA (cs := [.i .i64, .i .i64, .i .i64, .i .i64]) (r0, r1, r2, r3, ()) rfl (flood_Rules_Good.cl fun w5 u5 => brNot (fun c => h0 (.inr (.inr c)) w5 (u1.trans u5)) fun c3 => ?_)
  have c3 : flG r0 r1 r2 r3 = true := c3
  have g5 := u1.trans u5
  have k5 := k1.gro u5
  refine k5.cN 0 (cs := [.i .i64, .i .i64]) (r0, r1, ()) rfl (elect_New.cl (fun c w8 u8 => ?_) fun c1 c2 c4 be m w8 lb lm E8 u8 => ?_)
  · refine brT rfl ?_
    rcases c with c | c | c
    · exact h0 (.inl c) w8 (g5.trans u8)
    · exact h0 (.inr (.inl c)) w8 (g5.trans u8)
    · rw [(flG_iff.1 c3).1] at c; cases c
  · refine brF rfl ((k5.gro u8).cA (cs := [.i .i64, .i .i64, .i .i64, .i .i64]) (r0, r1, r2, r3, ()) rfl (alK_by fun bf w11 eb kb ub => ?_))
    have s8 := (g5.trans u8).size
    have s5 := g5.size
    have ne : bf ≠ be := by have := E8.blk.lt; omega
    exact h1 c1 c2 c3 bf be m w11 (by omega) (by omega) (by omega) ⟨kb, E8.gro ub, Ents.nil _, ne⟩ ((g5.trans u8).trans ub)

theorem elect_Elect_Mine.cl {b r : Nat} {e : El} {l : MkL} {w : World} (hB : ElB w b r e l) {k : TR [(false, [.b])] → World → Prop}
    (h : ∀ w', Gro w w' → k (((e.root == e.me), ()), ()) w') : clS Tryz.prog F.elect_Elect_Mine [.pointer (some ⟨b, 0, none⟩)] w false [(false, [.b])] k := by
  refine elect_Elect_Mine.ok ?_
  unfold elect_Elect_Mine.wp
  rw [drK_eq]
  refine brT rfl ?_
  rw [ncK_eq]
  refine hB.blk.drew.i1 5 rfl ?_
  rw [ncK_eq]
  exact hB.blk.drew.i0 rfl (h _ (Gro.drew w))

/-- the number of entries, of a table that lies anywhere -/
theorem table_Table_Len.at {w : World} {a : Addr} {s : Sl} (hc : w.cell? a = some (.slice s.1 s.2.1 s.2.2)) {k : TR [(false, [.i .i64])] → World → Prop} (hk : k (((s.2.1 : Int), ()), ()) w) :
    clS Tryz.prog F.table_Table_Len [.pointer (some a)] w false [(false, [.i .i64])] k := by
  refine table_Table_Len.ok ?_
  unfold table_Table_Len.wp
  refine brF rfl ?_
  rw [ncK_eq]
  exact ld1_cell (x := s) hc rfl hk

def synF (f : Fl) (e : El) (n : Nat) : Bool := (e.root == e.me) || decide ((n : Int) ≥ f.need)
theorem flood_Flood_Synced.cl {bf be r : Nat} {f : Fl} {s : Sl} {e : El} {l : MkL} {es : List E3} {w : World} (hB : FlB w bf be r f s e l es) {k : TR [(false, [.b])] → World → Prop}
    (h : ∀ w', Gro w w' → k ((synF f e es.length, ()), ()) w') : clS Tryz.prog F.flood_Flood_Synced [.pointer (some ⟨bf, 0, none⟩)] w false [(false, [.b])] k := by
  refine flood_Flood_Synced.ok ?_
  unfold flood_Flood_Synced.wp
  rw [drK_eq]
  refine brT rfl ?_
  rw [ncK_eq]
  have hD := hB.gro (Gro.drew w)
  refine hD.blk.c0 (c := .p) (x := some ⟨be, 0, none⟩) rfl (elect_Elect_Mine.cl hD.el fun w5 u1 => ⟨⟨hD.blk.hold u1 (fun x => x) 0 (by simp [flC]), trivial⟩, ?_⟩)
  have hD2 := hD.gro u1
  have g2 := (Gro.drew w).trans u1
  unfold synF at h
  refine brC (fun c => ?_) fun c => ?_
  · have c : (e.root == e.me) = true := c
    rw [c] at h
    exact h _ g2
  · have c : (e.root == e.me) = false := c
    rw [c] at h
    rw [ncK_eq, ncK_eq]
    refine hD2.blk.c2 2 2 (x := f.need) rfl ?_
    have hc : w5.cell? (Addr.add ⟨bf, 0, none⟩ 6) = some (.slice s.1 s.2.1 s.2.2) := by rw [add_eq, Nat.zero_add, hD2.blk.cell]; rfl
    refine table_Table_Len.at hc ⟨⟨hD2.blk.hold2 (Gro.refl _) (fun x => x) 2 2 (by simp [flC]), hD.blk.hold u1 (fun x => x) 0 (by simp [flC]), trivial⟩, ?_⟩
    rw [hD2.ents.len]
    exact h _ g2
end Go.Proofs.YtnjmfbjgcfnanaaGreat
