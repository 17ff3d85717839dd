/- Contracts of layer 16: a flood boots, beats, tells its time. Conditions: none. -/
import Derived.Test.YtahojpppjpfjmaaGreatCflo4
namespace Go.Proofs.YtahojpppjpfjmaaGreat
open Go.Eng Go
set_option linter.unusedVariables false
set_option linter.unusedSimpArgs false

/-- a step of the election alone -/
theorem FW.turnE {O : Nat → Prop} {bf be : Nat} {f : Fl} {e : El} {l : MkL} {es : List E3} {w : World} (hF : FW w O bf be f e l es) :
    ∃ r, ElB w be r e l ∧ (∀ z, elS be r z → O z) ∧ ∀ w' e' l', ElB w' be r e' l' → Upd (elS be r) w w' → FW w' O bf be f e' l' es ∧ Nx O w O w' := by
  obtain ⟨⟨r, s, h1, h2, h3, h4, h5, h6⟩, ne, obf, obe, lt, len, good, need⟩ := hF
  have hO : ∀ z, elS be r z → O z := fun z h => h.elim (fun h => by rw [h]; exact obe) fun h => by rw [h]; exact h5
  refine ⟨r, h2, hO, fun w' e' l' E u => ⟨⟨⟨r, s, h1.upd u ?_, E, h3.upd u fun a ha => ?_, h4, h5, h6⟩, ne, obf, obe, fun z hz => Nat.lt_of_lt_of_le (lt z hz) u.size, len, good, need⟩, u.mono hO, fun z hz => .inl hz⟩⟩
  · rintro (h | h)
    · exact ne h
    · exact h6 h
  · rintro (h | h)
    · exact (h4 a ha).2.1 h
    · exact (h4 a ha).2.2.1 h
theorem FW.turnB {O : Nat → Prop} {bf be : Nat} {f : Fl} {e : El} {l : MkL} {es : List E3} {w : World} (hF : FW w O bf be f e l es) :
    ∃ r, ElB w be r e l ∧ ∀ w' e' l', ElB w' be r e' l' → Upd (fun z => z = be) w w' → FW w' O bf be f e' l' es ∧ Nx O w O w' := by
  obtain ⟨r, h1, _, h2⟩ := hF.turnE
  exact ⟨r, h1, fun w' e' l' E u => h2 w' e' l' E (u.mono fun z h => .inl h)⟩

def bootE (e : El) (boot : Int) : El := { e with boot := boot, seq := 0, root := -1, beats := 0, quiet := 0 }
/-! ### the word -/
def fwS (f : Fl) (e : El) (l : MkL) (loc : Int) : S6 := (f.me, e.root, (mkM e l).1, (mkM e l).2.1, f.lh, IntKind.wrap .i64 (IntKind.wrap .i64 (f.lg + loc) - f.ll))
def wdF (f : Fl) (e : El) (l : MkL) (es : List E3) (loc : Int) : S6 × Bool :=
  if mine e = true then ((f.me, f.me, (isM e).1, (isM e).2.1, 0, loc), true)
  else if synF f e es.length = false then ((0, 0, 0, 0, 0, 0), false)
  else (fwS f e l loc, okF (flS (fwS f e l loc)))
theorem isE_no {e : El} (h : ¬ mine e = true) : isE e = e := by unfold isE; rw [if_neg h]

set_option maxRecDepth 20000 in
set_option maxHeartbeats 1000000 in
theorem flood_Flood_word.cw {O : Nat → Prop} {bf be : Nat} {f : Fl} {e : El} {l : MkL} {es : List E3} {loc : Int} {w : World} (hF : FW w O bf be f e l es) {k : TR [(true, KS), (false, [.b])] → World → Prop}
    (h : ∀ w', FW w' O bf be f (isE e) l es → Nx O w O w' → k (tS (wdF f e l es loc).1, ((wdF f e l es loc).2, ()), ()) w') :
    clS Tryz.prog F.flood_Flood_word [.pointer (some ⟨bf, 0, none⟩), .int .i64 loc] w true [(true, KS), (false, [.b])] k := by
  refine flood_Flood_word.ok ?_
  unfold flood_Flood_word.wp
  refine alK_by fun p1 w2 e1 k1 u1 => ?_
  have np1 : ¬ O p1 := fun h => by have := hF.lt p1 h; omega
  rw [ncK_eq]
  have F2 := hF.gro u1
  unfold wdF at h
  refine F2.elect (elect_Elect_Mine.cw F2 fun w6 u6 => ?_)
  have F6 := F2.gro u6
  have g6 := u1.trans u6
  refine brC (fun c => ?_) fun c => ?_
  · have c : mine e = true := c
    rw [if_pos c] at h
    rw [ncK_eq]
    refine F6.elect ?_
    obtain ⟨r, E6, hr⟩ := F6.turnB
    refine elect_Elect_Issue.cl E6 fun w10 E10 u10 => ?_
    obtain ⟨F10, X10⟩ := hr _ _ _ E10 u10
    have k10 := X10.blk (k1.gro u6) np1
    refine alK_by fun p11 w12 e11 k11 u11 => k11.sta _ rfl rfl fun w13 k13 u13 => ?_
    have g13 : Gro w10 w13 := Gro.fresh (Gro.refl _) u11 u13 e11
    rw [drK_eq, ncK_eq]
    have F13 := (F10.gro g13).gro (Gro.drew _)
    have k13 := k13.drew
    have l11 := k11.lt
    obtain ⟨r', s', b1, _⟩ := F13.ex
    refine b1.c1 1 (x := f.me) rfl ?_
    rw [ncK_eq]
    refine b1.c1 1 (x := f.me) rfl (k13.c0 rfl (k13.c1 1 rfl ?_))
    have X13 : Nx O w O w13.drew := (Nx.pre g6 X10).gro (g13.trans (Gro.drew _))
    refine ((k10.1.gro g13).drew).sta _ rfl rfl fun w21 k21 u21 => ⟨trivial, ?_⟩
    refine k21.cA (cs := KS) (tS (f.me, f.me, (isM e).1, (isM e).2.1, 0, loc)) rfl ?_
    refine h w21 (F13.upd u21 fun z hz h => by rw [h] at hz; exact np1 hz) ⟨Upd.trans X13.u u21 fun i hi h => by omega, X13.sub⟩
  · have c : ¬ mine e = true := by have c : mine e = false := c; rw [c]; simp
    rw [if_neg c, isE_no c] at h
    refine flood_Flood_Synced.cw F6 fun w24 u24 => brNot (fun c2 => ?_) fun c2 => ?_
    · have c2 : synF f e es.length = false := c2
      rw [if_pos c2] at h
      refine ((k1.gro u6).gro u24).sta _ rfl rfl fun w25 k25 u25 => k25.cA (cs := KS) (tS (0, 0, 0, 0, 0, 0)) rfl ?_
      have g25 : Gro w w25 := Upd.trans (g6.trans u24) u25 fun i hi h => by omega
      exact h w25 (hF.gro g25) (Nx.of g25)
    · have c2 : ¬ synF f e es.length = false := by have c2 : synF f e es.length = true := c2; rw [c2]; simp
      rw [if_neg c2] at h
      rw [ncK_eq]
      have F24 := F6.gro u24
      refine F24.elect ?_
      obtain ⟨r0, E24⟩ := F24.el
      refine elect_Elect_Mark.cl E24 fun w30 u30 => ?_
      refine alK_by fun p31 w32 e31 k31 u31 => k31.sta _ rfl rfl fun w33 k33 u33 => ?_
      have g33 : Gro w30 w33 := Gro.fresh (Gro.refl _) u31 u33 e31
      have G33 : Gro w w33 := ((g6.trans u24).trans u30).trans g33
      have q33 := (((k1.gro u6).gro u24).gro u30).gro g33
      have l1 := k1.lt
      have l31 := k31.lt
      have n31 : p1 < p31 := by have := u6.size; have := u24.size; have := u30.size; omega
      refine CutT.by (fun z w' => Gro w w' ∧ Gro w33 w' ∧ ∃ p, z.1 = ⟨p, 0, none⟩ ∧ p ≠ p1 ∧ Blk w' p (encs KS (tS (fwS f e l loc)))) ?_ ?_
      · rw [drK_eq]
        have gd : Gro w w33.drew := G33.trans (Gro.drew _)
        obtain ⟨r1, s1, b1, E1, _⟩ := (hF.gro gd).ex
        have m33 := k33.drew
        rw [ncK_eq]
        refine b1.c1 1 (x := f.me) rfl ?_
        rw [ncK_eq]
        refine b1.c0 (c := .p) (x := some ⟨be, 0, none⟩) rfl (m33.c0 rfl (m33.c1 1 rfl ?_))
        rw [ncK_eq]
        refine b1.c2 7 2 (x := f.lh) rfl ?_
        rw [ncK_eq]
        refine b1.c2 7 1 (x := f.lg) rfl ?_
        rw [ncK_eq]
        refine b1.c1 7 (x := f.ll) rfl ?_
        have hold : ∀ {w' : World}, Gro w33.drew w' → w'.cell? (Addr.add ⟨bf, 0, none⟩ 7) = some ((w33.drew.cell? (Addr.add ⟨bf, 0, none⟩ 7)).getD undef) ∧ w'.cell? (Addr.add (Addr.add ⟨bf, 0, none⟩ 7) 1) = some ((w33.drew.cell? (Addr.add (Addr.add ⟨bf, 0, none⟩ 7) 1)).getD undef) ∧ w'.cell? (Addr.add (Addr.add ⟨bf, 0, none⟩ 7) 2) = some ((w33.drew.cell? (Addr.add (Addr.add ⟨bf, 0, none⟩ 7) 2)).getD undef)
            ∧ w'.cell? (Addr.add ⟨p31, 0, none⟩ 1) = some ((w33.drew.cell? (Addr.add ⟨p31, 0, none⟩ 1)).getD undef) ∧ w'.cell? ⟨p31, 0, none⟩ = some ((w33.drew.cell? ⟨p31, 0, none⟩).getD undef) ∧ w'.cell? ⟨bf, 0, none⟩ = some ((w33.drew.cell? ⟨bf, 0, none⟩).getD undef) ∧ w'.cell? (Addr.add ⟨bf, 0, none⟩ 1) = some ((w33.drew.cell? (Addr.add ⟨bf, 0, none⟩ 1)).getD undef) := fun u =>
          ⟨b1.hold u (fun x => x) 7 (by simp [flC]), b1.hold2 u (fun x => x) 7 1 (by simp [flC]), b1.hold2 u (fun x => x) 7 2 (by simp [flC]), m33.hold u (fun x => x) 1 (by simp), m33.hold u (fun x => x) 0 (by simp), b1.hold u (fun x => x) 0 (by simp [flC]), b1.hold u (fun x => x) 1 (by simp [flC])⟩
        have hd := fun {w'} (u : Gro w33.drew w') => hold u
        have n52 : ∀ p, w33.drew.heap.size = p → p ≠ p1 := fun p hp => by have : w33.drew.heap.size = w33.heap.size := rfl; have := q33.lt; omega
        refine ⟨?_, ?_⟩
        · refine elect_Elect_Root.cl E1 ⟨?_, ?_⟩
          · obtain ⟨a1, a2, a3, a4, a5, a6, a7⟩ := hd (Gro.refl _)
            exact ⟨a1, a2, a3, a4, a5, a6, a7, trivial⟩
          · refine alK_by fun p52 w53 e52 k52 u52 => ⟨?_, ?_⟩
            · obtain ⟨a1, a2, a3, a4, a5, a6, a7⟩ := hd u52
              exact ⟨a1, a2, a3, a4, a5, a6, a7, trivial⟩
            · refine k52.sta _ rfl rfl fun w54 k54 u54 => ⟨trivial, ?_⟩
              have g54 : Gro w33.drew w54 := Gro.fresh (Gro.refl _) u52 u54 e52
              exact ⟨gd.trans g54, (Gro.drew _).trans g54, p52, rfl, n52 p52 e52, k54⟩
        · refine alK_by fun p55 w56 e55 k55 u55 => ⟨?_, ?_⟩
          · obtain ⟨a1, a2, a3, a4, a5, a6, a7⟩ := hd u55
            exact ⟨a1, a2, a3, a4, a5, a6, a7, trivial⟩
          · refine elect_Elect_Root.cl (E1.gro u55) ⟨?_, ?_⟩
            · obtain ⟨a1, a2, a3, a4, a5, a6, a7⟩ := hd u55
              exact ⟨a1, a2, a3, a4, a5, a7, trivial⟩
            · refine k55.sta _ rfl rfl fun w59 k59 u59 => ⟨trivial, ?_⟩
              have g59 : Gro w33.drew w59 := Gro.fresh (Gro.refl _) u55 u59 e55
              exact ⟨gd.trans g59, (Gro.drew _).trans g59, p55, rfl, n52 p55 e55, k59⟩
      · rintro ⟨z, _⟩ w36 ⟨g36, f36, p, hz, hp, kp⟩ _
        dsimp only at hz
        subst hz
        rw [drK_eq]
        have kd := kp.drew
        refine kd.cA (cs := KS) (tS (fwS f e l loc)) rfl (kd.cA (cs := KS) (tS (fwS f e l loc)) rfl ?_)
        refine frame_Good_of_frame_Sync.cl (s := fwS f e l loc) fun w64 u64 => ?_
        have hh : ∀ i, i < 6 → w64.cell? (Addr.add ⟨p, 0, none⟩ i) = some ((w36.drew.cell? (Addr.add ⟨p, 0, none⟩ i)).getD undef) := fun i hi => kd.hold u64 (fun x => x) i (by simpa [encs] using hi)
        have k64 := kp.drew.gro u64
        have g64 : Gro w w64 := (g36.trans (Gro.drew _)).trans u64
        have r64 := ((q33.gro f36).gro (Gro.drew _)).gro u64
        refine ⟨⟨hh 0 (by decide), hh 1 (by decide), hh 2 (by decide), hh 3 (by decide), hh 4 (by decide), hh 5 (by decide), hh 0 (by decide), hh 1 (by decide), hh 2 (by decide), hh 3 (by decide), hh 4 (by decide), hh 5 (by decide), trivial⟩, ?_⟩
        refine r64.sta _ rfl rfl fun w65 k65 u65 => ?_
        have g65 : Gro w w65 := Upd.trans g64 u65 fun i hi h => by omega
        have hh : ∀ i, i < 6 → w65.cell? (Addr.add ⟨p, 0, none⟩ i) = some ((w36.drew.cell? (Addr.add ⟨p, 0, none⟩ i)).getD undef) := fun i hi => kd.hold ((Upd.of_gro u64).trans u65 fun _ _ h => h) hp i (by simpa [encs] using hi)
        exact ⟨⟨hh 0 (by decide), hh 1 (by decide), hh 2 (by decide), hh 3 (by decide), hh 4 (by decide), hh 5 (by decide), trivial⟩, k65.cA (cs := KS) (tS (fwS f e l loc)) rfl (h w65 (hF.gro g65) (Nx.of g65))⟩
end Go.Proofs.YtahojpppjpfjmaaGreat
