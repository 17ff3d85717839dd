/- The law NodeWants: a node that hears nobody asks in each own step until it is its own root, and then says its own time. Conditions: none. -/
import Derived.Test.YtnjmfbjgcfnanaaGreatCndQ
namespace Go.Proofs.YtnjmfbjgcfnanaaGreat
open Go Go.Eng
set_option linter.unusedVariables false
set_option linter.unusedSimpArgs false

theorem keepN {w W W' : World} {p : Nat} {cs : List Value} {N : NB} {O O' : Nat → Prop} (g : Gro w W) (k : Blk W p cs) (hp : w.heap.size ≤ p) (hO : ∀ z, NO N O z → p < z) (X : Nx (NO N O) W (NO N O') W') : Gro w W' ∧ Blk W' p cs ∧ ∀ z, NO N O' z → p < z :=
  ⟨Upd.trans g X.u fun i hi hz => by have := hO i hz; omega, k.upd X.u (fun hz => by have := hO p hz; omega), fun z hz => by
    rcases X.sub z hz with h | h
    · exact hO z h
    · have := k.lt; omega⟩
theorem keepR {w W : World} {t : Sl} {xs : List Value} (h : Row w t 1 xs) (g : Gro w W) : Row W t 1 xs := h.gro g
theorem stmp_0 {d : Nd} (h0 : 0 ≤ d.now) (h1 : d.now ≤ 1125899906842624) : stmp d 0 = d.now := by
  unfold stmp clamp
  rw [Int.add_zero]
  repeat' split
  all_goals omega
abbrev vSt (s : NSt) : Value := .agg (stC s).toArray
set_option maxRecDepth 20000 in
set_option maxHeartbeats 2000000 in
theorem law26_NodeWants.cl {s : NSt} {raw : Int} {t : Sl} {xs : List Int} (r0 : 0 ≤ raw) (r1 : raw < 4294967296) {w : World} (hR : Row w t 1 (xs.map (Value.int .i64))) :
    clS Tryz.prog F.law26_NodeWants [vSt s, .int .u32 raw, .slice t.1 t.2.1 t.2.2] w false RBo (Holds w) := by
  refine law26_NodeWants.ok ?_
  unfold law26_NodeWants.wp
  have hlen := hR.ilen
  refine alK_by fun p1 w2 e1 k1 u1 => ?_
  change Blk w2 p1 (stC s) at k1
  refine law26_alive.cl fun w4 u4 => brF rfl (brD (fun c => holds (u1.trans u4) rfl) fun c => ?_)
  have c : ¬ (t.2.1 : Int) > 100 := c
  have hx100 : xs.length ≤ 100 := by omega
  refine (k1.gro u4).cA (cs := KSt) (stT s) rfl (ref26_Good.cl (s := s) fun w7 u7 => brNot (fun _ => holds ((u1.trans u4).trans u7) rfl) fun hg => ?_)
  have hg : goodS s = true := hg
  obtain ⟨m0, m1, gf, gp, l1, l2, j1, j2⟩ := goodS_iff.1 hg
  have gf' := flG_iff.1 gf
  have ge' := elG_iff.1 gf'.1
  have pl := plG_iff.1 gp
  refine ((k1.gro u4).gro u7).cA (cs := KSt) (stT s) rfl (law26_setup.cl (s := s) fun w10 u10 => node_New.cl (s := s) (lp := none) (fun hn => by rw [hg] at hn; cases hn) fun _ O N bf be w12 H12 hO u12 => brF rfl ?_)
  have g12 : Gro w w12 := ((((u1.trans u4).trans u7).trans u10).trans u12)
  have K12 : Blk w12 p1 (stC s) := (((k1.gro u4).gro u7).gro u10).gro u12
  have hp1 : w.heap.size ≤ p1 := Nat.le_of_eq e1
  have hO1 : ∀ z, NO N O z → p1 < z := fun z hz => by
    have := hO z hz
    have := (((k1.gro u4).gro u7).gro u10).lt
    omega
  refine node_Node_On.cl H12 r0 r1 fun w14 O14 H14 X14 => brF rfl ?_
  obtain ⟨g14, K14', hO14⟩ := keepN g12 K12 hp1 hO1 X14
  have D14 : DN s 0 (onD (nd0 s none) raw) := ⟨rfl, rfl, rfl, rfl, rfl, rfl, ⟨rfl, rfl, rfl, rfl, .inl ⟨by omega, rfl, rfl, rfl⟩⟩, rfl, rfl, rfl⟩
  refine LoopT.by (fun z W => ∃ (i : Nat) (b : Int) (d : Nd) (O' : Nat → Prop), z = (b, (i : Int), ()) ∧ i ≤ xs.length ∧ 0 ≤ b ∧ b ≤ i ∧ NW W O' N bf be d ∧ DN s b d ∧ 0 ≤ d.now ∧ d.now ≤ 4294967296 + 1010 * i ∧ Gro w W ∧ Blk W p1 (stC s) ∧ ∀ z, NO N O' z → p1 < z) (fun z => ((xs.length : Int) - z.2.1).toNat) ⟨0, 0, _, O14, rfl, by omega, by omega, by omega, H14, D14, r0, by show raw ≤ _; omega, g14, K14', hO14⟩ ?_
  rintro z W ⟨i, b, d, O', rfl, hi, b0, b1, H, D, n0, n1, g, K, hOd⟩ _
  refine brD (fun c => ?_) fun c => holds g rfl
  have c : (i : Int) < (t.2.1 : Int) := c
  have hi' : i < xs.length := by omega
  have he : xs[i]? = some xs[i] := List.getElem?_eq_getElem hi'
  generalize xs[i] = x at he
  refine Row.ix (hR.gro g) (z := (i : Int)) rfl he ?_
  have hds : d.s = s := D.hs
  have dr : 0 ≤ d.s.drift ∧ d.s.drift ≤ 10 := by rw [hds]; omega
  have nn : 0 ≤ d.now ∧ d.now ≤ 1125899906842624 := ⟨n0, by omega⟩
  refine node_Node_Go.cl H D.on dr nn fun w21 H21 X21 => ?_
  obtain ⟨g21, K21, hO21⟩ := keepN g K hp1 hOd X21
  by_cases hfit : fitT s.drift x = true
  · have hfx := fitT_iff.1 hfit
    have hgo : goT d.s.drift d.now x = 0 := by rw [hds]; unfold goT; rw [if_pos hfit, if_neg (by omega)]
    rw [hgo, if_pos rfl] at H21
    rw [hgo]
    refine brF rfl ?_
    have w1 : IntKind.wrap .i64 ((i : Int) + 1) = ((i + 1 : Nat) : Int) := by rw [w64_in (by unfold I64; omega)]; omega
    have mt : (((xs.length : Int) - ((i + 1 : Nat) : Int)).toNat < ((xs.length : Int) - (i : Int)).toNat) := by omega
    have D21 : DN s b { d with now := d.now + x } := ⟨D.hs, D.on, D.par, D.waits, D.rest, D.f, D.e, D.l, D.es, D.has⟩
    have n21 : 0 ≤ d.now + x ∧ d.now + x ≤ 1125899906842624 := by omega
    have hst : stmp { d with now := d.now + x } 0 = d.now + x := stmp_0 n21.1 n21.2
    refine node_Node_Send.cl (step := (i : Int)) H21 D.on (by show goodS d.s = true; rw [hds]; exact hg) n21 D.waits (by show 0 ≤ d.pr.rest ∧ d.pr.rest ≤ 1000; rw [D.rest]; decide) (by show d.par < 0; rw [D.par]; decide) (fun hm w25 u25 => ?_) fun hm y w25 O25 H25 S25 X25 => ?_
    · -- not its own step
      have hm : miG d.s.rnd d.s.own (i : Int) = false := hm
      rw [hds] at hm
      unfold miG at hm
      rw [decide_eq_true (by omega), Bool.true_and] at hm
      refine brF rfl ?_
      rw [drK_eq]
      have K25 := (K21.gro u25).drew
      refine K25.c1 5 (c := .i .i64) (x := s.rnd) rfl ?_
      rw [nzK_eq (by omega)]
      refine K25.c1 7 (c := .i .i64) (x := s.own) rfl ?_
      dsimp only
      rw [Int.tmod_eq_emod_of_nonneg (by omega)]
      refine brT (by rw [bne, hm]; rfl) (brF rfl ⟨⟨i + 1, b, _, O', ?_, by omega, b0, by omega, (H21.gro u25).drew, D21, n21.1, ?_, (g21.trans u25).trans (Gro.drew _), K25, hO21⟩, ?_⟩)
      · rw [w1]
      · show d.now + x ≤ _; omega
      · show ((xs.length : Int) - IntKind.wrap .i64 ((i : Int) + 1)).toNat < _
        rw [w1]; exact mt
    · -- its own step
      have hm : miG d.s.rnd d.s.own (i : Int) = true := hm
      rw [hds] at hm
      unfold miG at hm
      rw [decide_eq_true (by omega), Bool.true_and] at hm
      obtain ⟨g25, K25, hO25⟩ := keepN g21 K21 hp1 hO21 X25
      rw [hst] at S25 H25
      obtain ⟨D25, bs, hbs, hbt⟩ := D21.step hg b0 (by omega) n21.1 n21.2
      rw [hbs] at S25
      refine brF rfl ?_
      rw [drK_eq]
      have K26 := K25.drew
      have H26 := H25.drew
      have S26 := S25.gro (Gro.drew w25)
      have g26 := g25.trans (Gro.drew w25)
      refine K26.c1 5 (c := .i .i64) (x := s.rnd) rfl ?_
      rw [nzK_eq (by omega)]
      refine K26.c1 7 (c := .i .i64) (x := s.own) rfl ?_
      dsimp only
      rw [Int.tmod_eq_emod_of_nonneg (by omega)]
      refine brF (by rw [bne, hm]; rfl) ?_
      refine K26.c0 (c := .i .i64) (x := s.me) rfl (alK_by fun p30 w31 e30 k30 u31 => k30.sta (encs K14 (3, s.me, 0, 0, 0, 0, 0, 0, 0, 0, 0, 0, 0, 0, ())) rfl rfl fun w32 k32 u32 => ?_)
      have f32 : Gro w25.drew w32 := Gro.fresh (Gro.refl _) u31 u32 e30
      have hme : p30 ≠ p1 := fun e => by have := K26.lt; omega
      have K32 : Blk w32 p1 (stC s) := K26.gro f32
      have H32 := H26.gro f32
      have wb : IntKind.wrap .i64 (b + 1) = b + 1 := w64_in (by unfold I64; omega)
      refine CutT.by (fun _ W' => Gro w25.drew W' ∧ Blk W' p30 (encs K14 (wantOf s (b + 1) (d.now + x)))) ?_ ?_
      · refine K32.c1 1 (c := .i .i64) (x := s.tmo) rfl ?_
        dsimp only
        rw [wb]
        refine brD (fun cb => ?_) fun cb => ?_
        · have cb : b + 1 ≥ s.tmo := cb
          rw [drK_eq]
          have K33 := K32.drew
          refine K33.c0 (c := .i .i64) (x := s.me) rfl (K33.c0 (c := .i .i64) (x := s.me) rfl (K33.c1 1 (c := .i .i64) (x := s.tmo) rfl ?_))
          refine node_Node_Status.cl H32.drew D25.on fun w42 u42 => ⟨⟨K33.hold u42 (fun x => x) 1 (by simp [stC]), K33.hold u42 (fun x => x) 0 (by simp [stC]), K33.hold u42 (fun x => x) 0 (by simp [stC]), trivial⟩, ?_⟩
          dsimp only
          rw [w64_in (n := b + 1 - s.tmo) (by unfold I64; omega), w64_in (n := b + 1 - s.tmo + 1) (by unfold I64; omega), w16_in (n := b + 1 - s.tmo + 1) (by unfold U16; omega)]
          have f42 := (f32.trans (Gro.drew w32)).trans u42
          refine (k32.gro ((Gro.drew w32).trans u42)).sta (encs K14 (1, s.me, 0, s.me, 1, b + 1 - s.tmo + 1, 0, d.now + x, 0, 0, 0, 0, 0, 0, ())) rfl rfl fun w43 k43 u43 => ⟨trivial, ?_, ?_⟩
          · exact Upd.trans f42 u43 fun z hz e => by have : w25.drew.heap.size = p30 := e30; omega
          · unfold wantOf
            rw [if_pos cb]
            exact k43
        · have cb : ¬ b + 1 ≥ s.tmo := cb
          refine ⟨f32, ?_⟩
          unfold wantOf
          rw [if_neg (by omega)]
          exact k32
      · rintro _ W' ⟨f, kw⟩ _
        refine kw.cA (cs := K14) (wantOf s (b + 1) (d.now + x)) rfl (alK_by fun p45 w46 e45 k45 u46 => ?_)
        have f46 := f.trans u46
        refine law26_sent.one (x := wantOf s (b + 1) (d.now + x)) (S26.gro f46) k45 hbt fun w48 u48 => ?_
        have f48 := f46.trans u48
        dsimp only
        rw [wb]
        refine brF rfl ⟨⟨i + 1, b + 1, _, O25, ?_, by omega, by omega, by omega, H26.gro f48, D25, n21.1, ?_, g26.trans f48, K26.gro f48, hO25⟩, ?_⟩
        · rw [w1]
        · show d.now + x ≤ _; omega
        · show ((xs.length : Int) - IntKind.wrap .i64 ((i : Int) + 1)).toNat < _
          rw [w1]; exact mt
  · -- its clock can't go so
    have hgo : goT d.s.drift d.now x = 1 := by rw [hds]; unfold goT; rw [if_neg hfit]
    rw [hgo]
    refine brT rfl (K21.c1 4 (c := .i .i64) (x := s.drift) rfl ?_)
    rw [w64_in (n := 1000 - s.drift) (by unfold I64; omega)]
    refine brD (fun _ => holds g21 rfl) fun c1 => ?_
    have c1 : ¬ x < 1000 - s.drift := c1
    refine K21.c1 4 (c := .i .i64) (x := s.drift) rfl ?_
    rw [w64_in (n := 1000 + s.drift) (by unfold I64; omega)]
    exact holds g21 (decide_eq_true (by
      have hn : ¬ (1000 - s.drift ≤ x ∧ x ≤ 1000 + s.drift) := fun h => hfit (fitT_iff.2 h)
      show x > 1000 + s.drift
      omega))
end Go.Proofs.YtnjmfbjgcfnanaaGreat
/- The law NodeWants at what its row gives. Conditions: none. -/
namespace Go.Proofs.YtnjmfbjgcfnanaaGreat
open Go Go.Eng
set_option linter.unusedVariables false
set_option linter.unusedSimpArgs false

abbrev shS : Shp := .cons 1 (.i .i64) (.cons 1 (.i .i64) (.cons 1 (.i .i64) (.cons 1 (.i .i64) (.cons 1 (.i .i64) (.cons 1 (.i .i64) (.cons 1 (.i .i64) (.cons 1 (.i .i64) (.cons 1 (.i .i64) (.cons 1 (.i .i64) (.cons 1 (.b) (.nil)))))))))))
theorem set_open {w : World} {cs : List Value} (h : Okc w shS cs) : ∃ s : NSt, cs = stC s := by
  obtain ⟨_, _, rfl, _, ⟨a0, rfl, _⟩, _, _, rfl, _, ⟨a1, rfl, _⟩, _, _, rfl, _, ⟨a2, rfl, _⟩, _, _, rfl, _, ⟨a3, rfl, _⟩, _, _, rfl, _, ⟨a4, rfl, _⟩, _, _, rfl, _, ⟨a5, rfl, _⟩, _, _, rfl, _, ⟨a6, rfl, _⟩, _, _, rfl, _, ⟨a7, rfl, _⟩, _, _, rfl, _, ⟨a8, rfl, _⟩, _, _, rfl, _, ⟨a9, rfl, _⟩, _, _, rfl, _, ⟨b, rfl⟩, hn⟩ := h
  have hn : _ = [] := hn
  subst hn
  exact ⟨⟨a0, a1, a2, a3, a4, a5, a6, a7, a8, a9, b⟩, rfl⟩
theorem u32_of {n : Int} (h : (Lit.int .u32 n).wf = true) : 0 ≤ n ∧ n < 4294967296 := by
  have h : ((Lit.int .u32 n).wf = true) := h
  simp [Lit.wf, IntKind.min, IntKind.max, IntKind.signed, IntKind.bits] at h
  omega
theorem ints_eq : ∀ xs : List (Tvs [.i .i64]), xs.flatMap (encs [.i .i64]) = (xs.map (·.1)).map (Value.int .i64)
  | [] => rfl
  | x :: xs => by rw [List.flatMap_cons, List.map_cons, List.map_cons, ints_eq xs]; rfl
theorem ints_of {w : World} {t : Sl} {xs : List (Tvs [.i .i64])} (h : RowsT w t [.i .i64] xs) : Row w t 1 ((xs.map (·.1)).map (Value.int .i64)) := by
  unfold RowsT at h
  rw [ints_eq] at h
  exact h
theorem law26_NodeWants.fin {cs : List Value} {raw : Int} {t : Sl} {xs : List (Tvs [.i .i64])} {w : World} (h : Okc w shS cs) (r : (Lit.int .u32 raw).wf = true) (hS : RowsT w t [.i .i64] xs) : clS Tryz.prog F.law26_NodeWants [.agg cs.toArray, .int .u32 raw, .slice t.1 t.2.1 t.2.2] w false RBo (Holds w) := by
  obtain ⟨s, rfl⟩ := set_open h
  have r := u32_of r
  exact law26_NodeWants.cl r.1 r.2 (ints_of hS)
end Go.Proofs.YtnjmfbjgcfnanaaGreat
