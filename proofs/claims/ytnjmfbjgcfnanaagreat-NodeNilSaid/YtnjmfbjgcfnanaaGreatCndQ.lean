/- What a node sends in a step: the frames' row. Conditions: none. -/
import Derived.Test.YtnjmfbjgcfnanaaGreatCndP
import Derived.Test.YtnjmfbjgcfnanaaGreatCfloK
import Derived.Laws.BytesString
import Derived.Laws.IdiomStrings
namespace Go.Proofs.YtnjmfbjgcfnanaaGreat
open Go Go.Eng
set_option linter.unusedVariables false
set_option linter.unusedSimpArgs false

abbrev slV (v : Sl) : Value := .slice v.1 v.2.1 v.2.2
/-- rows of bytes behind slices, all of them above p and none in the block of s -/
def Bts (w : World) (p : Nat) (s : Sl) : List Sl → List (List Nat) → Prop
  | [], [] => True
  | v :: vs, b :: bs => (RowB w v b ∧ (∀ a, v.1 = some a → p < a.block ∧ a.block < w.heap.size ∧ ∀ a', s.1 = some a' → a.block ≠ a'.block)) ∧ Bts w p s vs bs
  | _, _ => False
theorem Bts.len {w : World} {p : Nat} {s : Sl} : ∀ {vs : List Sl} {bs : List (List Nat)}, Bts w p s vs bs → vs.length = bs.length
  | [], [], _ => rfl
  | _ :: vs, _ :: bs, h => by simp [Bts.len h.2]
  | [], _ :: _, h => h.elim
  | _ :: _, [], h => h.elim
theorem Bts.upd {S : Nat → Prop} {w w' : World} {p : Nat} {s s' : Sl} (u : Upd S w w') (hS : ∀ z, p < z → z < w.heap.size → (∀ a', s.1 = some a' → z ≠ a'.block) → ¬ S z) (hs : ∀ a, s'.1 = some a → (∃ a0, s.1 = some a0 ∧ a.block = a0.block) ∨ w.heap.size ≤ a.block) : ∀ {vs : List Sl} {bs : List (List Nat)}, Bts w p s vs bs → Bts w' p s' vs bs
  | [], [], _ => trivial
  | v :: vs, b :: bs, h => ⟨⟨Row.upd h.1.1 u fun a ha => hS _ (h.1.2 a ha).1 (h.1.2 a ha).2.1 (h.1.2 a ha).2.2, fun a ha => ⟨(h.1.2 a ha).1, Nat.lt_of_lt_of_le (h.1.2 a ha).2.1 u.size, fun a' ha' => by
      rcases hs a' ha' with ⟨a0, h0, e⟩ | e
      · have := (h.1.2 a ha).2.2 a0 h0; omega
      · have := (h.1.2 a ha).2.1; omega⟩⟩, Bts.upd u hS hs h.2⟩
  | [], _ :: _, h => h.elim
  | _ :: _, [], h => h.elim
theorem Bts.snoc {w : World} {p : Nat} {s v : Sl} {b : List Nat} (hv : RowB w v b ∧ (∀ a, v.1 = some a → p < a.block ∧ a.block < w.heap.size ∧ ∀ a', s.1 = some a' → a.block ≠ a'.block)) : ∀ {vs : List Sl} {bs : List (List Nat)}, Bts w p s vs bs → Bts w p s (vs ++ [v]) (bs ++ [b])
  | [], [], _ => ⟨hv, trivial⟩
  | _ :: vs, _ :: bs, h => ⟨h.1, Bts.snoc hv h.2⟩
  | [], _ :: _, h => h.elim
  | _ :: _, [], h => h.elim
theorem Bts.get {w : World} {p : Nat} {s : Sl} : ∀ {vs : List Sl} {bs : List (List Nat)} {i : Nat} {b : List Nat}, Bts w p s vs bs → bs[i]? = some b → ∃ v, vs[i]? = some v ∧ RowB w v b
  | [], [], i, b, _, h => by simp at h
  | v :: vs, _ :: bs, 0, b, h, e => ⟨v, rfl, by simp at e; exact e ▸ h.1.1⟩
  | _ :: vs, _ :: bs, i + 1, b, h, e => by
    have := Bts.get (i := i) (b := b) h.2 (by simpa using e)
    simpa using this
  | [], _ :: _, _, _, h, _ => h.elim
  | _ :: _, [], _, _, h, _ => h.elim
/-- what is sent so far; Q are others' blocks -/
structure OutW (w : World) (Q : Nat → Prop) (p : Nat) (bs : List (List Nat)) : Prop where
  ex : ∃ (s : Sl) (vs : List Sl), Blk w p [slV s] ∧ OwnR w (p + 1) T.sl_uint8 1 s vs.length (vs.map slV) ∧ (∀ a, s.1 = some a → ¬ Q a.block) ∧ Bts w p s vs bs
  nq : ¬ Q p
theorem OutW.new {w : World} {Q : Nat → Prop} {p : Nat} (k : Blk w p [.slice none 0 0]) (h : ¬ Q p) : OutW w Q p [] := ⟨⟨(none, 0, 0), [], k, OwnR.nil _ _ _ _, (fun a ha => by cases ha), trivial⟩, h⟩
theorem OutW.upd {S Q Q' : Nat → Prop} {w w' : World} {p : Nat} {bs : List (List Nat)} (h : OutW w Q p bs) (u : Upd S w w') (hS : ∀ z, p ≤ z → ¬ S z) (hQ : ∀ z, z < w.heap.size → Q' z → Q z) : OutW w' Q' p bs := by
  obtain ⟨⟨s, vs, k, o, d, b⟩, nq⟩ := h
  refine ⟨⟨s, vs, k.upd u (hS p (Nat.le_refl _)), o.upd u fun a ha => hS _ (by have := (o.blk ha).1; omega), fun a ha hq => d a ha (hQ _ (o.blk ha).2.1 hq), ?_⟩, fun hq => nq (hQ _ k.lt hq)⟩
  exact b.upd u (fun z hz _ _ => hS z (by omega)) fun a ha => .inl ⟨a, ha, rfl⟩
theorem OutW.gro {Q : Nat → Prop} {w w' : World} {p : Nat} {bs : List (List Nat)} (h : OutW w Q p bs) (u : Gro w w') : OutW w' Q p bs := h.upd u (fun _ _ x => x) fun _ _ x => x
theorem node_out_add.no {p : Nat} {f : Value} {w : World} {k : TR [] → World → Prop} (hk : k () w) : clS Tryz.prog F.node_out_add [pB p, f, .bool false] w true [] k := by
  refine node_out_add.ok ?_
  unfold node_out_add.wp
  exact brT rfl hk
theorem slV_one (vs : List Sl) : ∀ u ∈ vs.map slV, u.oneCell' = true := by
  intro u hu
  simp only [List.mem_map] at hu
  obtain ⟨x, _, rfl⟩ := hu; rfl
set_option maxRecDepth 20000 in
set_option maxHeartbeats 1000000 in
theorem node_out_add.go {Q : Nat → Prop} {p : Nat} {bs : List (List Nat)} {f : Value} {b : List Nat} {w : World} (hO : OutW w Q p bs) (hQ : ∀ z, Q z → z < w.heap.size) (h3 : bs.length < 3)
    (hE : ∀ {k : TR RSI → World → Prop}, (∀ (y : Sl) w', OwnB w' w.heap.size y b → Gro w w' → k (((y.1, y.2.1, y.2.2), ()), (0, ()), ()) w') → clS Tryz.prog F.frame_Encode [f] w true RSI k)
    {k : TR [] → World → Prop} (hk : ∀ w', OutW w' Q p (bs ++ [b]) → Upd (fun z => ¬ Q z ∧ p ≤ z) w w' → k () w') : clS Tryz.prog F.node_out_add [pB p, f, .bool true] w true [] k := by
  refine node_out_add.ok ?_
  unfold node_out_add.wp
  obtain ⟨⟨s, vs, kp, o, d, bt⟩, nq⟩ := hO
  have hl := o.len
  have hbl := bt.len
  refine brF rfl ?_
  rw [ncK_eq]
  refine kp.c0 (c := .sl) (x := s) rfl (brD (fun c => absurd (show (s.2.1 : Int) ≥ 3 from c) (by omega)) fun _ => ?_)
  refine hE fun y w4 oy u4 => brT rfl ?_
  rw [ncK_eq]
  refine (kp.gro u4).c0 (c := .sl) (x := s) rfl ?_
  refine alK_by fun q w8 e8 k8 u8 => ?_
  have g8 := u4.trans u8
  have lp := kp.lt
  have s8 := g8.size
  have o8 := o.gro g8
  refine ap_own (s := s) (x := (some ⟨q, 0, none⟩, 1, 1)) (base := p + 1) (e := T.sl_uint8) (size := 1) (n := vs.length) (xs := vs.map slV) (news := [slV y]) (by kernel_rfl) (by kernel_rfl) (by decide) o8 (k8.row rfl) (by intro u hu; simp only [List.mem_cons, List.not_mem_nil, or_false] at hu; subst hu; rfl) (by show vs.length + 1 ≤ 1000000000; omega) (by omega) fun y2 w10 o10 u10 hb10 => ?_
  have k10 : Blk w10 p [slV s] := (kp.gro g8).upd u10 fun ⟨a, ha, hb⟩ => by have := (o.blk ha).1; omega
  rw [ncK_eq]
  have dis : ∀ a, y2.1 = some a → a.block ≠ p ∧ ¬ Q a.block := fun a ha => by
    rcases hb10 a ha with ⟨a0, h0, e⟩ | e
    · rw [e]; exact ⟨by have := (o.blk h0).1; omega, d a0 h0⟩
    · exact ⟨by omega, fun hq => by have := hQ _ hq; omega⟩
  have U10 : Upd (fun z => ∃ a, s.1 = some a ∧ a.block = z) w w10 := Upd.trans (Upd.of_gro g8) u10 fun _ _ x => x
  refine k10.sta [slV y2] rfl rfl fun w12 k12 u12 => hk w12 ⟨⟨y2, vs ++ [y], k12, ?_, fun a ha => (dis a ha).2, ?_⟩, nq⟩ ?_
  · have o10 : OwnR w10 (p + 1) T.sl_uint8 1 y2 (vs.length + 1) (vs.map slV ++ [slV y]) := o10
    have o12 := o10.upd u12 fun a ha e => (dis a ha).1 e
    rw [List.length_append, List.map_append]
    exact o12
  · have b10 : Bts w10 p y2 vs bs := bt.upd U10 (fun z hz hzl hne ⟨a, ha, hb⟩ => hne a ha hb.symm) fun a ha => (hb10 a ha).elim .inl fun e => .inr (Nat.le_trans s8 e)
    have b12 : Bts w12 p y2 vs bs := b10.upd u12 (fun z hz _ _ e => by omega) fun a ha => .inl ⟨a, ha, rfl⟩
    have yb : ∀ a, y.1 = some a → w.heap.size ≤ a.block ∧ a.block < w4.heap.size := fun a ha => ⟨(oy.blk ha).1, (oy.blk ha).2.1⟩
    have yn : ∀ a, y.1 = some a → ∀ a', s.1 = some a' → a.block ≠ a'.block := fun a ha a' ha' e => by
      have := (yb a ha).1; have := (o.blk ha').2.1; omega
    refine b12.snoc ⟨?_, fun a ha => ⟨?_, ?_, ?_⟩⟩
    · have r8 : RowB w8 y b := Row.gro oy.row u8
      exact Row.upd (Row.upd r8 u10 fun a ha ⟨a', ha', e⟩ => yn a ha a' ha' e.symm) u12 fun a ha e => by have := (yb a ha).1; omega
    · have := (yb a ha).1; omega
    · have := (yb a ha).2; have := u8.size; have := u10.size; have := u12.size; omega
    · intro a' ha'
      rcases hb10 a' ha' with ⟨a0, h0, e⟩ | e
      · rw [e]; exact yn a ha a0 h0
      · have := (yb a ha).2; have := u8.size; omega
  · refine Upd.trans (U10.mono fun z ⟨a, ha, hb⟩ => ⟨hb ▸ d a ha, by have := (o.blk ha).1; omega⟩) u12 fun z hz e => ⟨e ▸ nq, by omega⟩
theorem node_out_add.bad {Q : Nat → Prop} {p : Nat} {bs : List (List Nat)} {f : Value} {w : World} (hO : OutW w Q p bs) (h3 : bs.length < 3)
    (hE : ∀ {k : TR RSI → World → Prop}, (∀ w', Gro w w' → k (((none, 0, 0), ()), (1, ()), ()) w') → clS Tryz.prog F.frame_Encode [f] w true RSI k)
    {k : TR [] → World → Prop} (hk : ∀ w', Gro w w' → k () w') : clS Tryz.prog F.node_out_add [pB p, f, .bool true] w true [] k := by
  refine node_out_add.ok ?_
  unfold node_out_add.wp
  obtain ⟨⟨s, vs, kp, o, d, bt⟩, nq⟩ := hO
  have hl := o.len
  have hbl := bt.len
  refine brF rfl ?_
  rw [ncK_eq]
  refine kp.c0 (c := .sl) (x := s) rfl (brD (fun c => absurd (show (s.2.1 : Int) ≥ 3 from c) (by omega)) fun _ => ?_)
  exact hE fun w4 u4 => brF rfl (hk w4 u4)
end Go.Proofs.YtnjmfbjgcfnanaaGreat
/- A node's step. Conditions: no answers wait, nobody was asked, no parent is known. -/
namespace Go.Proofs.YtnjmfbjgcfnanaaGreat
open Go Go.Eng
set_option linter.unusedVariables false
set_option linter.unusedSimpArgs false

theorem NW.lt {w : World} {O : Nat → Prop} {N : NB} {bf be : Nat} {d : Nd} (h : NW w O N bf be d) : ∀ z, NO N O z → z < w.heap.size := by
  rintro z (⟨j, hj, rfl⟩ | hz)
  · obtain ⟨r6, f6, a6, a7, _⟩ := h.ge
    obtain ⟨r8, f8, a8, a9, _⟩ := h.je
    have : j = 0 ∨ j = 1 ∨ j = 2 ∨ j = 3 ∨ j = 4 ∨ j = 5 ∨ j = 6 ∨ j = 7 ∨ j = 8 ∨ j = 9 := by omega
    rcases this with rfl | rfl | rfl | rfl | rfl | rfl | rfl | rfl | rfl | rfl
    · exact h.nb.lt
    · exact h.cb.lt
    · exact h.lb.lt
    · exact h.pb.lt
    · exact h.sb.lt
    · exact h.gb.lt
    · exact a6.lt
    · exact a7.lt
    · exact a8.lt
    · exact a9.lt
  · exact h.fw.lt z hz
/-- frames' bytes behind a slice of slices -/
def SntR (w : World) (y : Sl) (bs : List (List Nat)) : Prop := ∃ vs : List Sl, Row w y 1 (vs.map slV) ∧ vs.length = bs.length ∧ ∀ (i : Nat) (b : List Nat), bs[i]? = some b → ∃ v, vs[i]? = some v ∧ RowB w v b
theorem SntR.gro {w w' : World} {y : Sl} {bs : List (List Nat)} (h : SntR w y bs) (u : Gro w w') : SntR w' y bs := by
  obtain ⟨vs, r, l, g⟩ := h
  exact ⟨vs, r.gro u, l, fun i b hb => by obtain ⟨v, hv, hr⟩ := g i b hb; exact ⟨v, hv, Row.gro hr u⟩⟩
theorem OutW.snt {w : World} {Q : Nat → Prop} {p : Nat} {bs : List (List Nat)} (h : OutW w Q p bs) {k : Sl → Prop} (hk : ∀ y, SntR w y bs → k y) : ld1 .sl ⟨p, 0, none⟩ w k := by
  obtain ⟨⟨s, vs, kp, o, d, b⟩, nq⟩ := h
  exact kp.c0 (c := .sl) (x := s) rfl (hk s ⟨vs, o.row, b.len, fun i b' hb => b.get hb⟩)
theorem OutW.len {w : World} {Q : Nat → Prop} {p : Nat} {bs : List (List Nat)} (h : OutW w Q p bs) {k : Sl → Prop} (hk : ∀ y : Sl, y.2.1 = bs.length → k y) : ld1 .sl ⟨p, 0, none⟩ w k := by
  obtain ⟨⟨s, vs, kp, o, d, b⟩, nq⟩ := h
  exact kp.c0 (c := .sl) (x := s) rfl (hk s (by rw [o.len, b.len]))
/-- the node behind its step -/
def sndD (d : Nd) (st : Int) : Nd := { d with f := b1f d.f d.e, e := b2e d.e st, es := b1l d.e d.es, so := soBt d.so, pr := { d.pr with rest := max 0 (d.pr.rest - 1) } }
/-- the Sync that it sends -/
def sndS (d : Nd) (st : Int) : S6 × Bool := btF d.f d.e d.l d.es st
def outsS (d : Nd) (st : Int) : List (List Nat) :=
  (if (sndS d st).2 = true then (if okF (flS (sndS d st).1) = true then [frmB 1 (flS (sndS d st).1)] else []) else []) ++
  (if synF (sndD d st).f (sndD d st).e (sndD d st).es.length = true then [] else [frmB 3 (flW d.s.me)])
theorem node_Node_word.want {w : World} {O : Nat → Prop} {N : NB} {bf be : Nat} {d : Nd} {st : Int} (h : NW w O N bf be d) (hp : d.par < 0) {k : TR [(false, [.any]), (false, [.b])] → World → Prop}
    (hk : k ((.iface T.frame_Want (vW d.s.me), ()), (true, ()), ()) w) : clS Tryz.prog F.node_Node_word [pB (N 0), .int .i64 st] w true [(false, [.any]), (false, [.b])] k := by
  refine node_Node_word.ok ?_
  unfold node_Node_word.wp
  rw [ncK_eq]
  refine h.n0 16 (c := .p) (x := some ⟨N 2, 0, none⟩) rfl (level_Level_Parent.cl h.lb (brT (decide_eq_true hp) ?_))
  rw [ncK_eq]
  exact h.nb.c0 (c := .i .i64) (x := d.s.me) rfl hk
theorem flW_ok {me : Int} (h0 : 0 ≤ me) (h1 : me < 64) : okF (flW me) = true := by
  refine okF_take fun e he => ?_
  simp only [flW, List.mem_cons, List.not_mem_nil, or_false] at he
  subst he
  exact inF_iff.2 ⟨h0, by show me ≤ 63; omega⟩
abbrev RSd : List (Bool × List CK) := [(false, [.sl]), (false, [.i .i64])]
set_option maxRecDepth 20000 in
set_option maxHeartbeats 2000000 in
theorem node_Node_Send.cl {w : World} {O : Nat → Prop} {N : NB} {bf be : Nat} {d : Nd} {step : Int} (h : NW w O N bf be d) (hon : d.on = true) (hg : goodS d.s = true) (hn : 0 ≤ d.now ∧ d.now ≤ 1125899906842624) (hw : d.pr.waits = false) (hr : 0 ≤ d.pr.rest ∧ d.pr.rest ≤ 1000) (hp : d.par < 0) {k : TR RSd → World → Prop}
    (h0 : miG d.s.rnd d.s.own step = false → ∀ w', Gro w w' → k (((none, 0, 0), ()), (0, ()), ()) w')
    (h1 : miG d.s.rnd d.s.own step = true → ∀ y w' O', NW w' O' N bf be (sndD d (stmp d 0)) → SntR w' y (outsS d (stmp d 0)) → Nx (NO N O) w (NO N O') w' → k (((y.1, y.2.1, y.2.2), ()), (0, ()), ()) w') :
    clS Tryz.prog F.node_Node_Send [pB (N 0), .int .i64 step, .int .i64 0] w true RSd k := by
  refine node_Node_Send.ok ?_
  unfold node_Node_Send.wp
  obtain ⟨m0, m1, gf, gp, l1, l2, j1, j2⟩ := goodS_iff.1 hg
  refine node_Node_stamp.cl h hon ⟨j1, j2⟩ (by omega) (by omega) hn (brF rfl ?_)
  rw [ncK_eq]
  refine h.nb.cN 5 (cs := K3i) (d.s.rnd, d.s.opn, d.s.own, ()) rfl (duty_Plan_Mine.cl gp fun w6 u6 => brNot (fun c => h0 c w6 u6) fun c => ?_)
  have h1 := h1 c
  refine alK_by fun p w8 e8 k8 u8 => ?_
  have g8 := u6.trans u8
  have H8 := h.gro g8
  have pw : w.heap.size ≤ p := by have := u6.size; omega
  have npO : ¬ NO N O p := fun hz => by have := (h.gro u6).lt p hz; omega
  have X8 : OutW w8 (NO N O) p [] := OutW.new k8 npO
  rw [ncK_eq]
  refine H8.n0 15 (c := .p) (x := some ⟨bf, 0, none⟩) rfl (flood_Flood_Beat.cw H8.fw (loc := stmp d 0) fun w12 O12 F12 x12 => ?_)
  have H12 := H8.setF F12 x12
  have N12 : Nx (NO N O) w (NO N O12) w12 := Nx.pre g8 (NW.nxF (N := N) x12)
  have lt8 := H8.lt
  have X12 : OutW w12 (NO N O12) p [] := X8.upd x12.u (fun z hz hO => by have := (h.gro u6).lt z (.inr hO); omega) fun z hz hq => by
    rcases hq with hq | hq
    · exact .inl hq
    · rcases x12.sub z hq with y | y
      · exact .inr y
      · omega
  refine alK_by fun p13 w14 e14 k14 u14 => k14.sta (encs KS (tS (btF d.f d.e d.l d.es (stmp d 0)).1)) rfl rfl fun w15 k15 u15 => ?_
  have f15 : Gro w12 w15 := Gro.fresh (Gro.refl _) u14 u15 e14
  have H15 := H12.gro f15
  have X15 := X12.gro f15
  rw [ncK_eq]
  refine H15.n0 18 (c := .p) (x := some ⟨N 4, 0, none⟩) rfl (source_Source_Beat.cw H15.sb fun w19 k19 u19 => ?_)
  have H19 := H15.set4 k19 u19
  have N19 : Nx (NO N O) w (NO N O12) w19 := (N12.gro f15).trans (NW.nx (O := O12) 4 (by decide) u19)
  have ge : ∀ i, i < 10 → ∀ z, p ≤ z → ¬ z = N i := fun i hi z hz e => by
    have := (h.gro u6).lt (N i) (.inl ⟨i, hi, rfl⟩); omega
  have X19 := X15.upd (Q' := NO N O12) u19 (ge 4 (by decide)) fun z _ x => x
  have p13n : p13 ≠ N 4 := fun e => by have := H12.lt (N 4) (.inl ⟨4, by decide, rfl⟩); omega
  have q19 := k15.upd u19 p13n
  refine CutT.inl ?_
  rw [ncK_eq]
  refine H19.n0 17 (c := .p) (x := some ⟨N 3, 0, none⟩) rfl (pair_Pair_Beat.quiet H19.pb hw hr fun w26 k26 u26 => brF rfl ?_)
  have H26 := H19.set3 k26 u26
  have N26 : Nx (NO N O) w (NO N O12) w26 := N19.trans (NW.nx (O := O12) 3 (by decide) u26)
  have X26 := X19.upd (Q' := NO N O12) u26 (ge 3 (by decide)) fun z _ x => x
  have p13m : p13 ≠ N 3 := fun e => by have := H12.lt (N 3) (.inl ⟨3, by decide, rfl⟩); omega
  have q26 := q19.upd u26 p13m
  have D26 : NW w26 O12 N bf be (sndD d (stmp d 0)) := H26
  intro _
  refine q26.cA (cs := KS) (tS (btF d.f d.e d.l d.es (stmp d 0)).1) rfl ?_
  -- what is behind the first frame
  have tail : ∀ (w33 : World) (bs : List (List Nat)), NW w33 O12 N bf be (sndD d (stmp d 0)) → OutW w33 (NO N O12) p bs → Nx (NO N O) w (NO N O12) w33 → bs.length < 3 → bs = (if (sndS d (stmp d 0)).2 = true then (if okF (flS (sndS d (stmp d 0)).1) = true then [frmB 1 (flS (sndS d (stmp d 0)).1)] else []) else []) →
      CutT (fun (J34 : Unit → World → Prop) =>
LoopT (fun (self37 : Unit → World → Prop) (z38 : Unit) w39 => ∀ _ : Nat → Value,
ld1 .sl ⟨p, 0, none⟩ w39 fun x40 =>
brB (decide ((x40.2.1 : Int) < 3)) (
ncK (some ⟨N 0, 0, none⟩) fun a41 =>
ld1 .p (a41.add 27) w39 fun x42 =>
clS Tryz.prog F.ring_Ring_node_job_Pop [.pointer x42] w39 true [(false, [.any]), (false, [.b])] fun r43 w44 =>
brB (!r43.2.1.1) (
J34 (()) w44) (
ivK Tryz.prog r43.1.1 "angelus/node.made" [.pointer (some ⟨N 0, 0, none⟩), .int .i64 (stmp d 0)] w44 true [(false, [.any]), (false, [.b])] fun r45 w46 =>
clS Tryz.prog F.node_out_add [.pointer (some ⟨p, 0, none⟩), r45.1.1, .bool r45.2.1.1] w46 true [] fun r47 w48 =>
self37 (()) w48)) (
J34 (()) w39)) (()) w33) (fun (z35 : Unit) w36 => ∀ _ : Nat → Value,
CutT (fun (J49 : ((Bool) × Unit) → World → Prop) =>
ncK (some ⟨N 0, 0, none⟩) fun a52 =>
ld1 .p (a52.add 15) w36 fun x53 =>
clS Tryz.prog F.flood_Flood_Synced [.pointer x53] w36 false [(false, [.b])] fun r54 w55 =>
brB (!r54.1.1) (
ld1 .sl ⟨p, 0, none⟩ w55 fun x56 =>
J49 (decide ((x56.2.1 : Int) < 3), ()) w55) (
J49 (false, ()) w55)) (fun (z50 : (Bool) × Unit) w51 => ∀ _ : Nat → Value,
brB z50.1 (
clS Tryz.prog F.node_Node_word [.pointer (some ⟨N 0, 0, none⟩), .int .i64 (stmp d 0)] w51 true [(false, [.any]), (false, [.b])] fun r57 w58 =>
clS Tryz.prog F.node_out_add [.pointer (some ⟨p, 0, none⟩), r57.1.1, .bool r57.2.1.1] w58 true [] fun r59 w60 =>
ld1 .sl ⟨p, 0, none⟩ w60 fun x61 =>
k (((x61.1, x61.2.1, x61.2.2), ()), (0, ()), ()) w60) (
ld1 .sl ⟨p, 0, none⟩ w51 fun x62 =>
k (((x62.1, x62.2.1, x62.2.2), ()), (0, ()), ()) w51))) := by
    intro w33 bs D X NN hl hbs
    refine CutT.by (fun _ W => W = w33) ?_ ?_
    · refine LoopT.by (fun _ W => W = w33) (fun _ => 0) rfl ?_
      rintro _ W rfl _
      refine X.len fun y hy => brD (fun _ => ?_) fun _ => rfl
      rw [ncK_eq]
      exact D.n0 27 (c := .p) (x := some ⟨N 8, 0, none⟩) rfl (ring_Ring_node_job_Pop.none D.je (brT rfl rfl))
    · rintro _ W rfl _
      refine CutT.inl ?_
      rw [ncK_eq]
      refine D.n0 15 (c := .p) (x := some ⟨bf, 0, none⟩) rfl (flood_Flood_Synced.cw D.fw fun w55 u55 => brNot (fun cs => ?_) fun cs => ?_)
      · have cs : synF (sndD d (stmp d 0)).f (sndD d (stmp d 0)).e (sndD d (stmp d 0)).es.length = false := cs
        have D55 := D.gro u55
        have X55 := X.gro u55
        refine X55.len fun y hy _ => brT (decide_eq_true (by omega)) ?_
        refine node_Node_word.want D55 hp ?_
        refine node_out_add.go (b := frmB 3 (flW d.s.me)) X55 D55.lt hl (fun hE => frame_Encode_of_frame_Want.cl (fun hno => by rw [flW_ok m0 m1] at hno; cases hno) fun _ => hE) fun w60 X60 u60 => ?_
        have D60 := D55.upd u60 fun z hz hS => hS.1 hz
        have N60 : Nx (NO N O) w (NO N O12) w60 := ⟨Upd.trans (NN.gro u55).u u60 fun i hi hS => by have := hS.2; omega, (NN.gro u55).sub⟩
        refine X60.snt fun y hy => h1 y w60 O12 D60 ?_ N60
        unfold outsS
        rw [cs, ← hbs]
        exact hy
      · have cs : synF (sndD d (stmp d 0)).f (sndD d (stmp d 0)).e (sndD d (stmp d 0)).es.length = true := cs
        intro _
        refine brF rfl ((X.gro u55).snt fun y hy => h1 y w55 O12 (D.gro u55) ?_ (NN.gro u55))
        unfold outsS
        rw [cs, ← hbs, if_pos rfl, List.append_nil]
        exact hy
  have fin : ∀ (w33 : World) (bs : List (List Nat)), OutW w33 (NO N O12) p bs → Upd (fun z => ¬ NO N O12 z ∧ p ≤ z) w26 w33 → bs.length < 3 → bs = (if (sndS d (stmp d 0)).2 = true then (if okF (flS (sndS d (stmp d 0)).1) = true then [frmB 1 (flS (sndS d (stmp d 0)).1)] else []) else []) → _ := fun w33 bs X33 u33 hl hbs => tail w33 bs (D26.upd u33 fun z hz hS => hS.1 hz) X33 ⟨Upd.trans N26.u u33 fun i hi hS => by have := hS.2; omega, N26.sub⟩ hl hbs
  cases hs2 : (btF d.f d.e d.l d.es (stmp d 0)).2
  · refine node_out_add.no ?_
    refine fin w26 [] X26 (Upd.refl _ _) (by decide) ?_
    unfold sndS; rw [hs2]; rfl
  · by_cases hok : okF (flS (btF d.f d.e d.l d.es (stmp d 0)).1) = true
    · refine node_out_add.go (b := frmB 1 (flS (btF d.f d.e d.l d.es (stmp d 0)).1)) X26 D26.lt (by decide) (fun hE => frame_Encode_of_frame_Sync.cl (s := (btF d.f d.e d.l d.es (stmp d 0)).1) (fun hno => by rw [hok] at hno; cases hno) fun _ => hE) fun w33 X33 u33 => ?_
      refine fin w33 _ X33 u33 (by simp) ?_
      unfold sndS; rw [hs2, if_pos rfl, if_pos hok]; rfl
    · have hno : okF (flS (btF d.f d.e d.l d.es (stmp d 0)).1) = false := by simpa using hok
      refine node_out_add.bad X26 (by decide) (fun hE => frame_Encode_of_frame_Sync.cl (s := (btF d.f d.e d.l d.es (stmp d 0)).1) (fun _ => hE) fun hy => by rw [hno] at hy; cases hy) fun w33 u33 => ?_
      refine fin w33 [] (X26.gro u33) (Upd.of_gro u33) (by decide) ?_
      unfold sndS; rw [hs2, if_pos rfl, hno]; rfl
end Go.Proofs.YtnjmfbjgcfnanaaGreat
/- What a node tells of itself; what was sent; setups. Conditions: no answers wait, no events are kept. -/
namespace Go.Proofs.YtnjmfbjgcfnanaaGreat
open Go Go.Eng
set_option linter.unusedVariables false
set_option linter.unusedSimpArgs false

def baN (xs : List Nat) : ByteArray := ⟨(xs.map UInt8.ofNat).toArray⟩
theorem bsN_by {P : Program} {w : World} {s : Sl} {xs : List Nat} (hR : RowB w s xs) (hx : Byt xs) (hne : xs ≠ []) {k : ByteArray → World → Prop} (hk : k (baN xs) w) : bsK P (slV s) w k := by
  have hl0 : 0 < xs.length := by cases xs; exact absurd rfl hne; simp
  obtain ⟨a, ha⟩ := hR.addr (by simpa using hl0)
  have hn := hR.len'
  obtain ⟨sa, n, c⟩ := s
  simp only at ha hn
  subst ha hn
  have hl := run_loadCells_list (P := P) (w := w) a (((xs.map UInt8.ofNat).map (fun b => (b.toNat : Int))).map (Value.int .u8)) (fun j v hj => by
    rw [List.getElem?_map, List.getElem?_map, List.getElem?_map] at hj
    cases hc : xs[j]? with
    | none => rw [hc] at hj; cases hj
    | some x =>
      rw [hc] at hj
      simp only [Option.map_some, Option.some.injEq] at hj
      rw [hR.ld rfl (u8s_get hc), ← hj]
      have := hx x (List.mem_of_getElem? hc)
      have e : (UInt8.ofNat x).toNat = x := by simp; omega
      rw [e])
  simp only [List.length_map] at hl
  unfold bsK
  rw [run_bytesToString w a xs.length c _ hl, foldl_push_byteCells]
  have e : (⟨ByteArray.empty.data ++ (xs.map UInt8.ofNat).toArray⟩ : ByteArray) = baN xs := by simp [baN]
  rw [e]; exact hk
theorem frmB_ne (kd : Nat) (fs : List E3) : frmB kd fs ≠ [] := by simp [frmB, sealB]
theorem frmB_byt {kd : Nat} (h : kd < 256) (fs : List E3) : Byt (frmB kd fs) := by
  intro x hx
  unfold frmB sealB at hx
  have hc := crcL_lt (s := 65535) (by decide) (kd :: fldB fs)
  rcases List.mem_append.1 hx with hx | hx
  · rcases List.mem_cons.1 hx with rfl | hx
    · exact h
    · exact fldB_byt fs x hx
  · simp only [List.mem_cons, List.not_mem_nil, or_false] at hx
    rcases hx with rfl | rfl <;> omega
/-- a frame in the document's form has these bytes -/
def BtsOf (x : P14) (b : List Nat) : Prop := Byt b ∧ b ≠ [] ∧ ∀ {w : World} {k : TR RSL → World → Prop}, (∀ (s : Sl) w', OwnB w' w.heap.size s b → Gro w w' → k (((s.1, s.2.1, s.2.2), ()), ()) w') → clS Tryz.prog F.ref05_Bytes [vP x] w false RSL k
set_option maxRecDepth 20000 in
theorem law26_sent.one {y : Sl} {b : List Nat} {x : P14} {q c : Nat} {w : World} (hS : SntR w y [b]) (hx : Blk w q (encs K14 x)) (hb : BtsOf x b) {k : TR RBo → World → Prop} (hk : ∀ w', Gro w w' → k ((true, ()), ()) w') :
    clS Tryz.prog F.law26_sent [slV y, .slice (some ⟨q, 0, none⟩) 1 c] w false RBo k := by
  refine law26_sent.ok (b := y) (list := (some ⟨q, 0, none⟩, 1, c)) ?_
  unfold law26_sent.wp
  obtain ⟨h1, h2, h3⟩ := hb
  have hl : y.2.1 = 1 := by
    obtain ⟨vs, r, l, _⟩ := hS
    have := r.clen
    rw [List.length_map, l] at this
    exact this
  refine brN (fun c1 => absurd (show (y.2.1 : Int) ≠ 1 from c1) (by omega)) fun _ => ?_
  refine LoopT.by (fun z W => Gro w W ∧ (z = ((0 : Int), ()) ∨ z = ((1 : Int), ()))) (fun z => (1 - z.1).toNat) ⟨Gro.refl _, .inl rfl⟩ ?_
  rintro z W ⟨g, hz⟩ _
  rcases hz with rfl | rfl
  · refine brT (decide_eq_true (by show (0 : Int) < (y.2.1 : Int); omega)) ?_
    rw [drK_eq]
    have g1 := g.trans (Gro.drew W)
    obtain ⟨vs, r, l, gg⟩ := hS.gro g1
    obtain ⟨v, hv, hr⟩ := gg 0 b rfl
    have X := hx.gro g1
    have fin : ∀ {w' : World} {A : ByteArray}, Gro W.drew w' → brB (!(A == A)) (k ((false, ()), ()) w') (((Gro w w' ∧ ((IntKind.wrap .i64 ((0 : Int) + 1), ()) = ((0 : Int), ()) ∨ (IntKind.wrap .i64 ((0 : Int) + 1), ()) = ((1 : Int), ()))) ∧ (1 - IntKind.wrap .i64 ((0 : Int) + 1)).toNat < (1 - (0 : Int)).toNat)) := fun {w' A} g' => by
      have e : (!(A == A)) = false := by rw [(ba_beq_iff A A).2 rfl]; rfl
      rw [e]
      refine brF rfl ⟨⟨g1.trans g', .inr ?_⟩, ?_⟩
      · rw [w64_in (by unfold I64; omega)]; rfl
      · rw [w64_in (by unfold I64; omega)]; decide
    have hld : (vs.map slV)[0]? = some (slV v) := by rw [List.getElem?_map, hv]; rfl
    obtain ⟨a, ha⟩ := r.addr (by rw [List.length_map, l]; exact Nat.zero_lt_one)
    have hc : W.drew.cell? (a.add 0) = some (slV v) := r.ld ha hld
    have hq : ∀ {w' : World}, Gro W.drew w' → ∀ j, j < 14 → w'.cell? (Addr.add ⟨q, 0, none⟩ j) = some ((W.drew.cell? (Addr.add ⟨q, 0, none⟩ j)).getD undef) := fun u j hj => X.hold u (fun x => x) j (by rw [encs_length]; exact hj)
    have hy : ∀ {w' : World}, Gro W.drew w' → w'.cell? (a.add 0) = some ((W.drew.cell? (a.add 0)).getD undef) := fun u => by rw [cell_gro hc u, hc]; rfl
    show ixK y.1 y.2.1 0 _
    rw [ha, ixK_eq (by omega)]
    refine ld1_cell (c := .sl) (x := v) hc rfl ?_
    show ixK (some ⟨q, 0, none⟩) 1 0 _
    rw [ixK_eq (by decide)]
    refine X.cA (cs := K14) x rfl ?_
    have HH : ∀ {w' : World}, Gro W.drew w' → Hold [(8, Addr.add ⟨q, 0, none⟩ 0, (W.drew.cell? (Addr.add ⟨q, 0, none⟩ 0)).getD undef), (8, Addr.add ⟨q, 0, none⟩ 1, (W.drew.cell? (Addr.add ⟨q, 0, none⟩ 1)).getD undef), (8, Addr.add ⟨q, 0, none⟩ 2, (W.drew.cell? (Addr.add ⟨q, 0, none⟩ 2)).getD undef), (8, Addr.add ⟨q, 0, none⟩ 3, (W.drew.cell? (Addr.add ⟨q, 0, none⟩ 3)).getD undef), (8, Addr.add ⟨q, 0, none⟩ 4, (W.drew.cell? (Addr.add ⟨q, 0, none⟩ 4)).getD undef), (8, Addr.add ⟨q, 0, none⟩ 5, (W.drew.cell? (Addr.add ⟨q, 0, none⟩ 5)).getD undef), (8, Addr.add ⟨q, 0, none⟩ 6, (W.drew.cell? (Addr.add ⟨q, 0, none⟩ 6)).getD undef), (8, Addr.add ⟨q, 0, none⟩ 7, (W.drew.cell? (Addr.add ⟨q, 0, none⟩ 7)).getD undef), (8, Addr.add ⟨q, 0, none⟩ 8, (W.drew.cell? (Addr.add ⟨q, 0, none⟩ 8)).getD undef), (8, Addr.add ⟨q, 0, none⟩ 9, (W.drew.cell? (Addr.add ⟨q, 0, none⟩ 9)).getD undef), (8, Addr.add ⟨q, 0, none⟩ 10, (W.drew.cell? (Addr.add ⟨q, 0, none⟩ 10)).getD undef), (8, Addr.add ⟨q, 0, none⟩ 11, (W.drew.cell? (Addr.add ⟨q, 0, none⟩ 11)).getD undef), (8, Addr.add ⟨q, 0, none⟩ 12, (W.drew.cell? (Addr.add ⟨q, 0, none⟩ 12)).getD undef), (8, Addr.add ⟨q, 0, none⟩ 13, (W.drew.cell? (Addr.add ⟨q, 0, none⟩ 13)).getD undef), (3, a.add 0, (W.drew.cell? (a.add 0)).getD undef)] w' := fun g' => ⟨hq g' 0 (by decide), hq g' 1 (by decide), hq g' 2 (by decide), hq g' 3 (by decide), hq g' 4 (by decide), hq g' 5 (by decide), hq g' 6 (by decide), hq g' 7 (by decide), hq g' 8 (by decide), hq g' 9 (by decide), hq g' 10 (by decide), hq g' 11 (by decide), hq g' 12 (by decide), hq g' 13 (by decide), hy g', trivial⟩
    have H14 : ∀ {w' : World}, Gro W.drew w' → Hold [(8, Addr.add ⟨q, 0, none⟩ 0, (W.drew.cell? (Addr.add ⟨q, 0, none⟩ 0)).getD undef), (8, Addr.add ⟨q, 0, none⟩ 1, (W.drew.cell? (Addr.add ⟨q, 0, none⟩ 1)).getD undef), (8, Addr.add ⟨q, 0, none⟩ 2, (W.drew.cell? (Addr.add ⟨q, 0, none⟩ 2)).getD undef), (8, Addr.add ⟨q, 0, none⟩ 3, (W.drew.cell? (Addr.add ⟨q, 0, none⟩ 3)).getD undef), (8, Addr.add ⟨q, 0, none⟩ 4, (W.drew.cell? (Addr.add ⟨q, 0, none⟩ 4)).getD undef), (8, Addr.add ⟨q, 0, none⟩ 5, (W.drew.cell? (Addr.add ⟨q, 0, none⟩ 5)).getD undef), (8, Addr.add ⟨q, 0, none⟩ 6, (W.drew.cell? (Addr.add ⟨q, 0, none⟩ 6)).getD undef), (8, Addr.add ⟨q, 0, none⟩ 7, (W.drew.cell? (Addr.add ⟨q, 0, none⟩ 7)).getD undef), (8, Addr.add ⟨q, 0, none⟩ 8, (W.drew.cell? (Addr.add ⟨q, 0, none⟩ 8)).getD undef), (8, Addr.add ⟨q, 0, none⟩ 9, (W.drew.cell? (Addr.add ⟨q, 0, none⟩ 9)).getD undef), (8, Addr.add ⟨q, 0, none⟩ 10, (W.drew.cell? (Addr.add ⟨q, 0, none⟩ 10)).getD undef), (8, Addr.add ⟨q, 0, none⟩ 11, (W.drew.cell? (Addr.add ⟨q, 0, none⟩ 11)).getD undef), (8, Addr.add ⟨q, 0, none⟩ 12, (W.drew.cell? (Addr.add ⟨q, 0, none⟩ 12)).getD undef), (8, Addr.add ⟨q, 0, none⟩ 13, (W.drew.cell? (Addr.add ⟨q, 0, none⟩ 13)).getD undef)] w' := fun g' => ⟨hq g' 0 (by decide), hq g' 1 (by decide), hq g' 2 (by decide), hq g' 3 (by decide), hq g' 4 (by decide), hq g' 5 (by decide), hq g' 6 (by decide), hq g' 7 (by decide), hq g' 8 (by decide), hq g' 9 (by decide), hq g' 10 (by decide), hq g' 11 (by decide), hq g' 12 (by decide), hq g' 13 (by decide), trivial⟩
    have G0 := Gro.refl W.drew
    refine ⟨bsN_by hr h1 h2 ⟨(by first | exact HH G0 | exact H14 G0), h3 fun s w12 o12 u12 => ⟨(by first | exact HH u12 | exact H14 u12), bsN_by o12.row h1 h2 ⟨(by first | exact HH u12 | exact H14 u12), fin u12⟩⟩⟩, h3 fun s w16 o16 u16 => ⟨(by first | exact HH u16 | exact H14 u16), bsN_by (Row.gro hr u16) h1 h2 ⟨(by first | exact HH u16 | exact H14 u16), bsN_by o16.row h1 h2 ⟨(by first | exact HH u16 | exact H14 u16), fin u16⟩⟩, bsN_by o16.row h1 h2 ⟨(by first | exact HH u16 | exact H14 u16), bsN_by (Row.gro hr u16) h1 h2 ⟨(by first | exact HH u16 | exact H14 u16), fin u16⟩⟩⟩⟩
  · exact brF (decide_eq_false (by show ¬ (1 : Int) < (y.2.1 : Int); omega)) (hk W g)
/-- a node's status -/
abbrev KSs : List CK := [.b, .i .u16, .i .i64, .i .i64, .b, .b, .i .i64, .i .i64, .i .i64, .b, .i .i64, .i .i64]
def stsD (d : Nd) : Tvs KSs := (true, d.boot, d.now, d.e.root, mine d.e, synF d.f d.e d.es.length, (d.es.length : Int), d.lev, d.par, d.pr.waits, 0, 0, ())
set_option maxRecDepth 20000 in
theorem node_Node_Status.cl {w : World} {O : Nat → Prop} {N : NB} {bf be : Nat} {d : Nd} (h : NW w O N bf be d) (hon : d.on = true) {k : TR [(true, KSs)] → World → Prop} (hk : ∀ w', Gro w w' → k (stsD d, ()) w') : clS Tryz.prog F.node_Node_Status [pB (N 0)] w false [(true, KSs)] k := by
  refine node_Node_Status.ok ?_
  unfold node_Node_Status.wp
  refine alK_by fun p1 w2 e1 k1 u1 => brF rfl ?_
  rw [ncK_eq]
  have H2 := h.gro u1
  refine H2.n0 12 (c := .b) (x := d.on) rfl (brF (by rw [hon]; rfl) ?_)
  rw [drK_eq]
  have H := H2.drew
  have hl : (ndC N bf d).length = 28 := rfl
  have hold : ∀ {w' : World}, Gro w2.drew w' → ∀ j, j < 28 → w'.cell? (Addr.add ⟨N 0, 0, none⟩ j) = some ((w2.drew.cell? (Addr.add ⟨N 0, 0, none⟩ j)).getD undef) := fun u j hj => H.nb.hold u (fun x => x) j (by omega)
  have hf : ∀ {w' : World}, Gro w2.drew w' → w'.cell? ⟨bf, 0, none⟩ = some ((w2.drew.cell? ⟨bf, 0, none⟩).getD undef) := fun u => H.fw.hold0 u fun x => x
  rw [ncK_eq]
  refine H.n0 13 (c := .i .u16) (x := d.boot) rfl ?_
  rw [ncK_eq]
  refine H.n0 14 (c := .p) (x := some ⟨N 1, 0, none⟩) rfl ?_
  rw [ncK_eq]
  refine H.n0 15 (c := .p) (x := some ⟨bf, 0, none⟩) rfl ?_
  rw [ncK_eq]
  refine H.fw.elect ?_
  rw [ncK_eq]
  refine H.n0 15 (c := .p) (x := some ⟨bf, 0, none⟩) rfl ?_
  rw [ncK_eq]
  refine H.fw.elect ?_
  rw [ncK_eq]
  refine H.n0 15 (c := .p) (x := some ⟨bf, 0, none⟩) rfl ?_
  rw [ncK_eq]
  refine H.n0 15 (c := .p) (x := some ⟨bf, 0, none⟩) rfl ?_
  rw [ncK_eq]
  refine H.n0 16 (c := .p) (x := some ⟨N 2, 0, none⟩) rfl ?_
  rw [ncK_eq]
  refine H.n0 16 (c := .p) (x := some ⟨N 2, 0, none⟩) rfl ?_
  rw [ncK_eq]
  refine H.n0 17 (c := .p) (x := some ⟨N 3, 0, none⟩) rfl ?_
  rw [ncK_eq]
  refine H.n0 27 (c := .p) (x := some ⟨N 8, 0, none⟩) rfl ?_
  rw [ncK_eq]
  refine H.n0 26 (c := .p) (x := some ⟨N 5, 0, none⟩) rfl ?_
  have g0 := Gro.refl w2.drew
  refine tick_Clock_Now.cl H.cb ⟨⟨hold g0 26 (by decide), hold g0 27 (by decide), hold g0 17 (by decide), hold g0 16 (by decide), hold g0 16 (by decide), hold g0 15 (by decide), hold g0 15 (by decide), hf g0, hold g0 15 (by decide), hf g0, hold g0 15 (by decide), hold g0 14 (by decide), hold g0 13 (by decide), trivial⟩, ?_⟩
  refine elect_Elect_Root.cw H.fw ⟨⟨hold g0 26 (by decide), hold g0 27 (by decide), hold g0 17 (by decide), hold g0 16 (by decide), hold g0 16 (by decide), hold g0 15 (by decide), hold g0 15 (by decide), hf g0, hold g0 15 (by decide), hf g0, hold g0 15 (by decide), hold g0 14 (by decide), hold g0 13 (by decide), trivial⟩, ?_⟩
  refine elect_Elect_Mine.cw H.fw fun w43 u43 => ⟨⟨hold u43 26 (by decide), hold u43 27 (by decide), hold u43 17 (by decide), hold u43 16 (by decide), hold u43 16 (by decide), hold u43 15 (by decide), hold u43 15 (by decide), hf u43, hold u43 15 (by decide), hf u43, hold u43 15 (by decide), hold u43 14 (by decide), hold u43 13 (by decide), trivial⟩, ?_⟩
  refine flood_Flood_Synced.cw (H.gro u43).fw fun w45 v45 => ?_
  have u45 := u43.trans v45
  refine ⟨⟨hold u45 26 (by decide), hold u45 27 (by decide), hold u45 17 (by decide), hold u45 16 (by decide), hold u45 16 (by decide), hold u45 15 (by decide), hold u45 15 (by decide), hf u45, hold u45 15 (by decide), hf u45, hold u45 15 (by decide), hold u45 14 (by decide), hold u45 13 (by decide), trivial⟩, ?_⟩
  have H45 := H.gro u45
  refine flood_Flood_Entries.cw H45.fw ⟨⟨hold u45 26 (by decide), hold u45 27 (by decide), hold u45 17 (by decide), hold u45 16 (by decide), hold u45 16 (by decide), hold u45 15 (by decide), hold u45 15 (by decide), hf u45, hold u45 15 (by decide), hf u45, hold u45 15 (by decide), hold u45 14 (by decide), hold u45 13 (by decide), trivial⟩, ?_⟩
  refine level_Level_Level.cl H45.lb ⟨⟨hold u45 26 (by decide), hold u45 27 (by decide), hold u45 17 (by decide), hold u45 16 (by decide), hold u45 16 (by decide), hold u45 15 (by decide), hold u45 15 (by decide), hf u45, hold u45 15 (by decide), hf u45, hold u45 15 (by decide), hold u45 14 (by decide), hold u45 13 (by decide), trivial⟩, ?_⟩
  refine level_Level_Parent.cl H45.lb ⟨⟨hold u45 26 (by decide), hold u45 27 (by decide), hold u45 17 (by decide), hold u45 16 (by decide), hold u45 16 (by decide), hold u45 15 (by decide), hold u45 15 (by decide), hf u45, hold u45 15 (by decide), hf u45, hold u45 15 (by decide), hold u45 14 (by decide), hold u45 13 (by decide), trivial⟩, ?_⟩
  refine pair_Pair_Waits.cl H45.pb ⟨⟨hold u45 26 (by decide), hold u45 27 (by decide), hold u45 17 (by decide), hold u45 16 (by decide), hold u45 16 (by decide), hold u45 15 (by decide), hold u45 15 (by decide), hf u45, hold u45 15 (by decide), hf u45, hold u45 15 (by decide), hold u45 14 (by decide), hold u45 13 (by decide), trivial⟩, ?_⟩
  refine ring_Ring_node_job_Len.cl H45.je ⟨⟨hold u45 26 (by decide), hold u45 27 (by decide), hold u45 17 (by decide), hold u45 16 (by decide), hold u45 16 (by decide), hold u45 15 (by decide), hold u45 15 (by decide), hf u45, hold u45 15 (by decide), hf u45, hold u45 15 (by decide), hold u45 14 (by decide), hold u45 13 (by decide), trivial⟩, ?_⟩
  refine event_Log_Len.cl H45.ge H45.gb ⟨⟨hold u45 27 (by decide), hold u45 17 (by decide), hold u45 16 (by decide), hold u45 16 (by decide), hold u45 15 (by decide), hold u45 15 (by decide), hf u45, hold u45 15 (by decide), hf u45, hold u45 15 (by decide), hold u45 14 (by decide), hold u45 13 (by decide), trivial⟩, ?_⟩
  refine (k1.drew.gro u45).sta (encs KSs (stsD d)) rfl rfl fun w58 k58 u58 => ⟨trivial, ?_⟩
  exact k58.cA (cs := KSs) (stsD d) rfl (hk w58 (Gro.fresh (Gro.refl _) (u1.trans ((Gro.drew _).trans u45)) u58 e1))
/-! ### setups -/
theorem law26_setup.cl {s : NSt} {w : World} {k : TR [(true, KSt)] → World → Prop} (hk : ∀ w', Gro w w' → k (stT s, ()) w') : clS Tryz.prog F.law26_setup [.agg (stC s).toArray] w false [(true, KSt)] k := by
  refine law26_setup.ok ?_
  unfold law26_setup.wp
  refine alK_by fun p1 w2 e1 k1 u1 => alK_by fun p3 w4 e3 k3 u3 => ?_
  change Blk w2 p1 (stC s) at k1
  have q := k1.gro u3
  refine q.c0 (c := .i .i64) (x := s.me) rfl (q.c1 1 (c := .i .i64) (x := s.tmo) rfl (q.c1 2 (c := .i .i64) (x := s.ign) rfl (q.c1 3 (c := .i .i64) (x := s.need) rfl (q.c1 4 (c := .i .i64) (x := s.drift) rfl (q.c1 5 (c := .i .i64) (x := s.rnd) rfl (q.c1 6 (c := .i .i64) (x := s.opn) rfl (q.c1 7 (c := .i .i64) (x := s.own) rfl (q.c1 8 (c := .i .i64) (x := s.lim) rfl (q.c1 9 (c := .i .i64) (x := s.jit) rfl (q.c1 10 (c := .b) (x := s.gate) rfl ?_))))))))))
  refine k3.sta (stC s) rfl rfl fun w16 k16 u16 => k16.cA (cs := KSt) (stT s) rfl (hk w16 (Gro.fresh u1 u3 u16 e3))
theorem ref11_Good.cl {a b c : Int} {w : World} {k : TR RBo → World → Prop} (h : ∀ w', Gro w w' → k ((plG a b c, ()), ()) w') : clS Tryz.prog F.ref11_Good [.agg #[.int .i64 a, .int .i64 b, .int .i64 c]] w false RBo k := by
  refine ref11_Good.ok ?_
  unfold ref11_Good.wp
  refine alK_by fun p w4 e k4 u4 => ?_
  have no : ¬ (1 ≤ a ∧ a ≤ 64 ∧ 1 ≤ b ∧ b ≤ a ∧ 0 ≤ c ∧ c < a) → k ((false, ()), ()) w4 := fun hn => by have := h w4 u4; rw [plG_no hn] at this; exact this
  refine k4.c0 rfl (brD (fun c1 => k4.c0 rfl (brD (fun c2 => k4.c1 1 rfl (brD (fun c3 => k4.c1 1 rfl (k4.c0 rfl (brD (fun c4 => k4.c1 2 rfl (brD (fun c5 => k4.c1 2 rfl (k4.c0 rfl ?_)) fun n => no fun q => n q.2.2.2.2.1)) fun n => no fun q => n q.2.2.2.1))) fun n => no fun q => n q.2.2.1)) fun n => no fun q => n q.2.1)) fun n => no fun q => n q.1)
  have := h w4 u4
  have e : plG a b c = decide (c < a) := by
    unfold plG
    rw [decide_eq_true (show 1 ≤ a from c1), decide_eq_true (show a ≤ 64 from c2), decide_eq_true (show 1 ≤ b from c3), decide_eq_true (show b ≤ a from c4), decide_eq_true (show 0 ≤ c from c5)]; rfl
  rw [e] at this
  exact this
theorem ref26_Setup_Plan.cl {s : NSt} {w : World} {k : TR [(true, K3i)] → World → Prop} (hk : ∀ w', Gro w w' → k ((s.rnd, s.opn, s.own, ()), ()) w') : clS Tryz.prog F.ref26_Setup_Plan [.agg (stC s).toArray] w false [(true, K3i)] k := by
  refine ref26_Setup_Plan.ok ?_
  unfold ref26_Setup_Plan.wp
  refine alK_by fun p1 w2 e1 k1 u1 => alK_by fun p3 w4 e3 k3 u3 => ?_
  change Blk w2 p1 (stC s) at k1
  have q := k1.gro u3
  refine q.c1 5 (c := .i .i64) (x := s.rnd) rfl (q.c1 6 (c := .i .i64) (x := s.opn) rfl (q.c1 7 (c := .i .i64) (x := s.own) rfl ?_))
  exact k3.sta [_, _, _] rfl rfl fun w8 k8 u8 => k8.ld3 (hk w8 (Gro.fresh u1 u3 u8 e3))
theorem ref26_Good.cl {s : NSt} {w : World} {k : TR RBo → World → Prop} (h : ∀ w', Gro w w' → k ((goodS s, ()), ()) w') : clS Tryz.prog F.ref26_Good [.agg (stC s).toArray] w false RBo k := by
  refine ref26_Good.ok ?_
  unfold ref26_Good.wp
  refine alK_by fun p w2 e2 k2 u2 => ?_
  change Blk w2 p (stC s) at k2
  have no : ∀ w', Gro w w' → ¬ (0 ≤ s.me ∧ s.me < 64 ∧ flG s.tmo s.ign s.need s.drift = true ∧ plG s.rnd s.opn s.own = true ∧ 1 ≤ s.lim ∧ s.lim ≤ s.tmo ∧ 0 ≤ s.jit ∧ s.jit ≤ 20) → k ((false, ()), ()) w' := fun w' g hn => by have := h w' g; rw [goodS_no hn] at this; exact this
  refine k2.c0 (c := .i .i64) (x := s.me) rfl (k2.c1 1 (c := .i .i64) (x := s.tmo) rfl (k2.c1 2 (c := .i .i64) (x := s.ign) rfl (k2.c1 3 (c := .i .i64) (x := s.need) rfl (k2.c1 4 (c := .i .i64) (x := s.drift) rfl (ref16_Good.cl (brC (fun c1 => ?_) fun n => no w2 u2 fun q => ?_))))))
  · have c1 : (decide (0 ≤ s.me) && decide (s.me < 64) && flG s.tmo s.ign s.need s.drift) = true := c1
    simp only [Bool.and_eq_true, decide_eq_true_eq] at c1
    refine k2.cA (cs := KSt) (stT s) rfl (ref26_Setup_Plan.cl (s := s) fun w12 u12 => ref11_Good.cl fun w14 u14 => ?_)
    have g14 := (u2.trans u12).trans u14
    have k14 := k2.gro (u12.trans u14)
    refine brC (fun c4 => ?_) fun n => no w14 g14 fun q => by have n : plG s.rnd s.opn s.own = false := n; rw [n] at q; exact absurd q.2.2.2.1 (by decide)
    refine k14.c1 8 (c := .i .i64) (x := s.lim) rfl (brD (fun c5 => ?_) fun n => no w14 g14 fun q => n q.2.2.2.2.1)
    refine k14.c1 8 (c := .i .i64) (x := s.lim) rfl (k14.c1 1 (c := .i .i64) (x := s.tmo) rfl (brD (fun c6 => ?_) fun n => no w14 g14 fun q => n q.2.2.2.2.2.1))
    refine k14.c1 9 (c := .i .i64) (x := s.jit) rfl (brD (fun c7 => ?_) fun n => no w14 g14 fun q => n q.2.2.2.2.2.2.1)
    refine k14.c1 9 (c := .i .i64) (x := s.jit) rfl ?_
    have := h w14 g14
    have e : goodS s = decide (s.jit ≤ 20) := by
      unfold goodS
      rw [decide_eq_true c1.1.1, decide_eq_true c1.1.2, c1.2, show plG s.rnd s.opn s.own = true from c4, decide_eq_true (show 1 ≤ s.lim from c5), decide_eq_true (show s.lim ≤ s.tmo from c6), decide_eq_true (show 0 ≤ s.jit from c7)]; rfl
    rw [e] at this
    exact this
  · have n : (decide (0 ≤ s.me) && decide (s.me < 64) && flG s.tmo s.ign s.need s.drift) = false := n
    rw [decide_eq_true q.1, decide_eq_true q.2.1, q.2.2.1] at n
    cases n
end Go.Proofs.YtnjmfbjgcfnanaaGreat
/- The law NodeWants: a node that hears nobody asks in each own step until it is its own root, and then says its own time. Conditions: none. -/
namespace Go.Proofs.YtnjmfbjgcfnanaaGreat
open Go Go.Eng
set_option linter.unusedVariables false
set_option linter.unusedSimpArgs false

def s26 : NSt := ⟨0, 1, 0, 1, 0, 4, 4, 0, 1, 0, false⟩
def d26 : Nd := onD (nd0 s26 none) 500
theorem out26 : outsS d26 (stmp d26 0) = [frmB 1 (flS (0, 0, 1, 1, 0, 500))] := by kernel_rfl
theorem tm26 : tmD (sndD d26 (stmp d26 0)) = ((500, 0, 0, 1, 1), 0) := by kernel_rfl
theorem len26 : (frmB 1 (flS (0, 0, 1, 1, 0, 500))).length = 18 ∧ (frmB 1 (flS (0, 0, 1, 1, 0, 500)))[0]? = some 1 := ⟨by kernel_rfl, by kernel_rfl⟩
set_option maxRecDepth 20000 in
theorem law26_alive.cl {w : World} {k : TR RBo → World → Prop} (hk : ∀ w', Gro w w' → k ((true, ()), ()) w') : clS Tryz.prog F.law26_alive [] w false RBo k := by
  refine law26_alive.ok ?_
  unfold law26_alive.wp
  refine law26_setup.cl (s := s26) fun w2 u2 => ?_
  refine node_New.cl (s := s26) (lp := none) (fun hg => absurd hg (by decide)) fun hg O N bf be w4 H4 hO g4 => ?_
  refine node_Node_On.cl H4 (raw := 500) (by decide) (by decide) fun w6 O6 H6 X6 => ?_
  refine node_Node_Send.cl (step := 0) H6 rfl hg (by decide) rfl (by decide) (by decide) (fun hm => absurd hm (by decide)) fun _ y w8 O8 H8 S8 X8 => ?_
  have S8 : SntR w8 y (outsS d26 (stmp d26 0)) := S8
  have H8 : NW w8 O8 N bf be (sndD d26 (stmp d26 0)) := H8
  rw [out26] at S8
  refine node_Node_Time.cl H8 rfl fun w10 u10 => ?_
  rw [tm26]
  refine alK_by fun p11 w12 e11 k11 u12 => k11.sta (encs K5 (tA5 (500, 0, 0, 1, 1))) rfl rfl fun w13 k13 u13 => ?_
  have f13 := Gro.fresh u10 u12 u13 e11
  have XX := ((Nx.pre (u2.trans g4) X6).trans X8).gro f13
  have gw : Gro w w13 := Upd.trans (u2.trans g4) (((X6.trans X8).gro f13).u) fun i hi hz => by have := hO i hz; have := u2.size; omega
  refine brT rfl (brT rfl (brT rfl ?_))
  obtain ⟨vs, r, l, gg⟩ := S8.gro f13
  obtain ⟨v, hv, hr⟩ := gg 0 _ rfl
  have hl : y.2.1 = 1 := by have := r.clen; rw [List.length_map, l] at this; exact this
  refine brT (by show ((y.2.1 : Int) == 1) = true; rw [hl]; rfl) ?_
  have hld : (vs.map slV)[0]? = some (slV v) := by rw [List.getElem?_map, hv]; rfl
  have hvl : v.2.1 = 18 := by rw [hr.len', len26.1]
  refine r.ixc (c := .sl) (z := 0) (x := v) rfl hld rfl ?_
  refine brT (by rw [hvl]; rfl) (r.ixc (c := .sl) (z := 0) (x := v) rfl hld rfl ?_)
  refine hr.ixc (c := .i .u8) (z := 0) (x := (1 : Int)) rfl (u8s_get len26.2) rfl (brT rfl (brT rfl ?_))
  refine k13.c0 (c := .i .i64) (x := (500 : Int)) rfl (brT rfl (k13.c1 4 (c := .i .i64) (x := (1 : Int)) rfl (hk w13 gw)))
/-! ### the plain law: a node that hears nobody -/
def fN (s : NSt) : Fl := ⟨s.me, s.tmo, s.ign, s.need, s.drift, 0, 0, 0⟩
/-- its election behind so many beats -/
def EN (s : NSt) (b : Int) (e : El) : Prop := e.me = s.me ∧ e.tmo = s.tmo ∧ e.ign = s.ign ∧ e.boot = 1 ∧ ((b < s.tmo ∧ e.root = -1 ∧ e.beats = b ∧ e.seq = 0) ∨ (s.tmo ≤ b ∧ e.root = s.me ∧ e.seq = b - s.tmo + 1))
structure DN (s : NSt) (b : Int) (d : Nd) : Prop where
  hs : d.s = s
  on : d.on = true
  par : d.par = -1
  waits : d.pr.waits = false
  rest : d.pr.rest = 0
  f : d.f = fN s
  e : EN s b d.e
  l : d.l = []
  es : d.es = []
  has : d.so.has = false
def wantOf (s : NSt) (b now : Int) : P14 := if s.tmo ≤ b then (1, s.me, 0, s.me, 1, b - s.tmo + 1, 0, now, 0, 0, 0, 0, 0, 0, ()) else (3, s.me, 0, 0, 0, 0, 0, 0, 0, 0, 0, 0, 0, 0, ())
theorem goodS_me {s : NSt} (hg : goodS s = true) : 0 ≤ s.me ∧ s.me < 64 ∧ 1 ≤ s.tmo ∧ s.tmo ≤ 1000 ∧ 0 ≤ s.ign ∧ s.ign ≤ 1000 ∧ 1 ≤ s.need := by
  obtain ⟨m0, m1, gf, gp, l1, l2, j1, j2⟩ := goodS_iff.1 hg
  have gf' := flG_iff.1 gf
  have ge' := elG_iff.1 gf'.1
  omega
theorem flS_ok {me seq st : Int} (m0 : 0 ≤ me) (m1 : me < 64) (q0 : 0 ≤ seq) (q1 : seq ≤ 65535) (t0 : 0 ≤ st) (t1 : st ≤ 1125899906842624) : okF (flS (me, me, 1, seq, 0, st)) = true := by
  refine okF_take fun e he => ?_
  simp only [flS, List.mem_cons, List.not_mem_nil, or_false] at he
  have w1 : IntKind.wrap .i64 seq = seq := w64_in (by unfold I64; omega)
  rcases he with rfl | rfl | rfl | rfl | rfl | rfl <;> refine inF_iff.2 ⟨?_, ?_⟩ <;> dsimp only <;> first | omega | (rw [w1]; omega) | decide
theorem bts_sync {s : NSt} {seq st : Int} (m0 : 0 ≤ s.me) (m1 : s.me < 64) (q0 : 0 ≤ seq) (q1 : seq ≤ 65535) (t0 : 0 ≤ st) (t1 : st ≤ 1125899906842624) : BtsOf (1, s.me, 0, s.me, 1, seq, 0, st, 0, 0, 0, 0, 0, 0, ()) (frmB 1 (flS (s.me, s.me, 1, seq, 0, st))) := by
  have hok := flS_ok m0 m1 q0 q1 t0 t1
  refine ⟨frmB_byt (by decide) _, frmB_ne _ _, fun {w k} h => ?_⟩
  exact ref05_Bytes.cl (x := (1, s.me, 0, s.me, 1, seq, 0, st, 0, 0, 0, 0, 0, 0, ())) (kd := 1) (fs := flS (s.me, s.me, 1, seq, 0, st)) rfl (by decide) (okF_fds hok (by show 6 ≤ 100; decide) (flS_small _)) (fun {w k} h => ref05_Fields.clF1 (x := (1, s.me, 0, s.me, 1, seq, 0, st, 0, 0, 0, 0, 0, 0, ())) rfl h) h
theorem bts_want {s : NSt} (m0 : 0 ≤ s.me) (m1 : s.me < 64) : BtsOf (3, s.me, 0, 0, 0, 0, 0, 0, 0, 0, 0, 0, 0, 0, ()) (frmB 3 (flW s.me)) := by
  refine ⟨frmB_byt (by decide) _, frmB_ne _ _, fun {w k} h => ?_⟩
  exact ref05_Bytes.cl (x := (3, s.me, 0, 0, 0, 0, 0, 0, 0, 0, 0, 0, 0, 0, ())) (kd := 3) (fs := flW s.me) rfl (by decide) (okF_fds (flW_ok m0 m1) (by show 1 ≤ 100; decide) (flW_small _)) (fun {w k} h => ref05_Fields.clF3 (x := (3, s.me, 0, 0, 0, 0, 0, 0, 0, 0, 0, 0, 0, 0, ())) rfl h) h
theorem EN.step {s : NSt} {b : Int} {e : El} (he : EN s b e) (hg : goodS s = true) (h0 : 0 ≤ b) (h1 : b ≤ 1000) {st : Int} (t0 : 0 ≤ st) (t1 : st ≤ 1125899906842624) :
    EN s (b + 1) (b2e e st) ∧ b1f (fN s) e = fN s ∧ b1l e [] = [] ∧ ((b + 1 < s.tmo ∧ btF (fN s) e [] [] st = ((0, 0, 0, 0, 0, 0), false) ∧ synF (fN s) (b2e e st) 0 = false) ∨ (s.tmo ≤ b + 1 ∧ btF (fN s) e [] [] st = ((s.me, s.me, 1, b + 1 - s.tmo + 1, 0, st), true) ∧ synF (fN s) (b2e e st) 0 = true)) := by
  obtain ⟨m0, m1, g1, g2, g3, g4, g5⟩ := goodS_me hg
  have hin : inT st = true := inT_iff.2 ⟨t0, t1⟩
  obtain ⟨em, et, ei, eb, hc⟩ := he
  have hf1 : b1f (fN s) e = fN s := by unfold b1f; split <;> rfl
  have hl1 : b1l e [] = [] := by unfold b1l; split <;> rfl
  have hneed : decide ((((0 : Nat) : Int)) ≥ (fN s).need) = false := decide_eq_false (by show ¬ ((0 : Nat) : Int) ≥ s.need; omega)
  refine (fun h => ⟨h.1, hf1, hl1, h.2⟩ : _ ∧ _ → _) ?_
  unfold btF btW
  rw [hf1, hl1, if_pos hin]
  unfold b2e
  rw [if_pos hin]
  rcases hc with ⟨hb, hr, hbe, hs⟩ | ⟨hb, hr, hs⟩
  · have hm : mine e = false := by unfold mine; rw [hr, em]; exact beq_eq_false_iff_ne.2 (by omega)
    have hw : IntKind.wrap .i64 (e.beats + 1) = b + 1 := by rw [hbe, w64_in (by unfold I64; omega)]
    by_cases hlt : b + 1 < s.tmo
    · have hE : btE e = { e with beats := b + 1 } := by
        unfold btE; rw [hm, hw, et]; simp only [if_pos hlt]; rfl
      have hm2 : mine { e with beats := b + 1 } = false := hm
      rw [hE]
      have hI : isE { e with beats := b + 1 } = { e with beats := b + 1 } := by unfold isE; rw [hm2]; rfl
      have hsy : synF (fN s) { e with beats := b + 1 } 0 = false := by
        unfold synF
        rw [show (({ e with beats := b + 1 } : El).root == ({ e with beats := b + 1 } : El).me) = false from hm2, hneed]; rfl
      rw [hI]
      refine ⟨⟨em, et, ei, eb, .inl ⟨hlt, hr, rfl, hs⟩⟩, .inl ⟨hlt, ?_, hsy⟩⟩
      have W : wdF (fN s) { e with beats := b + 1 } [] [] st = ((0, 0, 0, 0, 0, 0), false) := by
        unfold wdF
        rw [if_neg (by rw [hm2]; decide), if_pos (by rw [List.length_nil]; exact hsy)]
      rw [W]; rfl
    · have hE : btE e = { e with root := e.me, beats := 0, quiet := e.ign } := by
        unfold btE; rw [hm, hw, et]; simp only [if_neg hlt]; rfl
      have hm2 : mine { e with root := e.me, beats := 0, quiet := e.ign } = true := by unfold mine; exact beq_self_eq_true _
      have hs1 : IntKind.wrap .u16 (e.seq + 1) = b + 1 - s.tmo + 1 := by rw [hs, wu16]; omega
      rw [hE]
      have hI : isE { e with root := e.me, beats := 0, quiet := e.ign } = { e with root := e.me, beats := 0, quiet := e.ign, seq := b + 1 - s.tmo + 1 } := by
        unfold isE; rw [if_pos hm2]; rw [← hs1]
      have hM : isM { e with root := e.me, beats := 0, quiet := e.ign } = (e.boot, b + 1 - s.tmo + 1, ()) := by
        unfold isM; rw [if_pos hm2]; rw [← hs1]
      rw [hI]
      refine ⟨⟨em, et, ei, eb, .inr ⟨by omega, em, rfl⟩⟩, .inr ⟨by omega, ?_, ?_⟩⟩
      · have W : wdF (fN s) { e with root := e.me, beats := 0, quiet := e.ign } [] [] st = ((s.me, s.me, 1, b + 1 - s.tmo + 1, 0, st), true) := by
          unfold wdF
          rw [if_pos hm2, hM, eb]; rfl
        rw [W]; rfl
      · unfold synF
        rw [show (e.me == e.me) = true from beq_self_eq_true _]; rfl
  · have hm : mine e = true := by unfold mine; rw [hr, em]; exact beq_self_eq_true _
    obtain ⟨q, hE⟩ : ∃ q, btE e = { e with quiet := q } := by unfold btE; rw [if_pos hm]; exact ⟨_, rfl⟩
    have hm2 : mine { e with quiet := q } = true := hm
    have hs1 : IntKind.wrap .u16 (e.seq + 1) = b + 1 - s.tmo + 1 := by rw [hs, wu16]; omega
    rw [hE]
    have hI : isE { e with quiet := q } = { e with quiet := q, seq := b + 1 - s.tmo + 1 } := by unfold isE; rw [if_pos hm2]; rw [← hs1]
    have hM : isM { e with quiet := q } = (e.boot, b + 1 - s.tmo + 1, ()) := by unfold isM; rw [if_pos hm2]; rw [← hs1]
    rw [hI]
    refine ⟨⟨em, et, ei, eb, .inr ⟨by omega, hr, rfl⟩⟩, .inr ⟨by omega, ?_, ?_⟩⟩
    · have W : wdF (fN s) { e with quiet := q } [] [] st = ((s.me, s.me, 1, b + 1 - s.tmo + 1, 0, st), true) := by
        unfold wdF
        rw [if_pos hm2, hM, eb]; rfl
      rw [W]; rfl
    · unfold synF
      rw [show (e.root == e.me) = true from hm]; rfl
theorem DN.step {s : NSt} {b : Int} {d : Nd} (h : DN s b d) (hg : goodS s = true) (h0 : 0 ≤ b) (h1 : b ≤ 1000) {st : Int} (t0 : 0 ≤ st) (t1 : st ≤ 1125899906842624) :
    DN s (b + 1) (sndD d st) ∧ ∃ bs, outsS d st = [bs] ∧ BtsOf (wantOf s (b + 1) st) bs := by
  obtain ⟨m0, m1, g1, g2, g3, g4, g5⟩ := goodS_me hg
  obtain ⟨hs, hon, hpar, hw, hr, hf, he, hl, hes, hso⟩ := h
  obtain ⟨e1, e2, e3, e4⟩ := he.step hg h0 h1 t0 t1
  have hso' : soBt d.so = d.so := by unfold soBt; rw [if_pos hso]
  have k1 : (sndD d st).f = fN s := by show b1f d.f d.e = _; rw [hf, e2]
  have k2 : (sndD d st).es = [] := by show b1l d.e d.es = _; rw [hes, e3]
  refine ⟨⟨hs, hon, hpar, hw, ?_, k1, e1, hl, k2, ?_⟩, ?_⟩
  · show max 0 (d.pr.rest - 1) = 0
    rw [hr]; omega
  · show (soBt d.so).has = false
    rw [hso']; exact hso
  · have hsS : sndS d st = btF (fN s) d.e [] [] st := by unfold sndS; rw [hf, hl, hes]
    have hsy : synF (sndD d st).f (sndD d st).e (sndD d st).es.length = synF (fN s) (b2e d.e st) 0 := by rw [k1, k2]; rfl
    unfold outsS wantOf
    rw [hsS, hsy, hs]
    rcases e4 with ⟨c, x1, x2⟩ | ⟨c, x1, x2⟩
    · rw [x1, x2, if_neg (by decide), if_neg (by decide), if_neg (by omega)]
      exact ⟨_, rfl, bts_want m0 m1⟩
    · have hok := flS_ok (seq := b + 1 - s.tmo + 1) (st := st) m0 m1 (by omega) (by omega) t0 t1
      rw [x1, x2, if_pos rfl, if_pos hok, if_pos rfl, if_pos c]
      exact ⟨_, rfl, bts_sync m0 m1 (by omega) (by omega) t0 t1⟩
end Go.Proofs.YtnjmfbjgcfnanaaGreat
