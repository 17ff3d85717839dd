/- A node and its blocks: made, turned on, its clock. Conditions: no answers wait, no events are kept. -/
import Derived.Test.YtnjmfbjgcfnanaaGreatCfrmB
import Derived.Test.YtnjmfbjgcfnanaaGreatCsrc2
namespace Go.Proofs.YtnjmfbjgcfnanaaGreat
open Go Go.Eng
set_option linter.unusedVariables false
set_option linter.unusedSimpArgs false

/-! ### rings -/
@[reducible] noncomputable def tJob : TypeId := match Tryz.prog.underlying T.sl_node_job with | some (.slice e) => e | _ => 0
def Rg (w : World) (b c size cap : Nat) (n : Int) : Prop := ∃ (rows : List Value) (f : Int), Blk w b [.slice (some ⟨c, 0, none⟩) cap cap, .int .i64 f, .int .i64 n] ∧ Blk w c rows ∧ rows.length = cap * size
theorem Rg.upd {S : Nat → Prop} {w w' : World} {b c size cap : Nat} {n : Int} (h : Rg w b c size cap n) (u : Upd S w w') (h1 : ¬ S b) (h2 : ¬ S c) : Rg w' b c size cap n := by
  obtain ⟨rows, f, k1, k2, l⟩ := h
  exact ⟨rows, f, k1.upd u h1, k2.upd u h2, l⟩
theorem Rg.gro {w w' : World} {b c size cap : Nat} {n : Int} (h : Rg w b c size cap n) (u : Gro w w') : Rg w' b c size cap n := h.upd u (fun x => x) fun x => x
set_option maxRecDepth 20000 in
theorem ring_New_node_job.cl {w : World} {k : TR RPI → World → Prop} (h : ∀ b c w', w.heap.size ≤ c → c < b → Rg w' b c 1 8 0 → Gro w w' → k ((some ⟨b, 0, none⟩, ()), (0, ()), ()) w') : clS Tryz.prog F.ring_New_node_job [.int .i64 8] w true RPI k := by
  refine ring_New_node_job.ok ?_
  unfold ring_New_node_job.wp
  refine brF rfl (brF rfl ?_)
  refine slOf_make (t := T.sl_node_job) (e := tJob) (size := 1) (bytes := 16) (z := .nilIface) (l := 8) (c := 8) (by kernel_rfl) (by kernel_rfl) rfl (by decide) rfl rfl (by decide) (by decide) fun c w2 e2 k2 _ g2 => ?_
  refine alK_by fun b w4 e4 k4 g4 => h b c w4 (Nat.le_of_eq e2) (by have := k2.lt; omega) ⟨_, 0, k4, k2.gro g4, by rw [zrow_len]⟩ (g2.trans g4)
set_option maxRecDepth 20000 in
theorem ring_New_event_Event.cl {w : World} {k : TR RPI → World → Prop} (h : ∀ b c w', w.heap.size ≤ c → c < b → Rg w' b c 8 16 0 → Gro w w' → k ((some ⟨b, 0, none⟩, ()), (0, ()), ()) w') : clS Tryz.prog F.ring_New_event_Event [.int .i64 16] w true RPI k := by
  refine ring_New_event_Event.ok ?_
  unfold ring_New_event_Event.wp
  refine brF rfl (brF rfl ?_)
  refine slOf_make (t := T.sl_event_Event) (e := T.event_Event) (size := 8) (bytes := 72) (z := .agg #[.int .i64 0, .string ByteArray.empty, .int .i64 0, .int .i64 0, .int .i64 0, .int .i64 0, .int .u16 0, .int .i64 0]) (l := 16) (c := 16) (by kernel_rfl) (by kernel_rfl) rfl (by decide) rfl rfl (by decide) (by decide) fun c w2 e2 k2 _ g2 => ?_
  refine alK_by fun b w4 e4 k4 g4 => h b c w4 (Nat.le_of_eq e2) (by have := k2.lt; omega) ⟨_, 0, k4, k2.gro g4, by rw [zrow_len]⟩ (g2.trans g4)
theorem event_New.cl {w : World} {k : TR RP → World → Prop} (h : ∀ g b c w', w.heap.size ≤ c → c < b → b < g → Rg w' b c 8 16 0 → Blk w' g [.pointer (some ⟨b, 0, none⟩), .int .i64 0] → Gro w w' → k ((some ⟨g, 0, none⟩, ()), ()) w') : clS Tryz.prog F.event_New [] w false RP k := by
  refine event_New.ok ?_
  unfold event_New.wp
  refine ring_New_event_Event.cl fun b c w2 h1 h2 hR g2 => alK_by fun g w4 e4 k4 g4 => ?_
  have hb : b < w2.heap.size := by obtain ⟨rows, f, k1, _⟩ := hR; exact k1.lt
  exact h g b c w4 h1 h2 (by omega) (Rg.gro hR g4) k4 (g2.trans g4)
set_option maxRecDepth 20000 in
theorem ring_Ring_node_job_Clear.cl {b c : Nat} {n : Int} (hbc : b ≠ c) {w : World} (hR : Rg w b c 1 8 n) {k : TR [] → World → Prop} (h : ∀ w', Rg w' b c 1 8 0 → Upd (fun z => z = b ∨ z = c) w w' → k () w') : clS Tryz.prog F.ring_Ring_node_job_Clear [.pointer (some ⟨b, 0, none⟩)] w true [] k := by
  refine ring_Ring_node_job_Clear.ok ?_
  unfold ring_Ring_node_job_Clear.wp
  obtain ⟨rows, f, k1, k2, hl⟩ := hR
  refine brT rfl ?_
  rw [ncK_eq]
  refine k1.c0 (c := .sl) (x := (some ⟨c, 0, none⟩, 8, 8)) rfl ?_
  refine crK_by (t := T.sl_node_job) (e := tJob) (size := 1) (bytes := 16) (z := .nilIface) (n := 7) (by kernel_rfl) (by kernel_rfl) rfl k2 hl rfl fun w3 k3 u3 => ?_
  rw [ncK_eq]
  refine (k1.upd u3 hbc).sN 1 [_] (by simp) rfl fun w5 k5 u5 => ?_
  rw [ncK_eq]
  refine k5.sN 2 [_] (by simp [splice]) rfl fun w7 k7 u7 => h w7 ⟨_, 0, k7, (k3.upd u5 (fun e => hbc e.symm)).upd u7 (fun e => hbc e.symm), by rw [zrow_len]⟩ ?_
  exact Upd.trans (Upd.trans (u3.mono fun z hz => .inr hz) u5 fun z _ hz => .inl hz) u7 fun z _ hz => .inl hz
set_option maxRecDepth 20000 in
theorem ring_Ring_event_Event_Clear.cl {b c : Nat} {n : Int} (hbc : b ≠ c) {w : World} (hR : Rg w b c 8 16 n) {k : TR [] → World → Prop} (h : ∀ w', Rg w' b c 8 16 0 → Upd (fun z => z = b ∨ z = c) w w' → k () w') : clS Tryz.prog F.ring_Ring_event_Event_Clear [.pointer (some ⟨b, 0, none⟩)] w true [] k := by
  refine ring_Ring_event_Event_Clear.ok ?_
  unfold ring_Ring_event_Event_Clear.wp
  obtain ⟨rows, f, k1, k2, hl⟩ := hR
  refine brT rfl ?_
  rw [ncK_eq]
  refine k1.c0 (c := .sl) (x := (some ⟨c, 0, none⟩, 16, 16)) rfl ?_
  refine crK_by (t := T.sl_event_Event) (e := T.event_Event) (size := 8) (bytes := 72) (z := .agg #[.int .i64 0, .string ByteArray.empty, .int .i64 0, .int .i64 0, .int .i64 0, .int .i64 0, .int .u16 0, .int .i64 0]) (n := 15) (by kernel_rfl) (by kernel_rfl) rfl k2 hl rfl fun w3 k3 u3 => ?_
  rw [ncK_eq]
  refine (k1.upd u3 hbc).sN 1 [_] (by simp) rfl fun w5 k5 u5 => ?_
  rw [ncK_eq]
  refine k5.sN 2 [_] (by simp [splice]) rfl fun w7 k7 u7 => h w7 ⟨_, 0, k7, (k3.upd u5 (fun e => hbc e.symm)).upd u7 (fun e => hbc e.symm), by rw [zrow_len]⟩ ?_
  exact Upd.trans (Upd.trans (u3.mono fun z hz => .inr hz) u5 fun z _ hz => .inl hz) u7 fun z _ hz => .inl hz
theorem event_Log_Clear.cl {g b c : Nat} {n last : Int} (hbc : b ≠ c) (hgb : g ≠ b) (hgc : g ≠ c) {w : World} (hR : Rg w b c 8 16 n) (hB : Blk w g [.pointer (some ⟨b, 0, none⟩), .int .i64 last]) {k : TR [] → World → Prop} (h : ∀ w', Rg w' b c 8 16 0 → Blk w' g [.pointer (some ⟨b, 0, none⟩), .int .i64 0] → Upd (fun z => z = g ∨ z = b ∨ z = c) w w' → k () w') : clS Tryz.prog F.event_Log_Clear [.pointer (some ⟨g, 0, none⟩)] w true [] k := by
  refine event_Log_Clear.ok ?_
  unfold event_Log_Clear.wp
  refine brT rfl ?_
  rw [ncK_eq]
  refine hB.c0 (c := .p) (x := some ⟨b, 0, none⟩) rfl (ring_Ring_event_Event_Clear.cl hbc hR fun w4 R4 u4 => ?_)
  rw [ncK_eq]
  refine (hB.upd u4 (by simp [hgb, hgc])).sN 1 [_] (by simp) rfl fun w6 k6 u6 => h w6 (R4.upd u6 (fun e => hgb e.symm) fun e => hgc e.symm) k6 ?_
  exact Upd.trans (u4.mono fun z hz => .inr hz) u6 fun z _ hz => .inl hz
theorem ring_Ring_node_job_Len.cl {b c : Nat} {n : Int} {w : World} (hR : Rg w b c 1 8 n) {k : TR RI1 → World → Prop} (h : k ((n, ()), ()) w) : clS Tryz.prog F.ring_Ring_node_job_Len [.pointer (some ⟨b, 0, none⟩)] w false RI1 k := by
  refine ring_Ring_node_job_Len.ok ?_
  unfold ring_Ring_node_job_Len.wp
  obtain ⟨rows, f, k1, k2, hl⟩ := hR
  refine brF rfl ?_
  rw [ncK_eq]
  exact k1.c1 2 rfl h
theorem ring_Ring_event_Event_Len.cl {b c : Nat} {n : Int} {w : World} (hR : Rg w b c 8 16 n) {k : TR RI1 → World → Prop} (h : k ((n, ()), ()) w) : clS Tryz.prog F.ring_Ring_event_Event_Len [.pointer (some ⟨b, 0, none⟩)] w false RI1 k := by
  refine ring_Ring_event_Event_Len.ok ?_
  unfold ring_Ring_event_Event_Len.wp
  obtain ⟨rows, f, k1, k2, hl⟩ := hR
  refine brF rfl ?_
  rw [ncK_eq]
  exact k1.c1 2 rfl h
theorem event_Log_Len.cl {g b c : Nat} {n last : Int} {w : World} (hR : Rg w b c 8 16 n) (hB : Blk w g [.pointer (some ⟨b, 0, none⟩), .int .i64 last]) {k : TR RI1 → World → Prop} (h : k ((n, ()), ()) w) : clS Tryz.prog F.event_Log_Len [.pointer (some ⟨g, 0, none⟩)] w false RI1 k := by
  refine event_Log_Len.ok ?_
  unfold event_Log_Len.wp
  refine brF rfl ?_
  rw [ncK_eq]
  exact hB.c0 (c := .p) (x := some ⟨b, 0, none⟩) rfl (ring_Ring_event_Event_Len.cl hR h)
theorem ring_Ring_node_job_Pop.none {b c : Nat} {w : World} (hR : Rg w b c 1 8 0) {k : TR [(false, [.any]), (false, [.b])] → World → Prop} (h : k ((.nilIface, ()), (false, ()), ()) w) : clS Tryz.prog F.ring_Ring_node_job_Pop [.pointer (some ⟨b, 0, none⟩)] w true [(false, [.any]), (false, [.b])] k := by
  refine ring_Ring_node_job_Pop.ok ?_
  unfold ring_Ring_node_job_Pop.wp
  exact ring_Ring_node_job_Len.cl hR (brT rfl h)
theorem anchor_Book_Drop.in {b o : Nat} {cs : List Value} {w : World} (hB : Blk w b cs) (ho : o + 7 ≤ cs.length) {k : TR [] → World → Prop} (h : ∀ w', Blk w' b (splice cs o (bk false (0, 0, 0, 0, 0, 0))) → Upd (fun z => z = b) w w' → k () w') : clS Tryz.prog F.anchor_Book_Drop [.pointer (some (Addr.add ⟨b, 0, none⟩ o))] w true [] k := by
  refine anchor_Book_Drop.ok ?_
  unfold anchor_Book_Drop.wp
  refine brT rfl ?_
  rw [ncK_eq]
  exact hB.sN o _ (by simpa using ho) rfl fun w2 k2 u2 => h w2 k2 u2
end Go.Proofs.YtnjmfbjgcfnanaaGreat
/- A node and its blocks: made, turned on, its clock. Conditions: no answers wait, no events are kept. -/
namespace Go.Proofs.YtnjmfbjgcfnanaaGreat
open Go Go.Eng
set_option linter.unusedVariables false
set_option linter.unusedSimpArgs false

structure NSt where
  me : Int
  tmo : Int
  ign : Int
  need : Int
  drift : Int
  rnd : Int
  opn : Int
  own : Int
  lim : Int
  jit : Int
  gate : Bool
def stC (s : NSt) : List Value := [.int .i64 s.me, .int .i64 s.tmo, .int .i64 s.ign, .int .i64 s.need, .int .i64 s.drift, .int .i64 s.rnd, .int .i64 s.opn, .int .i64 s.own, .int .i64 s.lim, .int .i64 s.jit, .bool s.gate]
abbrev KSt : List CK := [.i .i64, .i .i64, .i .i64, .i .i64, .i .i64, .i .i64, .i .i64, .i .i64, .i .i64, .i .i64, .b]
def stT (s : NSt) : Tvs KSt := (s.me, s.tmo, s.ign, s.need, s.drift, s.rnd, s.opn, s.own, s.lim, s.jit, s.gate, ())
theorem stC_T (s : NSt) : stC s = encs KSt (stT s) := rfl
def goodS (s : NSt) : Bool := decide (0 ≤ s.me) && decide (s.me < 64) && flG s.tmo s.ign s.need s.drift && plG s.rnd s.opn s.own && decide (1 ≤ s.lim) && decide (s.lim ≤ s.tmo) && decide (0 ≤ s.jit) && decide (s.jit ≤ 20)
theorem goodS_iff {s : NSt} : goodS s = true ↔ 0 ≤ s.me ∧ s.me < 64 ∧ flG s.tmo s.ign s.need s.drift = true ∧ plG s.rnd s.opn s.own = true ∧ 1 ≤ s.lim ∧ s.lim ≤ s.tmo ∧ 0 ≤ s.jit ∧ s.jit ≤ 20 := by unfold goodS; simp [and_assoc]
theorem goodS_no {s : NSt} (h : ¬ (0 ≤ s.me ∧ s.me < 64 ∧ flG s.tmo s.ign s.need s.drift = true ∧ plG s.rnd s.opn s.own = true ∧ 1 ≤ s.lim ∧ s.lim ≤ s.tmo ∧ 0 ≤ s.jit ∧ s.jit ≤ 20)) : goodS s = false := by
  cases hb : goodS s
  · rfl
  · exact absurd (goodS_iff.1 hb) h
abbrev K4i : List CK := [.i .i64, .i .i64, .i .i64, .i .i64]
abbrev K3i : List CK := [.i .i64, .i .i64, .i .i64]
theorem node_Setup_Good.cl {s : NSt} {w : World} {k : TR RBo → World → Prop} (h : ∀ w', Gro w w' → k ((goodS s, ()), ()) w') : clS Tryz.prog F.node_Setup_Good [.agg (stC s).toArray] w false RBo k := by
  refine node_Setup_Good.ok ?_
  unfold node_Setup_Good.wp
  refine alK_by fun p w2 e2 k2 u2 => ?_
  change Blk w2 p (stC s) at k2
  have no : ∀ w', Gro w w' → ¬ (0 ≤ s.me ∧ s.me < 64 ∧ flG s.tmo s.ign s.need s.drift = true ∧ plG s.rnd s.opn s.own = true ∧ 1 ≤ s.lim ∧ s.lim ≤ s.tmo ∧ 0 ≤ s.jit ∧ s.jit ≤ 20) → k ((false, ()), ()) w' := fun w' g hn => by have := h w' g; rw [goodS_no hn] at this; exact this
  refine k2.c0 (c := .i .i64) (x := s.me) rfl (brD (fun c1 => ?_) fun n => no w2 u2 fun q => n q.1)
  refine k2.c0 (c := .i .i64) (x := s.me) rfl (brD (fun c2 => ?_) fun n => no w2 u2 fun q => n q.2.1)
  refine k2.cN 1 (cs := K4i) (s.tmo, s.ign, s.need, s.drift, ()) rfl (flood_Rules_Good.cl fun w7 u7 => ?_)
  have g7 := u2.trans u7
  have k7 := k2.gro u7
  refine brC (fun c3 => ?_) fun n => no w7 g7 fun q => by have n : flG s.tmo s.ign s.need s.drift = false := n; rw [n] at q; exact absurd q.2.2.1 (by decide)
  refine k7.cN 5 (cs := K3i) (s.rnd, s.opn, s.own, ()) rfl (duty_Plan_Good.cl fun w10 u10 => ?_)
  have g10 := g7.trans u10
  have k10 := k7.gro u10
  refine brC (fun c4 => ?_) fun n => no w10 g10 fun q => by have n : plG s.rnd s.opn s.own = false := n; rw [n] at q; exact absurd q.2.2.2.1 (by decide)
  refine k10.c1 8 (c := .i .i64) (x := s.lim) rfl (brD (fun c5 => ?_) fun n => no w10 g10 fun q => n q.2.2.2.2.1)
  refine k10.c1 8 (c := .i .i64) (x := s.lim) rfl (k10.c1 1 (c := .i .i64) (x := s.tmo) rfl (brD (fun c6 => ?_) fun n => no w10 g10 fun q => n q.2.2.2.2.2.1))
  refine k10.c1 9 (c := .i .i64) (x := s.jit) rfl (brD (fun c7 => ?_) fun n => no w10 g10 fun q => n q.2.2.2.2.2.2.1)
  refine k10.c1 9 (c := .i .i64) (x := s.jit) rfl ?_
  have := h w10 g10
  have e : goodS s = decide (s.jit ≤ 20) := by
    unfold goodS
    rw [decide_eq_true (show 0 ≤ s.me from c1), decide_eq_true (show s.me < 64 from c2), show flG s.tmo s.ign s.need s.drift = true from c3, show plG s.rnd s.opn s.own = true from c4, decide_eq_true (show 1 ≤ s.lim from c5), decide_eq_true (show s.lim ≤ s.tmo from c6), decide_eq_true (show 0 ≤ s.jit from c7)]; rfl
  rw [e] at this
  exact this

/-- what a node is, without answers that wait and events -/
structure Nd where
  s : NSt
  lp : Option Addr
  on : Bool
  boot : Int
  bh : Bool
  ba : A6
  now : Int
  lev : Int
  par : Int
  pr : Pr
  so : So
  f : Fl
  e : El
  l : MkL
  es : List E3
  last : Int
/-- its blocks: 0 itself, 1 clock, 2 level, 3 pair, 4 source, 5 log, 6, 7 the log's ring, 8, 9 the answers' ring -/
abbrev NB := Nat → Nat
abbrev pB (b : Nat) : Value := .pointer (some ⟨b, 0, none⟩)
def ndC (N : NB) (bf : Nat) (d : Nd) : List Value := stC d.s ++ [.pointer d.lp, .bool d.on, .int .u16 d.boot, pB (N 1), pB bf, pB (N 2), pB (N 3), pB (N 4)] ++ bk d.bh d.ba ++ [pB (N 5), pB (N 8)]
structure NW (w : World) (O : Nat → Prop) (N : NB) (bf be : Nat) (d : Nd) : Prop where
  nb : Blk w (N 0) (ndC N bf d)
  cb : Blk w (N 1) (ckC d.s.drift d.now)
  fw : FW w O bf be d.f d.e d.l d.es
  lb : Blk w (N 2) (lvC d.s.me d.lev d.par)
  pb : Blk w (N 3) (prC d.pr)
  sb : Blk w (N 4) (soC d.so)
  gb : Blk w (N 5) [pB (N 6), .int .i64 d.last]
  ge : Rg w (N 6) (N 7) 8 16 0
  je : Rg w (N 8) (N 9) 1 8 0
  inj : ∀ i j, i < 10 → j < 10 → N i = N j → i = j
  fo : ∀ i, i < 10 → ¬ O (N i)
theorem NW.ne {w : World} {O : Nat → Prop} {N : NB} {bf be : Nat} {d : Nd} (h : NW w O N bf be d) (i j : Nat) (hi : i < 10 := by decide) (hj : j < 10 := by decide) (hij : i ≠ j := by decide) : N i ≠ N j := fun e => hij (h.inj i j hi hj e)
/-- all blocks of a node -/
def NO (N : NB) (O : Nat → Prop) (z : Nat) : Prop := (∃ i, i < 10 ∧ N i = z) ∨ O z
theorem NW.upd {S O : Nat → Prop} {w w' : World} {N : NB} {bf be : Nat} {d : Nd} (h : NW w O N bf be d) (u : Upd S w w') (hS : ∀ z, NO N O z → ¬ S z) : NW w' O N bf be d := by
  have hi : ∀ i, i < 10 → ¬ S (N i) := fun i hi => hS _ (.inl ⟨i, hi, rfl⟩)
  exact ⟨h.nb.upd u (hi 0 (by decide)), h.cb.upd u (hi 1 (by decide)), h.fw.upd u fun z hz => hS z (.inr hz), h.lb.upd u (hi 2 (by decide)), h.pb.upd u (hi 3 (by decide)), h.sb.upd u (hi 4 (by decide)), h.gb.upd u (hi 5 (by decide)), h.ge.upd u (hi 6 (by decide)) (hi 7 (by decide)), h.je.upd u (hi 8 (by decide)) (hi 9 (by decide)), h.inj, h.fo⟩
theorem NW.gro {O : Nat → Prop} {w w' : World} {N : NB} {bf be : Nat} {d : Nd} (h : NW w O N bf be d) (u : Gro w w') : NW w' O N bf be d := h.upd u fun _ _ x => x
theorem NW.drew {O : Nat → Prop} {w : World} {N : NB} {bf be : Nat} {d : Nd} (h : NW w O N bf be d) : NW w.drew O N bf be d := h.gro (Gro.drew w)
/-- one block of the node, not itself, has turned -/
theorem NW.keep {w w' : World} {O : Nat → Prop} {N : NB} {bf be : Nat} {d : Nd} (h : NW w O N bf be d) (i : Nat) (hi : i < 10) (u : Upd (fun z => z = N i) w w') : FW w' O bf be d.f d.e d.l d.es ∧ ∀ j, j < 10 → j ≠ i → ∀ cs, Blk w (N j) cs → Blk w' (N j) cs :=
  ⟨h.fw.upd u fun z hz e => h.fo i hi (e ▸ hz), fun j hj hij cs k => k.upd u fun e => hij (h.inj j i hj hi e)⟩
theorem NW.rg {w w' : World} {O : Nat → Prop} {N : NB} {bf be : Nat} {d : Nd} (h : NW w O N bf be d) (i : Nat) (hi : i < 6) (u : Upd (fun z => z = N i) w w') : Rg w' (N 6) (N 7) 8 16 0 ∧ Rg w' (N 8) (N 9) 1 8 0 :=
  ⟨h.ge.upd u (h.ne 6 i (by decide) (by omega) (by omega)) (h.ne 7 i (by decide) (by omega) (by omega)), h.je.upd u (h.ne 8 i (by decide) (by omega) (by omega)) (h.ne 9 i (by decide) (by omega) (by omega))⟩
theorem NW.set0 {w w' : World} {O : Nat → Prop} {N : NB} {bf be : Nat} {d : Nd} (h : NW w O N bf be d) {on : Bool} {boot : Int} {bh : Bool} {ba : A6} (k : Blk w' (N 0) (ndC N bf { d with on := on, boot := boot, bh := bh, ba := ba })) (u : Upd (fun z => z = N 0) w w') : NW w' O N bf be { d with on := on, boot := boot, bh := bh, ba := ba } := by
  have K := h.keep 0 (by decide) u
  have R := h.rg 0 (by decide) u
  exact ⟨k, K.2 1 (by decide) (by decide) _ h.cb, K.1, K.2 2 (by decide) (by decide) _ h.lb, K.2 3 (by decide) (by decide) _ h.pb, K.2 4 (by decide) (by decide) _ h.sb, K.2 5 (by decide) (by decide) _ h.gb, R.1, R.2, h.inj, h.fo⟩
theorem NW.set1 {w w' : World} {O : Nat → Prop} {N : NB} {bf be : Nat} {d : Nd} (h : NW w O N bf be d) {now : Int} (k : Blk w' (N 1) (ckC d.s.drift now)) (u : Upd (fun z => z = N 1) w w') : NW w' O N bf be { d with now := now } := by
  have K := h.keep 1 (by decide) u
  have R := h.rg 1 (by decide) u
  exact ⟨K.2 0 (by decide) (by decide) _ h.nb, k, K.1, K.2 2 (by decide) (by decide) _ h.lb, K.2 3 (by decide) (by decide) _ h.pb, K.2 4 (by decide) (by decide) _ h.sb, K.2 5 (by decide) (by decide) _ h.gb, R.1, R.2, h.inj, h.fo⟩
theorem NW.set2 {w w' : World} {O : Nat → Prop} {N : NB} {bf be : Nat} {d : Nd} (h : NW w O N bf be d) {lev par : Int} (k : Blk w' (N 2) (lvC d.s.me lev par)) (u : Upd (fun z => z = N 2) w w') : NW w' O N bf be { d with lev := lev, par := par } := by
  have K := h.keep 2 (by decide) u
  have R := h.rg 2 (by decide) u
  exact ⟨K.2 0 (by decide) (by decide) _ h.nb, K.2 1 (by decide) (by decide) _ h.cb, K.1, k, K.2 3 (by decide) (by decide) _ h.pb, K.2 4 (by decide) (by decide) _ h.sb, K.2 5 (by decide) (by decide) _ h.gb, R.1, R.2, h.inj, h.fo⟩
theorem NW.set3 {w w' : World} {O : Nat → Prop} {N : NB} {bf be : Nat} {d : Nd} (h : NW w O N bf be d) {pr : Pr} (k : Blk w' (N 3) (prC pr)) (u : Upd (fun z => z = N 3) w w') : NW w' O N bf be { d with pr := pr } := by
  have K := h.keep 3 (by decide) u
  have R := h.rg 3 (by decide) u
  exact ⟨K.2 0 (by decide) (by decide) _ h.nb, K.2 1 (by decide) (by decide) _ h.cb, K.1, K.2 2 (by decide) (by decide) _ h.lb, k, K.2 4 (by decide) (by decide) _ h.sb, K.2 5 (by decide) (by decide) _ h.gb, R.1, R.2, h.inj, h.fo⟩
theorem NW.set4 {w w' : World} {O : Nat → Prop} {N : NB} {bf be : Nat} {d : Nd} (h : NW w O N bf be d) {so : So} (k : Blk w' (N 4) (soC so)) (u : Upd (fun z => z = N 4) w w') : NW w' O N bf be { d with so := so } := by
  have K := h.keep 4 (by decide) u
  have R := h.rg 4 (by decide) u
  exact ⟨K.2 0 (by decide) (by decide) _ h.nb, K.2 1 (by decide) (by decide) _ h.cb, K.1, K.2 2 (by decide) (by decide) _ h.lb, K.2 3 (by decide) (by decide) _ h.pb, k, K.2 5 (by decide) (by decide) _ h.gb, R.1, R.2, h.inj, h.fo⟩
theorem NW.setF {w w' : World} {O O' : Nat → Prop} {N : NB} {bf be : Nat} {d : Nd} (h : NW w O N bf be d) {f : Fl} {e : El} {l : MkL} {es : List E3} (k : FW w' O' bf be f e l es) (x : Nx O w O' w') : NW w' O' N bf be { d with f := f, e := e, l := l, es := es } := by
  have K : ∀ j, j < 10 → ∀ cs, Blk w (N j) cs → Blk w' (N j) cs := fun j hj cs k => k.upd x.u (h.fo j hj)
  have lt : ∀ j, j < 10 → N j < w.heap.size := by
    intro j hj
    obtain ⟨r6, f6, a6, a7, _⟩ := h.ge
    obtain ⟨r8, f8, a8, a9, _⟩ := h.je
    have : j = 0 ∨ j = 1 ∨ j = 2 ∨ j = 3 ∨ j = 4 ∨ j = 5 ∨ j = 6 ∨ j = 7 ∨ j = 8 ∨ j = 9 := by omega
    rcases this with rfl | rfl | rfl | rfl | rfl | rfl | rfl | rfl | rfl | rfl
    · exact h.nb.lt
    · exact h.cb.lt
    · exact h.lb.lt
    · exact h.pb.lt
    · exact h.sb.lt
    · exact h.gb.lt
    · exact a6.lt
    · exact a7.lt
    · exact a8.lt
    · exact a9.lt
  exact ⟨K 0 (by decide) _ h.nb, K 1 (by decide) _ h.cb, k, K 2 (by decide) _ h.lb, K 3 (by decide) _ h.pb, K 4 (by decide) _ h.sb, K 5 (by decide) _ h.gb, h.ge.upd x.u (h.fo 6 (by decide)) (h.fo 7 (by decide)), h.je.upd x.u (h.fo 8 (by decide)) (h.fo 9 (by decide)), h.inj, fun i hi ho => by
    rcases x.sub _ ho with y | y
    · exact h.fo i hi y
    · have := lt i hi; omega⟩
end Go.Proofs.YtnjmfbjgcfnanaaGreat
/- A node is made, turned on; its clock goes on. Conditions: no answers wait, no events are kept. -/
namespace Go.Proofs.YtnjmfbjgcfnanaaGreat
open Go Go.Eng
set_option linter.unusedVariables false
set_option linter.unusedSimpArgs false

def ndL (s : NSt) (lp : Option Addr) (on : Bool) (boot : Int) (c f l p q : Value) (bh : Bool) (ba : A6) (g j : Value) : List Value := stC s ++ [.pointer lp, .bool on, .int .u16 boot, c, f, l, p, q] ++ bk bh ba ++ [g, j]
theorem ndC_L (N : NB) (bf : Nat) (d : Nd) : ndC N bf d = ndL d.s d.lp d.on d.boot (pB (N 1)) (pB bf) (pB (N 2)) (pB (N 3)) (pB (N 4)) d.bh d.ba (pB (N 5)) (pB (N 8)) := rfl
def a60 : A6 := (0, 0, 0, 0, 0, 0)
def so0 (lim : Int) : So := ⟨lim, (0, 0, 0), 0, 0, 0, false⟩
def nd0 (s : NSt) (lp : Option Addr) : Nd := ⟨s, lp, false, 0, false, a60, 0, -1, -1, prN s.me, so0 s.lim, ⟨s.me, s.tmo, s.ign, s.need, s.drift, 0, 0, 0⟩, ⟨s.me, s.tmo, s.ign, 0, 0, -1, 0, 0⟩, [], [], 0⟩
theorem getD_get {L : List Nat} {i : Nat} (h : i < L.length) : L.getD i 0 = L[i] := by simp [List.getD, h]
theorem nodup_inj {L : List Nat} (h : L.Nodup) {i j : Nat} (hi : i < L.length) (hj : j < L.length) (e : L.getD i 0 = L.getD j 0) : i = j := by
  rw [getD_get hi, getD_get hj] at e
  exact (List.getElem_inj h).1 e
set_option maxRecDepth 20000 in
set_option maxHeartbeats 1000000 in
theorem node_New.cl {s : NSt} {lp : Option Addr} {w : World} {k : TR RPI → World → Prop} (h0 : goodS s = false → ∀ w', Gro w w' → k ((none, ()), (1, ()), ()) w')
    (h : goodS s = true → ∀ O N bf be w', NW w' O N bf be (nd0 s lp) → (∀ z, NO N O z → w.heap.size ≤ z) → Gro w w' → k ((some ⟨N 0, 0, none⟩, ()), (0, ()), ()) w') : clS Tryz.prog F.node_New [.agg (stC s).toArray, .pointer lp] w true RPI k := by
  refine node_New.ok ?_
  unfold node_New.wp
  refine alK_by fun p1 w2 e1 k1 u1 => ?_
  change Blk w2 p1 (stC s) at k1
  refine k1.cA (cs := KSt) (stT s) rfl (node_Setup_Good.cl (s := s) fun w5 u5 => brNot (fun c => h0 c w5 (u1.trans u5)) fun c => ?_)
  have c : goodS s = true := c
  have h := h c
  obtain ⟨m0, m1, gf, gp, l1, l2, j1, j2⟩ := goodS_iff.1 c
  have gf' := flG_iff.1 gf
  have ge' := elG_iff.1 gf'.1
  have g5 := u1.trans u5
  rw [drK_eq]
  have K5 := (k1.gro u5).drew
  have hold : ∀ {w' : World}, Gro w5.drew w' → ∀ j, j < 11 → w'.cell? (Addr.add ⟨p1, 0, none⟩ j) = some ((w5.drew.cell? (Addr.add ⟨p1, 0, none⟩ j)).getD undef) := fun u j hj => K5.hold u (fun x => x) j (by simpa [stC] using hj)
  refine K5.cA (cs := KSt) (stT s) rfl (event_New.cl fun g gr gc w9 b1 b2 b3 hR hg u9 => ⟨⟨hold u9 0 (by decide), hold u9 1 (by decide), hold u9 2 (by decide), hold u9 3 (by decide), hold u9 4 (by decide), hold u9 5 (by decide), hold u9 6 (by decide), hold u9 7 (by decide), hold u9 8 (by decide), hold u9 9 (by decide), hold u9 10 (by decide), trivial⟩, ?_⟩)
  refine alK_by fun n w11 e11 k11 u11 => ?_
  have u11' := u9.trans u11
  refine ⟨⟨hold u11' 0 (by decide), hold u11' 1 (by decide), hold u11' 2 (by decide), hold u11' 3 (by decide), hold u11' 4 (by decide), hold u11' 5 (by decide), hold u11' 6 (by decide), hold u11' 7 (by decide), hold u11' 8 (by decide), hold u11' 9 (by decide), hold u11' 10 (by decide), trivial⟩, ?_⟩
  have lg := hg.lt
  have K11 := K5.gro u11'
  have lp1 : p1 < n := by have := (K5.gro u9).lt; omega
  change Blk w11 n (ndL s lp false 0 (.pointer none) (.pointer none) (.pointer none) (.pointer none) (.pointer none) false a60 (pB g) (.pointer none)) at k11
  refine K11.c2 1 3 (c := .i .i64) (x := s.drift) rfl (tick_New.cl (by omega) (by omega) fun c w14 e14 k14 u14 => ?_)
  have lc := k11.lt
  refine (k11.gro u14).sN 14 [_] (by simp [ndL, stC, bk, a6]) rfl fun w15 k15 u15 => ?_
  change Blk w15 n (ndL s lp false 0 (pB c) (.pointer none) (.pointer none) (.pointer none) (.pointer none) false a60 (pB g) (.pointer none)) at k15
  have K15 := (K11.gro u14).upd u15 (by omega)
  have kc := k14.upd u15 (by omega)
  refine K15.c0 (c := .i .i64) (x := s.me) rfl (K15.cN 1 (cs := K4i) (s.tmo, s.ign, s.need, s.drift, ()) rfl (flood_New.cw (fun hn => absurd gf (by rcases hn with hn | hn | hn; omega; omega; rw [hn]; decide)) fun _ _ _ O bf be w19 hF hO u19 => ?_))
  have lcc := kc.lt
  have k19 := k15.gro u19
  have sz15 := u15.size
  have sz14 := u14.size
  refine k19.sN 15 [_] (by simp [ndL, stC, bk, a6]) rfl fun w20 k20 u20 => ?_
  change Blk w20 n (ndL s lp false 0 (pB c) (pB bf) (.pointer none) (.pointer none) (.pointer none) false a60 (pB g) (.pointer none)) at k20
  have nO : ¬ O n := fun hz => by have := hO n hz; omega
  have hF20 := hF.upd u20 fun z hz e => nO (e ▸ hz)
  have K20 := (K15.gro u19).upd u20 (by omega)
  have kc20 := (kc.gro u19).upd u20 (by omega)
  refine K20.c0 (c := .i .i64) (x := s.me) rfl (level_New.cl m0 m1 fun l w23 e23 k23 u23 => ?_)
  have ln := k20.lt
  refine (k20.gro u23).sN 16 [_] (by simp [ndL, stC, bk, a6]) rfl fun w24 k24 u24 => ?_
  change Blk w24 n (ndL s lp false 0 (pB c) (pB bf) (pB l) (.pointer none) (.pointer none) false a60 (pB g) (.pointer none)) at k24
  have hF24 := (hF20.gro u23).upd u24 fun z hz e => nO (e ▸ hz)
  have K24 := (K20.gro u23).upd u24 (by omega)
  have kc24 := (kc20.gro u23).upd u24 (by omega)
  have kl24 := k23.upd u24 (by omega)
  have lc20 := kc20.lt
  refine K24.c0 (c := .i .i64) (x := s.me) rfl (pair_New.cl m0 m1 fun p w27 e27 k27 u27 => ?_)
  have ll24 := kl24.lt
  refine (k24.gro u27).sN 17 [_] (by simp [ndL, stC, bk, a6]) rfl fun w28 k28 u28 => ?_
  change Blk w28 n (ndL s lp false 0 (pB c) (pB bf) (pB l) (pB p) (.pointer none) false a60 (pB g) (.pointer none)) at k28
  have hF28 := (hF24.gro u27).upd u28 fun z hz e => nO (e ▸ hz)
  have K28 := (K24.gro u27).upd u28 (by omega)
  have kc28 := (kc24.gro u27).upd u28 (by omega)
  have kl28 := (kl24.gro u27).upd u28 (by omega)
  have kp28 := k27.upd u28 (by omega)
  refine K28.c1 8 (c := .i .i64) (x := s.lim) rfl (source_New.cl (fun hn => by omega) fun _ _ q w31 e31 k31 u31 => ?_)
  have lp28 := kp28.lt
  refine (k28.gro u31).sN 18 [_] (by simp [ndL, stC, bk, a6]) rfl fun w32 k32 u32 => ?_
  change Blk w32 n (ndL s lp false 0 (pB c) (pB bf) (pB l) (pB p) (pB q) false a60 (pB g) (.pointer none)) at k32
  have hF32 := (hF28.gro u31).upd u32 fun z hz e => nO (e ▸ hz)
  have kc32 := (kc28.gro u31).upd u32 (by omega)
  have kl32 := (kl28.gro u31).upd u32 (by omega)
  have kp32 := (kp28.gro u31).upd u32 (by omega)
  have kq32 := k31.upd u32 (by omega)
  refine ring_New_node_job.cl fun j jc w34 f1 f2 hJ u34 => ?_
  have lq32 := kq32.lt
  refine (k32.gro u34).sN 27 [_] (by simp [ndL, stC, bk, a6]) rfl fun w35 k35 u35 => ?_
  change Blk w35 n (ndL s lp false 0 (pB c) (pB bf) (pB l) (pB p) (pB q) false a60 (pB g) (pB j)) at k35
  have hF35 := (hF32.gro u34).upd u35 fun z hz e => nO (e ▸ hz)
  have kc35 := (kc32.gro u34).upd u35 (by omega)
  have kl35 := (kl32.gro u34).upd u35 (by omega)
  have kp35 := (kp32.gro u34).upd u35 (by omega)
  have kq35 := (kq32.gro u34).upd u35 (by omega)
  have hJ35 := hJ.upd u35 (by omega) (by omega)
  -- the log's blocks, from w9 on
  have ln11 := k11.lt
  have G : Upd (fun z => z = n) w9 w35 := by
    have a0 : Upd (fun z => z = n) w9 w15 := Upd.trans (Upd.of_gro (u11.trans u14)) u15 fun _ _ x => x
    have a1 : Upd (fun z => z = n) w9 w20 := Upd.trans (a0.gro u19) u20 fun _ _ x => x
    have a2 : Upd (fun z => z = n) w9 w24 := Upd.trans (a1.gro u23) u24 fun _ _ x => x
    have a3 : Upd (fun z => z = n) w9 w28 := Upd.trans (a2.gro u27) u28 fun _ _ x => x
    have a4 : Upd (fun z => z = n) w9 w32 := Upd.trans (a3.gro u31) u32 fun _ _ x => x
    exact Upd.trans (a4.gro u34) u35 fun _ _ x => x
  have gw : Gro w w35 := Upd.trans ((g5.trans (Gro.drew _)).trans u9) G fun z hz e => by have := (g5.trans ((Gro.drew _).trans u9)).size; omega
  have hR35 := hR.upd G (by omega) (by omega)
  have hg35 := hg.upd G (by omega)
  have sz5 := g5.size
  have szd : w5.drew.heap.size = w5.heap.size := rfl
  have s19 := u19.size
  have s20 := u20.size
  have s23 := u23.size
  have s24 := u24.size
  have s27 := u27.size
  have s28 := u28.size
  have s31 := u31.size
  have s32 := u32.size
  have o1 : gc < gr := b2
  have o2 : gr < g := b3
  have o3 : g < n := by omega
  have o4 : n < c := by omega
  have o5 : c < l := by omega
  have o6 : l < p := by omega
  have o7 : p < q := by omega
  have o8 : q < jc := by omega
  have o9 : jc < j := f2
  have hOl : ∀ z, O z → c < z ∧ z < l := fun z hz => ⟨by have := hO z hz; omega, by have := hF20.lt z hz; omega⟩
  have hnd : [n, c, l, p, q, g, gr, gc, j, jc].Nodup := by
    simp only [List.nodup_cons, List.mem_cons, List.not_mem_nil, or_false, not_or, List.nodup_nil, not_false_eq_true, and_true]
    omega
  have hmem : ∀ i, i < 10 → ([n, c, l, p, q, g, gr, gc, j, jc].getD i 0) ∈ [n, c, l, p, q, g, gr, gc, j, jc] := fun i hi => by
    rw [getD_get (by simpa using hi)]; exact List.getElem_mem _
  refine h O (fun i => [n, c, l, p, q, g, gr, gc, j, jc].getD i 0) bf be w35 ⟨k35, kc35, hF35, kl35, kp35, kq35, hg35, hR35, hJ35, fun i j hi hj e => nodup_inj hnd (by simpa using hi) (by simpa using hj) e, ?_⟩ ?_ gw
  · intro i hi ho
    have := hOl _ ho
    have hm := hmem i hi
    simp only [List.mem_cons, List.not_mem_nil, or_false] at hm
    omega
  · rintro z (⟨i, hi, rfl⟩ | hz)
    · have hm := hmem i hi
      simp only [List.mem_cons, List.not_mem_nil, or_false] at hm
      show w.heap.size ≤ [n, c, l, p, q, g, gr, gc, j, jc].getD i 0
      omega
    · have := hOl z hz; omega
end Go.Proofs.YtnjmfbjgcfnanaaGreat
/- A node is turned on; its clock goes on; a stamp. Conditions: no answers wait, no events are kept. -/
namespace Go.Proofs.YtnjmfbjgcfnanaaGreat
open Go Go.Eng
set_option linter.unusedVariables false
set_option linter.unusedSimpArgs false

theorem NW.nx {w w' : World} {O : Nat → Prop} {N : NB} (i : Nat) (hi : i < 10) (u : Upd (fun z => z = N i) w w') : Nx (NO N O) w (NO N O) w' := ⟨u.mono fun z hz => .inl ⟨i, hi, hz.symm⟩, fun z hz => .inl hz⟩
theorem NW.nxF {w w' : World} {O O' : Nat → Prop} {N : NB} (x : Nx O w O' w') : Nx (NO N O) w (NO N O') w' :=
  ⟨x.u.mono fun z hz => .inr hz, fun z hz => hz.elim (fun h => .inl (.inl h)) fun h => (x.sub z h).elim (fun h => .inl (.inr h)) .inr⟩
theorem NW.n0 {w : World} {O : Nat → Prop} {N : NB} {bf be : Nat} {d : Nd} (h : NW w O N bf be d) {c : CK} (o : Nat) {x : Tv c} (e : (ndC N bf d)[o]? = some (enc c x)) {k : Tv c → Prop} (hk : k x) : ld1 c (Addr.add ⟨N 0, 0, none⟩ o) w k := h.nb.c1 o e hk
theorem node_Node_ready.cl {w : World} {O : Nat → Prop} {N : NB} {bf be : Nat} {d : Nd} (h : NW w O N bf be d) {k : TR RI1 → World → Prop} (hk : k ((if d.on = true then 0 else 10, ()), ()) w) : clS Tryz.prog F.node_Node_ready [pB (N 0)] w false RI1 k := by
  refine node_Node_ready.ok ?_
  unfold node_Node_ready.wp
  refine brF rfl ?_
  rw [ncK_eq]
  refine h.n0 12 (c := .b) (x := d.on) rfl (brNot (fun c => ?_) fun c => ?_)
  · have c : d.on = false := c
    rw [c] at hk; exact hk
  · have c : d.on = true := c
    rw [c] at hk; exact hk
theorem node_Node_Go.cl {w : World} {O : Nat → Prop} {N : NB} {bf be : Nat} {d : Nd} {t : Int} (h : NW w O N bf be d) (hon : d.on = true) (hd : 0 ≤ d.s.drift ∧ d.s.drift ≤ 10) (hn : 0 ≤ d.now ∧ d.now ≤ 1125899906842624) {k : TR RI1 → World → Prop}
    (hk : ∀ w', NW w' O N bf be { d with now := if goT d.s.drift d.now t = 0 then d.now + t else d.now } → Nx (NO N O) w (NO N O) w' → k ((goT d.s.drift d.now t, ()), ()) w') : clS Tryz.prog F.node_Node_Go [pB (N 0), .int .i64 t] w false RI1 k := by
  refine node_Node_Go.ok ?_
  unfold node_Node_Go.wp
  refine node_Node_ready.cl h ?_
  rw [if_pos hon]
  refine brF rfl ?_
  rw [ncK_eq]
  refine h.n0 14 (c := .p) (x := some ⟨N 1, 0, none⟩) rfl (tick_Clock_Go.cl hd.1 hd.2 hn.1 hn.2 h.cb fun w6 k6 u6 => hk w6 (h.set1 k6 u6) (NW.nx 1 (by decide) u6))
def stmp (d : Nd) (j : Int) : Int := clamp (d.now + j) 0 1125899906842624
theorem node_Node_stamp.cl {w : World} {O : Nat → Prop} {N : NB} {bf be : Nat} {d : Nd} {j : Int} (h : NW w O N bf be d) (hon : d.on = true) (hj : 0 ≤ d.s.jit ∧ d.s.jit ≤ 20) (h1 : -d.s.jit ≤ j) (h2 : j ≤ d.s.jit) (hn : 0 ≤ d.now ∧ d.now ≤ 1125899906842624) {k : TR [(false, [.i .i64]), (false, [.i .i64])] → World → Prop}
    (hk : k ((stmp d j, ()), (0, ()), ()) w) : clS Tryz.prog F.node_Node_stamp [pB (N 0), .int .i64 j] w true [(false, [.i .i64]), (false, [.i .i64])] k := by
  refine node_Node_stamp.ok ?_
  unfold node_Node_stamp.wp
  refine node_Node_ready.cl h ?_
  rw [if_pos hon]
  refine brF rfl ?_
  rw [ncK_eq]
  refine h.n0 9 (c := .i .i64) (x := d.s.jit) rfl ?_
  rw [w64_in (by unfold I64; omega)]
  refine brD (fun c => absurd (show j < 0 - d.s.jit from c) (by omega)) fun _ => ?_
  rw [ncK_eq]
  refine h.n0 9 (c := .i .i64) (x := d.s.jit) rfl (brD (fun c => absurd (show j > d.s.jit from c) (by omega)) fun _ => ?_)
  rw [ncK_eq]
  refine h.n0 14 (c := .p) (x := some ⟨N 1, 0, none⟩) rfl (tick_Clock_Now.cl h.cb ?_)
  dsimp only
  rw [w64_in (n := d.now + j) (by unfold I64; omega)]
  exact fix_Clamp.cl hk
/-- a node that is turned on -/
def onD (d : Nd) (raw : Int) : Nd := { d with on := true, boot := IntKind.wrap .u16 (d.boot + 1), bh := false, ba := a60, now := raw, lev := -1, par := -1, pr := prN d.pr.me, so := so0 d.so.limit, f := fgF d.f, e := bootE d.e (IntKind.wrap .u16 (d.boot + 1)), l := [], es := [], last := 0 }
set_option maxRecDepth 20000 in
set_option maxHeartbeats 1000000 in
theorem node_Node_On.cl {w : World} {O : Nat → Prop} {N : NB} {bf be : Nat} {d : Nd} {raw : Int} (h : NW w O N bf be d) (h0 : 0 ≤ raw) (h1 : raw < 4294967296) {k : TR RI1 → World → Prop}
    (hk : ∀ w' O', NW w' O' N bf be (onD d raw) → Nx (NO N O) w (NO N O') w' → k ((0, ()), ()) w') : clS Tryz.prog F.node_Node_On [pB (N 0), .int .u32 raw] w false RI1 k := by
  refine node_Node_On.ok ?_
  unfold node_Node_On.wp
  refine brF rfl ?_
  rw [ncK_eq]
  refine h.nb.sN 12 [_] (by simp [ndC, stC, bk, a6]) rfl fun w2 k2 u2 => ?_
  have H2 := h.set0 (on := true) (boot := d.boot) (bh := d.bh) (ba := d.ba) k2 u2
  have X2 : Nx (NO N O) w (NO N O) w2 := NW.nx 0 (by decide) u2
  rw [ncK_eq]
  refine H2.n0 13 (c := .i .u16) (x := d.boot) rfl ?_
  rw [ncK_eq]
  refine H2.nb.sN 13 [_] (by simp [ndC, stC, bk, a6]) rfl fun w6 k6 u6 => ?_
  have H6 := H2.set0 (on := true) (boot := IntKind.wrap .u16 (d.boot + 1)) (bh := d.bh) (ba := d.ba) k6 u6
  have X6 := X2.trans (NW.nx (O := O) 0 (by decide) u6)
  rw [ncK_eq]
  refine H6.n0 14 (c := .p) (x := some ⟨N 1, 0, none⟩) rfl (tick_Clock_Boot.cl h0 h1 H6.cb fun w10 k10 u10 => ?_)
  have H10 := H6.set1 (now := raw) k10 u10
  have X10 := X6.trans (NW.nx (O := O) 1 (by decide) u10)
  rw [drK_eq, ncK_eq]
  have H11 := H10.drew
  refine H11.n0 15 (c := .p) (x := some ⟨bf, 0, none⟩) rfl ?_
  rw [ncK_eq]
  refine H11.n0 13 (c := .i .u16) (x := IntKind.wrap .u16 (d.boot + 1)) rfl (flood_Flood_Boot.cw H11.fw fun w17 O17 F17 x17 => ⟨trivial, ?_⟩)
  have H17 := H11.setF F17 x17
  have X17 := (X10.gro (Gro.drew _)).trans (NW.nxF (N := N) x17)
  rw [ncK_eq]
  refine H17.n0 16 (c := .p) (x := some ⟨N 2, 0, none⟩) rfl (level_Level_Lose.cl H17.lb fun w21 k21 u21 => ?_)
  have H21 := H17.set2 (lev := -1) (par := -1) k21 u21
  have X21 := X17.trans (NW.nx (O := O17) 2 (by decide) u21)
  rw [ncK_eq]
  refine H21.n0 17 (c := .p) (x := some ⟨N 3, 0, none⟩) rfl (pair_Pair_Boot.cl H21.pb fun w25 k25 u25 => ?_)
  have H25 := H21.set3 k25 u25
  have X25 := X21.trans (NW.nx (O := O17) 3 (by decide) u25)
  rw [ncK_eq]
  refine H25.n0 18 (c := .p) (x := some ⟨N 4, 0, none⟩) rfl (source_Source_Drop.cl H25.sb fun w29 k29 u29 => ?_)
  have H29 := H25.set4 k29 u29
  have X29 := X25.trans (NW.nx (O := O17) 4 (by decide) u29)
  rw [ncK_eq]
  refine anchor_Book_Drop.in H29.nb (by simp [ndC, stC, bk, a6]) fun w32 k32 u32 => ?_
  have H32 := H29.set0 (on := true) (boot := IntKind.wrap .u16 (d.boot + 1)) (bh := false) (ba := a60) k32 u32
  have X32 := X29.trans (NW.nx (O := O17) 0 (by decide) u32)
  rw [ncK_eq]
  refine H32.n0 26 (c := .p) (x := some ⟨N 5, 0, none⟩) rfl (event_Log_Clear.cl (H32.ne 6 7) (H32.ne 5 6) (H32.ne 5 7) H32.ge H32.gb fun w36 R36 k36 u36 => ?_)
  have no36 : ∀ i, i < 10 → i ≠ 5 → i ≠ 6 → i ≠ 7 → ¬ (N i = N 5 ∨ N i = N 6 ∨ N i = N 7) := fun i hi a b c => by
    rintro (e | e | e)
    · exact a (H32.inj _ _ hi (by decide) e)
    · exact b (H32.inj _ _ hi (by decide) e)
    · exact c (H32.inj _ _ hi (by decide) e)
  have H36 : NW w36 O17 N bf be (onD d raw) := ⟨H32.nb.upd u36 (no36 0 (by decide) (by decide) (by decide) (by decide)), H32.cb.upd u36 (no36 1 (by decide) (by decide) (by decide) (by decide)), H32.fw.upd u36 (fun z hz e => by
    rcases e with e | e | e
    · exact H32.fo 5 (by decide) (e ▸ hz)
    · exact H32.fo 6 (by decide) (e ▸ hz)
    · exact H32.fo 7 (by decide) (e ▸ hz)), H32.lb.upd u36 (no36 2 (by decide) (by decide) (by decide) (by decide)), H32.pb.upd u36 (no36 3 (by decide) (by decide) (by decide) (by decide)), H32.sb.upd u36 (no36 4 (by decide) (by decide) (by decide) (by decide)), k36, R36, H32.je.upd u36 (no36 8 (by decide) (by decide) (by decide) (by decide)) (no36 9 (by decide) (by decide) (by decide) (by decide)), H32.inj, H32.fo⟩
  have X36 : Nx (NO N O) w (NO N O17) w36 := X32.trans ⟨u36.mono fun z hz => .inl (by
    rcases hz with e | e | e
    · exact ⟨5, by decide, e.symm⟩
    · exact ⟨6, by decide, e.symm⟩
    · exact ⟨7, by decide, e.symm⟩), fun z hz => .inl hz⟩
  rw [ncK_eq]
  refine H36.n0 27 (c := .p) (x := some ⟨N 8, 0, none⟩) rfl (ring_Ring_node_job_Clear.cl (H36.ne 8 9) H36.je fun w40 R40 u40 => ?_)
  have no40 : ∀ i, i < 10 → i ≠ 8 → i ≠ 9 → ¬ (N i = N 8 ∨ N i = N 9) := fun i hi a b => by
    rintro (e | e)
    · exact a (H36.inj _ _ hi (by decide) e)
    · exact b (H36.inj _ _ hi (by decide) e)
  refine hk w40 O17 ⟨H36.nb.upd u40 (no40 0 (by decide) (by decide) (by decide)), H36.cb.upd u40 (no40 1 (by decide) (by decide) (by decide)), H36.fw.upd u40 (fun z hz e => by
    rcases e with e | e
    · exact H36.fo 8 (by decide) (e ▸ hz)
    · exact H36.fo 9 (by decide) (e ▸ hz)), H36.lb.upd u40 (no40 2 (by decide) (by decide) (by decide)), H36.pb.upd u40 (no40 3 (by decide) (by decide) (by decide)), H36.sb.upd u40 (no40 4 (by decide) (by decide) (by decide)), H36.gb.upd u40 (no40 5 (by decide) (by decide) (by decide)), H36.ge.upd u40 (no40 6 (by decide) (by decide) (by decide)) (no40 7 (by decide) (by decide) (by decide)), R40, H36.inj, H36.fo⟩ (X36.trans ⟨u40.mono fun z hz => .inl (by
    rcases hz with e | e
    · exact ⟨8, by decide, e.symm⟩
    · exact ⟨9, by decide, e.symm⟩), fun z hz => .inl hz⟩)
/-- the time that a node that is on tells -/
def tmD (d : Nd) : A5 × Int := srcT d.so d.f d.e d.l d.es d.now
set_option maxRecDepth 20000 in
theorem node_Node_Time.cl {w : World} {O : Nat → Prop} {N : NB} {bf be : Nat} {d : Nd} (h : NW w O N bf be d) (hon : d.on = true) {k : TR [(true, K5), (false, [.i .i64])] → World → Prop}
    (hk : ∀ w', Gro w w' → k (tA5 (tmD d).1, ((tmD d).2, ()), ()) w') : clS Tryz.prog F.node_Node_Time [pB (N 0)] w true [(true, K5), (false, [.i .i64])] k := by
  refine node_Node_Time.ok ?_
  unfold node_Node_Time.wp
  refine alK_by fun p1 w2 e1 k1 u1 => ?_
  have H2 := h.gro u1
  refine node_Node_ready.cl H2 ?_
  rw [if_pos hon]
  refine brF rfl ?_
  rw [drK_eq, ncK_eq]
  have H3 := H2.drew
  refine H3.n0 18 (c := .p) (x := some ⟨N 4, 0, none⟩) rfl ?_
  rw [ncK_eq]
  refine H3.n0 15 (c := .p) (x := some ⟨bf, 0, none⟩) rfl ?_
  rw [ncK_eq]
  refine H3.n0 14 (c := .p) (x := some ⟨N 1, 0, none⟩) rfl (tick_Clock_Now.cl H3.cb ?_)
  have hl : (ndC N bf d).length = 28 := rfl
  have hold : ∀ {w' : World}, Gro w2.drew w' → ∀ j, j < 28 → w'.cell? (Addr.add ⟨N 0, 0, none⟩ j) = some ((w2.drew.cell? (Addr.add ⟨N 0, 0, none⟩ j)).getD undef) := fun u j hj => H3.nb.hold u (fun x => x) j (by omega)
  refine ⟨⟨hold (Gro.refl _) 14 (by decide), hold (Gro.refl _) 15 (by decide), hold (Gro.refl _) 18 (by decide), trivial⟩, source_Source_Time.cw H3.sb H3.fw fun w17 u17 => ⟨⟨hold u17 14 (by decide), trivial⟩, ?_⟩⟩
  refine (k1.drew.gro u17).sta (encs K5 (tA5 (tmD d).1)) rfl rfl fun w18 k18 u18 => ⟨trivial, ?_⟩
  exact k18.cA (cs := K5) (tA5 (tmD d).1) rfl (hk w18 (Gro.fresh (Gro.refl _) (u1.trans ((Gro.drew _).trans u17)) u18 e1))
end Go.Proofs.YtnjmfbjgcfnanaaGreat
