import Derived.Test.YtnjmfbjgcfnanaaGreatNm
namespace Go.Proofs.YtnjmfbjgcfnanaaGreat
open Go.Eng
set_option linter.unusedVariables false
/-! ### ring_Ring_node_job_Pop -/
set_option maxRecDepth 100000 in
def ring_Ring_node_job_Pop.wp (r : Option Addr) (w : World) (R : TR [(false, [.any]), (false, [.b])] → World → Prop) : Prop :=
clS Tryz.prog F.ring_Ring_node_job_Len [.pointer r] w false [(false, [(.i .i64)])] fun r1 w2 =>
brB (r1.1.1 == 0) (
R ((.nilIface, ()), (false, ()), ()) w2) (
drK w2 fun w3 =>
ncK r fun a4 =>
ld1 .sl a4 w3 fun x5 =>
ncK r fun a6 =>
ld1 (.i .i64) (a6.add 1) w3 fun x7 =>
ixK x5.1 x5.2.1 x7 fun a8 =>
ld1 .any (a8.add (x7.toNat * 1)) w3 fun x9 =>
drK w3 fun w10 =>
ncK r fun a11 =>
ld1 .sl a11 w10 fun x12 =>
ncK r fun a13 =>
ld1 (.i .i64) (a13.add 1) w10 fun x14 =>
ixK x12.1 x12.2.1 x14 fun a15 =>
stN [.nilIface] (a15.add (x14.toNat * 1)) 0 w10 fun w16 =>
Hold [] w16 ∧ (
drK w16 fun w17 =>
ncK r fun a18 =>
ld1 (.i .i64) (a18.add 1) w17 fun x19 =>
ncK r fun a20 =>
ld1 .sl a20 w17 fun x21 =>
nzK (x21.2.1 : Int) (
ncK r fun a22 =>
stN [.int .i64 (Int.tmod (IntKind.wrap .i64 (x19 + 1)) (x21.2.1 : Int))] (a22.add 1) 0 w17 fun w23 =>
Hold [] w23 ∧ (
ncK r fun a24 =>
ld1 (.i .i64) (a24.add 2) w23 fun x25 =>
ncK r fun a26 =>
stN [.int .i64 (IntKind.wrap .i64 (x25 - 1))] (a26.add 2) 0 w23 fun w27 =>
R ((x9, ()), (true, ()), ()) w27))))
set_option maxRecDepth 100000 in
theorem ring_Ring_node_job_Pop.eq (r : Option Addr) (w : World) (R : Value → World → Prop) : wpF Tryz.prog Tryz.f58 (.s .n (.s .n (.s .n (.s (.pl (.tk 0 (.tk 1 (.tk 2 (.tk 3 (.tk 4 (.tk 5 (.tk 6 (.tk 7 (.tk 8 (.tk 9 (.tk 10 .z)))))))))))) (.s (.pl (.tk 0 (.tk 1 (.tk 2 (.tk 3 (.tk 4 (.tk 5 (.tk 6 (.tk 7 (.tk 8 (.tk 9 (.ef 10 [3, 7] .z)))))))))))) (.s (.pl (.tk 0 (.tk 1 (.tk 2 (.tk 3 (.tk 4 (.tk 5 (.tk 6 (.tk 7 (.tk 8 (.tk 9 (.tk 10 (.tk 11 (.tk 12 (.tk 13 (.ef 14 [4, 9] .z)))))))))))))))) .n)))))) [.pointer r] w R = ring_Ring_node_job_Pop.wp r w (fun r w => R (encR true [(false, [.any]), (false, [.b])] r) w) := by kernel_rfl
set_option maxRecDepth 100000 in
theorem ring_Ring_node_job_Pop.ok {r : Option Addr} {w : World} {R : TR [(false, [.any]), (false, [.b])] → World → Prop} (h : ring_Ring_node_job_Pop.wp r w R) : clS Tryz.prog F.ring_Ring_node_job_Pop [.pointer r] w true [(false, [.any]), (false, [.b])] R :=
  ok_of Tryz_follows Tryz.func58 (fun R => ring_Ring_node_job_Pop.wp r w R) (ring_Ring_node_job_Pop.eq r w) rfl h
/-! ### flood_Flood_Synced -/
set_option maxRecDepth 100000 in
def flood_Flood_Synced.wp (f : Option Addr) (w : World) (R : TR [(false, [.b])] → World → Prop) : Prop :=
drK w fun w1 =>
brB (!(Option.isNone f)) (
ncK f fun a2 =>
ld1 .p a2 w1 fun x3 =>
clS Tryz.prog F.elect_Elect_Mine [.pointer x3] w1 false [(false, [.b])] fun r4 w5 =>
Hold [(6, a2, (w1.cell? a2).getD undef)] w5 ∧ (
brB r4.1.1 (
R ((true, ()), ()) w5) (
ncK f fun a6 =>
ncK f fun a7 =>
ld1 (.i .i64) ((a7.add 2).add 2) w5 fun x8 =>
clS Tryz.prog F.table_Table_Len [.pointer (some (a6.add 6))] w5 false [(false, [(.i .i64)])] fun r9 w10 =>
Hold [(17, ((a7.add 2).add 2), (w5.cell? ((a7.add 2).add 2)).getD undef), (6, a2, (w1.cell? a2).getD undef)] w10 ∧ (
R ((decide (r9.1.1 ≥ x8), ()), ()) w10)))) (
R ((false, ()), ()) w1)
set_option maxRecDepth 100000 in
theorem flood_Flood_Synced.eq (f : Option Addr) (w : World) (R : Value → World → Prop) : wpF Tryz.prog Tryz.f59 (.s .n (.s (.pl (.tk 0 (.tk 1 (.tk 2 (.tk 3 (.tk 4 (.tk 5 (.tk 6 (.ef 7 [] (.tk 8 (.tk 9 (.tk 10 (.tk 11 (.tk 13 (.tk 14 (.tk 15 (.tk 16 (.tk 17 (.ef 12 [] (.tk 18 (.tk 19 (.tk 20 (.tk 21 .z))))))))))))))))))))))) .n)) [.pointer f] w R = flood_Flood_Synced.wp f w (fun r w => R (encR false [(false, [.b])] r) w) := by kernel_rfl
set_option maxRecDepth 100000 in
theorem flood_Flood_Synced.ok {f : Option Addr} {w : World} {R : TR [(false, [.b])] → World → Prop} (h : flood_Flood_Synced.wp f w R) : clS Tryz.prog F.flood_Flood_Synced [.pointer f] w false [(false, [.b])] R :=
  ok_of Tryz_follows Tryz.func59 (fun R => flood_Flood_Synced.wp f w R) (flood_Flood_Synced.eq f w) rfl h
/-! ### node_Node_word -/
set_option maxRecDepth 100000 in
def node_Node_word.wp (n : Option Addr) (stamp : Int) (w : World) (R : TR [(false, [.any]), (false, [.b])] → World → Prop) : Prop :=
ncK n fun a1 =>
ld1 .p (a1.add 16) w fun x2 =>
clS Tryz.prog F.level_Level_Parent [.pointer x2] w false [(false, [(.i .i64)])] fun r3 w4 =>
brB (decide (r3.1.1 < 0)) (
ncK n fun a5 =>
ld1 (.i .i64) a5 w4 fun x6 =>
R ((.iface T.frame_Want (.agg #[.int .i64 x6]), ()), (true, ()), ()) w4) (
drK w4 fun w7 =>
ncK n fun a8 =>
ld1 .p (a8.add 17) w7 fun x9 =>
ncK n fun a10 =>
ld1 .p (a10.add 16) w7 fun x11 =>
clS Tryz.prog F.level_Level_Parent [.pointer x11] w7 false [(false, [(.i .i64)])] fun r12 w13 =>
Hold [(7, (a10.add 16), (w7.cell? (a10.add 16)).getD undef), (3, (a8.add 17), (w7.cell? (a8.add 17)).getD undef)] w13 ∧ (
clS Tryz.prog F.pair_Pair_Ask [.pointer x9, .int .i64 r12.1.1, .int .i64 stamp] w13 true [(true, [(.i .i64), (.i .i64), (.i .i64)]), (false, [.b])] fun r14 w15 =>
Hold [(7, (a10.add 16), (w7.cell? (a10.add 16)).getD undef)] w15 ∧ (
R ((.iface T.frame_Pulse (.agg #[.int .i64 r14.1.1, .int .i64 r14.1.2.1, .int .i64 r14.1.2.2.1]), ()), (r14.2.1.1, ()), ()) w15)))
set_option maxRecDepth 100000 in
theorem node_Node_word.eq (n : Option Addr) (stamp : Int) (w : World) (R : Value → World → Prop) : wpF Tryz.prog Tryz.f60 (.s .n (.s .n (.s (.pl (.tk 0 (.tk 1 (.tk 2 (.tk 3 (.tk 4 (.tk 5 (.tk 6 (.tk 7 (.tk 9 (.ef 8 [] (.ef 10 [3] (.tk 11 (.tk 12 (.tk 13 (.tk 14 (.tk 15 .z))))))))))))))))) .n))) [.pointer n, .int .i64 stamp] w R = node_Node_word.wp n stamp w (fun r w => R (encR true [(false, [.any]), (false, [.b])] r) w) := by kernel_rfl
set_option maxRecDepth 100000 in
theorem node_Node_word.ok {n : Option Addr} {stamp : Int} {w : World} {R : TR [(false, [.any]), (false, [.b])] → World → Prop} (h : node_Node_word.wp n stamp w R) : clS Tryz.prog F.node_Node_word [.pointer n, .int .i64 stamp] w true [(false, [.any]), (false, [.b])] R :=
  ok_of Tryz_follows Tryz.func60 (fun R => node_Node_word.wp n stamp w R) (node_Node_word.eq n stamp w) rfl h
/-! ### tick_Clock_Now -/
set_option maxRecDepth 100000 in
def tick_Clock_Now.wp (c : Option Addr) (w : World) (R : TR [(false, [(.i .i64)])] → World → Prop) : Prop :=
brB (Option.isNone c) (
R ((0, ()), ()) w) (
ncK c fun a1 =>
ld1 (.i .i64) (a1.add 2) w fun x2 =>
R ((x2, ()), ()) w)
set_option maxRecDepth 100000 in
theorem tick_Clock_Now.eq (c : Option Addr) (w : World) (R : Value → World → Prop) : wpF Tryz.prog Tryz.f61 .n [.pointer c] w R = tick_Clock_Now.wp c w (fun r w => R (encR false [(false, [(.i .i64)])] r) w) := by kernel_rfl
set_option maxRecDepth 100000 in
theorem tick_Clock_Now.ok {c : Option Addr} {w : World} {R : TR [(false, [(.i .i64)])] → World → Prop} (h : tick_Clock_Now.wp c w R) : clS Tryz.prog F.tick_Clock_Now [.pointer c] w false [(false, [(.i .i64)])] R :=
  ok_of Tryz_follows Tryz.func61 (fun R => tick_Clock_Now.wp c w R) (tick_Clock_Now.eq c w) rfl h
/-! ### elect_Elect_Root -/
set_option maxRecDepth 100000 in
def elect_Elect_Root.wp (e : Option Addr) (w : World) (R : TR [(false, [(.i .i64)])] → World → Prop) : Prop :=
brB (Option.isNone e) (
R (((Int.negSucc 0), ()), ()) w) (
ncK e fun a1 =>
ld1 (.i .i64) (a1.add 5) w fun x2 =>
R ((x2, ()), ()) w)
set_option maxRecDepth 100000 in
theorem elect_Elect_Root.eq (e : Option Addr) (w : World) (R : Value → World → Prop) : wpF Tryz.prog Tryz.f62 .n [.pointer e] w R = elect_Elect_Root.wp e w (fun r w => R (encR false [(false, [(.i .i64)])] r) w) := by kernel_rfl
set_option maxRecDepth 100000 in
theorem elect_Elect_Root.ok {e : Option Addr} {w : World} {R : TR [(false, [(.i .i64)])] → World → Prop} (h : elect_Elect_Root.wp e w R) : clS Tryz.prog F.elect_Elect_Root [.pointer e] w false [(false, [(.i .i64)])] R :=
  ok_of Tryz_follows Tryz.func62 (fun R => elect_Elect_Root.wp e w R) (elect_Elect_Root.eq e w) rfl h
/-! ### elect_Elect_Mine -/
set_option maxRecDepth 100000 in
def elect_Elect_Mine.wp (e : Option Addr) (w : World) (R : TR [(false, [.b])] → World → Prop) : Prop :=
drK w fun w1 =>
brB (!(Option.isNone e)) (
ncK e fun a2 =>
ld1 (.i .i64) (a2.add 5) w1 fun x3 =>
ncK e fun a4 =>
ld1 (.i .i64) a4 w1 fun x5 =>
R (((x3 == x5), ()), ()) w1) (
R ((false, ()), ()) w1)
set_option maxRecDepth 100000 in
theorem elect_Elect_Mine.eq (e : Option Addr) (w : World) (R : Value → World → Prop) : wpF Tryz.prog Tryz.f63 (.s .n (.s (.pl (.tk 0 (.tk 1 (.tk 2 (.tk 3 (.tk 4 (.tk 5 (.tk 6 (.tk 7 (.tk 8 (.tk 9 (.tk 10 (.tk 11 (.tk 12 (.tk 13 .z))))))))))))))) .n)) [.pointer e] w R = elect_Elect_Mine.wp e w (fun r w => R (encR false [(false, [.b])] r) w) := by kernel_rfl
set_option maxRecDepth 100000 in
theorem elect_Elect_Mine.ok {e : Option Addr} {w : World} {R : TR [(false, [.b])] → World → Prop} (h : elect_Elect_Mine.wp e w R) : clS Tryz.prog F.elect_Elect_Mine [.pointer e] w false [(false, [.b])] R :=
  ok_of Tryz_follows Tryz.func63 (fun R => elect_Elect_Mine.wp e w R) (elect_Elect_Mine.eq e w) rfl h
/-! ### flood_Flood_Entries -/
set_option maxRecDepth 100000 in
def flood_Flood_Entries.wp (f : Option Addr) (w : World) (R : TR [(false, [(.i .i64)])] → World → Prop) : Prop :=
brB (Option.isNone f) (
R ((0, ()), ()) w) (
ncK f fun a1 =>
clS Tryz.prog F.table_Table_Len [.pointer (some (a1.add 6))] w false [(false, [(.i .i64)])] fun r2 w3 =>
R ((r2.1.1, ()), ()) w3)
set_option maxRecDepth 100000 in
theorem flood_Flood_Entries.eq (f : Option Addr) (w : World) (R : Value → World → Prop) : wpF Tryz.prog Tryz.f64 .n [.pointer f] w R = flood_Flood_Entries.wp f w (fun r w => R (encR false [(false, [(.i .i64)])] r) w) := by kernel_rfl
set_option maxRecDepth 100000 in
theorem flood_Flood_Entries.ok {f : Option Addr} {w : World} {R : TR [(false, [(.i .i64)])] → World → Prop} (h : flood_Flood_Entries.wp f w R) : clS Tryz.prog F.flood_Flood_Entries [.pointer f] w false [(false, [(.i .i64)])] R :=
  ok_of Tryz_follows Tryz.func64 (fun R => flood_Flood_Entries.wp f w R) (flood_Flood_Entries.eq f w) rfl h
/-! ### level_Level_Level -/
set_option maxRecDepth 100000 in
def level_Level_Level.wp (l : Option Addr) (w : World) (R : TR [(false, [(.i .i64)])] → World → Prop) : Prop :=
brB (Option.isNone l) (
R (((Int.negSucc 0), ()), ()) w) (
ncK l fun a1 =>
ld1 (.i .i64) (a1.add 1) w fun x2 =>
R ((x2, ()), ()) w)
set_option maxRecDepth 100000 in
theorem level_Level_Level.eq (l : Option Addr) (w : World) (R : Value → World → Prop) : wpF Tryz.prog Tryz.f65 .n [.pointer l] w R = level_Level_Level.wp l w (fun r w => R (encR false [(false, [(.i .i64)])] r) w) := by kernel_rfl
set_option maxRecDepth 100000 in
theorem level_Level_Level.ok {l : Option Addr} {w : World} {R : TR [(false, [(.i .i64)])] → World → Prop} (h : level_Level_Level.wp l w R) : clS Tryz.prog F.level_Level_Level [.pointer l] w false [(false, [(.i .i64)])] R :=
  ok_of Tryz_follows Tryz.func65 (fun R => level_Level_Level.wp l w R) (level_Level_Level.eq l w) rfl h
/-! ### level_Level_Parent -/
set_option maxRecDepth 100000 in
def level_Level_Parent.wp (l : Option Addr) (w : World) (R : TR [(false, [(.i .i64)])] → World → Prop) : Prop :=
brB (Option.isNone l) (
R (((Int.negSucc 0), ()), ()) w) (
ncK l fun a1 =>
ld1 (.i .i64) (a1.add 2) w fun x2 =>
R ((x2, ()), ()) w)
set_option maxRecDepth 100000 in
theorem level_Level_Parent.eq (l : Option Addr) (w : World) (R : Value → World → Prop) : wpF Tryz.prog Tryz.f66 .n [.pointer l] w R = level_Level_Parent.wp l w (fun r w => R (encR false [(false, [(.i .i64)])] r) w) := by kernel_rfl
set_option maxRecDepth 100000 in
theorem level_Level_Parent.ok {l : Option Addr} {w : World} {R : TR [(false, [(.i .i64)])] → World → Prop} (h : level_Level_Parent.wp l w R) : clS Tryz.prog F.level_Level_Parent [.pointer l] w false [(false, [(.i .i64)])] R :=
  ok_of Tryz_follows Tryz.func66 (fun R => level_Level_Parent.wp l w R) (level_Level_Parent.eq l w) rfl h
/-! ### pair_Pair_Waits -/
set_option maxRecDepth 100000 in
def pair_Pair_Waits.wp (p : Option Addr) (w : World) (R : TR [(false, [.b])] → World → Prop) : Prop :=
brB (!(Option.isNone p)) (
ncK p fun a1 =>
ld1 .b (a1.add 3) w fun x2 =>
R ((x2, ()), ()) w) (
R ((false, ()), ()) w)
set_option maxRecDepth 100000 in
theorem pair_Pair_Waits.eq (p : Option Addr) (w : World) (R : Value → World → Prop) : wpF Tryz.prog Tryz.f67 .n [.pointer p] w R = pair_Pair_Waits.wp p w (fun r w => R (encR false [(false, [.b])] r) w) := by kernel_rfl
set_option maxRecDepth 100000 in
theorem pair_Pair_Waits.ok {p : Option Addr} {w : World} {R : TR [(false, [.b])] → World → Prop} (h : pair_Pair_Waits.wp p w R) : clS Tryz.prog F.pair_Pair_Waits [.pointer p] w false [(false, [.b])] R :=
  ok_of Tryz_follows Tryz.func67 (fun R => pair_Pair_Waits.wp p w R) (pair_Pair_Waits.eq p w) rfl h
/-! ### ring_Ring_node_job_Len -/
set_option maxRecDepth 100000 in
def ring_Ring_node_job_Len.wp (r : Option Addr) (w : World) (R : TR [(false, [(.i .i64)])] → World → Prop) : Prop :=
brB (Option.isNone r) (
R ((0, ()), ()) w) (
ncK r fun a1 =>
ld1 (.i .i64) (a1.add 2) w fun x2 =>
R ((x2, ()), ()) w)
set_option maxRecDepth 100000 in
theorem ring_Ring_node_job_Len.eq (r : Option Addr) (w : World) (R : Value → World → Prop) : wpF Tryz.prog Tryz.f68 .n [.pointer r] w R = ring_Ring_node_job_Len.wp r w (fun r w => R (encR false [(false, [(.i .i64)])] r) w) := by kernel_rfl
set_option maxRecDepth 100000 in
theorem ring_Ring_node_job_Len.ok {r : Option Addr} {w : World} {R : TR [(false, [(.i .i64)])] → World → Prop} (h : ring_Ring_node_job_Len.wp r w R) : clS Tryz.prog F.ring_Ring_node_job_Len [.pointer r] w false [(false, [(.i .i64)])] R :=
  ok_of Tryz_follows Tryz.func68 (fun R => ring_Ring_node_job_Len.wp r w R) (ring_Ring_node_job_Len.eq r w) rfl h
/-! ### event_Log_Len -/
set_option maxRecDepth 100000 in
def event_Log_Len.wp (l : Option Addr) (w : World) (R : TR [(false, [(.i .i64)])] → World → Prop) : Prop :=
brB (Option.isNone l) (
R ((0, ()), ()) w) (
ncK l fun a1 =>
ld1 .p a1 w fun x2 =>
clS Tryz.prog F.ring_Ring_event_Event_Len [.pointer x2] w false [(false, [(.i .i64)])] fun r3 w4 =>
R ((r3.1.1, ()), ()) w4)
set_option maxRecDepth 100000 in
theorem event_Log_Len.eq (l : Option Addr) (w : World) (R : Value → World → Prop) : wpF Tryz.prog Tryz.f69 .n [.pointer l] w R = event_Log_Len.wp l w (fun r w => R (encR false [(false, [(.i .i64)])] r) w) := by kernel_rfl
set_option maxRecDepth 100000 in
theorem event_Log_Len.ok {l : Option Addr} {w : World} {R : TR [(false, [(.i .i64)])] → World → Prop} (h : event_Log_Len.wp l w R) : clS Tryz.prog F.event_Log_Len [.pointer l] w false [(false, [(.i .i64)])] R :=
  ok_of Tryz_follows Tryz.func69 (fun R => event_Log_Len.wp l w R) (event_Log_Len.eq l w) rfl h
/-! ### ref05_Bytes -/
set_option maxRecDepth 100000 in
def ref05_Bytes.wp (p0 : Int) (p1 : Int) (p2 : Int) (p3 : Int) (p4 : Int) (p5 : Int) (p6 : Int) (p7 : Int) (p8 : Int) (p9 : Int) (p10 : Int) (p11 : Int) (p12 : Int) (p13 : Int) (w : World) (R : TR [(false, [.sl])] → World → Prop) : Prop :=
alK [.int .i64 p0, .int .i64 p1, .int .i64 p2, .int .i64 p3, .int .u16 p4, .int .u16 p5, .int .i64 p6, .int .i64 p7, .int .i64 p8, .int .i64 p9, .int .i64 p10, .int .i64 p11, .int .i64 p12, .int .i64 p13] T.ref05_Plain w fun p14 w15 =>
ld1 (.i .i64) p14 w15 fun x16 =>
alK [.int .u8 (IntKind.wrap .u8 x16)] T.uint8 w15 fun p17 w18 =>
ldN [(.i .i64), (.i .i64), (.i .i64), (.i .i64), (.i .u16), (.i .u16), (.i .i64), (.i .i64), (.i .i64), (.i .i64), (.i .i64), (.i .i64), (.i .i64), (.i .i64)] p14 0 w18 fun x19 =>
clS Tryz.prog F.ref05_Fields [.agg #[.int .i64 x19.1, .int .i64 x19.2.1, .int .i64 x19.2.2.1, .int .i64 x19.2.2.2.1, .int .u16 x19.2.2.2.2.1, .int .u16 x19.2.2.2.2.2.1, .int .i64 x19.2.2.2.2.2.2.1, .int .i64 x19.2.2.2.2.2.2.2.1, .int .i64 x19.2.2.2.2.2.2.2.2.1, .int .i64 x19.2.2.2.2.2.2.2.2.2.1, .int .i64 x19.2.2.2.2.2.2.2.2.2.2.1, .int .i64 x19.2.2.2.2.2.2.2.2.2.2.2.1, .int .i64 x19.2.2.2.2.2.2.2.2.2.2.2.2.1, .int .i64 x19.2.2.2.2.2.2.2.2.2.2.2.2.2.1]] w18 false [(false, [.sl])] fun r20 w21 =>
LoopT (fun (self22 : ((Option Addr × Nat × Nat) × (Int) × Unit) → World → Prop) (z23 : (Option Addr × Nat × Nat) × (Int) × Unit) w24 => ∀ _ : Nat → Value,
brB (decide (z23.2.1 < (r20.1.1.2.1 : Int))) (
ixK r20.1.1.1 r20.1.1.2.1 z23.2.1 fun a25 =>
ldN [(.i .i64), (.i .i64), (.i .i64)] (a25.add (z23.2.1.toNat * 3)) 0 w24 fun x26 =>
alK [.int .i64 0, .int .i64 0, .int .i64 0] T.ref05_Field w24 fun p27 w28 =>
stN [.int .i64 x26.1, .int .i64 x26.2.1, .int .i64 x26.2.2.1] p27 0 w28 fun w29 =>
ld1 (.i .i64) p27 w29 fun x30 =>
ld1 (.i .i64) (p27.add 1) w29 fun x31 =>
clS Tryz.prog F.ref04_Put [.int .i64 x30, .int .u64 (IntKind.wrap .u64 x31)] w29 false [(false, [.sl])] fun r32 w33 =>
slOf ((Builtin.append_ #[T.sl_uint8, T.sl_uint8] T.sl_uint8 #[.slice z23.1.1 z23.1.2.1 z23.1.2.2, .slice r32.1.1.1 r32.1.1.2.1 r32.1.1.2.2]).run Tryz.prog w33) fun y34 w35 =>
self22 ((y34.1, y34.2.1, y34.2.2), IntKind.wrap .i64 (z23.2.1 + 1), ()) w35) (
clS Tryz.prog F.ref03_Sum [.slice z23.1.1 z23.1.2.1 z23.1.2.2] w24 false [(false, [(.i .u16)])] fun r36 w37 =>
nzK 256 (
nzK 256 (
alK [.int .u8 (IntKind.wrap .u8 (IntKind.wrap .u16 (Int.tdiv r36.1.1 256))), .int .u8 (IntKind.wrap .u8 (Int.tmod r36.1.1 256))] T.uint8 w37 fun p38 w39 =>
slOf ((Builtin.append_ #[T.sl_uint8, T.sl_uint8] T.sl_uint8 #[.slice z23.1.1 z23.1.2.1 z23.1.2.2, .slice (some p38) 2 2]).run Tryz.prog w39) fun y40 w41 =>
R (((y40.1, y40.2.1, y40.2.2), ()), ()) w41)))) ((some p17, 1, 1), 0, ()) w21
set_option maxRecDepth 100000 in
theorem ref05_Bytes.eq (p0 : Int) (p1 : Int) (p2 : Int) (p3 : Int) (p4 : Int) (p5 : Int) (p6 : Int) (p7 : Int) (p8 : Int) (p9 : Int) (p10 : Int) (p11 : Int) (p12 : Int) (p13 : Int) (w : World) (R : Value → World → Prop) : wpF Tryz.prog Tryz.f70 (.s .n (.s .n (.s (.s .n (.lp [(3, .sl), (14, (.i .i64))] .n)) .n))) [.agg #[.int .i64 p0, .int .i64 p1, .int .i64 p2, .int .i64 p3, .int .u16 p4, .int .u16 p5, .int .i64 p6, .int .i64 p7, .int .i64 p8, .int .i64 p9, .int .i64 p10, .int .i64 p11, .int .i64 p12, .int .i64 p13]] w R = ref05_Bytes.wp p0 p1 p2 p3 p4 p5 p6 p7 p8 p9 p10 p11 p12 p13 w (fun r w => R (encR false [(false, [.sl])] r) w) := by kernel_rfl
set_option maxRecDepth 100000 in
theorem ref05_Bytes.ok {p0 : Int} {p1 : Int} {p2 : Int} {p3 : Int} {p4 : Int} {p5 : Int} {p6 : Int} {p7 : Int} {p8 : Int} {p9 : Int} {p10 : Int} {p11 : Int} {p12 : Int} {p13 : Int} {w : World} {R : TR [(false, [.sl])] → World → Prop} (h : ref05_Bytes.wp p0 p1 p2 p3 p4 p5 p6 p7 p8 p9 p10 p11 p12 p13 w R) : clS Tryz.prog F.ref05_Bytes [.agg #[.int .i64 p0, .int .i64 p1, .int .i64 p2, .int .i64 p3, .int .u16 p4, .int .u16 p5, .int .i64 p6, .int .i64 p7, .int .i64 p8, .int .i64 p9, .int .i64 p10, .int .i64 p11, .int .i64 p12, .int .i64 p13]] w false [(false, [.sl])] R :=
  ok_of Tryz_follows Tryz.func70 (fun R => ref05_Bytes.wp p0 p1 p2 p3 p4 p5 p6 p7 p8 p9 p10 p11 p12 p13 w R) (ref05_Bytes.eq p0 p1 p2 p3 p4 p5 p6 p7 p8 p9 p10 p11 p12 p13 w) rfl h
/-! ### ref05_Good -/
set_option maxRecDepth 100000 in
def ref05_Good.wp (p0 : Int) (p1 : Int) (p2 : Int) (p3 : Int) (p4 : Int) (p5 : Int) (p6 : Int) (p7 : Int) (p8 : Int) (p9 : Int) (p10 : Int) (p11 : Int) (p12 : Int) (p13 : Int) (w : World) (R : TR [(false, [.b])] → World → Prop) : Prop :=
alK [.int .i64 p0, .int .i64 p1, .int .i64 p2, .int .i64 p3, .int .u16 p4, .int .u16 p5, .int .i64 p6, .int .i64 p7, .int .i64 p8, .int .i64 p9, .int .i64 p10, .int .i64 p11, .int .i64 p12, .int .i64 p13] T.ref05_Plain w fun p14 w15 =>
ldN [(.i .i64), (.i .i64), (.i .i64), (.i .i64), (.i .u16), (.i .u16), (.i .i64), (.i .i64), (.i .i64), (.i .i64), (.i .i64), (.i .i64), (.i .i64), (.i .i64)] p14 0 w15 fun x16 =>
clS Tryz.prog F.ref05_Fields [.agg #[.int .i64 x16.1, .int .i64 x16.2.1, .int .i64 x16.2.2.1, .int .i64 x16.2.2.2.1, .int .u16 x16.2.2.2.2.1, .int .u16 x16.2.2.2.2.2.1, .int .i64 x16.2.2.2.2.2.2.1, .int .i64 x16.2.2.2.2.2.2.2.1, .int .i64 x16.2.2.2.2.2.2.2.2.1, .int .i64 x16.2.2.2.2.2.2.2.2.2.1, .int .i64 x16.2.2.2.2.2.2.2.2.2.2.1, .int .i64 x16.2.2.2.2.2.2.2.2.2.2.2.1, .int .i64 x16.2.2.2.2.2.2.2.2.2.2.2.2.1, .int .i64 x16.2.2.2.2.2.2.2.2.2.2.2.2.2.1]] w15 false [(false, [.sl])] fun r17 w18 =>
LoopT (fun (self19 : ((Int) × Unit) → World → Prop) (z20 : (Int) × Unit) w21 => ∀ _ : Nat → Value,
brB (decide (z20.1 < (r17.1.1.2.1 : Int))) (
ixK r17.1.1.1 r17.1.1.2.1 z20.1 fun a22 =>
ldN [(.i .i64), (.i .i64), (.i .i64)] (a22.add (z20.1.toNat * 3)) 0 w21 fun x23 =>
alK [.int .i64 0, .int .i64 0, .int .i64 0] T.ref05_Field w21 fun p24 w25 =>
stN [.int .i64 x23.1, .int .i64 x23.2.1, .int .i64 x23.2.2.1] p24 0 w25 fun w26 =>
ld1 (.i .i64) (p24.add 1) w26 fun x27 =>
brB (decide (x27 < 0)) (
R ((false, ()), ()) w26) (
ld1 (.i .i64) (p24.add 1) w26 fun x28 =>
ld1 (.i .i64) (p24.add 2) w26 fun x29 =>
brB (decide (x28 > x29)) (
R ((false, ()), ()) w26) (
self19 (IntKind.wrap .i64 (z20.1 + 1), ()) w26))) (
R ((decide ((r17.1.1.2.1 : Int) > 0), ()), ()) w21)) (0, ()) w18
set_option maxRecDepth 100000 in
theorem ref05_Good.eq (p0 : Int) (p1 : Int) (p2 : Int) (p3 : Int) (p4 : Int) (p5 : Int) (p6 : Int) (p7 : Int) (p8 : Int) (p9 : Int) (p10 : Int) (p11 : Int) (p12 : Int) (p13 : Int) (w : World) (R : Value → World → Prop) : wpF Tryz.prog Tryz.f74 (.s .n (.s .n (.s (.s .n (.lp [(10, (.i .i64))] .n)) .n))) [.agg #[.int .i64 p0, .int .i64 p1, .int .i64 p2, .int .i64 p3, .int .u16 p4, .int .u16 p5, .int .i64 p6, .int .i64 p7, .int .i64 p8, .int .i64 p9, .int .i64 p10, .int .i64 p11, .int .i64 p12, .int .i64 p13]] w R = ref05_Good.wp p0 p1 p2 p3 p4 p5 p6 p7 p8 p9 p10 p11 p12 p13 w (fun r w => R (encR false [(false, [.b])] r) w) := by kernel_rfl
set_option maxRecDepth 100000 in
theorem ref05_Good.ok {p0 : Int} {p1 : Int} {p2 : Int} {p3 : Int} {p4 : Int} {p5 : Int} {p6 : Int} {p7 : Int} {p8 : Int} {p9 : Int} {p10 : Int} {p11 : Int} {p12 : Int} {p13 : Int} {w : World} {R : TR [(false, [.b])] → World → Prop} (h : ref05_Good.wp p0 p1 p2 p3 p4 p5 p6 p7 p8 p9 p10 p11 p12 p13 w R) : clS Tryz.prog F.ref05_Good [.agg #[.int .i64 p0, .int .i64 p1, .int .i64 p2, .int .i64 p3, .int .u16 p4, .int .u16 p5, .int .i64 p6, .int .i64 p7, .int .i64 p8, .int .i64 p9, .int .i64 p10, .int .i64 p11, .int .i64 p12, .int .i64 p13]] w false [(false, [.b])] R :=
  ok_of Tryz_follows Tryz.func74 (fun R => ref05_Good.wp p0 p1 p2 p3 p4 p5 p6 p7 p8 p9 p10 p11 p12 p13 w R) (ref05_Good.eq p0 p1 p2 p3 p4 p5 p6 p7 p8 p9 p10 p11 p12 p13 w) rfl h
/-! ### ref05_Fields -/
set_option maxRecDepth 100000 in
def ref05_Fields.wp (p0 : Int) (p1 : Int) (p2 : Int) (p3 : Int) (p4 : Int) (p5 : Int) (p6 : Int) (p7 : Int) (p8 : Int) (p9 : Int) (p10 : Int) (p11 : Int) (p12 : Int) (p13 : Int) (w : World) (R : TR [(false, [.sl])] → World → Prop) : Prop :=
alK [.int .i64 p0, .int .i64 p1, .int .i64 p2, .int .i64 p3, .int .u16 p4, .int .u16 p5, .int .i64 p6, .int .i64 p7, .int .i64 p8, .int .i64 p9, .int .i64 p10, .int .i64 p11, .int .i64 p12, .int .i64 p13] T.ref05_Plain w fun p14 w15 =>
ld1 (.i .i64) (p14.add 1) w15 fun x16 =>
alK [.int .i64 0, .int .i64 0, .int .i64 0] T.ref05_Field w15 fun p17 w18 =>
stN [.int .i64 1, .int .i64 x16, .int .i64 63] p17 0 w18 fun w19 =>
ld1 (.i .i64) p14 w19 fun x20 =>
brB (x20 == 1) (
ldN [(.i .i64), (.i .i64), (.i .i64)] p17 0 w19 fun x21 =>
ld1 (.i .i64) (p14.add 3) w19 fun x22 =>
ld1 (.i .u16) (p14.add 4) w19 fun x23 =>
ld1 (.i .u16) (p14.add 5) w19 fun x24 =>
ld1 (.i .i64) (p14.add 6) w19 fun x25 =>
ld1 (.i .i64) (p14.add 7) w19 fun x26 =>
alK [.int .i64 x21.1, .int .i64 x21.2.1, .int .i64 x21.2.2.1, .int .i64 1, .int .i64 x22, .int .i64 63, .int .i64 2, .int .i64 (IntKind.wrap .i64 x23), .int .i64 65535, .int .i64 2, .int .i64 (IntKind.wrap .i64 x24), .int .i64 65535, .int .i64 1, .int .i64 x25, .int .i64 63, .int .i64 8, .int .i64 x26, .int .i64 1125899906842624] T.ref05_Field w19 fun p27 w28 =>
R (((some p27, 6, 6), ()), ()) w28) (
brB (x20 == 2) (
ldN [(.i .i64), (.i .i64), (.i .i64)] p17 0 w19 fun x29 =>
ld1 (.i .i64) (p14.add 8) w19 fun x30 =>
alK [.int .i64 x29.1, .int .i64 x29.2.1, .int .i64 x29.2.2.1, .int .i64 1, .int .i64 x30, .int .i64 63] T.ref05_Field w19 fun p31 w32 =>
R (((some p31, 2, 2), ()), ()) w32) (
brB (x20 == 3) (
ldN [(.i .i64), (.i .i64), (.i .i64)] p17 0 w19 fun x33 =>
alK [.int .i64 x33.1, .int .i64 x33.2.1, .int .i64 x33.2.2.1] T.ref05_Field w19 fun p34 w35 =>
R (((some p34, 1, 1), ()), ()) w35) (
brB (x20 == 4) (
ldN [(.i .i64), (.i .i64), (.i .i64)] p17 0 w19 fun x36 =>
ld1 (.i .i64) (p14.add 2) w19 fun x37 =>
ld1 (.i .i64) (p14.add 9) w19 fun x38 =>
alK [.int .i64 x36.1, .int .i64 x36.2.1, .int .i64 x36.2.2.1, .int .i64 1, .int .i64 x37, .int .i64 63, .int .i64 8, .int .i64 x38, .int .i64 1125899906842624] T.ref05_Field w19 fun p39 w40 =>
R (((some p39, 3, 3), ()), ()) w40) (
brB (x20 == 5) (
ldN [(.i .i64), (.i .i64), (.i .i64)] p17 0 w19 fun x41 =>
ld1 (.i .i64) (p14.add 2) w19 fun x42 =>
ld1 (.i .i64) (p14.add 9) w19 fun x43 =>
ld1 (.i .i64) (p14.add 10) w19 fun x44 =>
ld1 (.i .i64) (p14.add 11) w19 fun x45 =>
ld1 (.i .i64) (p14.add 3) w19 fun x46 =>
ld1 (.i .u16) (p14.add 4) w19 fun x47 =>
ld1 (.i .i64) (p14.add 6) w19 fun x48 =>
alK [.int .i64 x41.1, .int .i64 x41.2.1, .int .i64 x41.2.2.1, .int .i64 1, .int .i64 x42, .int .i64 63, .int .i64 8, .int .i64 x43, .int .i64 1125899906842624, .int .i64 8, .int .i64 x44, .int .i64 1125899906842624, .int .i64 8, .int .i64 x45, .int .i64 1125899906842624, .int .i64 1, .int .i64 x46, .int .i64 63, .int .i64 2, .int .i64 (IntKind.wrap .i64 x47), .int .i64 65535, .int .i64 1, .int .i64 x48, .int .i64 63] T.ref05_Field w19 fun p49 w50 =>
R (((some p49, 8, 8), ()), ()) w50) (
brB (x20 == 6) (
ldN [(.i .i64), (.i .i64), (.i .i64)] p17 0 w19 fun x51 =>
ld1 (.i .u16) (p14.add 5) w19 fun x52 =>
ld1 (.i .i64) (p14.add 3) w19 fun x53 =>
ld1 (.i .u16) (p14.add 4) w19 fun x54 =>
ld1 (.i .i64) (p14.add 12) w19 fun x55 =>
ld1 (.i .i64) (p14.add 13) w19 fun x56 =>
alK [.int .i64 x51.1, .int .i64 x51.2.1, .int .i64 x51.2.2.1, .int .i64 2, .int .i64 (IntKind.wrap .i64 x52), .int .i64 65535, .int .i64 1, .int .i64 x53, .int .i64 63, .int .i64 2, .int .i64 (IntKind.wrap .i64 x54), .int .i64 65535, .int .i64 8, .int .i64 x55, .int .i64 1125899906842624, .int .i64 8, .int .i64 x56, .int .i64 1125899906842624] T.ref05_Field w19 fun p57 w58 =>
R (((some p57, 6, 6), ()), ()) w58) (
R (((none, 0, 0), ()), ()) w19))))))
set_option maxRecDepth 100000 in
theorem ref05_Fields.eq (p0 : Int) (p1 : Int) (p2 : Int) (p3 : Int) (p4 : Int) (p5 : Int) (p6 : Int) (p7 : Int) (p8 : Int) (p9 : Int) (p10 : Int) (p11 : Int) (p12 : Int) (p13 : Int) (w : World) (R : Value → World → Prop) : wpF Tryz.prog Tryz.f80 .n [.agg #[.int .i64 p0, .int .i64 p1, .int .i64 p2, .int .i64 p3, .int .u16 p4, .int .u16 p5, .int .i64 p6, .int .i64 p7, .int .i64 p8, .int .i64 p9, .int .i64 p10, .int .i64 p11, .int .i64 p12, .int .i64 p13]] w R = ref05_Fields.wp p0 p1 p2 p3 p4 p5 p6 p7 p8 p9 p10 p11 p12 p13 w (fun r w => R (encR false [(false, [.sl])] r) w) := by kernel_rfl
set_option maxRecDepth 100000 in
theorem ref05_Fields.ok {p0 : Int} {p1 : Int} {p2 : Int} {p3 : Int} {p4 : Int} {p5 : Int} {p6 : Int} {p7 : Int} {p8 : Int} {p9 : Int} {p10 : Int} {p11 : Int} {p12 : Int} {p13 : Int} {w : World} {R : TR [(false, [.sl])] → World → Prop} (h : ref05_Fields.wp p0 p1 p2 p3 p4 p5 p6 p7 p8 p9 p10 p11 p12 p13 w R) : clS Tryz.prog F.ref05_Fields [.agg #[.int .i64 p0, .int .i64 p1, .int .i64 p2, .int .i64 p3, .int .u16 p4, .int .u16 p5, .int .i64 p6, .int .i64 p7, .int .i64 p8, .int .i64 p9, .int .i64 p10, .int .i64 p11, .int .i64 p12, .int .i64 p13]] w false [(false, [.sl])] R :=
  ok_of Tryz_follows Tryz.func80 (fun R => ref05_Fields.wp p0 p1 p2 p3 p4 p5 p6 p7 p8 p9 p10 p11 p12 p13 w R) (ref05_Fields.eq p0 p1 p2 p3 p4 p5 p6 p7 p8 p9 p10 p11 p12 p13 w) rfl h
/-! ### ref03_Sum -/
set_option maxRecDepth 100000 in
def ref03_Sum.wp (b : Option Addr × Nat × Nat) (w : World) (R : TR [(false, [(.i .u16)])] → World → Prop) : Prop :=
clS Tryz.prog F.ref03_Goes [.int .u16 65535, .slice b.1 b.2.1 b.2.2] w false [(false, [(.i .u16)])] fun r1 w2 =>
R ((r1.1.1, ()), ()) w2
set_option maxRecDepth 100000 in
theorem ref03_Sum.eq (b : Option Addr × Nat × Nat) (w : World) (R : Value → World → Prop) : wpF Tryz.prog Tryz.f81 .n [.slice b.1 b.2.1 b.2.2] w R = ref03_Sum.wp b w (fun r w => R (encR false [(false, [(.i .u16)])] r) w) := by kernel_rfl
set_option maxRecDepth 100000 in
theorem ref03_Sum.ok {b : Option Addr × Nat × Nat} {w : World} {R : TR [(false, [(.i .u16)])] → World → Prop} (h : ref03_Sum.wp b w R) : clS Tryz.prog F.ref03_Sum [.slice b.1 b.2.1 b.2.2] w false [(false, [(.i .u16)])] R :=
  ok_of Tryz_follows Tryz.func81 (fun R => ref03_Sum.wp b w R) (ref03_Sum.eq b w) rfl h
/-! ### flood_Flood_Time -/
set_option maxRecDepth 100000 in
def flood_Flood_Time.wp (f : Option Addr) (local_ : Int) (w : World) (R : TR [(false, [(.i .i64)]), (false, [(.i .i64)]), (false, [(.i .i64)])] → World → Prop) : Prop :=
brB (Option.isNone f) (
R ((0, ()), (0, ()), (2, ()), ()) w) (
clS Tryz.prog F.flood_Flood_Synced [.pointer f] w false [(false, [.b])] fun r1 w2 =>
brB (!r1.1.1) (
R ((0, ()), (0, ()), (9, ()), ()) w2) (
CutT (fun (J3 : ((Bool) × Unit) → World → Prop) =>
brB (decide (local_ < 0)) (
J3 (true, ()) w2) (
J3 (decide (local_ > 1125899906842624), ()) w2)) (fun (z4 : (Bool) × Unit) w5 => ∀ _ : Nat → Value,
brB z4.1 (
R ((0, ()), (0, ()), (8, ()), ()) w5) (
ncK f fun a6 =>
ld1 .p a6 w5 fun x7 =>
clS Tryz.prog F.elect_Elect_Mine [.pointer x7] w5 false [(false, [.b])] fun r8 w9 =>
brB r8.1.1 (
R ((local_, ()), (0, ()), (0, ()), ()) w9) (
CutT (fun (J10 : ((Addr) × Unit) → World → Prop) =>
drK w9 fun w13 =>
ncK f fun a14 =>
ld1 (.i .i64) ((a14.add 2).add 3) w13 fun x15 =>
ncK f fun a16 =>
(
clS Tryz.prog F.globe_Of [.int .i64 x15, .pointer (some (a16.add 6))] w13 true [(true, [(.i .i64), (.i .i64), (.i .i64), (.i .i64), (.i .i64)]), (false, [.b])] fun r17 w18 =>
Hold [(4, ((a14.add 2).add 3), (w13.cell? ((a14.add 2).add 3)).getD undef)] w18 ∧ (
alK [.int .i64 0, .int .i64 0, .int .i64 0, .int .i64 0, .int .i64 0] T.globe_Map w18 fun p19 w20 =>
Hold [(4, ((a14.add 2).add 3), (w13.cell? ((a14.add 2).add 3)).getD undef)] w20 ∧ (
stN [.int .i64 r17.1.1, .int .i64 r17.1.2.1, .int .i64 r17.1.2.2.1, .int .i64 r17.1.2.2.2.1, .int .i64 r17.1.2.2.2.2.1] p19 0 w20 fun w21 =>
Hold [] w21 ∧ (
J10 (p19, ()) w21)))) ∧ (
alK [.int .i64 0, .int .i64 0, .int .i64 0, .int .i64 0, .int .i64 0] T.globe_Map w13 fun p22 w23 =>
Hold [(4, ((a14.add 2).add 3), (w13.cell? ((a14.add 2).add 3)).getD undef)] w23 ∧ (
clS Tryz.prog F.globe_Of [.int .i64 x15, .pointer (some (a16.add 6))] w23 true [(true, [(.i .i64), (.i .i64), (.i .i64), (.i .i64), (.i .i64)]), (false, [.b])] fun r24 w25 =>
Hold [] w25 ∧ (
stN [.int .i64 r24.1.1, .int .i64 r24.1.2.1, .int .i64 r24.1.2.2.1, .int .i64 r24.1.2.2.2.1, .int .i64 r24.1.2.2.2.2.1] p22 0 w25 fun w26 =>
Hold [] w26 ∧ (
J10 (p22, ()) w26))))) (fun (z11 : (Addr) × Unit) w12 => ∀ _ : Nat → Value,
ldN [(.i .i64), (.i .i64), (.i .i64), (.i .i64), (.i .i64)] z11.1 0 w12 fun x27 =>
clS Tryz.prog F.globe_Map_Global [.agg #[.int .i64 x27.1, .int .i64 x27.2.1, .int .i64 x27.2.2.1, .int .i64 x27.2.2.2.1, .int .i64 x27.2.2.2.2.1], .int .i64 local_] w12 true [(false, [(.i .i64)]), (false, [.b])] fun r28 w29 =>
brB (!r28.2.1.1) (
R ((0, ()), (0, ()), (8, ()), ()) w29) (
drK w29 fun w30 =>
ld1 (.i .i64) (z11.1.add 4) w30 fun x31 =>
R ((r28.1.1, ()), (x31, ()), (0, ()), ()) w30)))))))
set_option maxRecDepth 100000 in
theorem flood_Flood_Time.eq (f : Option Addr) (local_ : Int) (w : World) (R : Value → World → Prop) : wpF Tryz.prog Tryz.f85 (.s .n (.s (.s .n (.s .n (.s .n (.s .n (.ct [(18, .b)] .n .n))))) (.ct [(7, .a)] (.pl (.tk 0 (.tk 1 (.tk 2 (.tk 3 (.tk 4 (.tk 5 (.tk 6 (.tk 7 (.two 8 12 (.tk 9 (.tk 10 (.tk 11 (.ef 12 [] (.ef 13 [4] (.tk 14 .z)))))) (.ef 8 [4] (.tk 9 (.tk 10 (.tk 11 (.ef 13 [] (.tk 14 .z)))))))))))))))) (.s .n (.s .n (.s (.pl (.tk 0 (.tk 1 (.tk 2 (.tk 3 (.tk 4 (.tk 5 .z))))))) .n)))))) [.pointer f, .int .i64 local_] w R = flood_Flood_Time.wp f local_ w (fun r w => R (encR true [(false, [(.i .i64)]), (false, [(.i .i64)]), (false, [(.i .i64)])] r) w) := by kernel_rfl
set_option maxRecDepth 100000 in
theorem flood_Flood_Time.ok {f : Option Addr} {local_ : Int} {w : World} {R : TR [(false, [(.i .i64)]), (false, [(.i .i64)]), (false, [(.i .i64)])] → World → Prop} (h : flood_Flood_Time.wp f local_ w R) : clS Tryz.prog F.flood_Flood_Time [.pointer f, .int .i64 local_] w true [(false, [(.i .i64)]), (false, [(.i .i64)]), (false, [(.i .i64)])] R :=
  ok_of Tryz_follows Tryz.func85 (fun R => flood_Flood_Time.wp f local_ w R) (flood_Flood_Time.eq f local_ w) rfl h
/-! ### source_Source_Time -/
set_option maxRecDepth 100000 in
def source_Source_Time.wp (s : Option Addr) (f : Option Addr) (local_ : Int) (w : World) (R : TR [(true, [(.i .i64), (.i .i64), (.i .i64), (.i .u16), (.i .i64)]), (false, [(.i .i64)])] → World → Prop) : Prop :=
alK [.int .i64 0, .int .i64 0, .int .i64 0, .int .u16 0, .int .i64 0] T.source_Answer w fun p1 w2 =>
CutT (fun (J3 : ((Bool) × Unit) → World → Prop) =>
brB (Option.isNone s) (
J3 (true, ()) w2) (
J3 ((Option.isNone f), ()) w2)) (fun (z4 : (Bool) × Unit) w5 => ∀ _ : Nat → Value,
brB z4.1 (
stN [.int .i64 0, .int .i64 0, .int .i64 0, .int .u16 0, .int .i64 0] p1 0 w5 fun w6 =>
ldN [(.i .i64), (.i .i64), (.i .i64), (.i .u16), (.i .i64)] p1 0 w6 fun x7 =>
R ((x7.1, x7.2.1, x7.2.2.1, x7.2.2.2.1, x7.2.2.2.2.1, ()), (2, ()), ()) w6) (
clS Tryz.prog F.flood_Flood_Synced [.pointer f] w5 false [(false, [.b])] fun r8 w9 =>
brB r8.1.1 (
clS Tryz.prog F.source_flooded [.pointer f, .int .i64 local_] w9 true [(true, [(.i .i64), (.i .i64), (.i .i64), (.i .u16), (.i .i64)]), (false, [(.i .i64)])] fun r10 w11 =>
stN [.int .i64 r10.1.1, .int .i64 r10.1.2.1, .int .i64 r10.1.2.2.1, .int .u16 r10.1.2.2.2.1, .int .i64 r10.1.2.2.2.2.1] p1 0 w11 fun w12 =>
ldN [(.i .i64), (.i .i64), (.i .i64), (.i .u16), (.i .i64)] p1 0 w12 fun x13 =>
R ((x13.1, x13.2.1, x13.2.2.1, x13.2.2.2.1, x13.2.2.2.2.1, ()), (r10.2.1.1, ()), ()) w12) (
ncK s fun a14 =>
ld1 .b (a14.add 7) w9 fun x15 =>
brB (!x15) (
stN [.int .i64 0, .int .i64 0, .int .i64 0, .int .u16 0, .int .i64 0] p1 0 w9 fun w16 =>
ldN [(.i .i64), (.i .i64), (.i .i64), (.i .u16), (.i .i64)] p1 0 w16 fun x17 =>
R ((x17.1, x17.2.1, x17.2.2.1, x17.2.2.2.1, x17.2.2.2.2.1, ()), (9, ()), ()) w16) (
brB (decide (local_ < 0)) (
stN [.int .i64 0, .int .i64 0, .int .i64 0, .int .u16 0, .int .i64 0] p1 0 w9 fun w18 =>
ldN [(.i .i64), (.i .i64), (.i .i64), (.i .u16), (.i .i64)] p1 0 w18 fun x19 =>
R ((x19.1, x19.2.1, x19.2.2.1, x19.2.2.2.1, x19.2.2.2.2.1, ()), (8, ()), ()) w18) (
brB (decide (local_ > 1125899906842624)) (
stN [.int .i64 0, .int .i64 0, .int .i64 0, .int .u16 0, .int .i64 0] p1 0 w9 fun w20 =>
ldN [(.i .i64), (.i .i64), (.i .i64), (.i .u16), (.i .i64)] p1 0 w20 fun x21 =>
R ((x21.1, x21.2.1, x21.2.2.1, x21.2.2.2.1, x21.2.2.2.2.1, ()), (8, ()), ()) w20) (
ncK s fun a22 =>
ld1 (.i .i64) ((a22.add 1).add 1) w9 fun x23 =>
brB (decide ((IntKind.wrap .i64 (local_ + x23)) < 0)) (
stN [.int .i64 0, .int .i64 0, .int .i64 0, .int .u16 0, .int .i64 0] p1 0 w9 fun w24 =>
ldN [(.i .i64), (.i .i64), (.i .i64), (.i .u16), (.i .i64)] p1 0 w24 fun x25 =>
R ((x25.1, x25.2.1, x25.2.2.1, x25.2.2.2.1, x25.2.2.2.2.1, ()), (8, ()), ()) w24) (
brB (decide ((IntKind.wrap .i64 (local_ + x23)) > 1125899906842624)) (
stN [.int .i64 0, .int .i64 0, .int .i64 0, .int .u16 0, .int .i64 0] p1 0 w9 fun w26 =>
ldN [(.i .i64), (.i .i64), (.i .i64), (.i .u16), (.i .i64)] p1 0 w26 fun x27 =>
R ((x27.1, x27.2.1, x27.2.2.1, x27.2.2.2.1, x27.2.2.2.2.1, ()), (8, ()), ()) w26) (
drK w9 fun w28 =>
ncK s fun a29 =>
ld1 (.i .i64) ((a29.add 1).add 2) w28 fun x30 =>
ncK s fun a31 =>
ldN [(.i .i64), (.i .u16)] (a31.add 4) 0 w28 fun x32 =>
stN [.int .i64 (IntKind.wrap .i64 (local_ + x23)), .int .i64 x30, .int .i64 x32.1, .int .u16 x32.2.1, .int .i64 3] p1 0 w28 fun w33 =>
Hold [] w33 ∧ (
ldN [(.i .i64), (.i .i64), (.i .i64), (.i .u16), (.i .i64)] p1 0 w33 fun x34 =>
R ((x34.1, x34.2.1, x34.2.2.1, x34.2.2.2.1, x34.2.2.2.2.1, ()), (0, ()), ()) w33)))))))))
set_option maxRecDepth 100000 in
theorem source_Source_Time.eq (s : Option Addr) (f : Option Addr) (local_ : Int) (w : World) (R : Value → World → Prop) : wpF Tryz.prog Tryz.f89 (.s .n (.s (.ct [(9, .b)] .n .n) (.s .n (.s .n (.s (.pl (.tk 0 (.tk 1 (.tk 2 (.tk 3 (.tk 4 (.tk 5 (.tk 6 (.tk 7 (.tk 8 (.tk 9 (.tk 10 (.ef 11 [5, 9] (.tk 12 .z)))))))))))))) .n))))) [.pointer s, .pointer f, .int .i64 local_] w R = source_Source_Time.wp s f local_ w (fun r w => R (encR true [(true, [(.i .i64), (.i .i64), (.i .i64), (.i .u16), (.i .i64)]), (false, [(.i .i64)])] r) w) := by kernel_rfl
set_option maxRecDepth 100000 in
theorem source_Source_Time.ok {s : Option Addr} {f : Option Addr} {local_ : Int} {w : World} {R : TR [(true, [(.i .i64), (.i .i64), (.i .i64), (.i .u16), (.i .i64)]), (false, [(.i .i64)])] → World → Prop} (h : source_Source_Time.wp s f local_ w R) : clS Tryz.prog F.source_Source_Time [.pointer s, .pointer f, .int .i64 local_] w true [(true, [(.i .i64), (.i .i64), (.i .i64), (.i .u16), (.i .i64)]), (false, [(.i .i64)])] R :=
  ok_of Tryz_follows Tryz.func89 (fun R => source_Source_Time.wp s f local_ w R) (source_Source_Time.eq s f local_ w) rfl h
/-! ### elect_Elect_Mark -/
set_option maxRecDepth 100000 in
def elect_Elect_Mark.wp (e : Option Addr) (w : World) (R : TR [(true, [(.i .u16), (.i .u16)]), (false, [.b])] → World → Prop) : Prop :=
alK [.int .u16 0, .int .u16 0] T.elect_Mark w fun p1 w2 =>
CutT (fun (J3 : ((Bool) × Unit) → World → Prop) =>
brB (Option.isNone e) (
J3 (true, ()) w2) (
ncK e fun a6 =>
ld1 (.i .i64) (a6.add 5) w2 fun x7 =>
J3 (decide (x7 < 0), ()) w2)) (fun (z4 : (Bool) × Unit) w5 => ∀ _ : Nat → Value,
brB z4.1 (
stN [.int .u16 0, .int .u16 0] p1 0 w5 fun w8 =>
ldN [(.i .u16), (.i .u16)] p1 0 w8 fun x9 =>
R ((x9.1, x9.2.1, ()), (false, ()), ()) w8) (
clS Tryz.prog F.elect_Elect_Mine [.pointer e] w5 false [(false, [.b])] fun r10 w11 =>
brB r10.1.1 (
drK w11 fun w12 =>
ncK e fun a13 =>
ld1 (.i .u16) (a13.add 3) w12 fun x14 =>
ncK e fun a15 =>
ld1 (.i .u16) (a15.add 4) w12 fun x16 =>
ncK e fun a17 =>
ld1 (.i .u16) (a17.add 4) w12 fun x18 =>
stN [.int .u16 x14, .int .u16 x16] p1 0 w12 fun w19 =>
Hold [(12, (a17.add 4), (w12.cell? (a17.add 4)).getD undef)] w19 ∧ (
ldN [(.i .u16), (.i .u16)] p1 0 w19 fun x20 =>
R ((x20.1, x20.2.1, ()), (decide (x18 > 0), ()), ()) w19)) (
drK w11 fun w21 =>
ncK e fun a22 =>
ld1 .m (a22.add 8) w21 fun x23 =>
ncK e fun a24 =>
ld1 (.i .i64) (a24.add 5) w21 fun x25 =>
lkP Tryz.prog T.map_int_elect_Mark (.map x23) (.int .i64 x25) w21 true [(.i .u16), (.i .u16)] fun x26 =>
Hold [] w21 ∧ (
stN [.int .u16 x26.1, .int .u16 x26.2.1] p1 0 w21 fun w27 =>
Hold [] w27 ∧ (
ldN [(.i .u16), (.i .u16)] p1 0 w27 fun x28 =>
R ((x28.1, x28.2.1, ()), (true, ()), ()) w27)))))
set_option maxRecDepth 100000 in
theorem elect_Elect_Mark.eq (e : Option Addr) (w : World) (R : Value → World → Prop) : wpF Tryz.prog Tryz.f93 (.s .n (.s (.ct [(4, .b)] .n (.s .n (.s .n (.s (.s (.pl (.tk 0 (.tk 1 (.tk 2 (.tk 3 (.tk 4 (.tk 5 (.tk 6 (.tk 7 (.tk 8 (.tk 9 (.tk 10 (.tk 11 (.tk 12 (.tk 13 (.ef 14 [3, 7] (.tk 15 .z))))))))))))))))) .n) .n)))) (.s (.pl (.tk 0 (.tk 1 (.tk 2 (.tk 3 (.tk 4 (.tk 5 (.tk 6 (.tk 7 (.ef 8 [3, 7] (.ef 9 [] (.tk 10 .z)))))))))))) .n))) [.pointer e] w R = elect_Elect_Mark.wp e w (fun r w => R (encR true [(true, [(.i .u16), (.i .u16)]), (false, [.b])] r) w) := by kernel_rfl
set_option maxRecDepth 100000 in
theorem elect_Elect_Mark.ok {e : Option Addr} {w : World} {R : TR [(true, [(.i .u16), (.i .u16)]), (false, [.b])] → World → Prop} (h : elect_Elect_Mark.wp e w R) : clS Tryz.prog F.elect_Elect_Mark [.pointer e] w true [(true, [(.i .u16), (.i .u16)]), (false, [.b])] R :=
  ok_of Tryz_follows Tryz.func93 (fun R => elect_Elect_Mark.wp e w R) (elect_Elect_Mark.eq e w) rfl h
/-! ### tick_Clock_Fits -/
set_option maxRecDepth 100000 in
def tick_Clock_Fits.wp (c : Option Addr) (ticks : Int) (w : World) (R : TR [(false, [.b])] → World → Prop) : Prop :=
brB (!(Option.isNone c)) (
ncK c fun a1 =>
ld1 (.i .i64) a1 w fun x2 =>
brB (decide (ticks ≥ (IntKind.wrap .i64 (1000 - x2)))) (
ncK c fun a3 =>
ld1 (.i .i64) a3 w fun x4 =>
R ((decide (ticks ≤ (IntKind.wrap .i64 (1000 + x4))), ()), ()) w) (
R ((false, ()), ()) w)) (
R ((false, ()), ()) w)
set_option maxRecDepth 100000 in
theorem tick_Clock_Fits.eq (c : Option Addr) (ticks : Int) (w : World) (R : Value → World → Prop) : wpF Tryz.prog Tryz.f94 .n [.pointer c, .int .i64 ticks] w R = tick_Clock_Fits.wp c ticks w (fun r w => R (encR false [(false, [.b])] r) w) := by kernel_rfl
set_option maxRecDepth 100000 in
theorem tick_Clock_Fits.ok {c : Option Addr} {ticks : Int} {w : World} {R : TR [(false, [.b])] → World → Prop} (h : tick_Clock_Fits.wp c ticks w R) : clS Tryz.prog F.tick_Clock_Fits [.pointer c, .int .i64 ticks] w false [(false, [.b])] R :=
  ok_of Tryz_follows Tryz.func94 (fun R => tick_Clock_Fits.wp c ticks w R) (tick_Clock_Fits.eq c ticks w) rfl h
/-! ### anchor_Book_Make -/
set_option maxRecDepth 100000 in
def anchor_Book_Make.wp (b : Option Addr) (me : Int) (t0 : Int) (t1 : Int) (t2 : Int) (t3 : Int) (t4 : Int) (tai : Int) (w : World) (R : TR [(true, [(.i .i64), (.i .u16), (.i .i64), (.i .u16), (.i .i64), (.i .i64)]), (false, [(.i .i64)])] → World → Prop) : Prop :=
alK [.int .i64 t0, .int .i64 t1, .int .i64 t2, .int .u16 t3, .int .i64 t4] T.source_Answer w fun p1 w2 =>
alK [.int .i64 0, .int .u16 0, .int .i64 0, .int .u16 0, .int .i64 0, .int .i64 0] T.frame_Anchor w2 fun p3 w4 =>
brB (Option.isNone b) (
stN [.int .i64 0, .int .u16 0, .int .i64 0, .int .u16 0, .int .i64 0, .int .i64 0] p3 0 w4 fun w5 =>
ldN [(.i .i64), (.i .u16), (.i .i64), (.i .u16), (.i .i64), (.i .i64)] p3 0 w5 fun x6 =>
R ((x6.1, x6.2.1, x6.2.2.1, x6.2.2.2.1, x6.2.2.2.2.1, x6.2.2.2.2.2.1, ()), (2, ()), ()) w5) (
CutT (fun (J7 : ((Addr) × Unit) → World → Prop) =>
drK w4 fun w10 =>
ncK b fun a11 =>
ld1 (.i .u16) ((a11.add 1).add 1) w10 fun x12 =>
ld1 (.i .i64) (p1.add 2) w10 fun x13 =>
ld1 (.i .u16) ((p1.add 2).add 1) w10 fun x14 =>
ld1 (.i .i64) p1 w10 fun x15 =>
(
clS Tryz.prog F.wrap_Next [.int .u16 x12] w10 false [(false, [(.i .u16)])] fun r16 w17 =>
Hold [(14, p1, (w10.cell? p1).getD undef), (12, ((p1.add 2).add 1), (w10.cell? ((p1.add 2).add 1)).getD undef), (9, (p1.add 2), (w10.cell? (p1.add 2)).getD undef), (5, ((a11.add 1).add 1), (w10.cell? ((a11.add 1).add 1)).getD undef)] w17 ∧ (
alK [.int .i64 0, .int .u16 0, .int .i64 0, .int .u16 0, .int .i64 0, .int .i64 0] T.frame_Anchor w17 fun p18 w19 =>
Hold [(14, p1, (w10.cell? p1).getD undef), (12, ((p1.add 2).add 1), (w10.cell? ((p1.add 2).add 1)).getD undef), (9, (p1.add 2), (w10.cell? (p1.add 2)).getD undef), (5, ((a11.add 1).add 1), (w10.cell? ((a11.add 1).add 1)).getD undef)] w19 ∧ (
stN [.int .i64 me, .int .u16 r16.1.1, .int .i64 x13, .int .u16 x14, .int .i64 x15, .int .i64 tai] p18 0 w19 fun w20 =>
Hold [] w20 ∧ (
J7 (p18, ()) w20)))) ∧ (
alK [.int .i64 0, .int .u16 0, .int .i64 0, .int .u16 0, .int .i64 0, .int .i64 0] T.frame_Anchor w10 fun p21 w22 =>
Hold [(14, p1, (w10.cell? p1).getD undef), (12, ((p1.add 2).add 1), (w10.cell? ((p1.add 2).add 1)).getD undef), (9, (p1.add 2), (w10.cell? (p1.add 2)).getD undef), (5, ((a11.add 1).add 1), (w10.cell? ((a11.add 1).add 1)).getD undef)] w22 ∧ (
clS Tryz.prog F.wrap_Next [.int .u16 x12] w22 false [(false, [(.i .u16)])] fun r23 w24 =>
Hold [(14, p1, (w10.cell? p1).getD undef), (12, ((p1.add 2).add 1), (w10.cell? ((p1.add 2).add 1)).getD undef), (9, (p1.add 2), (w10.cell? (p1.add 2)).getD undef)] w24 ∧ (
stN [.int .i64 me, .int .u16 r23.1.1, .int .i64 x13, .int .u16 x14, .int .i64 x15, .int .i64 tai] p21 0 w24 fun w25 =>
Hold [] w25 ∧ (
J7 (p21, ()) w25))))) (fun (z8 : (Addr) × Unit) w9 => ∀ _ : Nat → Value,
ldN [(.i .i64), (.i .u16), (.i .i64), (.i .u16), (.i .i64), (.i .i64)] z8.1 0 w9 fun x26 =>
clS Tryz.prog F.frame_Good [.iface T.frame_Anchor (.agg #[.int .i64 x26.1, .int .u16 x26.2.1, .int .i64 x26.2.2.1, .int .u16 x26.2.2.2.1, .int .i64 x26.2.2.2.2.1, .int .i64 x26.2.2.2.2.2.1])] w9 false [(false, [.b])] fun r27 w28 =>
brB (!r27.1.1) (
stN [.int .i64 0, .int .u16 0, .int .i64 0, .int .u16 0, .int .i64 0, .int .i64 0] p3 0 w28 fun w29 =>
ldN [(.i .i64), (.i .u16), (.i .i64), (.i .u16), (.i .i64), (.i .i64)] p3 0 w29 fun x30 =>
R ((x30.1, x30.2.1, x30.2.2.1, x30.2.2.2.1, x30.2.2.2.2.1, x30.2.2.2.2.2.1, ()), (1, ()), ()) w29) (
drK w28 fun w31 =>
ldN [(.i .i64), (.i .u16), (.i .i64), (.i .u16), (.i .i64), (.i .i64)] z8.1 0 w31 fun x32 =>
ncK b fun a33 =>
stN [.bool true] a33 0 w31 fun w34 =>
Hold [(2, (z8.1.add 0), (w31.cell? (z8.1.add 0)).getD undef), (2, (z8.1.add 1), (w31.cell? (z8.1.add 1)).getD undef), (2, (z8.1.add 2), (w31.cell? (z8.1.add 2)).getD undef), (2, (z8.1.add 3), (w31.cell? (z8.1.add 3)).getD undef), (2, (z8.1.add 4), (w31.cell? (z8.1.add 4)).getD undef), (2, (z8.1.add 5), (w31.cell? (z8.1.add 5)).getD undef)] w34 ∧ (
ncK b fun a35 =>
stN [.int .i64 x32.1, .int .u16 x32.2.1, .int .i64 x32.2.2.1, .int .u16 x32.2.2.2.1, .int .i64 x32.2.2.2.2.1, .int .i64 x32.2.2.2.2.2.1] (a35.add 1) 0 w34 fun w36 =>
Hold [] w36 ∧ (
ldN [(.i .i64), (.i .u16), (.i .i64), (.i .u16), (.i .i64), (.i .i64)] z8.1 0 w36 fun x37 =>
stN [.int .i64 x37.1, .int .u16 x37.2.1, .int .i64 x37.2.2.1, .int .u16 x37.2.2.2.1, .int .i64 x37.2.2.2.2.1, .int .i64 x37.2.2.2.2.2.1] p3 0 w36 fun w38 =>
ldN [(.i .i64), (.i .u16), (.i .i64), (.i .u16), (.i .i64), (.i .i64)] p3 0 w38 fun x39 =>
R ((x39.1, x39.2.1, x39.2.2.1, x39.2.2.2.1, x39.2.2.2.2.1, x39.2.2.2.2.2.1, ()), (0, ()), ()) w38)))))
set_option maxRecDepth 100000 in
theorem anchor_Book_Make.eq (b : Option Addr) (me : Int) (t0 : Int) (t1 : Int) (t2 : Int) (t3 : Int) (t4 : Int) (tai : Int) (w : World) (R : Value → World → Prop) : wpF Tryz.prog Tryz.f95 (.s .n (.s .n (.ct [(10, .a)] (.pl (.tk 0 (.tk 1 (.tk 2 (.tk 3 (.tk 4 (.tk 5 (.tk 7 (.tk 8 (.tk 9 (.tk 10 (.tk 11 (.tk 12 (.tk 13 (.tk 14 (.tk 15 (.two 6 17 (.tk 16 (.ef 17 [] (.ef 18 [5, 9, 12, 14] .z))) (.ef 6 [5] (.tk 16 (.ef 18 [9, 12, 14] .z)))))))))))))))))))) (.s .n (.s (.pl (.tk 0 (.tk 1 (.tk 2 (.tk 3 (.tk 4 (.ef 5 [] (.tk 6 (.tk 7 (.ef 8 [2] .z)))))))))) .n))))) [.pointer b, .int .i64 me, .agg #[.int .i64 t0, .int .i64 t1, .int .i64 t2, .int .u16 t3, .int .i64 t4], .int .i64 tai] w R = anchor_Book_Make.wp b me t0 t1 t2 t3 t4 tai w (fun r w => R (encR true [(true, [(.i .i64), (.i .u16), (.i .i64), (.i .u16), (.i .i64), (.i .i64)]), (false, [(.i .i64)])] r) w) := by kernel_rfl
set_option maxRecDepth 100000 in
theorem anchor_Book_Make.ok {b : Option Addr} {me : Int} {t0 : Int} {t1 : Int} {t2 : Int} {t3 : Int} {t4 : Int} {tai : Int} {w : World} {R : TR [(true, [(.i .i64), (.i .u16), (.i .i64), (.i .u16), (.i .i64), (.i .i64)]), (false, [(.i .i64)])] → World → Prop} (h : anchor_Book_Make.wp b me t0 t1 t2 t3 t4 tai w R) : clS Tryz.prog F.anchor_Book_Make [.pointer b, .int .i64 me, .agg #[.int .i64 t0, .int .i64 t1, .int .i64 t2, .int .u16 t3, .int .i64 t4], .int .i64 tai] w true [(true, [(.i .i64), (.i .u16), (.i .i64), (.i .u16), (.i .i64), (.i .i64)]), (false, [(.i .i64)])] R :=
  ok_of Tryz_follows Tryz.func95 (fun R => anchor_Book_Make.wp b me t0 t1 t2 t3 t4 tai w R) (anchor_Book_Make.eq b me t0 t1 t2 t3 t4 tai w) rfl h
/-! ### ref15_Good -/
set_option maxRecDepth 100000 in
def ref15_Good.wp (me : Int) (timeout : Int) (ignore : Int) (w : World) (R : TR [(false, [.b])] → World → Prop) : Prop :=
brB (decide (me ≥ 0)) (
brB (decide (me < 64)) (
brB (decide (timeout ≥ 1)) (
brB (decide (timeout ≤ 1000)) (
brB (decide (ignore ≥ 0)) (
R ((decide (ignore ≤ 1000), ()), ()) w) (
R ((false, ()), ()) w)) (
R ((false, ()), ()) w)) (
R ((false, ()), ()) w)) (
R ((false, ()), ()) w)) (
R ((false, ()), ()) w)
set_option maxRecDepth 100000 in
theorem ref15_Good.eq (me : Int) (timeout : Int) (ignore : Int) (w : World) (R : Value → World → Prop) : wpF Tryz.prog Tryz.f97 .n [.int .i64 me, .int .i64 timeout, .int .i64 ignore] w R = ref15_Good.wp me timeout ignore w (fun r w => R (encR false [(false, [.b])] r) w) := by kernel_rfl
set_option maxRecDepth 100000 in
theorem ref15_Good.ok {me : Int} {timeout : Int} {ignore : Int} {w : World} {R : TR [(false, [.b])] → World → Prop} (h : ref15_Good.wp me timeout ignore w R) : clS Tryz.prog F.ref15_Good [.int .i64 me, .int .i64 timeout, .int .i64 ignore] w false [(false, [.b])] R :=
  ok_of Tryz_follows Tryz.func97 (fun R => ref15_Good.wp me timeout ignore w R) (ref15_Good.eq me timeout ignore w) rfl h
/-! ### flood_Rules_Good -/
set_option maxRecDepth 100000 in
def flood_Rules_Good.wp (r0 : Int) (r1 : Int) (r2 : Int) (r3 : Int) (w : World) (R : TR [(false, [.b])] → World → Prop) : Prop :=
alK [.int .i64 r0, .int .i64 r1, .int .i64 r2, .int .i64 r3] T.flood_Rules w fun p1 w2 =>
ldN [(.i .i64), (.i .i64)] p1 0 w2 fun x3 =>
clS Tryz.prog F.elect_Rules_Good [.agg #[.int .i64 x3.1, .int .i64 x3.2.1]] w2 false [(false, [.b])] fun r4 w5 =>
brB r4.1.1 (
ld1 (.i .i64) (p1.add 2) w5 fun x6 =>
brB (decide (x6 ≥ 1)) (
ld1 (.i .i64) (p1.add 2) w5 fun x7 =>
brB (decide (x7 ≤ 8)) (
ld1 (.i .i64) (p1.add 3) w5 fun x8 =>
brB (decide (x8 ≥ 0)) (
ld1 (.i .i64) (p1.add 3) w5 fun x9 =>
R ((decide (x9 ≤ 10), ()), ()) w5) (
R ((false, ()), ()) w5)) (
R ((false, ()), ()) w5)) (
R ((false, ()), ()) w5)) (
R ((false, ()), ()) w5)
set_option maxRecDepth 100000 in
theorem flood_Rules_Good.eq (r0 : Int) (r1 : Int) (r2 : Int) (r3 : Int) (w : World) (R : Value → World → Prop) : wpF Tryz.prog Tryz.f98 .n [.agg #[.int .i64 r0, .int .i64 r1, .int .i64 r2, .int .i64 r3]] w R = flood_Rules_Good.wp r0 r1 r2 r3 w (fun r w => R (encR false [(false, [.b])] r) w) := by kernel_rfl
set_option maxRecDepth 100000 in
theorem flood_Rules_Good.ok {r0 : Int} {r1 : Int} {r2 : Int} {r3 : Int} {w : World} {R : TR [(false, [.b])] → World → Prop} (h : flood_Rules_Good.wp r0 r1 r2 r3 w R) : clS Tryz.prog F.flood_Rules_Good [.agg #[.int .i64 r0, .int .i64 r1, .int .i64 r2, .int .i64 r3]] w false [(false, [.b])] R :=
  ok_of Tryz_follows Tryz.func98 (fun R => flood_Rules_Good.wp r0 r1 r2 r3 w R) (flood_Rules_Good.eq r0 r1 r2 r3 w) rfl h
/-! ### duty_Plan_Good -/
set_option maxRecDepth 100000 in
def duty_Plan_Good.wp (p0 : Int) (p1 : Int) (p2 : Int) (w : World) (R : TR [(false, [.b])] → World → Prop) : Prop :=
alK [.int .i64 p0, .int .i64 p1, .int .i64 p2] T.duty_Plan w fun p3 w4 =>
ld1 (.i .i64) p3 w4 fun x5 =>
brB (decide (x5 ≥ 1)) (
ld1 (.i .i64) p3 w4 fun x6 =>
brB (decide (x6 ≤ 64)) (
ld1 (.i .i64) (p3.add 1) w4 fun x7 =>
brB (decide (x7 ≥ 1)) (
ld1 (.i .i64) (p3.add 1) w4 fun x8 =>
ld1 (.i .i64) p3 w4 fun x9 =>
brB (decide (x8 ≤ x9)) (
ld1 (.i .i64) (p3.add 2) w4 fun x10 =>
brB (decide (x10 ≥ 0)) (
ld1 (.i .i64) (p3.add 2) w4 fun x11 =>
ld1 (.i .i64) p3 w4 fun x12 =>
R ((decide (x11 < x12), ()), ()) w4) (
R ((false, ()), ()) w4)) (
R ((false, ()), ()) w4)) (
R ((false, ()), ()) w4)) (
R ((false, ()), ()) w4)) (
R ((false, ()), ()) w4)
set_option maxRecDepth 100000 in
theorem duty_Plan_Good.eq (p0 : Int) (p1 : Int) (p2 : Int) (w : World) (R : Value → World → Prop) : wpF Tryz.prog Tryz.f99 .n [.agg #[.int .i64 p0, .int .i64 p1, .int .i64 p2]] w R = duty_Plan_Good.wp p0 p1 p2 w (fun r w => R (encR false [(false, [.b])] r) w) := by kernel_rfl
set_option maxRecDepth 100000 in
theorem duty_Plan_Good.ok {p0 : Int} {p1 : Int} {p2 : Int} {w : World} {R : TR [(false, [.b])] → World → Prop} (h : duty_Plan_Good.wp p0 p1 p2 w R) : clS Tryz.prog F.duty_Plan_Good [.agg #[.int .i64 p0, .int .i64 p1, .int .i64 p2]] w false [(false, [.b])] R :=
  ok_of Tryz_follows Tryz.func99 (fun R => duty_Plan_Good.wp p0 p1 p2 w R) (duty_Plan_Good.eq p0 p1 p2 w) rfl h
/-! ### ring_New_event_Event -/
set_option maxRecDepth 100000 in
def ring_New_event_Event.wp (room : Int) (w : World) (R : TR [(false, [.p]), (false, [(.i .i64)])] → World → Prop) : Prop :=
brB (decide (room < 1)) (
R ((none, ()), (1, ()), ()) w) (
brB (decide (room > 64)) (
R ((none, ()), (1, ()), ()) w) (
slOf ((Instr.makeSlice T.sl_event_Event (.int .i64 room) (.int .i64 room)).run Tryz.prog w) fun y1 w2 =>
alK [.slice y1.1 y1.2.1 y1.2.2, .int .i64 0, .int .i64 0] T.ring_Ring_event_Event w2 fun p3 w4 =>
R ((some p3, ()), (0, ()), ()) w4))
set_option maxRecDepth 100000 in
theorem ring_New_event_Event.eq (room : Int) (w : World) (R : Value → World → Prop) : wpF Tryz.prog Tryz.f100 .n [.int .i64 room] w R = ring_New_event_Event.wp room w (fun r w => R (encR true [(false, [.p]), (false, [(.i .i64)])] r) w) := by kernel_rfl
set_option maxRecDepth 100000 in
theorem ring_New_event_Event.ok {room : Int} {w : World} {R : TR [(false, [.p]), (false, [(.i .i64)])] → World → Prop} (h : ring_New_event_Event.wp room w R) : clS Tryz.prog F.ring_New_event_Event [.int .i64 room] w true [(false, [.p]), (false, [(.i .i64)])] R :=
  ok_of Tryz_follows Tryz.func100 (fun R => ring_New_event_Event.wp room w R) (ring_New_event_Event.eq room w) rfl h
/-! ### elect_New -/
set_option maxRecDepth 100000 in
def elect_New.wp (me : Int) (r0 : Int) (r1 : Int) (w : World) (R : TR [(false, [.p]), (false, [(.i .i64)])] → World → Prop) : Prop :=
alK [.int .i64 r0, .int .i64 r1] T.elect_Rules w fun p1 w2 =>
brB (decide (me < 0)) (
R ((none, ()), (1, ()), ()) w2) (
brB (decide (me ≥ 64)) (
R ((none, ()), (1, ()), ()) w2) (
ldN [(.i .i64), (.i .i64)] p1 0 w2 fun x3 =>
clS Tryz.prog F.elect_Rules_Good [.agg #[.int .i64 x3.1, .int .i64 x3.2.1]] w2 false [(false, [.b])] fun r4 w5 =>
brB (!r4.1.1) (
R ((none, ()), (1, ()), ()) w5) (
ldN [(.i .i64), (.i .i64)] p1 0 w5 fun x6 =>
alK [.int .i64 me, .int .i64 x6.1, .int .i64 x6.2.1, .int .u16 0, .int .u16 0, .int .i64 0, .int .i64 0, .int .i64 0, .map none] T.elect_Elect w5 fun p7 w8 =>
clS Tryz.prog F.elect_Elect_Boot [.pointer (some p7), .int .u16 0] w8 true [] fun r9 w10 =>
R ((some p7, ()), (0, ()), ()) w10)))
set_option maxRecDepth 100000 in
theorem elect_New.eq (me : Int) (r0 : Int) (r1 : Int) (w : World) (R : Value → World → Prop) : wpF Tryz.prog Tryz.f101 .n [.int .i64 me, .agg #[.int .i64 r0, .int .i64 r1]] w R = elect_New.wp me r0 r1 w (fun r w => R (encR true [(false, [.p]), (false, [(.i .i64)])] r) w) := by kernel_rfl
set_option maxRecDepth 100000 in
theorem elect_New.ok {me : Int} {r0 : Int} {r1 : Int} {w : World} {R : TR [(false, [.p]), (false, [(.i .i64)])] → World → Prop} (h : elect_New.wp me r0 r1 w R) : clS Tryz.prog F.elect_New [.int .i64 me, .agg #[.int .i64 r0, .int .i64 r1]] w true [(false, [.p]), (false, [(.i .i64)])] R :=
  ok_of Tryz_follows Tryz.func101 (fun R => elect_New.wp me r0 r1 w R) (elect_New.eq me r0 r1 w) rfl h
/-! ### elect_Elect_Boot -/
set_option maxRecDepth 100000 in
def elect_Elect_Boot.wp (e : Option Addr) (boot : Int) (w : World) (R : TR [] → World → Prop) : Prop :=
brB (!(Option.isNone e)) (
drK w fun w1 =>
ncK e fun a2 =>
ld1 (.i .i64) a2 w1 fun x3 =>
ncK e fun a4 =>
ldN [(.i .i64), (.i .i64)] (a4.add 1) 0 w1 fun x5 =>
maK Tryz.prog T.map_int_elect_Mark w1 fun m6 w7 =>
Hold [(8, ((a4.add 1).add 0), (w1.cell? ((a4.add 1).add 0)).getD undef), (8, ((a4.add 1).add 1), (w1.cell? ((a4.add 1).add 1)).getD undef), (4, a2, (w1.cell? a2).getD undef)] w7 ∧ (
ncK e fun a8 =>
stN [.int .i64 x3, .int .i64 x5.1, .int .i64 x5.2.1, .int .u16 boot, .int .u16 0, .int .i64 (Int.negSucc 0), .int .i64 0, .int .i64 0, .map (some m6)] a8 0 w7 fun w9 =>
Hold [] w9 ∧ (
R (()) w9))) (
R (()) w)
set_option maxRecDepth 100000 in
theorem elect_Elect_Boot.eq (e : Option Addr) (boot : Int) (w : World) (R : Value → World → Prop) : wpF Tryz.prog Tryz.f102 (.s .n (.s (.pl (.tk 0 (.tk 1 (.tk 2 (.tk 3 (.tk 4 (.tk 5 (.tk 6 (.tk 7 (.tk 8 (.tk 9 (.ef 10 [] (.tk 11 (.tk 12 (.ef 13 [4, 8] .z))))))))))))))) .n)) [.pointer e, .int .u16 boot] w R = elect_Elect_Boot.wp e boot w (fun r w => R (encR true [] r) w) := by kernel_rfl
set_option maxRecDepth 100000 in
theorem elect_Elect_Boot.ok {e : Option Addr} {boot : Int} {w : World} {R : TR [] → World → Prop} (h : elect_Elect_Boot.wp e boot w R) : clS Tryz.prog F.elect_Elect_Boot [.pointer e, .int .u16 boot] w true [] R :=
  ok_of Tryz_follows Tryz.func102 (fun R => elect_Elect_Boot.wp e boot w R) (elect_Elect_Boot.eq e boot w) rfl h
/-! ### flood_Flood_forget -/
set_option maxRecDepth 100000 in
def flood_Flood_forget.wp (f : Option Addr) (w : World) (R : TR [] → World → Prop) : Prop :=
ncK f fun a1 =>
clS Tryz.prog F.table_Table_Clear [.pointer (some (a1.add 6))] w true [] fun r2 w3 =>
ncK f fun a4 =>
stN [.int .i64 0, .int .i64 0, .int .i64 0] (a4.add 7) 0 w3 fun w5 =>
R (()) w5
set_option maxRecDepth 100000 in
theorem flood_Flood_forget.eq (f : Option Addr) (w : World) (R : Value → World → Prop) : wpF Tryz.prog Tryz.f103 .n [.pointer f] w R = flood_Flood_forget.wp f w (fun r w => R (encR true [] r) w) := by kernel_rfl
set_option maxRecDepth 100000 in
theorem flood_Flood_forget.ok {f : Option Addr} {w : World} {R : TR [] → World → Prop} (h : flood_Flood_forget.wp f w R) : clS Tryz.prog F.flood_Flood_forget [.pointer f] w true [] R :=
  ok_of Tryz_follows Tryz.func103 (fun R => flood_Flood_forget.wp f w R) (flood_Flood_forget.eq f w) rfl h
/-! ### ring_Ring_event_Event_Clear -/
set_option maxRecDepth 100000 in
def ring_Ring_event_Event_Clear.wp (r : Option Addr) (w : World) (R : TR [] → World → Prop) : Prop :=
brB (!(Option.isNone r)) (
ncK r fun a1 =>
ld1 .sl a1 w fun x2 =>
crK Tryz.prog #[T.sl_event_Event] T.t0 (.slice x2.1 x2.2.1 x2.2.2) w fun w3 =>
ncK r fun a4 =>
stN [.int .i64 0] (a4.add 1) 0 w3 fun w5 =>
ncK r fun a6 =>
stN [.int .i64 0] (a6.add 2) 0 w5 fun w7 =>
R (()) w7) (
R (()) w)
set_option maxRecDepth 100000 in
theorem ring_Ring_event_Event_Clear.eq (r : Option Addr) (w : World) (R : Value → World → Prop) : wpF Tryz.prog Tryz.f104 .n [.pointer r] w R = ring_Ring_event_Event_Clear.wp r w (fun r w => R (encR true [] r) w) := by kernel_rfl
set_option maxRecDepth 100000 in
theorem ring_Ring_event_Event_Clear.ok {r : Option Addr} {w : World} {R : TR [] → World → Prop} (h : ring_Ring_event_Event_Clear.wp r w R) : clS Tryz.prog F.ring_Ring_event_Event_Clear [.pointer r] w true [] R :=
  ok_of Tryz_follows Tryz.func104 (fun R => ring_Ring_event_Event_Clear.wp r w R) (ring_Ring_event_Event_Clear.eq r w) rfl h
/-! ### wrap_Extend -/
set_option maxRecDepth 100000 in
def wrap_Extend.wp (last : Int) (raw : Int) (w : World) (R : TR [(false, [(.i .i64)]), (false, [.b])] → World → Prop) : Prop :=
brB (decide (last < 0)) (
R ((0, ()), (false, ()), ()) w) (
brB (decide (last > 1125899906842624)) (
R ((0, ()), (false, ()), ()) w) (
brB (decide ((IntKind.wrap .i64 (last + (IntKind.wrap .i64 (IntKind.wrap .u32 (raw - (IntKind.wrap .u32 last)))))) > 1125899906842624)) (
R ((0, ()), (false, ()), ()) w) (
R ((IntKind.wrap .i64 (last + (IntKind.wrap .i64 (IntKind.wrap .u32 (raw - (IntKind.wrap .u32 last))))), ()), (true, ()), ()) w)))
set_option maxRecDepth 100000 in
theorem wrap_Extend.eq (last : Int) (raw : Int) (w : World) (R : Value → World → Prop) : wpF Tryz.prog Tryz.f105 .n [.int .i64 last, .int .u32 raw] w R = wrap_Extend.wp last raw w (fun r w => R (encR true [(false, [(.i .i64)]), (false, [.b])] r) w) := by kernel_rfl
set_option maxRecDepth 100000 in
theorem wrap_Extend.ok {last : Int} {raw : Int} {w : World} {R : TR [(false, [(.i .i64)]), (false, [.b])] → World → Prop} (h : wrap_Extend.wp last raw w R) : clS Tryz.prog F.wrap_Extend [.int .i64 last, .int .u32 raw] w true [(false, [(.i .i64)]), (false, [.b])] R :=
  ok_of Tryz_follows Tryz.func105 (fun R => wrap_Extend.wp last raw w R) (wrap_Extend.eq last raw w) rfl h
/-! ### fix_Clamp -/
set_option maxRecDepth 100000 in
def fix_Clamp.wp (x : Int) (low : Int) (high : Int) (w : World) (R : TR [(false, [(.i .i64)])] → World → Prop) : Prop :=
R (((if low > (if high < x then high else x) then low else (if high < x then high else x)), ()), ()) w
set_option maxRecDepth 100000 in
theorem fix_Clamp.eq (x : Int) (low : Int) (high : Int) (w : World) (R : Value → World → Prop) : wpF Tryz.prog Tryz.f106 .n [.int .i64 x, .int .i64 low, .int .i64 high] w R = fix_Clamp.wp x low high w (fun r w => R (encR false [(false, [(.i .i64)])] r) w) := by kernel_rfl
set_option maxRecDepth 100000 in
theorem fix_Clamp.ok {x : Int} {low : Int} {high : Int} {w : World} {R : TR [(false, [(.i .i64)])] → World → Prop} (h : fix_Clamp.wp x low high w R) : clS Tryz.prog F.fix_Clamp [.int .i64 x, .int .i64 low, .int .i64 high] w false [(false, [(.i .i64)])] R :=
  ok_of Tryz_follows Tryz.func106 (fun R => fix_Clamp.wp x low high w R) (fix_Clamp.eq x low high w) rfl h
/-! ### elect_Elect_Beat -/
set_option maxRecDepth 100000 in
def elect_Elect_Beat.wp (e : Option Addr) (w : World) (R : TR [(false, [.b])] → World → Prop) : Prop :=
brB (Option.isNone e) (
R ((false, ()), ()) w) (
clS Tryz.prog F.elect_Elect_Mine [.pointer e] w false [(false, [.b])] fun r1 w2 =>
brB r1.1.1 (
ncK e fun a3 =>
ld1 (.i .i64) (a3.add 7) w2 fun x4 =>
ncK e fun a5 =>
stN [.int .i64 (if 0 > (IntKind.wrap .i64 (x4 - 1)) then 0 else (IntKind.wrap .i64 (x4 - 1)))] (a5.add 7) 0 w2 fun w6 =>
R ((false, ()), ()) w6) (
ncK e fun a7 =>
ld1 (.i .i64) (a7.add 6) w2 fun x8 =>
ncK e fun a9 =>
stN [.int .i64 (IntKind.wrap .i64 (x8 + 1))] (a9.add 6) 0 w2 fun w10 =>
drK w10 fun w11 =>
ncK e fun a12 =>
ld1 (.i .i64) (a12.add 6) w11 fun x13 =>
ncK e fun a14 =>
ld1 (.i .i64) (a14.add 1) w11 fun x15 =>
brB (decide (x13 < x15)) (
R ((false, ()), ()) w11) (
drK w11 fun w16 =>
ncK e fun a17 =>
ld1 (.i .i64) a17 w16 fun x18 =>
ncK e fun a19 =>
ld1 (.i .i64) ((a19.add 1).add 1) w16 fun x20 =>
ncK e fun a21 =>
stN [.int .i64 x18] (a21.add 5) 0 w16 fun w22 =>
Hold [] w22 ∧ (
ncK e fun a23 =>
stN [.int .i64 0] (a23.add 6) 0 w22 fun w24 =>
Hold [] w24 ∧ (
ncK e fun a25 =>
stN [.int .i64 x20] (a25.add 7) 0 w24 fun w26 =>
Hold [] w26 ∧ (
R ((true, ()), ()) w26))))))
set_option maxRecDepth 100000 in
theorem elect_Elect_Beat.eq (e : Option Addr) (w : World) (R : Value → World → Prop) : wpF Tryz.prog Tryz.f107 (.s .n (.s .n (.s .n (.s (.s (.pl (.tk 0 (.tk 1 (.tk 2 (.tk 3 (.tk 4 (.tk 5 (.tk 6 (.tk 7 (.tk 8 (.tk 9 .z))))))))))) .n) (.s (.pl (.tk 0 (.tk 1 (.tk 2 (.tk 3 (.tk 4 (.tk 5 (.tk 6 (.tk 7 (.tk 8 (.tk 9 (.tk 10 (.tk 11 (.tk 12 (.tk 13 (.ef 14 [6, 11] (.tk 15 (.tk 16 (.ef 17 [] (.tk 18 (.tk 19 (.ef 20 [] .z)))))))))))))))))))))) .n))))) [.pointer e] w R = elect_Elect_Beat.wp e w (fun r w => R (encR false [(false, [.b])] r) w) := by kernel_rfl
set_option maxRecDepth 100000 in
theorem elect_Elect_Beat.ok {e : Option Addr} {w : World} {R : TR [(false, [.b])] → World → Prop} (h : elect_Elect_Beat.wp e w R) : clS Tryz.prog F.elect_Elect_Beat [.pointer e] w false [(false, [.b])] R :=
  ok_of Tryz_follows Tryz.func107 (fun R => elect_Elect_Beat.wp e w R) (elect_Elect_Beat.eq e w) rfl h
/-! ### flood_Flood_word -/
set_option maxRecDepth 100000 in
def flood_Flood_word.wp (f : Option Addr) (local_ : Int) (w : World) (R : TR [(true, [(.i .i64), (.i .i64), (.i .u16), (.i .u16), (.i .i64), (.i .i64)]), (false, [.b])] → World → Prop) : Prop :=
alK [.int .i64 0, .int .i64 0, .int .u16 0, .int .u16 0, .int .i64 0, .int .i64 0] T.frame_Sync w fun p1 w2 =>
ncK f fun a3 =>
ld1 .p a3 w2 fun x4 =>
clS Tryz.prog F.elect_Elect_Mine [.pointer x4] w2 false [(false, [.b])] fun r5 w6 =>
brB r5.1.1 (
ncK f fun a7 =>
ld1 .p a7 w6 fun x8 =>
clS Tryz.prog F.elect_Elect_Issue [.pointer x8] w6 true [(true, [(.i .u16), (.i .u16)]), (false, [.b])] fun r9 w10 =>
alK [.int .u16 0, .int .u16 0] T.elect_Mark w10 fun p11 w12 =>
stN [.int .u16 r9.1.1, .int .u16 r9.1.2.1] p11 0 w12 fun w13 =>
drK w13 fun w14 =>
ncK f fun a15 =>
ld1 (.i .i64) (a15.add 1) w14 fun x16 =>
ncK f fun a17 =>
ld1 (.i .i64) (a17.add 1) w14 fun x18 =>
ld1 (.i .u16) p11 w14 fun x19 =>
ld1 (.i .u16) (p11.add 1) w14 fun x20 =>
stN [.int .i64 x16, .int .i64 x18, .int .u16 x19, .int .u16 x20, .int .i64 0, .int .i64 local_] p1 0 w14 fun w21 =>
Hold [] w21 ∧ (
ldN [(.i .i64), (.i .i64), (.i .u16), (.i .u16), (.i .i64), (.i .i64)] p1 0 w21 fun x22 =>
R ((x22.1, x22.2.1, x22.2.2.1, x22.2.2.2.1, x22.2.2.2.2.1, x22.2.2.2.2.2.1, ()), (true, ()), ()) w21)) (
clS Tryz.prog F.flood_Flood_Synced [.pointer f] w6 false [(false, [.b])] fun r23 w24 =>
brB (!r23.1.1) (
stN [.int .i64 0, .int .i64 0, .int .u16 0, .int .u16 0, .int .i64 0, .int .i64 0] p1 0 w24 fun w25 =>
ldN [(.i .i64), (.i .i64), (.i .u16), (.i .u16), (.i .i64), (.i .i64)] p1 0 w25 fun x26 =>
R ((x26.1, x26.2.1, x26.2.2.1, x26.2.2.2.1, x26.2.2.2.2.1, x26.2.2.2.2.2.1, ()), (false, ()), ()) w25) (
ncK f fun a27 =>
ld1 .p a27 w24 fun x28 =>
clS Tryz.prog F.elect_Elect_Mark [.pointer x28] w24 true [(true, [(.i .u16), (.i .u16)]), (false, [.b])] fun r29 w30 =>
alK [.int .u16 0, .int .u16 0] T.elect_Mark w30 fun p31 w32 =>
stN [.int .u16 r29.1.1, .int .u16 r29.1.2.1] p31 0 w32 fun w33 =>
CutT (fun (J34 : ((Addr) × Unit) → World → Prop) =>
drK w33 fun w37 =>
ncK f fun a38 =>
ld1 (.i .i64) (a38.add 1) w37 fun x39 =>
ncK f fun a40 =>
ld1 .p a40 w37 fun x41 =>
ld1 (.i .u16) p31 w37 fun x42 =>
ld1 (.i .u16) (p31.add 1) w37 fun x43 =>
ncK f fun a44 =>
ld1 (.i .i64) ((a44.add 7).add 2) w37 fun x45 =>
ncK f fun a46 =>
ld1 (.i .i64) ((a46.add 7).add 1) w37 fun x47 =>
ncK f fun a48 =>
ld1 (.i .i64) (a48.add 7) w37 fun x49 =>
(
clS Tryz.prog F.elect_Elect_Root [.pointer x41] w37 false [(false, [(.i .i64)])] fun r50 w51 =>
Hold [(29, (a48.add 7), (w37.cell? (a48.add 7)).getD undef), (22, ((a46.add 7).add 1), (w37.cell? ((a46.add 7).add 1)).getD undef), (17, ((a44.add 7).add 2), (w37.cell? ((a44.add 7).add 2)).getD undef), (12, (p31.add 1), (w37.cell? (p31.add 1)).getD undef), (10, p31, (w37.cell? p31).getD undef), (7, a40, (w37.cell? a40).getD undef), (3, (a38.add 1), (w37.cell? (a38.add 1)).getD undef)] w51 ∧ (
alK [.int .i64 0, .int .i64 0, .int .u16 0, .int .u16 0, .int .i64 0, .int .i64 0] T.frame_Sync w51 fun p52 w53 =>
Hold [(29, (a48.add 7), (w37.cell? (a48.add 7)).getD undef), (22, ((a46.add 7).add 1), (w37.cell? ((a46.add 7).add 1)).getD undef), (17, ((a44.add 7).add 2), (w37.cell? ((a44.add 7).add 2)).getD undef), (12, (p31.add 1), (w37.cell? (p31.add 1)).getD undef), (10, p31, (w37.cell? p31).getD undef), (7, a40, (w37.cell? a40).getD undef), (3, (a38.add 1), (w37.cell? (a38.add 1)).getD undef)] w53 ∧ (
stN [.int .i64 x39, .int .i64 r50.1.1, .int .u16 x42, .int .u16 x43, .int .i64 x45, .int .i64 (IntKind.wrap .i64 ((IntKind.wrap .i64 (x47 + local_)) - x49))] p52 0 w53 fun w54 =>
Hold [] w54 ∧ (
J34 (p52, ()) w54)))) ∧ (
alK [.int .i64 0, .int .i64 0, .int .u16 0, .int .u16 0, .int .i64 0, .int .i64 0] T.frame_Sync w37 fun p55 w56 =>
Hold [(29, (a48.add 7), (w37.cell? (a48.add 7)).getD undef), (22, ((a46.add 7).add 1), (w37.cell? ((a46.add 7).add 1)).getD undef), (17, ((a44.add 7).add 2), (w37.cell? ((a44.add 7).add 2)).getD undef), (12, (p31.add 1), (w37.cell? (p31.add 1)).getD undef), (10, p31, (w37.cell? p31).getD undef), (7, a40, (w37.cell? a40).getD undef), (3, (a38.add 1), (w37.cell? (a38.add 1)).getD undef)] w56 ∧ (
clS Tryz.prog F.elect_Elect_Root [.pointer x41] w56 false [(false, [(.i .i64)])] fun r57 w58 =>
Hold [(29, (a48.add 7), (w37.cell? (a48.add 7)).getD undef), (22, ((a46.add 7).add 1), (w37.cell? ((a46.add 7).add 1)).getD undef), (17, ((a44.add 7).add 2), (w37.cell? ((a44.add 7).add 2)).getD undef), (12, (p31.add 1), (w37.cell? (p31.add 1)).getD undef), (10, p31, (w37.cell? p31).getD undef), (3, (a38.add 1), (w37.cell? (a38.add 1)).getD undef)] w58 ∧ (
stN [.int .i64 x39, .int .i64 r57.1.1, .int .u16 x42, .int .u16 x43, .int .i64 x45, .int .i64 (IntKind.wrap .i64 ((IntKind.wrap .i64 (x47 + local_)) - x49))] p55 0 w58 fun w59 =>
Hold [] w59 ∧ (
J34 (p55, ()) w59))))) (fun (z35 : (Addr) × Unit) w36 => ∀ _ : Nat → Value,
drK w36 fun w60 =>
ldN [(.i .i64), (.i .i64), (.i .u16), (.i .u16), (.i .i64), (.i .i64)] z35.1 0 w60 fun x61 =>
ldN [(.i .i64), (.i .i64), (.i .u16), (.i .u16), (.i .i64), (.i .i64)] z35.1 0 w60 fun x62 =>
clS Tryz.prog F.frame_Good [.iface T.frame_Sync (.agg #[.int .i64 x62.1, .int .i64 x62.2.1, .int .u16 x62.2.2.1, .int .u16 x62.2.2.2.1, .int .i64 x62.2.2.2.2.1, .int .i64 x62.2.2.2.2.2.1])] w60 false [(false, [.b])] fun r63 w64 =>
Hold [(1, (z35.1.add 0), (w60.cell? (z35.1.add 0)).getD undef), (1, (z35.1.add 1), (w60.cell? (z35.1.add 1)).getD undef), (1, (z35.1.add 2), (w60.cell? (z35.1.add 2)).getD undef), (1, (z35.1.add 3), (w60.cell? (z35.1.add 3)).getD undef), (1, (z35.1.add 4), (w60.cell? (z35.1.add 4)).getD undef), (1, (z35.1.add 5), (w60.cell? (z35.1.add 5)).getD undef), (0, (z35.1.add 0), (w60.cell? (z35.1.add 0)).getD undef), (0, (z35.1.add 1), (w60.cell? (z35.1.add 1)).getD undef), (0, (z35.1.add 2), (w60.cell? (z35.1.add 2)).getD undef), (0, (z35.1.add 3), (w60.cell? (z35.1.add 3)).getD undef), (0, (z35.1.add 4), (w60.cell? (z35.1.add 4)).getD undef), (0, (z35.1.add 5), (w60.cell? (z35.1.add 5)).getD undef)] w64 ∧ (
stN [.int .i64 x61.1, .int .i64 x61.2.1, .int .u16 x61.2.2.1, .int .u16 x61.2.2.2.1, .int .i64 x61.2.2.2.2.1, .int .i64 x61.2.2.2.2.2.1] p1 0 w64 fun w65 =>
Hold [(1, (z35.1.add 0), (w60.cell? (z35.1.add 0)).getD undef), (1, (z35.1.add 1), (w60.cell? (z35.1.add 1)).getD undef), (1, (z35.1.add 2), (w60.cell? (z35.1.add 2)).getD undef), (1, (z35.1.add 3), (w60.cell? (z35.1.add 3)).getD undef), (1, (z35.1.add 4), (w60.cell? (z35.1.add 4)).getD undef), (1, (z35.1.add 5), (w60.cell? (z35.1.add 5)).getD undef)] w65 ∧ (
ldN [(.i .i64), (.i .i64), (.i .u16), (.i .u16), (.i .i64), (.i .i64)] p1 0 w65 fun x66 =>
R ((x66.1, x66.2.1, x66.2.2.1, x66.2.2.2.1, x66.2.2.2.2.1, x66.2.2.2.2.2.1, ()), (r63.1.1, ()), ()) w65)))))
set_option maxRecDepth 100000 in
theorem flood_Flood_word.eq (f : Option Addr) (local_ : Int) (w : World) (R : Value → World → Prop) : wpF Tryz.prog Tryz.f108 (.s .n (.s (.s .n (.s (.s .n (.s (.pl (.tk 0 (.tk 1 (.tk 2 (.tk 3 (.tk 4 (.tk 5 (.tk 6 (.tk 7 (.tk 8 (.tk 9 (.tk 10 (.tk 11 (.tk 12 (.tk 13 (.ef 14 [3, 7, 9, 11] (.tk 15 .z))))))))))))))))) .n)) .n)) (.s .n (.s .n (.ct [(10, .a)] (.pl (.tk 0 (.tk 1 (.tk 2 (.tk 3 (.tk 4 (.tk 5 (.tk 6 (.tk 7 (.tk 9 (.tk 10 (.tk 11 (.tk 12 (.tk 13 (.tk 14 (.tk 15 (.tk 16 (.tk 17 (.tk 18 (.tk 19 (.tk 20 (.tk 21 (.tk 22 (.tk 23 (.tk 24 (.tk 25 (.tk 26 (.tk 27 (.tk 28 (.tk 29 (.tk 30 (.two 8 32 (.tk 31 (.ef 32 [] (.ef 33 [3, 7, 10, 12, 17, 22, 29] .z))) (.ef 8 [7] (.tk 31 (.ef 33 [3, 10, 12, 17, 22, 29] .z))))))))))))))))))))))))))))))))))) (.s (.pl (.tk 0 (.tk 1 (.tk 2 (.ef 3 [] (.ef 4 [0] (.tk 5 .z))))))) .n)))))) [.pointer f, .int .i64 local_] w R = flood_Flood_word.wp f local_ w (fun r w => R (encR true [(true, [(.i .i64), (.i .i64), (.i .u16), (.i .u16), (.i .i64), (.i .i64)]), (false, [.b])] r) w) := by kernel_rfl
set_option maxRecDepth 100000 in
theorem flood_Flood_word.ok {f : Option Addr} {local_ : Int} {w : World} {R : TR [(true, [(.i .i64), (.i .i64), (.i .u16), (.i .u16), (.i .i64), (.i .i64)]), (false, [.b])] → World → Prop} (h : flood_Flood_word.wp f local_ w R) : clS Tryz.prog F.flood_Flood_word [.pointer f, .int .i64 local_] w true [(true, [(.i .i64), (.i .i64), (.i .u16), (.i .u16), (.i .i64), (.i .i64)]), (false, [.b])] R :=
  ok_of Tryz_follows Tryz.func108 (fun R => flood_Flood_word.wp f local_ w R) (flood_Flood_word.eq f local_ w) rfl h
/-! ### frame_Encode_of_frame_Sync -/
set_option maxRecDepth 100000 in
def frame_Encode_of_frame_Sync.wp (f0 : Int) (f1 : Int) (f2 : Int) (f3 : Int) (f4 : Int) (f5 : Int) (w : World) (R : TR [(false, [.sl]), (false, [(.i .i64)])] → World → Prop) : Prop :=
clS Tryz.prog F.frame_Good [.iface T.frame_Sync (.agg #[.int .i64 f0, .int .i64 f1, .int .u16 f2, .int .u16 f3, .int .i64 f4, .int .i64 f5])] w false [(false, [.b])] fun r1 w2 =>
brB (!r1.1.1) (
R (((none, 0, 0), ()), (1, ()), ()) w2) (
alK [.slice none 0 0] T.octet_Pen w2 fun p3 w4 =>
clS Tryz.prog F.frame_kind [.iface T.frame_Sync (.agg #[.int .i64 f0, .int .i64 f1, .int .u16 f2, .int .u16 f3, .int .i64 f4, .int .i64 f5])] w4 false [(false, [(.i .u8)])] fun r5 w6 =>
clS Tryz.prog F.octet_Pen_Num [.pointer (some p3), .int .i64 1, .int .u64 (IntKind.wrap .u64 r5.1.1)] w6 false [(false, [.p])] fun r7 w8 =>
clS Tryz.prog F.frame_Sync_fields [.agg #[.int .i64 f0, .int .i64 f1, .int .u16 f2, .int .u16 f3, .int .i64 f4, .int .i64 f5]] w8 false [(false, [.sl])] fun r9 w10 =>
LoopT (fun (self11 : ((Int) × Unit) → World → Prop) (z12 : (Int) × Unit) w13 => ∀ _ : Nat → Value,
brB (decide (z12.1 < (r9.1.1.2.1 : Int))) (
ixK r9.1.1.1 r9.1.1.2.1 z12.1 fun a14 =>
ldN [(.i .i64), (.i .i64), (.i .i64)] (a14.add (z12.1.toNat * 3)) 0 w13 fun x15 =>
alK [.int .i64 0, .int .i64 0, .int .i64 0] T.frame_field w13 fun p16 w17 =>
stN [.int .i64 x15.1, .int .i64 x15.2.1, .int .i64 x15.2.2.1] p16 0 w17 fun w18 =>
ld1 (.i .i64) p16 w18 fun x19 =>
ld1 (.i .i64) (p16.add 1) w18 fun x20 =>
clS Tryz.prog F.octet_Pen_Num [.pointer (some p3), .int .i64 x19, .int .u64 (IntKind.wrap .u64 x20)] w18 false [(false, [.p])] fun r21 w22 =>
self11 (IntKind.wrap .i64 (z12.1 + 1), ()) w22) (
clS Tryz.prog F.octet_Pen_Bytes [.pointer (some p3)] w13 false [(false, [.sl])] fun r23 w24 =>
clS Tryz.prog F.crc_Seal [.slice r23.1.1.1 r23.1.1.2.1 r23.1.1.2.2] w24 false [(false, [.sl])] fun r25 w26 =>
R (((r25.1.1.1, r25.1.1.2.1, r25.1.1.2.2), ()), (0, ()), ()) w26)) (0, ()) w10)
set_option maxRecDepth 100000 in
theorem frame_Encode_of_frame_Sync.eq (f0 : Int) (f1 : Int) (f2 : Int) (f3 : Int) (f4 : Int) (f5 : Int) (w : World) (R : Value → World → Prop) : wpF Tryz.prog Tryz.f109 (.s .n (.s .n (.s .n (.s .n (.s (.s .n (.lp [(17, (.i .i64))] .n)) .n))))) [.iface T.frame_Sync (.agg #[.int .i64 f0, .int .i64 f1, .int .u16 f2, .int .u16 f3, .int .i64 f4, .int .i64 f5])] w R = frame_Encode_of_frame_Sync.wp f0 f1 f2 f3 f4 f5 w (fun r w => R (encR true [(false, [.sl]), (false, [(.i .i64)])] r) w) := by kernel_rfl
set_option maxRecDepth 100000 in
theorem frame_Encode_of_frame_Sync.ok {f0 : Int} {f1 : Int} {f2 : Int} {f3 : Int} {f4 : Int} {f5 : Int} {w : World} {R : TR [(false, [.sl]), (false, [(.i .i64)])] → World → Prop} (h : frame_Encode_of_frame_Sync.wp f0 f1 f2 f3 f4 f5 w R) : clS Tryz.prog F.frame_Encode [.iface T.frame_Sync (.agg #[.int .i64 f0, .int .i64 f1, .int .u16 f2, .int .u16 f3, .int .i64 f4, .int .i64 f5])] w true [(false, [.sl]), (false, [(.i .i64)])] R :=
  ok_of Tryz_follows Tryz.func109 (fun R => frame_Encode_of_frame_Sync.wp f0 f1 f2 f3 f4 f5 w R) (frame_Encode_of_frame_Sync.eq f0 f1 f2 f3 f4 f5 w) rfl h
/-! ### frame_Encode_of_frame_Want -/
set_option maxRecDepth 100000 in
def frame_Encode_of_frame_Want.wp (f0 : Int) (w : World) (R : TR [(false, [.sl]), (false, [(.i .i64)])] → World → Prop) : Prop :=
clS Tryz.prog F.frame_Good [.iface T.frame_Want (.agg #[.int .i64 f0])] w false [(false, [.b])] fun r1 w2 =>
brB (!r1.1.1) (
R (((none, 0, 0), ()), (1, ()), ()) w2) (
alK [.slice none 0 0] T.octet_Pen w2 fun p3 w4 =>
clS Tryz.prog F.frame_kind [.iface T.frame_Want (.agg #[.int .i64 f0])] w4 false [(false, [(.i .u8)])] fun r5 w6 =>
clS Tryz.prog F.octet_Pen_Num [.pointer (some p3), .int .i64 1, .int .u64 (IntKind.wrap .u64 r5.1.1)] w6 false [(false, [.p])] fun r7 w8 =>
clS Tryz.prog F.frame_Want_fields [.agg #[.int .i64 f0]] w8 false [(false, [.sl])] fun r9 w10 =>
LoopT (fun (self11 : ((Int) × Unit) → World → Prop) (z12 : (Int) × Unit) w13 => ∀ _ : Nat → Value,
brB (decide (z12.1 < (r9.1.1.2.1 : Int))) (
ixK r9.1.1.1 r9.1.1.2.1 z12.1 fun a14 =>
ldN [(.i .i64), (.i .i64), (.i .i64)] (a14.add (z12.1.toNat * 3)) 0 w13 fun x15 =>
alK [.int .i64 0, .int .i64 0, .int .i64 0] T.frame_field w13 fun p16 w17 =>
stN [.int .i64 x15.1, .int .i64 x15.2.1, .int .i64 x15.2.2.1] p16 0 w17 fun w18 =>
ld1 (.i .i64) p16 w18 fun x19 =>
ld1 (.i .i64) (p16.add 1) w18 fun x20 =>
clS Tryz.prog F.octet_Pen_Num [.pointer (some p3), .int .i64 x19, .int .u64 (IntKind.wrap .u64 x20)] w18 false [(false, [.p])] fun r21 w22 =>
self11 (IntKind.wrap .i64 (z12.1 + 1), ()) w22) (
clS Tryz.prog F.octet_Pen_Bytes [.pointer (some p3)] w13 false [(false, [.sl])] fun r23 w24 =>
clS Tryz.prog F.crc_Seal [.slice r23.1.1.1 r23.1.1.2.1 r23.1.1.2.2] w24 false [(false, [.sl])] fun r25 w26 =>
R (((r25.1.1.1, r25.1.1.2.1, r25.1.1.2.2), ()), (0, ()), ()) w26)) (0, ()) w10)
set_option maxRecDepth 100000 in
theorem frame_Encode_of_frame_Want.eq (f0 : Int) (w : World) (R : Value → World → Prop) : wpF Tryz.prog Tryz.f109 (.s .n (.s .n (.s .n (.s .n (.s (.s .n (.lp [(17, (.i .i64))] .n)) .n))))) [.iface T.frame_Want (.agg #[.int .i64 f0])] w R = frame_Encode_of_frame_Want.wp f0 w (fun r w => R (encR true [(false, [.sl]), (false, [(.i .i64)])] r) w) := by kernel_rfl
set_option maxRecDepth 100000 in
theorem frame_Encode_of_frame_Want.ok {f0 : Int} {w : World} {R : TR [(false, [.sl]), (false, [(.i .i64)])] → World → Prop} (h : frame_Encode_of_frame_Want.wp f0 w R) : clS Tryz.prog F.frame_Encode [.iface T.frame_Want (.agg #[.int .i64 f0])] w true [(false, [.sl]), (false, [(.i .i64)])] R :=
  ok_of Tryz_follows Tryz.func109 (fun R => frame_Encode_of_frame_Want.wp f0 w R) (frame_Encode_of_frame_Want.eq f0 w) rfl h
/-! ### table_Table_Len -/
set_option maxRecDepth 100000 in
def table_Table_Len.wp (t : Option Addr) (w : World) (R : TR [(false, [(.i .i64)])] → World → Prop) : Prop :=
brB (Option.isNone t) (
R ((0, ()), ()) w) (
ncK t fun a1 =>
ld1 .sl a1 w fun x2 =>
R (((x2.2.1 : Int), ()), ()) w)
set_option maxRecDepth 100000 in
theorem table_Table_Len.eq (t : Option Addr) (w : World) (R : Value → World → Prop) : wpF Tryz.prog Tryz.f110 .n [.pointer t] w R = table_Table_Len.wp t w (fun r w => R (encR false [(false, [(.i .i64)])] r) w) := by kernel_rfl
set_option maxRecDepth 100000 in
theorem table_Table_Len.ok {t : Option Addr} {w : World} {R : TR [(false, [(.i .i64)])] → World → Prop} (h : table_Table_Len.wp t w R) : clS Tryz.prog F.table_Table_Len [.pointer t] w false [(false, [(.i .i64)])] R :=
  ok_of Tryz_follows Tryz.func110 (fun R => table_Table_Len.wp t w R) (table_Table_Len.eq t w) rfl h
/-! ### ring_Ring_event_Event_Len -/
set_option maxRecDepth 100000 in
def ring_Ring_event_Event_Len.wp (r : Option Addr) (w : World) (R : TR [(false, [(.i .i64)])] → World → Prop) : Prop :=
brB (Option.isNone r) (
R ((0, ()), ()) w) (
ncK r fun a1 =>
ld1 (.i .i64) (a1.add 2) w fun x2 =>
R ((x2, ()), ()) w)
set_option maxRecDepth 100000 in
theorem ring_Ring_event_Event_Len.eq (r : Option Addr) (w : World) (R : Value → World → Prop) : wpF Tryz.prog Tryz.f112 .n [.pointer r] w R = ring_Ring_event_Event_Len.wp r w (fun r w => R (encR false [(false, [(.i .i64)])] r) w) := by kernel_rfl
set_option maxRecDepth 100000 in
theorem ring_Ring_event_Event_Len.ok {r : Option Addr} {w : World} {R : TR [(false, [(.i .i64)])] → World → Prop} (h : ring_Ring_event_Event_Len.wp r w R) : clS Tryz.prog F.ring_Ring_event_Event_Len [.pointer r] w false [(false, [(.i .i64)])] R :=
  ok_of Tryz_follows Tryz.func112 (fun R => ring_Ring_event_Event_Len.wp r w R) (ring_Ring_event_Event_Len.eq r w) rfl h
/-! ### ref04_Put -/
set_option maxRecDepth 100000 in
def ref04_Put.wp (size : Int) (n : Int) (w : World) (R : TR [(false, [.sl])] → World → Prop) : Prop :=
LoopT (fun (self1 : ((Int) × (Option Addr × Nat × Nat) × (Int) × Unit) → World → Prop) (z2 : (Int) × (Option Addr × Nat × Nat) × (Int) × Unit) w3 => ∀ _ : Nat → Value,
brB (decide (z2.2.2.1 < size)) (
brB (decide (z2.2.2.1 < 8)) (
nzK 256 (
alK [.int .u8 (IntKind.wrap .u8 (Int.tmod z2.1 256))] T.uint8 w3 fun p4 w5 =>
slOf ((Builtin.append_ #[T.sl_uint8, T.sl_uint8] T.sl_uint8 #[.slice (some p4) 1 1, .slice z2.2.1.1 z2.2.1.2.1 z2.2.1.2.2]).run Tryz.prog w5) fun y6 w7 =>
nzK 256 (
self1 (IntKind.wrap .u64 (Int.tdiv z2.1 256), (y6.1, y6.2.1, y6.2.2), IntKind.wrap .i64 (z2.2.2.1 + 1), ()) w7))) (
R (((z2.2.1.1, z2.2.1.2.1, z2.2.1.2.2), ()), ()) w3)) (
R (((z2.2.1.1, z2.2.1.2.1, z2.2.1.2.2), ()), ()) w3)) (n, (none, 0, 0), 0, ()) w
set_option maxRecDepth 100000 in
theorem ref04_Put.eq (size : Int) (n : Int) (w : World) (R : Value → World → Prop) : wpF Tryz.prog Tryz.f113 (.s .n (.s .n (.s (.s .n (.lp [(1, (.i .u64)), (5, .sl), (6, (.i .i64))] .n)) .n))) [.int .i64 size, .int .u64 n] w R = ref04_Put.wp size n w (fun r w => R (encR false [(false, [.sl])] r) w) := by kernel_rfl
set_option maxRecDepth 100000 in
theorem ref04_Put.ok {size : Int} {n : Int} {w : World} {R : TR [(false, [.sl])] → World → Prop} (h : ref04_Put.wp size n w R) : clS Tryz.prog F.ref04_Put [.int .i64 size, .int .u64 n] w false [(false, [.sl])] R :=
  ok_of Tryz_follows Tryz.func113 (fun R => ref04_Put.wp size n w R) (ref04_Put.eq size n w) rfl h
/-! ### ref16_New -/
set_option maxRecDepth 100000 in
def ref16_New.wp (me : Int) (timeout : Int) (ignore : Int) (need : Int) (drift : Int) (boot : Int) (w : World) (R : TR [(false, [.p])] → World → Prop) : Prop :=
clS Tryz.prog F.ref15_New [.int .i64 me, .int .i64 timeout, .int .i64 ignore, .int .u16 boot] w false [(false, [.p])] fun r1 w2 =>
alK [.pointer r1.1.1, .int .i64 need, .int .i64 drift, .slice none 0 0, .int .i64 0, .int .i64 0, .int .i64 0] T.ref16_Flood w2 fun p3 w4 =>
R ((some p3, ()), ()) w4
set_option maxRecDepth 100000 in
theorem ref16_New.eq (me : Int) (timeout : Int) (ignore : Int) (need : Int) (drift : Int) (boot : Int) (w : World) (R : Value → World → Prop) : wpF Tryz.prog Tryz.f114 .n [.int .i64 me, .int .i64 timeout, .int .i64 ignore, .int .i64 need, .int .i64 drift, .int .u16 boot] w R = ref16_New.wp me timeout ignore need drift boot w (fun r w => R (encR false [(false, [.p])] r) w) := by kernel_rfl
set_option maxRecDepth 100000 in
theorem ref16_New.ok {me : Int} {timeout : Int} {ignore : Int} {need : Int} {drift : Int} {boot : Int} {w : World} {R : TR [(false, [.p])] → World → Prop} (h : ref16_New.wp me timeout ignore need drift boot w R) : clS Tryz.prog F.ref16_New [.int .i64 me, .int .i64 timeout, .int .i64 ignore, .int .i64 need, .int .i64 drift, .int .u16 boot] w false [(false, [.p])] R :=
  ok_of Tryz_follows Tryz.func114 (fun R => ref16_New.wp me timeout ignore need drift boot w R) (ref16_New.eq me timeout ignore need drift boot w) rfl h
/-! ### ref16_Flood_Beat -/
set_option maxRecDepth 100000 in
def ref16_Flood_Beat.wp (f : Option Addr) (local_ : Int) (w : World) (R : TR [(true, [(.i .i64), (.i .i64), (.i .i64), (.i .i64), (.i .u16), (.i .u16), (.i .i64), (.i .i64), (.i .i64), (.i .i64), (.i .i64), (.i .i64), (.i .i64), (.i .i64)])] → World → Prop) : Prop :=
alK [.int .i64 0, .int .i64 0, .int .i64 0, .int .i64 0, .int .u16 0, .int .u16 0, .int .i64 0, .int .i64 0, .int .i64 0, .int .i64 0, .int .i64 0, .int .i64 0, .int .i64 0, .int .i64 0] T.ref05_Plain w fun p1 w2 =>
CutT (fun (J3 : Unit → World → Prop) =>
ncK f fun a6 =>
ld1 .p a6 w2 fun x7 =>
clS Tryz.prog F.ref15_Elect_Beat [.pointer x7] w2 false [(false, [.b])] fun r8 w9 =>
brB r8.1.1 (
clS Tryz.prog F.ref16_Flood_forget [.pointer f] w9 true [] fun r10 w11 =>
J3 (()) w11) (
J3 (()) w9)) (fun (z4 : Unit) w5 => ∀ _ : Nat → Value,
clS Tryz.prog F.ref16_time [.int .i64 local_] w5 false [(false, [.b])] fun r12 w13 =>
brB (!r12.1.1) (
stN [.int .i64 0, .int .i64 0, .int .i64 0, .int .i64 0, .int .u16 0, .int .u16 0, .int .i64 0, .int .i64 0, .int .i64 0, .int .i64 0, .int .i64 0, .int .i64 0, .int .i64 0, .int .i64 0] p1 0 w13 fun w14 =>
ldN [(.i .i64), (.i .i64), (.i .i64), (.i .i64), (.i .u16), (.i .u16), (.i .i64), (.i .i64), (.i .i64), (.i .i64), (.i .i64), (.i .i64), (.i .i64), (.i .i64)] p1 0 w14 fun x15 =>
R ((x15.1, x15.2.1, x15.2.2.1, x15.2.2.2.1, x15.2.2.2.2.1, x15.2.2.2.2.2.1, x15.2.2.2.2.2.2.1, x15.2.2.2.2.2.2.2.1, x15.2.2.2.2.2.2.2.2.1, x15.2.2.2.2.2.2.2.2.2.1, x15.2.2.2.2.2.2.2.2.2.2.1, x15.2.2.2.2.2.2.2.2.2.2.2.1, x15.2.2.2.2.2.2.2.2.2.2.2.2.1, x15.2.2.2.2.2.2.2.2.2.2.2.2.2.1, ()), ()) w14) (
clS Tryz.prog F.ref16_Flood_Mine [.pointer f] w13 false [(false, [.b])] fun r16 w17 =>
brB r16.1.1 (
drK w17 fun w18 =>
ncK f fun a19 =>
ld1 .p a19 w18 fun x20 =>
ncK f fun a21 =>
ld1 .p a21 w18 fun x22 =>
ncK x22 fun a23 =>
ld1 (.i .u16) (a23.add 4) w18 fun x24 =>
clS Tryz.prog F.ref02_Next [.int .u16 x24] w18 false [(false, [(.i .u16)])] fun r25 w26 =>
Hold [(7, a21, (w18.cell? a21).getD undef), (3, a19, (w18.cell? a19).getD undef)] w26 ∧ (
ncK x20 fun a27 =>
stN [.int .u16 r25.1.1] (a27.add 4) 0 w26 fun w28 =>
Hold [] w28 ∧ (
drK w28 fun w29 =>
ncK f fun a30 =>
ld1 .p a30 w29 fun x31 =>
ncK x31 fun a32 =>
ld1 (.i .i64) a32 w29 fun x33 =>
ncK f fun a34 =>
ld1 .p a34 w29 fun x35 =>
ncK x35 fun a36 =>
ld1 (.i .i64) a36 w29 fun x37 =>
ncK f fun a38 =>
ld1 .p a38 w29 fun x39 =>
ncK x39 fun a40 =>
ld1 (.i .u16) (a40.add 3) w29 fun x41 =>
ncK f fun a42 =>
ld1 .p a42 w29 fun x43 =>
ncK x43 fun a44 =>
ld1 (.i .u16) (a44.add 4) w29 fun x45 =>
stN [.int .i64 1, .int .i64 x33, .int .i64 0, .int .i64 x37, .int .u16 x41, .int .u16 x45, .int .i64 0, .int .i64 local_, .int .i64 0, .int .i64 0, .int .i64 0, .int .i64 0, .int .i64 0, .int .i64 0] p1 0 w29 fun w46 =>
Hold [] w46 ∧ (
ldN [(.i .i64), (.i .i64), (.i .i64), (.i .i64), (.i .u16), (.i .u16), (.i .i64), (.i .i64), (.i .i64), (.i .i64), (.i .i64), (.i .i64), (.i .i64), (.i .i64)] p1 0 w46 fun x47 =>
R ((x47.1, x47.2.1, x47.2.2.1, x47.2.2.2.1, x47.2.2.2.2.1, x47.2.2.2.2.2.1, x47.2.2.2.2.2.2.1, x47.2.2.2.2.2.2.2.1, x47.2.2.2.2.2.2.2.2.1, x47.2.2.2.2.2.2.2.2.2.1, x47.2.2.2.2.2.2.2.2.2.2.1, x47.2.2.2.2.2.2.2.2.2.2.2.1, x47.2.2.2.2.2.2.2.2.2.2.2.2.1, x47.2.2.2.2.2.2.2.2.2.2.2.2.2.1, ()), ()) w46)))) (
clS Tryz.prog F.ref16_Flood_Synced [.pointer f] w17 false [(false, [.b])] fun r48 w49 =>
brB (!r48.1.1) (
stN [.int .i64 0, .int .i64 0, .int .i64 0, .int .i64 0, .int .u16 0, .int .u16 0, .int .i64 0, .int .i64 0, .int .i64 0, .int .i64 0, .int .i64 0, .int .i64 0, .int .i64 0, .int .i64 0] p1 0 w49 fun w50 =>
ldN [(.i .i64), (.i .i64), (.i .i64), (.i .i64), (.i .u16), (.i .u16), (.i .i64), (.i .i64), (.i .i64), (.i .i64), (.i .i64), (.i .i64), (.i .i64), (.i .i64)] p1 0 w50 fun x51 =>
R ((x51.1, x51.2.1, x51.2.2.1, x51.2.2.2.1, x51.2.2.2.2.1, x51.2.2.2.2.2.1, x51.2.2.2.2.2.2.1, x51.2.2.2.2.2.2.2.1, x51.2.2.2.2.2.2.2.2.1, x51.2.2.2.2.2.2.2.2.2.1, x51.2.2.2.2.2.2.2.2.2.2.1, x51.2.2.2.2.2.2.2.2.2.2.2.1, x51.2.2.2.2.2.2.2.2.2.2.2.2.1, x51.2.2.2.2.2.2.2.2.2.2.2.2.2.1, ()), ()) w50) (
ncK f fun a52 =>
ld1 .p a52 w49 fun x53 =>
clS Tryz.prog F.ref15_Elect_Mark [.pointer x53] w49 true [(false, [(.i .u16)]), (false, [(.i .u16)]), (false, [.b])] fun r54 w55 =>
drK w55 fun w56 =>
ncK f fun a57 =>
ld1 .p a57 w56 fun x58 =>
ncK x58 fun a59 =>
ld1 (.i .i64) a59 w56 fun x60 =>
ncK f fun a61 =>
ld1 .p a61 w56 fun x62 =>
ncK x62 fun a63 =>
ld1 (.i .i64) (a63.add 5) w56 fun x64 =>
ncK f fun a65 =>
ld1 (.i .i64) (a65.add 6) w56 fun x66 =>
ncK f fun a67 =>
ld1 (.i .i64) (a67.add 5) w56 fun x68 =>
ncK f fun a69 =>
ld1 (.i .i64) (a69.add 4) w56 fun x70 =>
alK [.int .i64 0, .int .i64 0, .int .i64 0, .int .i64 0, .int .u16 0, .int .u16 0, .int .i64 0, .int .i64 0, .int .i64 0, .int .i64 0, .int .i64 0, .int .i64 0, .int .i64 0, .int .i64 0] T.ref05_Plain w56 fun p71 w72 =>
Hold [(29, (a69.add 4), (w56.cell? (a69.add 4)).getD undef), (23, (a67.add 5), (w56.cell? (a67.add 5)).getD undef), (19, (a65.add 6), (w56.cell? (a65.add 6)).getD undef), (13, (a63.add 5), (w56.cell? (a63.add 5)).getD undef), (10, a61, (w56.cell? a61).getD undef), (6, a59, (w56.cell? a59).getD undef), (3, a57, (w56.cell? a57).getD undef)] w72 ∧ (
stN [.int .i64 1, .int .i64 x60, .int .i64 0, .int .i64 x64, .int .u16 r54.1.1, .int .u16 r54.2.1.1, .int .i64 x66, .int .i64 (IntKind.wrap .i64 ((IntKind.wrap .i64 (x68 + local_)) - x70)), .int .i64 0, .int .i64 0, .int .i64 0, .int .i64 0, .int .i64 0, .int .i64 0] p71 0 w72 fun w73 =>
Hold [] w73 ∧ (
ldN [(.i .i64), (.i .i64), (.i .i64), (.i .i64), (.i .u16), (.i .u16), (.i .i64), (.i .i64), (.i .i64), (.i .i64), (.i .i64), (.i .i64), (.i .i64), (.i .i64)] p71 0 w73 fun x74 =>
clS Tryz.prog F.ref05_Good [.agg #[.int .i64 x74.1, .int .i64 x74.2.1, .int .i64 x74.2.2.1, .int .i64 x74.2.2.2.1, .int .u16 x74.2.2.2.2.1, .int .u16 x74.2.2.2.2.2.1, .int .i64 x74.2.2.2.2.2.2.1, .int .i64 x74.2.2.2.2.2.2.2.1, .int .i64 x74.2.2.2.2.2.2.2.2.1, .int .i64 x74.2.2.2.2.2.2.2.2.2.1, .int .i64 x74.2.2.2.2.2.2.2.2.2.2.1, .int .i64 x74.2.2.2.2.2.2.2.2.2.2.2.1, .int .i64 x74.2.2.2.2.2.2.2.2.2.2.2.2.1, .int .i64 x74.2.2.2.2.2.2.2.2.2.2.2.2.2.1]] w73 false [(false, [.b])] fun r75 w76 =>
brB (!r75.1.1) (
stN [.int .i64 0, .int .i64 0, .int .i64 0, .int .i64 0, .int .u16 0, .int .u16 0, .int .i64 0, .int .i64 0, .int .i64 0, .int .i64 0, .int .i64 0, .int .i64 0, .int .i64 0, .int .i64 0] p1 0 w76 fun w77 =>
ldN [(.i .i64), (.i .i64), (.i .i64), (.i .i64), (.i .u16), (.i .u16), (.i .i64), (.i .i64), (.i .i64), (.i .i64), (.i .i64), (.i .i64), (.i .i64), (.i .i64)] p1 0 w77 fun x78 =>
R ((x78.1, x78.2.1, x78.2.2.1, x78.2.2.2.1, x78.2.2.2.2.1, x78.2.2.2.2.2.1, x78.2.2.2.2.2.2.1, x78.2.2.2.2.2.2.2.1, x78.2.2.2.2.2.2.2.2.1, x78.2.2.2.2.2.2.2.2.2.1, x78.2.2.2.2.2.2.2.2.2.2.1, x78.2.2.2.2.2.2.2.2.2.2.2.1, x78.2.2.2.2.2.2.2.2.2.2.2.2.1, x78.2.2.2.2.2.2.2.2.2.2.2.2.2.1, ()), ()) w77) (
ldN [(.i .i64), (.i .i64), (.i .i64), (.i .i64), (.i .u16), (.i .u16), (.i .i64), (.i .i64), (.i .i64), (.i .i64), (.i .i64), (.i .i64), (.i .i64), (.i .i64)] p71 0 w76 fun x79 =>
stN [.int .i64 x79.1, .int .i64 x79.2.1, .int .i64 x79.2.2.1, .int .i64 x79.2.2.2.1, .int .u16 x79.2.2.2.2.1, .int .u16 x79.2.2.2.2.2.1, .int .i64 x79.2.2.2.2.2.2.1, .int .i64 x79.2.2.2.2.2.2.2.1, .int .i64 x79.2.2.2.2.2.2.2.2.1, .int .i64 x79.2.2.2.2.2.2.2.2.2.1, .int .i64 x79.2.2.2.2.2.2.2.2.2.2.1, .int .i64 x79.2.2.2.2.2.2.2.2.2.2.2.1, .int .i64 x79.2.2.2.2.2.2.2.2.2.2.2.2.1, .int .i64 x79.2.2.2.2.2.2.2.2.2.2.2.2.2.1] p1 0 w76 fun w80 =>
ldN [(.i .i64), (.i .i64), (.i .i64), (.i .i64), (.i .u16), (.i .u16), (.i .i64), (.i .i64), (.i .i64), (.i .i64), (.i .i64), (.i .i64), (.i .i64), (.i .i64)] p1 0 w80 fun x81 =>
R ((x81.1, x81.2.1, x81.2.2.1, x81.2.2.2.1, x81.2.2.2.2.1, x81.2.2.2.2.2.1, x81.2.2.2.2.2.2.1, x81.2.2.2.2.2.2.2.1, x81.2.2.2.2.2.2.2.2.1, x81.2.2.2.2.2.2.2.2.2.1, x81.2.2.2.2.2.2.2.2.2.2.1, x81.2.2.2.2.2.2.2.2.2.2.2.1, x81.2.2.2.2.2.2.2.2.2.2.2.2.1, x81.2.2.2.2.2.2.2.2.2.2.2.2.2.1, ()), ()) w80)))))))
set_option maxRecDepth 100000 in
theorem ref16_Flood_Beat.eq (f : Option Addr) (local_ : Int) (w : World) (R : Value → World → Prop) : wpF Tryz.prog Tryz.f117 (.s .n (.ct [] .n (.s .n (.s (.s .n (.s (.s (.pl (.tk 0 (.tk 1 (.tk 2 (.tk 3 (.tk 4 (.tk 5 (.tk 6 (.tk 7 (.tk 8 (.tk 9 (.tk 10 (.ef 11 [10] (.tk 12 (.tk 13 (.ef 14 [3, 7] .z)))))))))))))))) (.s (.pl (.tk 0 (.tk 1 (.tk 2 (.tk 3 (.tk 4 (.tk 5 (.tk 6 (.tk 7 (.tk 8 (.tk 9 (.tk 10 (.tk 11 (.tk 12 (.tk 13 (.tk 14 (.tk 15 (.tk 16 (.tk 17 (.tk 18 (.tk 19 (.tk 20 (.tk 21 (.tk 22 (.tk 23 (.tk 24 (.tk 25 (.tk 26 (.tk 27 (.tk 28 (.tk 29 (.ef 30 [3, 6, 10, 13, 17, 20, 24, 27] .z)))))))))))))))))))))))))))))))) .n)) .n)) (.s .n (.s .n (.s (.pl (.tk 0 (.tk 1 (.tk 2 (.tk 3 (.tk 4 (.tk 5 (.tk 6 (.tk 7 (.tk 8 (.tk 9 (.tk 10 (.tk 11 (.tk 12 (.tk 13 (.tk 14 (.tk 15 (.tk 16 (.tk 17 (.tk 18 (.tk 19 (.tk 20 (.tk 21 (.tk 22 (.tk 23 (.tk 24 (.tk 25 (.tk 26 (.tk 27 (.tk 28 (.tk 29 (.tk 30 (.tk 31 (.ef 32 [] (.ef 33 [3, 6, 10, 13, 19, 23, 29] .z))))))))))))))))))))))))))))))))))) .n))))))) [.pointer f, .int .i64 local_] w R = ref16_Flood_Beat.wp f local_ w (fun r w => R (encR false [(true, [(.i .i64), (.i .i64), (.i .i64), (.i .i64), (.i .u16), (.i .u16), (.i .i64), (.i .i64), (.i .i64), (.i .i64), (.i .i64), (.i .i64), (.i .i64), (.i .i64)])] r) w) := by kernel_rfl
set_option maxRecDepth 100000 in
theorem ref16_Flood_Beat.ok {f : Option Addr} {local_ : Int} {w : World} {R : TR [(true, [(.i .i64), (.i .i64), (.i .i64), (.i .i64), (.i .u16), (.i .u16), (.i .i64), (.i .i64), (.i .i64), (.i .i64), (.i .i64), (.i .i64), (.i .i64), (.i .i64)])] → World → Prop} (h : ref16_Flood_Beat.wp f local_ w R) : clS Tryz.prog F.ref16_Flood_Beat [.pointer f, .int .i64 local_] w false [(true, [(.i .i64), (.i .i64), (.i .i64), (.i .i64), (.i .u16), (.i .u16), (.i .i64), (.i .i64), (.i .i64), (.i .i64), (.i .i64), (.i .i64), (.i .i64), (.i .i64)])] R :=
  ok_of Tryz_follows Tryz.func117 (fun R => ref16_Flood_Beat.wp f local_ w R) (ref16_Flood_Beat.eq f local_ w) rfl h
/-! ### ref16_Flood_Synced -/
set_option maxRecDepth 100000 in
def ref16_Flood_Synced.wp (f : Option Addr) (w : World) (R : TR [(false, [.b])] → World → Prop) : Prop :=
drK w fun w1 =>
clS Tryz.prog F.ref16_Flood_Mine [.pointer f] w1 false [(false, [.b])] fun r2 w3 =>
Hold [] w3 ∧ (
brB r2.1.1 (
R ((true, ()), ()) w3) (
ncK f fun a4 =>
ld1 .sl (a4.add 3) w3 fun x5 =>
ncK f fun a6 =>
ld1 (.i .i64) (a6.add 1) w3 fun x7 =>
R ((decide ((x5.2.1 : Int) ≥ x7), ()), ()) w3))
set_option maxRecDepth 100000 in
theorem ref16_Flood_Synced.eq (f : Option Addr) (w : World) (R : Value → World → Prop) : wpF Tryz.prog Tryz.f121 (.s .n (.s (.pl (.tk 0 (.ef 1 [] (.tk 2 (.tk 3 (.tk 4 (.tk 5 (.tk 6 (.tk 7 (.tk 8 (.tk 9 (.tk 10 (.tk 11 (.tk 12 (.tk 13 (.tk 14 .z)))))))))))))))) .n)) [.pointer f] w R = ref16_Flood_Synced.wp f w (fun r w => R (encR false [(false, [.b])] r) w) := by kernel_rfl
set_option maxRecDepth 100000 in
theorem ref16_Flood_Synced.ok {f : Option Addr} {w : World} {R : TR [(false, [.b])] → World → Prop} (h : ref16_Flood_Synced.wp f w R) : clS Tryz.prog F.ref16_Flood_Synced [.pointer f] w false [(false, [.b])] R :=
  ok_of Tryz_follows Tryz.func121 (fun R => ref16_Flood_Synced.wp f w R) (ref16_Flood_Synced.eq f w) rfl h
/-! ### ref03_Goes -/
set_option maxRecDepth 100000 in
def ref03_Goes.wp (sum : Int) (b : Option Addr × Nat × Nat) (w : World) (R : TR [(false, [(.i .u16)])] → World → Prop) : Prop :=
LoopT (fun (self1 : ((Int) × (Int) × Unit) → World → Prop) (z2 : (Int) × (Int) × Unit) w3 => ∀ _ : Nat → Value,
brB (decide (z2.2.1 < (b.2.1 : Int))) (
ixK b.1 b.2.1 z2.2.1 fun a4 =>
ld1 (.i .u8) (a4.add (z2.2.1.toNat * 1)) w3 fun x5 =>
LoopT (fun (self6 : ((Int) × (Int) × Unit) → World → Prop) (z7 : (Int) × (Int) × Unit) w8 => ∀ _ : Nat → Value,
brB (decide (z7.2.1 ≥ 0)) (
shK (IntKind.wrap .u64 z7.2.1) (
nzK 32768 (
nzK 65536 (
brB ((IntKind.wrap .i64 (Int.tdiv z7.1 32768)) != (bitsX .and .i64 (shrX .i64 (IntKind.wrap .i64 x5) (IntKind.wrap .u64 z7.2.1)) 1)) (
self6 (bitsX .xor .i64 (Int.tmod (IntKind.wrap .i64 (z7.1 * 2)) 65536) 4129, IntKind.wrap .i64 (z7.2.1 - 1), ()) w8) (
self6 (Int.tmod (IntKind.wrap .i64 (z7.1 * 2)) 65536, IntKind.wrap .i64 (z7.2.1 - 1), ()) w8))))) (
self1 (z7.1, IntKind.wrap .i64 (z2.2.1 + 1), ()) w8)) (z2.1, 7, ()) w3) (
R ((IntKind.wrap .u16 z2.1, ()), ()) w3)) (IntKind.wrap .i64 sum, 0, ()) w
set_option maxRecDepth 100000 in
theorem ref03_Goes.eq (sum : Int) (b : Option Addr × Nat × Nat) (w : World) (R : Value → World → Prop) : wpF Tryz.prog Tryz.f129 (.s .n (.s .n (.s (.s .n (.lp [(5, (.i .i64)), (15, (.i .i64))] (.s .n (.s .n (.s (.s .n (.s .n (.lp [(5, (.i .i64)), (8, (.i .i64))] .n))) .n))))) .n))) [.int .u16 sum, .slice b.1 b.2.1 b.2.2] w R = ref03_Goes.wp sum b w (fun r w => R (encR false [(false, [(.i .u16)])] r) w) := by kernel_rfl
set_option maxRecDepth 100000 in
theorem ref03_Goes.ok {sum : Int} {b : Option Addr × Nat × Nat} {w : World} {R : TR [(false, [(.i .u16)])] → World → Prop} (h : ref03_Goes.wp sum b w R) : clS Tryz.prog F.ref03_Goes [.int .u16 sum, .slice b.1 b.2.1 b.2.2] w false [(false, [(.i .u16)])] R :=
  ok_of Tryz_follows Tryz.func129 (fun R => ref03_Goes.wp sum b w R) (ref03_Goes.eq sum b w) rfl h
/-! ### frame_Good_of_frame_Anchor -/
set_option maxRecDepth 100000 in
def frame_Good_of_frame_Anchor.wp (f0 : Int) (f1 : Int) (f2 : Int) (f3 : Int) (f4 : Int) (f5 : Int) (w : World) (R : TR [(false, [.b])] → World → Prop) : Prop :=
clS Tryz.prog F.frame_kind [.iface T.frame_Anchor (.agg #[.int .i64 f0, .int .u16 f1, .int .i64 f2, .int .u16 f3, .int .i64 f4, .int .i64 f5])] w false [(false, [(.i .u8)])] fun r1 w2 =>
brB (r1.1.1 == 0) (
R ((false, ()), ()) w2) (
clS Tryz.prog F.frame_Anchor_fields [.agg #[.int .i64 f0, .int .u16 f1, .int .i64 f2, .int .u16 f3, .int .i64 f4, .int .i64 f5]] w2 false [(false, [.sl])] fun r3 w4 =>
LoopT (fun (self5 : ((Int) × Unit) → World → Prop) (z6 : (Int) × Unit) w7 => ∀ _ : Nat → Value,
brB (decide (z6.1 < (r3.1.1.2.1 : Int))) (
ixK r3.1.1.1 r3.1.1.2.1 z6.1 fun a8 =>
ldN [(.i .i64), (.i .i64), (.i .i64)] (a8.add (z6.1.toNat * 3)) 0 w7 fun x9 =>
alK [.int .i64 0, .int .i64 0, .int .i64 0] T.frame_field w7 fun p10 w11 =>
stN [.int .i64 x9.1, .int .i64 x9.2.1, .int .i64 x9.2.2.1] p10 0 w11 fun w12 =>
ld1 (.i .i64) (p10.add 1) w12 fun x13 =>
brB (decide (x13 < 0)) (
R ((false, ()), ()) w12) (
ld1 (.i .i64) (p10.add 1) w12 fun x14 =>
ld1 (.i .i64) (p10.add 2) w12 fun x15 =>
brB (decide (x14 > x15)) (
R ((false, ()), ()) w12) (
self5 (IntKind.wrap .i64 (z6.1 + 1), ()) w12))) (
R ((true, ()), ()) w7)) (0, ()) w4)
set_option maxRecDepth 100000 in
theorem frame_Good_of_frame_Anchor.eq (f0 : Int) (f1 : Int) (f2 : Int) (f3 : Int) (f4 : Int) (f5 : Int) (w : World) (R : Value → World → Prop) : wpF Tryz.prog Tryz.f136 (.s .n (.s .n (.s (.s .n (.lp [(11, (.i .i64))] .n)) .n))) [.iface T.frame_Anchor (.agg #[.int .i64 f0, .int .u16 f1, .int .i64 f2, .int .u16 f3, .int .i64 f4, .int .i64 f5])] w R = frame_Good_of_frame_Anchor.wp f0 f1 f2 f3 f4 f5 w (fun r w => R (encR false [(false, [.b])] r) w) := by kernel_rfl
set_option maxRecDepth 100000 in
theorem frame_Good_of_frame_Anchor.ok {f0 : Int} {f1 : Int} {f2 : Int} {f3 : Int} {f4 : Int} {f5 : Int} {w : World} {R : TR [(false, [.b])] → World → Prop} (h : frame_Good_of_frame_Anchor.wp f0 f1 f2 f3 f4 f5 w R) : clS Tryz.prog F.frame_Good [.iface T.frame_Anchor (.agg #[.int .i64 f0, .int .u16 f1, .int .i64 f2, .int .u16 f3, .int .i64 f4, .int .i64 f5])] w false [(false, [.b])] R :=
  ok_of Tryz_follows Tryz.func136 (fun R => frame_Good_of_frame_Anchor.wp f0 f1 f2 f3 f4 f5 w R) (frame_Good_of_frame_Anchor.eq f0 f1 f2 f3 f4 f5 w) rfl h
/-! ### frame_Good_of_frame_Sync -/
set_option maxRecDepth 100000 in
def frame_Good_of_frame_Sync.wp (f0 : Int) (f1 : Int) (f2 : Int) (f3 : Int) (f4 : Int) (f5 : Int) (w : World) (R : TR [(false, [.b])] → World → Prop) : Prop :=
clS Tryz.prog F.frame_kind [.iface T.frame_Sync (.agg #[.int .i64 f0, .int .i64 f1, .int .u16 f2, .int .u16 f3, .int .i64 f4, .int .i64 f5])] w false [(false, [(.i .u8)])] fun r1 w2 =>
brB (r1.1.1 == 0) (
R ((false, ()), ()) w2) (
clS Tryz.prog F.frame_Sync_fields [.agg #[.int .i64 f0, .int .i64 f1, .int .u16 f2, .int .u16 f3, .int .i64 f4, .int .i64 f5]] w2 false [(false, [.sl])] fun r3 w4 =>
LoopT (fun (self5 : ((Int) × Unit) → World → Prop) (z6 : (Int) × Unit) w7 => ∀ _ : Nat → Value,
brB (decide (z6.1 < (r3.1.1.2.1 : Int))) (
ixK r3.1.1.1 r3.1.1.2.1 z6.1 fun a8 =>
ldN [(.i .i64), (.i .i64), (.i .i64)] (a8.add (z6.1.toNat * 3)) 0 w7 fun x9 =>
alK [.int .i64 0, .int .i64 0, .int .i64 0] T.frame_field w7 fun p10 w11 =>
stN [.int .i64 x9.1, .int .i64 x9.2.1, .int .i64 x9.2.2.1] p10 0 w11 fun w12 =>
ld1 (.i .i64) (p10.add 1) w12 fun x13 =>
brB (decide (x13 < 0)) (
R ((false, ()), ()) w12) (
ld1 (.i .i64) (p10.add 1) w12 fun x14 =>
ld1 (.i .i64) (p10.add 2) w12 fun x15 =>
brB (decide (x14 > x15)) (
R ((false, ()), ()) w12) (
self5 (IntKind.wrap .i64 (z6.1 + 1), ()) w12))) (
R ((true, ()), ()) w7)) (0, ()) w4)
set_option maxRecDepth 100000 in
theorem frame_Good_of_frame_Sync.eq (f0 : Int) (f1 : Int) (f2 : Int) (f3 : Int) (f4 : Int) (f5 : Int) (w : World) (R : Value → World → Prop) : wpF Tryz.prog Tryz.f136 (.s .n (.s .n (.s (.s .n (.lp [(11, (.i .i64))] .n)) .n))) [.iface T.frame_Sync (.agg #[.int .i64 f0, .int .i64 f1, .int .u16 f2, .int .u16 f3, .int .i64 f4, .int .i64 f5])] w R = frame_Good_of_frame_Sync.wp f0 f1 f2 f3 f4 f5 w (fun r w => R (encR false [(false, [.b])] r) w) := by kernel_rfl
set_option maxRecDepth 100000 in
theorem frame_Good_of_frame_Sync.ok {f0 : Int} {f1 : Int} {f2 : Int} {f3 : Int} {f4 : Int} {f5 : Int} {w : World} {R : TR [(false, [.b])] → World → Prop} (h : frame_Good_of_frame_Sync.wp f0 f1 f2 f3 f4 f5 w R) : clS Tryz.prog F.frame_Good [.iface T.frame_Sync (.agg #[.int .i64 f0, .int .i64 f1, .int .u16 f2, .int .u16 f3, .int .i64 f4, .int .i64 f5])] w false [(false, [.b])] R :=
  ok_of Tryz_follows Tryz.func136 (fun R => frame_Good_of_frame_Sync.wp f0 f1 f2 f3 f4 f5 w R) (frame_Good_of_frame_Sync.eq f0 f1 f2 f3 f4 f5 w) rfl h
/-! ### frame_Good_of_frame_Want -/
set_option maxRecDepth 100000 in
def frame_Good_of_frame_Want.wp (f0 : Int) (w : World) (R : TR [(false, [.b])] → World → Prop) : Prop :=
clS Tryz.prog F.frame_kind [.iface T.frame_Want (.agg #[.int .i64 f0])] w false [(false, [(.i .u8)])] fun r1 w2 =>
brB (r1.1.1 == 0) (
R ((false, ()), ()) w2) (
clS Tryz.prog F.frame_Want_fields [.agg #[.int .i64 f0]] w2 false [(false, [.sl])] fun r3 w4 =>
LoopT (fun (self5 : ((Int) × Unit) → World → Prop) (z6 : (Int) × Unit) w7 => ∀ _ : Nat → Value,
brB (decide (z6.1 < (r3.1.1.2.1 : Int))) (
ixK r3.1.1.1 r3.1.1.2.1 z6.1 fun a8 =>
ldN [(.i .i64), (.i .i64), (.i .i64)] (a8.add (z6.1.toNat * 3)) 0 w7 fun x9 =>
alK [.int .i64 0, .int .i64 0, .int .i64 0] T.frame_field w7 fun p10 w11 =>
stN [.int .i64 x9.1, .int .i64 x9.2.1, .int .i64 x9.2.2.1] p10 0 w11 fun w12 =>
ld1 (.i .i64) (p10.add 1) w12 fun x13 =>
brB (decide (x13 < 0)) (
R ((false, ()), ()) w12) (
ld1 (.i .i64) (p10.add 1) w12 fun x14 =>
ld1 (.i .i64) (p10.add 2) w12 fun x15 =>
brB (decide (x14 > x15)) (
R ((false, ()), ()) w12) (
self5 (IntKind.wrap .i64 (z6.1 + 1), ()) w12))) (
R ((true, ()), ()) w7)) (0, ()) w4)
set_option maxRecDepth 100000 in
theorem frame_Good_of_frame_Want.eq (f0 : Int) (w : World) (R : Value → World → Prop) : wpF Tryz.prog Tryz.f136 (.s .n (.s .n (.s (.s .n (.lp [(11, (.i .i64))] .n)) .n))) [.iface T.frame_Want (.agg #[.int .i64 f0])] w R = frame_Good_of_frame_Want.wp f0 w (fun r w => R (encR false [(false, [.b])] r) w) := by kernel_rfl
set_option maxRecDepth 100000 in
theorem frame_Good_of_frame_Want.ok {f0 : Int} {w : World} {R : TR [(false, [.b])] → World → Prop} (h : frame_Good_of_frame_Want.wp f0 w R) : clS Tryz.prog F.frame_Good [.iface T.frame_Want (.agg #[.int .i64 f0])] w false [(false, [.b])] R :=
  ok_of Tryz_follows Tryz.func136 (fun R => frame_Good_of_frame_Want.wp f0 w R) (frame_Good_of_frame_Want.eq f0 w) rfl h
/-! ### flood_Flood_Hear -/
set_option maxRecDepth 100000 in
def flood_Flood_Hear.wp (f : Option Addr) (s0 : Int) (s1 : Int) (s2 : Int) (s3 : Int) (s4 : Int) (s5 : Int) (local_ : Int) (w : World) (R : TR [(false, [(.i .i64)])] → World → Prop) : Prop :=
alK [.int .i64 s0, .int .i64 s1, .int .u16 s2, .int .u16 s3, .int .i64 s4, .int .i64 s5] T.frame_Sync w fun p1 w2 =>
brB (Option.isNone f) (
R ((0, ()), ()) w2) (
ld1 (.i .i64) (p1.add 4) w2 fun x3 =>
brB (decide (x3 < 0)) (
R ((0, ()), ()) w2) (
ld1 (.i .i64) (p1.add 4) w2 fun x4 =>
brB (decide (x4 ≥ 63)) (
R ((0, ()), ()) w2) (
brB (decide (local_ < 0)) (
R ((0, ()), ()) w2) (
brB (decide (local_ > 1125899906842624)) (
R ((0, ()), ()) w2) (
ld1 (.i .i64) (p1.add 5) w2 fun x5 =>
brB (decide (x5 < 0)) (
R ((0, ()), ()) w2) (
ld1 (.i .i64) (p1.add 5) w2 fun x6 =>
brB (decide (x6 > 1125899906842624)) (
R ((0, ()), ()) w2) (
drK w2 fun w7 =>
ncK f fun a8 =>
ld1 .p a8 w7 fun x9 =>
ld1 (.i .i64) (p1.add 1) w7 fun x10 =>
ld1 (.i .u16) (p1.add 2) w7 fun x11 =>
ld1 (.i .u16) (p1.add 3) w7 fun x12 =>
clS Tryz.prog F.elect_Elect_Hear [.pointer x9, .int .i64 x10, .agg #[.int .u16 x11, .int .u16 x12]] w7 false [(false, [(.i .i64)])] fun r13 w14 =>
Hold [(9, (p1.add 3), (w7.cell? (p1.add 3)).getD undef), (7, (p1.add 2), (w7.cell? (p1.add 2)).getD undef)] w14 ∧ (
brB (r13.1.1 == 0) (
R ((r13.1.1, ()), ()) w14) (
CutT (fun (J15 : Unit → World → Prop) =>
brB (r13.1.1 == 2) (
clS Tryz.prog F.flood_Flood_forget [.pointer f] w14 true [] fun r18 w19 =>
J15 (()) w19) (
J15 (()) w14)) (fun (z16 : Unit) w17 => ∀ _ : Nat → Value,
ld1 (.i .i64) (p1.add 5) w17 fun x20 =>
ld1 (.i .i64) (p1.add 4) w17 fun x21 =>
alK [.int .i64 0, .int .i64 0, .int .i64 0] T.table_Entry w17 fun p22 w23 =>
stN [.int .i64 local_, .int .i64 (IntKind.wrap .i64 (x20 - local_)), .int .i64 (IntKind.wrap .i64 (x21 + 1))] p22 0 w23 fun w24 =>
CutT (fun (J25 : Unit → World → Prop) =>
drK w24 fun w28 =>
ncK f fun a29 =>
ldN [(.i .i64), (.i .i64), (.i .i64)] p22 0 w28 fun x30 =>
clS Tryz.prog F.table_Table_Add [.pointer (some (a29.add 6)), .agg #[.int .i64 x30.1, .int .i64 x30.2.1, .int .i64 x30.2.2.1]] w28 false [(false, [(.i .i64)])] fun r31 w32 =>
Hold [] w32 ∧ (
brB (r31.1.1 != 0) (
ncK f fun a33 =>
clS Tryz.prog F.table_Table_Clear [.pointer (some (a33.add 6))] w32 true [] fun r34 w35 =>
drK w35 fun w36 =>
ncK f fun a37 =>
ldN [(.i .i64), (.i .i64), (.i .i64)] p22 0 w36 fun x38 =>
clS Tryz.prog F.table_Table_Add [.pointer (some (a37.add 6)), .agg #[.int .i64 x38.1, .int .i64 x38.2.1, .int .i64 x38.2.2.1]] w36 false [(false, [(.i .i64)])] fun r39 w40 =>
Hold [] w40 ∧ (
J25 (()) w40)) (
J25 (()) w32))) (fun (z26 : Unit) w27 => ∀ _ : Nat → Value,
ld1 (.i .i64) (p1.add 5) w27 fun x41 =>
ld1 (.i .i64) (p1.add 4) w27 fun x42 =>
ncK f fun a43 =>
stN [.int .i64 local_, .int .i64 x41, .int .i64 (IntKind.wrap .i64 (x42 + 1))] (a43.add 7) 0 w27 fun w44 =>
R ((r13.1.1, ()), ()) w44)))))))))))
set_option maxRecDepth 100000 in
theorem flood_Flood_Hear.eq (f : Option Addr) (s0 : Int) (s1 : Int) (s2 : Int) (s3 : Int) (s4 : Int) (s5 : Int) (local_ : Int) (w : World) (R : Value → World → Prop) : wpF Tryz.prog Tryz.f137 (.s .n (.s .n (.s (.pl (.tk 0 (.tk 1 (.tk 2 (.tk 3 (.tk 4 (.tk 5 (.tk 6 (.tk 7 (.tk 8 (.tk 9 (.tk 10 (.ef 11 [3, 5] (.tk 12 .z)))))))))))))) (.s .n (.ct [] .n (.s .n (.ct [] (.s (.pl (.tk 0 (.tk 1 (.tk 2 (.tk 3 (.ef 4 [3] (.tk 5 .z))))))) (.s (.s .n (.pl (.tk 0 (.tk 1 (.tk 2 (.tk 3 (.ef 4 [3] .z))))))) .n)) .n))))))) [.pointer f, .agg #[.int .i64 s0, .int .i64 s1, .int .u16 s2, .int .u16 s3, .int .i64 s4, .int .i64 s5], .int .i64 local_] w R = flood_Flood_Hear.wp f s0 s1 s2 s3 s4 s5 local_ w (fun r w => R (encR false [(false, [(.i .i64)])] r) w) := by kernel_rfl
set_option maxRecDepth 100000 in
theorem flood_Flood_Hear.ok {f : Option Addr} {s0 : Int} {s1 : Int} {s2 : Int} {s3 : Int} {s4 : Int} {s5 : Int} {local_ : Int} {w : World} {R : TR [(false, [(.i .i64)])] → World → Prop} (h : flood_Flood_Hear.wp f s0 s1 s2 s3 s4 s5 local_ w R) : clS Tryz.prog F.flood_Flood_Hear [.pointer f, .agg #[.int .i64 s0, .int .i64 s1, .int .u16 s2, .int .u16 s3, .int .i64 s4, .int .i64 s5], .int .i64 local_] w false [(false, [(.i .i64)])] R :=
  ok_of Tryz_follows Tryz.func137 (fun R => flood_Flood_Hear.wp f s0 s1 s2 s3 s4 s5 local_ w R) (flood_Flood_Hear.eq f s0 s1 s2 s3 s4 s5 local_ w) rfl h
/-! ### source_Source_Put -/
set_option maxRecDepth 100000 in
def source_Source_Put.wp (s : Option Addr) (e0 : Int) (e1 : Int) (e2 : Int) (w_0 : Int) (w_1 : Int) (w : World) (R : TR [(false, [(.i .i64)])] → World → Prop) : Prop :=
alK [.int .i64 e0, .int .i64 e1, .int .i64 e2] T.table_Entry w fun p1 w2 =>
alK [.int .i64 w_0, .int .u16 w_1] T.source_Whose w2 fun p3 w4 =>
brB (Option.isNone s) (
R ((2, ()), ()) w4) (
ldN [(.i .i64), (.i .i64), (.i .i64)] p1 0 w4 fun x5 =>
clS Tryz.prog F.table_Entry_Good [.agg #[.int .i64 x5.1, .int .i64 x5.2.1, .int .i64 x5.2.2.1]] w4 false [(false, [.b])] fun r6 w7 =>
brB (!r6.1.1) (
R ((1, ()), ()) w7) (
ld1 (.i .i64) p3 w7 fun x8 =>
brB (decide (x8 < 0)) (
R ((1, ()), ()) w7) (
ld1 (.i .i64) p3 w7 fun x9 =>
brB (decide (x9 ≥ 64)) (
R ((1, ()), ()) w7) (
drK w7 fun w10 =>
ldN [(.i .i64), (.i .i64), (.i .i64)] p1 0 w10 fun x11 =>
ldN [(.i .i64), (.i .u16)] p3 0 w10 fun x12 =>
ncK s fun a13 =>
stN [.int .i64 x11.1, .int .i64 x11.2.1, .int .i64 x11.2.2.1] (a13.add 1) 0 w10 fun w14 =>
Hold [(5, (p3.add 0), (w10.cell? (p3.add 0)).getD undef), (5, (p3.add 1), (w10.cell? (p3.add 1)).getD undef)] w14 ∧ (
ncK s fun a15 =>
stN [.int .i64 x12.1, .int .u16 x12.2.1] (a15.add 4) 0 w14 fun w16 =>
Hold [] w16 ∧ (
ncK s fun a17 =>
stN [.int .i64 0] (a17.add 6) 0 w16 fun w18 =>
Hold [] w18 ∧ (
ncK s fun a19 =>
stN [.bool true] (a19.add 7) 0 w18 fun w20 =>
Hold [] w20 ∧ (
R ((0, ()), ()) w20))))))))
set_option maxRecDepth 100000 in
theorem source_Source_Put.eq (s : Option Addr) (e0 : Int) (e1 : Int) (e2 : Int) (w_0 : Int) (w_1 : Int) (w : World) (R : Value → World → Prop) : wpF Tryz.prog Tryz.f141 (.s .n (.s .n (.s (.pl (.tk 0 (.tk 1 (.tk 2 (.tk 3 (.tk 4 (.tk 5 (.tk 6 (.tk 7 (.ef 8 [4] (.tk 9 (.tk 10 (.ef 11 [5] (.tk 12 (.tk 13 (.ef 14 [] (.tk 15 (.tk 16 (.ef 17 [] .z))))))))))))))))))) .n))) [.pointer s, .agg #[.int .i64 e0, .int .i64 e1, .int .i64 e2], .agg #[.int .i64 w_0, .int .u16 w_1]] w R = source_Source_Put.wp s e0 e1 e2 w_0 w_1 w (fun r w => R (encR false [(false, [(.i .i64)])] r) w) := by kernel_rfl
set_option maxRecDepth 100000 in
theorem source_Source_Put.ok {s : Option Addr} {e0 : Int} {e1 : Int} {e2 : Int} {w_0 : Int} {w_1 : Int} {w : World} {R : TR [(false, [(.i .i64)])] → World → Prop} (h : source_Source_Put.wp s e0 e1 e2 w_0 w_1 w R) : clS Tryz.prog F.source_Source_Put [.pointer s, .agg #[.int .i64 e0, .int .i64 e1, .int .i64 e2], .agg #[.int .i64 w_0, .int .u16 w_1]] w false [(false, [(.i .i64)])] R :=
  ok_of Tryz_follows Tryz.func141 (fun R => source_Source_Put.wp s e0 e1 e2 w_0 w_1 w R) (source_Source_Put.eq s e0 e1 e2 w_0 w_1 w) rfl h
/-! ### anchor_Book_Hear -/
set_option maxRecDepth 100000 in
def anchor_Book_Hear.wp (b : Option Addr) (a0 : Int) (a1 : Int) (a2 : Int) (a3 : Int) (a4 : Int) (a5 : Int) (w : World) (R : TR [(false, [.b])] → World → Prop) : Prop :=
alK [.int .i64 a0, .int .u16 a1, .int .i64 a2, .int .u16 a3, .int .i64 a4, .int .i64 a5] T.frame_Anchor w fun p1 w2 =>
CutT (fun (J3 : Unit → World → Prop) =>
drK w2 fun w6 =>
brB (Option.isNone b) (
R ((false, ()), ()) w6) (
ldN [(.i .i64), (.i .u16), (.i .i64), (.i .u16), (.i .i64), (.i .i64)] p1 0 w6 fun x7 =>
clS Tryz.prog F.frame_Good [.iface T.frame_Anchor (.agg #[.int .i64 x7.1, .int .u16 x7.2.1, .int .i64 x7.2.2.1, .int .u16 x7.2.2.2.1, .int .i64 x7.2.2.2.2.1, .int .i64 x7.2.2.2.2.2.1])] w6 false [(false, [.b])] fun r8 w9 =>
Hold [(3, (p1.add 0), (w6.cell? (p1.add 0)).getD undef), (3, (p1.add 1), (w6.cell? (p1.add 1)).getD undef), (3, (p1.add 2), (w6.cell? (p1.add 2)).getD undef), (3, (p1.add 3), (w6.cell? (p1.add 3)).getD undef), (3, (p1.add 4), (w6.cell? (p1.add 4)).getD undef), (3, (p1.add 5), (w6.cell? (p1.add 5)).getD undef)] w9 ∧ (
brB (!r8.1.1) (
R ((false, ()), ()) w9) (
ncK b fun a10 =>
ld1 .b a10 w9 fun x11 =>
brB x11 (
ld1 (.i .u16) (p1.add 1) w9 fun x12 =>
ncK b fun a13 =>
ld1 (.i .u16) ((a13.add 1).add 1) w9 fun x14 =>
clS Tryz.prog F.wrap_Newer [.int .u16 x12, .int .u16 x14] w9 false [(false, [.b])] fun r15 w16 =>
Hold [(12, a10, (w9.cell? a10).getD undef), (3, (p1.add 0), (w6.cell? (p1.add 0)).getD undef), (3, (p1.add 1), (w6.cell? (p1.add 1)).getD undef), (3, (p1.add 2), (w6.cell? (p1.add 2)).getD undef), (3, (p1.add 3), (w6.cell? (p1.add 3)).getD undef), (3, (p1.add 4), (w6.cell? (p1.add 4)).getD undef), (3, (p1.add 5), (w6.cell? (p1.add 5)).getD undef)] w16 ∧ (
brB (!r15.1.1) (
R ((false, ()), ()) w16) (
J3 (()) w16))) (
J3 (()) w9))))) (fun (z4 : Unit) w5 => ∀ _ : Nat → Value,
drK w5 fun w17 =>
ldN [(.i .i64), (.i .u16), (.i .i64), (.i .u16), (.i .i64), (.i .i64)] p1 0 w17 fun x18 =>
ncK b fun a19 =>
stN [.bool true] a19 0 w17 fun w20 =>
Hold [(2, (p1.add 0), (w17.cell? (p1.add 0)).getD undef), (2, (p1.add 1), (w17.cell? (p1.add 1)).getD undef), (2, (p1.add 2), (w17.cell? (p1.add 2)).getD undef), (2, (p1.add 3), (w17.cell? (p1.add 3)).getD undef), (2, (p1.add 4), (w17.cell? (p1.add 4)).getD undef), (2, (p1.add 5), (w17.cell? (p1.add 5)).getD undef)] w20 ∧ (
ncK b fun a21 =>
stN [.int .i64 x18.1, .int .u16 x18.2.1, .int .i64 x18.2.2.1, .int .u16 x18.2.2.2.1, .int .i64 x18.2.2.2.2.1, .int .i64 x18.2.2.2.2.2.1] (a21.add 1) 0 w20 fun w22 =>
Hold [] w22 ∧ (
R ((true, ()), ()) w22)))
set_option maxRecDepth 100000 in
theorem anchor_Book_Hear.eq (b : Option Addr) (a0 : Int) (a1 : Int) (a2 : Int) (a3 : Int) (a4 : Int) (a5 : Int) (w : World) (R : Value → World → Prop) : wpF Tryz.prog Tryz.f142 (.s .n (.ct [] (.s (.pl (.tk 0 (.tk 1 (.tk 2 (.tk 3 (.tk 4 (.ef 5 [] (.tk 6 (.tk 7 (.tk 8 (.tk 9 (.tk 10 (.tk 11 (.tk 12 (.tk 13 (.tk 14 (.tk 15 (.tk 16 (.tk 17 (.tk 18 (.tk 19 (.tk 20 (.ef 21 [15, 20] (.tk 22 (.tk 23 (.tk 24 .z)))))))))))))))))))))))))) .n) (.s (.pl (.tk 0 (.tk 1 (.tk 2 (.tk 3 (.tk 4 (.ef 5 [] (.tk 6 (.tk 7 (.ef 8 [2] .z)))))))))) .n))) [.pointer b, .agg #[.int .i64 a0, .int .u16 a1, .int .i64 a2, .int .u16 a3, .int .i64 a4, .int .i64 a5]] w R = anchor_Book_Hear.wp b a0 a1 a2 a3 a4 a5 w (fun r w => R (encR false [(false, [.b])] r) w) := by kernel_rfl
set_option maxRecDepth 100000 in
theorem anchor_Book_Hear.ok {b : Option Addr} {a0 : Int} {a1 : Int} {a2 : Int} {a3 : Int} {a4 : Int} {a5 : Int} {w : World} {R : TR [(false, [.b])] → World → Prop} (h : anchor_Book_Hear.wp b a0 a1 a2 a3 a4 a5 w R) : clS Tryz.prog F.anchor_Book_Hear [.pointer b, .agg #[.int .i64 a0, .int .u16 a1, .int .i64 a2, .int .u16 a3, .int .i64 a4, .int .i64 a5]] w false [(false, [.b])] R :=
  ok_of Tryz_follows Tryz.func142 (fun R => anchor_Book_Hear.wp b a0 a1 a2 a3 a4 a5 w R) (anchor_Book_Hear.eq b a0 a1 a2 a3 a4 a5 w) rfl h
/-! ### globe_Of -/
set_option maxRecDepth 100000 in
def globe_Of.wp (drift : Int) (t : Option Addr) (w : World) (R : TR [(true, [(.i .i64), (.i .i64), (.i .i64), (.i .i64), (.i .i64)]), (false, [.b])] → World → Prop) : Prop :=
alK [.int .i64 0, .int .i64 0, .int .i64 0, .int .i64 0, .int .i64 0] T.globe_Map w fun p1 w2 =>
clS Tryz.prog F.table_Table_Len [.pointer t] w2 false [(false, [(.i .i64)])] fun r3 w4 =>
brB (r3.1.1 == 0) (
stN [.int .i64 0, .int .i64 0, .int .i64 0, .int .i64 0, .int .i64 0] p1 0 w4 fun w5 =>
ldN [(.i .i64), (.i .i64), (.i .i64), (.i .i64), (.i .i64)] p1 0 w5 fun x6 =>
R ((x6.1, x6.2.1, x6.2.2.1, x6.2.2.2.1, x6.2.2.2.2.1, ()), (false, ()), ()) w5) (
alK [.int .i64 0] T.int w4 fun p7 w8 =>
alK [.int .i64 0] T.int w8 fun p9 w10 =>
stN [.int .i64 0] p7 0 w10 fun w11 =>
stN [.int .i64 0] p9 0 w11 fun w12 =>
clS Tryz.prog F.table_Table_All [.pointer t] w12 false [(false, [.any])] fun r13 w14 =>
RfT Tryz.prog r13.1.1 [(true, [(.i .i64), (.i .i64), (.i .i64)])] w14 (fun x15 k16 w17 =>
alK [.int .i64 0, .int .i64 0, .int .i64 0] T.table_Entry w17 fun p23 w24 =>
stN [.int .i64 x15.1.1, .int .i64 x15.1.2.1, .int .i64 x15.1.2.2.1] p23 0 w24 fun w25 =>
k16 w25 fun go18 lv19 w20 =>
ld1 (.i .i64) p7 w20 fun x26 =>
ld1 (.i .i64) p23 w20 fun x27 =>
stN [.int .i64 (IntKind.wrap .i64 (x26 + x27))] p7 0 w20 fun w28 =>
ld1 (.i .i64) p9 w28 fun x29 =>
ld1 (.i .i64) (p23.add 1) w28 fun x30 =>
stN [.int .i64 (IntKind.wrap .i64 (x29 + x30))] p9 0 w28 fun w31 =>
go18 w31) (fun D21 w22 =>
ld1 (.i .i64) p7 w22 fun x32 =>
clS Tryz.prog F.fix_Floor [.int .i64 x32, .int .i64 r3.1.1] w22 true [(false, [(.i .i64)]), (false, [(.i .i64)]), (false, [.b])] fun r33 w34 =>
stN [.int .i64 r33.1.1] p7 0 w34 fun w35 =>
ld1 (.i .i64) p9 w35 fun x36 =>
clS Tryz.prog F.fix_Floor [.int .i64 x36, .int .i64 r3.1.1] w35 true [(false, [(.i .i64)]), (false, [(.i .i64)]), (false, [.b])] fun r37 w38 =>
stN [.int .i64 r37.1.1] p9 0 w38 fun w39 =>
drK w39 fun w40 =>
ld1 (.i .i64) p7 w40 fun x41 =>
ld1 (.i .i64) p9 w40 fun x42 =>
clS Tryz.prog F.table_Table_List [.pointer t] w40 false [(false, [.sl])] fun r43 w44 =>
Hold [(1, p9, (w40.cell? p9).getD undef), (0, p7, (w40.cell? p7).getD undef)] w44 ∧ (
clS Tryz.prog F.slope_Of [.int .i64 drift, .slice r43.1.1.1 r43.1.1.2.1 r43.1.1.2.2] w44 false [(true, [(.i .i64), (.i .i64)])] fun r45 w46 =>
Hold [(1, p9, (w40.cell? p9).getD undef), (0, p7, (w40.cell? p7).getD undef)] w46 ∧ (
clS Tryz.prog F.table_Table_Hops [.pointer t] w46 false [(false, [(.i .i64)])] fun r47 w48 =>
Hold [(1, p9, (w40.cell? p9).getD undef), (0, p7, (w40.cell? p7).getD undef)] w48 ∧ (
stN [.int .i64 x41, .int .i64 x42, .int .i64 r45.1.1, .int .i64 r45.1.2.1, .int .i64 r47.1.1] p1 0 w48 fun w49 =>
Hold [] w49 ∧ (
tkK D21 w49 fun w50 =>
ldN [(.i .i64), (.i .i64), (.i .i64), (.i .i64), (.i .i64)] p1 0 w50 fun x51 =>
R ((x51.1, x51.2.1, x51.2.2.1, x51.2.2.2.1, x51.2.2.2.2.1, ()), (true, ()), ()) w50))))) [])
set_option maxRecDepth 100000 in
theorem globe_Of.eq (drift : Int) (t : Option Addr) (w : World) (R : Value → World → Prop) : wpF Tryz.prog Tryz.f143 (.s .n (.s .n (.s .n (.s .n (.s (.s .n (.rf [(true, [(.i .i64), (.i .i64), (.i .i64)])] .n .n)) (.s .n (.s .n (.s (.pl (.tk 0 (.tk 1 (.tk 2 (.tk 3 (.tk 6 (.ef 4 [] (.ef 5 [] (.ef 7 [] (.tk 8 (.ef 9 [0, 1] (.tk 10 .z)))))))))))) .n)))))))) [.int .i64 drift, .pointer t] w R = globe_Of.wp drift t w (fun r w => R (encR true [(true, [(.i .i64), (.i .i64), (.i .i64), (.i .i64), (.i .i64)]), (false, [.b])] r) w) := by kernel_rfl
set_option maxRecDepth 100000 in
theorem globe_Of.ok {drift : Int} {t : Option Addr} {w : World} {R : TR [(true, [(.i .i64), (.i .i64), (.i .i64), (.i .i64), (.i .i64)]), (false, [.b])] → World → Prop} (h : globe_Of.wp drift t w R) : clS Tryz.prog F.globe_Of [.int .i64 drift, .pointer t] w true [(true, [(.i .i64), (.i .i64), (.i .i64), (.i .i64), (.i .i64)]), (false, [.b])] R :=
  ok_of Tryz_follows Tryz.func143 (fun R => globe_Of.wp drift t w R) (globe_Of.eq drift t w) rfl h
/-! ### globe_Map_Global -/
set_option maxRecDepth 100000 in
def globe_Map_Global.wp (m0 : Int) (m1 : Int) (m2 : Int) (m3 : Int) (m4 : Int) (local_ : Int) (w : World) (R : TR [(false, [(.i .i64)]), (false, [.b])] → World → Prop) : Prop :=
alK [.int .i64 m0, .int .i64 m1, .int .i64 m2, .int .i64 m3, .int .i64 m4] T.globe_Map w fun p1 w2 =>
brB (decide (local_ < 0)) (
R ((0, ()), (false, ()), ()) w2) (
brB (decide (local_ > 1125899906842624)) (
R ((0, ()), (false, ()), ()) w2) (
ld1 (.i .i64) p1 w2 fun x3 =>
brB (decide (x3 < 0)) (
R ((0, ()), (false, ()), ()) w2) (
ld1 (.i .i64) p1 w2 fun x4 =>
brB (decide (x4 > 1125899906842624)) (
R ((0, ()), (false, ()), ()) w2) (
ldN [(.i .i64), (.i .i64)] (p1.add 2) 0 w2 fun x5 =>
ld1 (.i .i64) p1 w2 fun x6 =>
clS Tryz.prog F.slope_Slope_Gain [.agg #[.int .i64 x5.1, .int .i64 x5.2.1], .int .i64 (IntKind.wrap .i64 (local_ - x6))] w2 false [(false, [(.i .i64)])] fun r7 w8 =>
ld1 (.i .i64) (p1.add 1) w8 fun x9 =>
clS Tryz.prog F.fix_Clamp [.int .i64 x9, .int .i64 (Int.negSucc 1125899906842623), .int .i64 1125899906842624] w8 false [(false, [(.i .i64)])] fun r10 w11 =>
clS Tryz.prog F.fix_Sat [.int .i64 local_, .int .i64 r10.1.1] w11 false [(false, [(.i .i64)])] fun r12 w13 =>
clS Tryz.prog F.fix_Clamp [.int .i64 r7.1.1, .int .i64 (Int.negSucc 1125899906842623), .int .i64 1125899906842624] w13 false [(false, [(.i .i64)])] fun r14 w15 =>
clS Tryz.prog F.fix_Sat [.int .i64 r12.1.1, .int .i64 r14.1.1] w15 false [(false, [(.i .i64)])] fun r16 w17 =>
brB (decide (r16.1.1 < 0)) (
R ((0, ()), (false, ()), ()) w17) (
brB (decide (r16.1.1 > 1125899906842624)) (
R ((0, ()), (false, ()), ()) w17) (
R ((r16.1.1, ()), (true, ()), ()) w17))))))
set_option maxRecDepth 100000 in
theorem globe_Map_Global.eq (m0 : Int) (m1 : Int) (m2 : Int) (m3 : Int) (m4 : Int) (local_ : Int) (w : World) (R : Value → World → Prop) : wpF Tryz.prog Tryz.f144 .n [.agg #[.int .i64 m0, .int .i64 m1, .int .i64 m2, .int .i64 m3, .int .i64 m4], .int .i64 local_] w R = globe_Map_Global.wp m0 m1 m2 m3 m4 local_ w (fun r w => R (encR true [(false, [(.i .i64)]), (false, [.b])] r) w) := by kernel_rfl
set_option maxRecDepth 100000 in
theorem globe_Map_Global.ok {m0 : Int} {m1 : Int} {m2 : Int} {m3 : Int} {m4 : Int} {local_ : Int} {w : World} {R : TR [(false, [(.i .i64)]), (false, [.b])] → World → Prop} (h : globe_Map_Global.wp m0 m1 m2 m3 m4 local_ w R) : clS Tryz.prog F.globe_Map_Global [.agg #[.int .i64 m0, .int .i64 m1, .int .i64 m2, .int .i64 m3, .int .i64 m4], .int .i64 local_] w true [(false, [(.i .i64)]), (false, [.b])] R :=
  ok_of Tryz_follows Tryz.func144 (fun R => globe_Map_Global.wp m0 m1 m2 m3 m4 local_ w R) (globe_Map_Global.eq m0 m1 m2 m3 m4 local_ w) rfl h
/-! ### fix_Floor -/
set_option maxRecDepth 100000 in
def fix_Floor.wp (a : Int) (b : Int) (w : World) (R : TR [(false, [(.i .i64)]), (false, [(.i .i64)]), (false, [.b])] → World → Prop) : Prop :=
brB (decide (b < 1)) (
R ((0, ()), (0, ()), (false, ()), ()) w) (
drK w fun w1 =>
nzK b (
nzK b (
brB (decide ((Int.tmod a b) < 0)) (
R ((IntKind.wrap .i64 ((IntKind.wrap .i64 (Int.tdiv a b)) - 1), ()), (IntKind.wrap .i64 ((Int.tmod a b) + b), ()), (true, ()), ()) w1) (
R ((IntKind.wrap .i64 (Int.tdiv a b), ()), (Int.tmod a b, ()), (true, ()), ()) w1))))
set_option maxRecDepth 100000 in
theorem fix_Floor.eq (a : Int) (b : Int) (w : World) (R : Value → World → Prop) : wpF Tryz.prog Tryz.f145 (.s .n (.s .n (.s (.pl (.tk 0 (.tk 1 (.tk 2 (.tk 3 (.tk 4 (.tk 5 (.tk 6 (.tk 7 .z))))))))) .n))) [.int .i64 a, .int .i64 b] w R = fix_Floor.wp a b w (fun r w => R (encR true [(false, [(.i .i64)]), (false, [(.i .i64)]), (false, [.b])] r) w) := by kernel_rfl
set_option maxRecDepth 100000 in
theorem fix_Floor.ok {a : Int} {b : Int} {w : World} {R : TR [(false, [(.i .i64)]), (false, [(.i .i64)]), (false, [.b])] → World → Prop} (h : fix_Floor.wp a b w R) : clS Tryz.prog F.fix_Floor [.int .i64 a, .int .i64 b] w true [(false, [(.i .i64)]), (false, [(.i .i64)]), (false, [.b])] R :=
  ok_of Tryz_follows Tryz.func145 (fun R => fix_Floor.wp a b w R) (fix_Floor.eq a b w) rfl h
/-! ### source_flooded -/
set_option maxRecDepth 100000 in
def source_flooded.wp (f : Option Addr) (local_ : Int) (w : World) (R : TR [(true, [(.i .i64), (.i .i64), (.i .i64), (.i .u16), (.i .i64)]), (false, [(.i .i64)])] → World → Prop) : Prop :=
alK [.int .i64 0, .int .i64 0, .int .i64 0, .int .u16 0, .int .i64 0] T.source_Answer w fun p1 w2 =>
clS Tryz.prog F.flood_Flood_Time [.pointer f, .int .i64 local_] w2 true [(false, [(.i .i64)]), (false, [(.i .i64)]), (false, [(.i .i64)])] fun r3 w4 =>
brB (r3.2.2.1.1 != 0) (
stN [.int .i64 0, .int .i64 0, .int .i64 0, .int .u16 0, .int .i64 0] p1 0 w4 fun w5 =>
ldN [(.i .i64), (.i .i64), (.i .i64), (.i .u16), (.i .i64)] p1 0 w5 fun x6 =>
R ((x6.1, x6.2.1, x6.2.2.1, x6.2.2.2.1, x6.2.2.2.2.1, ()), (r3.2.2.1.1, ()), ()) w5) (
ncK f fun a7 =>
ld1 .p a7 w4 fun x8 =>
clS Tryz.prog F.elect_Elect_Mark [.pointer x8] w4 true [(true, [(.i .u16), (.i .u16)]), (false, [.b])] fun r9 w10 =>
alK [.int .u16 0, .int .u16 0] T.elect_Mark w10 fun p11 w12 =>
stN [.int .u16 r9.1.1, .int .u16 r9.1.2.1] p11 0 w12 fun w13 =>
CutT (fun (J14 : ((Addr) × Unit) → World → Prop) =>
drK w13 fun w17 =>
ncK f fun a18 =>
ld1 .p a18 w17 fun x19 =>
ld1 (.i .u16) p11 w17 fun x20 =>
(
clS Tryz.prog F.elect_Elect_Root [.pointer x19] w17 false [(false, [(.i .i64)])] fun r21 w22 =>
Hold [(8, p11, (w17.cell? p11).getD undef), (5, a18, (w17.cell? a18).getD undef)] w22 ∧ (
alK [.int .i64 0, .int .i64 0, .int .i64 0, .int .u16 0, .int .i64 0] T.source_Answer w22 fun p23 w24 =>
Hold [(8, p11, (w17.cell? p11).getD undef), (5, a18, (w17.cell? a18).getD undef)] w24 ∧ (
stN [.int .i64 r3.1.1, .int .i64 r3.2.1.1, .int .i64 r21.1.1, .int .u16 x20, .int .i64 2] p23 0 w24 fun w25 =>
Hold [] w25 ∧ (
J14 (p23, ()) w25)))) ∧ (
alK [.int .i64 0, .int .i64 0, .int .i64 0, .int .u16 0, .int .i64 0] T.source_Answer w17 fun p26 w27 =>
Hold [(8, p11, (w17.cell? p11).getD undef), (5, a18, (w17.cell? a18).getD undef)] w27 ∧ (
clS Tryz.prog F.elect_Elect_Root [.pointer x19] w27 false [(false, [(.i .i64)])] fun r28 w29 =>
Hold [(8, p11, (w17.cell? p11).getD undef)] w29 ∧ (
stN [.int .i64 r3.1.1, .int .i64 r3.2.1.1, .int .i64 r28.1.1, .int .u16 x20, .int .i64 2] p26 0 w29 fun w30 =>
Hold [] w30 ∧ (
J14 (p26, ()) w30))))) (fun (z15 : (Addr) × Unit) w16 => ∀ _ : Nat → Value,
ncK f fun a31 =>
ld1 .p a31 w16 fun x32 =>
clS Tryz.prog F.elect_Elect_Mine [.pointer x32] w16 false [(false, [.b])] fun r33 w34 =>
brB r33.1.1 (
stN [.int .i64 1] (z15.1.add 4) 0 w34 fun w35 =>
ldN [(.i .i64), (.i .i64), (.i .i64), (.i .u16), (.i .i64)] z15.1 0 w35 fun x36 =>
stN [.int .i64 x36.1, .int .i64 x36.2.1, .int .i64 x36.2.2.1, .int .u16 x36.2.2.2.1, .int .i64 x36.2.2.2.2.1] p1 0 w35 fun w37 =>
ldN [(.i .i64), (.i .i64), (.i .i64), (.i .u16), (.i .i64)] p1 0 w37 fun x38 =>
R ((x38.1, x38.2.1, x38.2.2.1, x38.2.2.2.1, x38.2.2.2.2.1, ()), (0, ()), ()) w37) (
ldN [(.i .i64), (.i .i64), (.i .i64), (.i .u16), (.i .i64)] z15.1 0 w34 fun x39 =>
stN [.int .i64 x39.1, .int .i64 x39.2.1, .int .i64 x39.2.2.1, .int .u16 x39.2.2.2.1, .int .i64 x39.2.2.2.2.1] p1 0 w34 fun w40 =>
ldN [(.i .i64), (.i .i64), (.i .i64), (.i .u16), (.i .i64)] p1 0 w40 fun x41 =>
R ((x41.1, x41.2.1, x41.2.2.1, x41.2.2.2.1, x41.2.2.2.2.1, ()), (0, ()), ()) w40)))
set_option maxRecDepth 100000 in
theorem source_flooded.eq (f : Option Addr) (local_ : Int) (w : World) (R : Value → World → Prop) : wpF Tryz.prog Tryz.f149 (.s .n (.s .n (.s .n (.s .n (.ct [(11, .a)] (.pl (.tk 0 (.tk 1 (.tk 2 (.tk 3 (.tk 4 (.tk 5 (.tk 7 (.tk 8 (.two 6 11 (.tk 9 (.tk 10 (.ef 11 [] (.ef 12 [5, 8] .z)))) (.ef 6 [5] (.tk 9 (.tk 10 (.ef 12 [8] .z)))))))))))))) .n))))) [.pointer f, .int .i64 local_] w R = source_flooded.wp f local_ w (fun r w => R (encR true [(true, [(.i .i64), (.i .i64), (.i .i64), (.i .u16), (.i .i64)]), (false, [(.i .i64)])] r) w) := by kernel_rfl
set_option maxRecDepth 100000 in
theorem source_flooded.ok {f : Option Addr} {local_ : Int} {w : World} {R : TR [(true, [(.i .i64), (.i .i64), (.i .i64), (.i .u16), (.i .i64)]), (false, [(.i .i64)])] → World → Prop} (h : source_flooded.wp f local_ w R) : clS Tryz.prog F.source_flooded [.pointer f, .int .i64 local_] w true [(true, [(.i .i64), (.i .i64), (.i .i64), (.i .u16), (.i .i64)]), (false, [(.i .i64)])] R :=
  ok_of Tryz_follows Tryz.func149 (fun R => source_flooded.wp f local_ w R) (source_flooded.eq f local_ w) rfl h
/-! ### anchor_Book_Tai -/
set_option maxRecDepth 100000 in
def anchor_Book_Tai.wp (b : Option Addr) (w_0 : Int) (w_1 : Int) (time : Int) (w : World) (R : TR [(true, [(.i .i64), (.i .i64)]), (false, [(.i .i64)])] → World → Prop) : Prop :=
alK [.int .i64 w_0, .int .u16 w_1] T.source_Whose w fun p1 w2 =>
alK [.int .i64 0, .int .i64 0] T.anchor_Moment w2 fun p3 w4 =>
brB (Option.isNone b) (
stN [.int .i64 0, .int .i64 0] p3 0 w4 fun w5 =>
ldN [(.i .i64), (.i .i64)] p3 0 w5 fun x6 =>
R ((x6.1, x6.2.1, ()), (2, ()), ()) w5) (
ncK b fun a7 =>
ld1 .b a7 w4 fun x8 =>
brB (!x8) (
stN [.int .i64 0, .int .i64 0] p3 0 w4 fun w9 =>
ldN [(.i .i64), (.i .i64)] p3 0 w9 fun x10 =>
R ((x10.1, x10.2.1, ()), (7, ()), ()) w9) (
CutT (fun (J11 : ((Bool) × Unit) → World → Prop) =>
drK w4 fun w14 =>
ncK b fun a15 =>
ld1 (.i .i64) ((a15.add 1).add 2) w14 fun x16 =>
ld1 (.i .i64) p1 w14 fun x17 =>
brB (x16 != x17) (
J11 (true, ()) w14) (
ncK b fun a18 =>
ld1 (.i .u16) ((a18.add 1).add 3) w14 fun x19 =>
ld1 (.i .u16) (p1.add 1) w14 fun x20 =>
J11 ((x19 != x20), ()) w14)) (fun (z12 : (Bool) × Unit) w13 => ∀ _ : Nat → Value,
brB z12.1 (
stN [.int .i64 0, .int .i64 0] p3 0 w13 fun w21 =>
ldN [(.i .i64), (.i .i64)] p3 0 w21 fun x22 =>
R ((x22.1, x22.2.1, ()), (9, ()), ()) w21) (
brB (decide (time < 0)) (
stN [.int .i64 0, .int .i64 0] p3 0 w13 fun w23 =>
ldN [(.i .i64), (.i .i64)] p3 0 w23 fun x24 =>
R ((x24.1, x24.2.1, ()), (8, ()), ()) w23) (
brB (decide (time > 1125899906842624)) (
stN [.int .i64 0, .int .i64 0] p3 0 w13 fun w25 =>
ldN [(.i .i64), (.i .i64)] p3 0 w25 fun x26 =>
R ((x26.1, x26.2.1, ()), (8, ()), ()) w25) (
ncK b fun a27 =>
ld1 (.i .i64) ((a27.add 1).add 4) w13 fun x28 =>
clS Tryz.prog F.fix_Floor [.int .i64 (IntKind.wrap .i64 (time - x28)), .int .i64 1000] w13 true [(false, [(.i .i64)]), (false, [(.i .i64)]), (false, [.b])] fun r29 w30 =>
ncK b fun a31 =>
ld1 (.i .i64) ((a31.add 1).add 5) w30 fun x32 =>
stN [.int .i64 (IntKind.wrap .i64 (x32 + r29.1.1)), .int .i64 r29.2.1.1] p3 0 w30 fun w33 =>
ldN [(.i .i64), (.i .i64)] p3 0 w33 fun x34 =>
R ((x34.1, x34.2.1, ()), (0, ()), ()) w33))))))
set_option maxRecDepth 100000 in
theorem anchor_Book_Tai.eq (b : Option Addr) (w_0 : Int) (w_1 : Int) (time : Int) (w : World) (R : Value → World → Prop) : wpF Tryz.prog Tryz.f153 (.s .n (.s (.s .n (.s .n (.s .n (.s .n (.ct [(22, .b)] (.pl (.tk 0 (.tk 1 (.tk 2 (.tk 3 (.tk 4 (.tk 5 (.tk 6 (.tk 7 (.tk 8 (.tk 9 (.tk 10 (.tk 11 (.tk 12 (.tk 13 (.tk 14 (.tk 15 (.tk 16 (.tk 17 (.tk 18 .z)))))))))))))))))))) .n))))) .n)) [.pointer b, .agg #[.int .i64 w_0, .int .u16 w_1], .int .i64 time] w R = anchor_Book_Tai.wp b w_0 w_1 time w (fun r w => R (encR true [(true, [(.i .i64), (.i .i64)]), (false, [(.i .i64)])] r) w) := by kernel_rfl
set_option maxRecDepth 100000 in
theorem anchor_Book_Tai.ok {b : Option Addr} {w_0 : Int} {w_1 : Int} {time : Int} {w : World} {R : TR [(true, [(.i .i64), (.i .i64)]), (false, [(.i .i64)])] → World → Prop} (h : anchor_Book_Tai.wp b w_0 w_1 time w R) : clS Tryz.prog F.anchor_Book_Tai [.pointer b, .agg #[.int .i64 w_0, .int .u16 w_1], .int .i64 time] w true [(true, [(.i .i64), (.i .i64)]), (false, [(.i .i64)])] R :=
  ok_of Tryz_follows Tryz.func153 (fun R => anchor_Book_Tai.wp b w_0 w_1 time w R) (anchor_Book_Tai.eq b w_0 w_1 time w) rfl h
end Go.Proofs.YtnjmfbjgcfnanaaGreat
