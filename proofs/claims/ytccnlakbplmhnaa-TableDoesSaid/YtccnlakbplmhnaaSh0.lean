import Derived.Test.YtccnlakbplmhnaaNm
namespace Go.Proofs.Ytccnlakbplmhnaa
open Go.Eng
set_option linter.unusedVariables false
/-! ### law12_TableRises -/
set_option maxRecDepth 100000 in
def law12_TableRises.wp (list : Option Addr × Nat × Nat) (w : World) (R : TR [(false, [.b])] → World → Prop) : Prop :=
clS Try.prog F.law12_alive [] w false [(false, [.b])] fun r1 w2 =>
brB (!r1.1.1) (
R ((false, ()), ()) w2) (
brB (decide ((list.2.1 : Int) > 100)) (
R ((true, ()), ()) w2) (
alK [.slice none 0 0] T.table_Table w2 fun p3 w4 =>
LoopT (fun (self5 : ((Int) × Unit) → World → Prop) (z6 : (Int) × Unit) w7 => ∀ _ : Nat → Value,
brB (decide (z6.1 < (list.2.1 : Int))) (
ixK list.1 list.2.1 z6.1 fun a8 =>
ldN [(.i .i64), (.i .i64), (.i .i64)] (a8.add (z6.1.toNat * 3)) 0 w7 fun x9 =>
alK [.int .i64 0, .int .i64 0, .int .i64 0] T.table_Entry w7 fun p10 w11 =>
stN [.int .i64 x9.1, .int .i64 x9.2.1, .int .i64 x9.2.2.1] p10 0 w11 fun w12 =>
ldN [(.i .i64), (.i .i64), (.i .i64)] p10 0 w12 fun x13 =>
clS Try.prog F.table_Table_Add [.pointer (some p3), .agg #[.int .i64 x13.1, .int .i64 x13.2.1, .int .i64 x13.2.2.1]] w12 false [(false, [(.i .i64)])] fun r14 w15 =>
clS Try.prog F.table_Table_List [.pointer (some p3)] w15 false [(false, [.sl])] fun r16 w17 =>
CutT (fun (J18 : Unit → World → Prop) =>
drK w17 fun w21 =>
brB (decide ((r16.1.1.2.1 : Int) > 8)) (
R ((false, ()), ()) w21) (
brB (r14.1.1 == 0) (
brB ((r16.1.1.2.1 : Int) == 0) (
R ((false, ()), ()) w21) (
ixK r16.1.1.1 r16.1.1.2.1 (IntKind.wrap .i64 ((r16.1.1.2.1 : Int) - 1)) fun a22 =>
ldN [(.i .i64), (.i .i64), (.i .i64)] (a22.add ((IntKind.wrap .i64 ((r16.1.1.2.1 : Int) - 1)).toNat * 3)) 0 w21 fun x23 =>
ldN [(.i .i64), (.i .i64), (.i .i64)] p10 0 w21 fun x24 =>
brB (!((x23.1 == x24.1) && ((x23.2.1 == x24.2.1) && ((x23.2.2.1 == x24.2.2.1) && true)))) (
R ((false, ()), ()) w21) (
J18 (()) w21))) (
J18 (()) w21))) (fun (z19 : Unit) w20 => ∀ _ : Nat → Value,
LoopT (fun (self25 : ((Int) × Unit) → World → Prop) (z26 : (Int) × Unit) w27 => ∀ _ : Nat → Value,
brB (decide (z26.1 < (r16.1.1.2.1 : Int))) (
drK w27 fun w28 =>
ixK r16.1.1.1 r16.1.1.2.1 (IntKind.wrap .i64 (z26.1 - 1)) fun a29 =>
ld1 (.i .i64) (a29.add ((IntKind.wrap .i64 (z26.1 - 1)).toNat * 3)) w28 fun x30 =>
ixK r16.1.1.1 r16.1.1.2.1 z26.1 fun a31 =>
ld1 (.i .i64) (a31.add (z26.1.toNat * 3)) w28 fun x32 =>
brB (decide (x30 ≥ x32)) (
R ((false, ()), ()) w28) (
self25 (IntKind.wrap .i64 (z26.1 + 1), ()) w28)) (
self5 (IntKind.wrap .i64 (z6.1 + 1), ()) w27)) (1, ()) w20)) (
R ((true, ()), ()) w7)) (0, ()) w4))
set_option maxRecDepth 100000 in
theorem law12_TableRises.eq (list : Option Addr × Nat × Nat) (w : World) (R : Value → World → Prop) : wpF Try.prog Try.f3 (.s .n (.s .n (.s .n (.s .n (.s (.s .n (.lp [(16, (.i .i64))] (.s .n (.s .n (.s (.s .n (.s .n (.s .n (.ct [] (.s (.pl (.tk 0 (.tk 1 (.tk 2 (.tk 3 (.tk 4 (.tk 5 (.tk 6 (.tk 7 (.tk 8 (.tk 9 (.tk 10 (.tk 11 (.tk 12 (.tk 13 (.tk 14 (.tk 15 (.tk 16 (.tk 17 (.tk 18 (.tk 19 (.tk 20 .z)))))))))))))))))))))) .n) (.s .n (.lp [(8, (.i .i64))] (.s .n (.s (.s (.pl (.tk 0 (.tk 1 (.tk 2 (.tk 3 (.tk 4 (.tk 5 (.tk 6 (.tk 7 (.tk 8 (.tk 9 (.tk 10 (.tk 11 .z))))))))))))) .n) .n)))))))) .n))))) .n))))) [.slice list.1 list.2.1 list.2.2] w R = law12_TableRises.wp list w (fun r w => R (encR false [(false, [.b])] r) w) := by kernel_rfl
theorem law12_TableRises.ok {list : Option Addr × Nat × Nat} {w : World} {R : TR [(false, [.b])] → World → Prop} (h : law12_TableRises.wp list w R) : clS Try.prog F.law12_TableRises [.slice list.1 list.2.1 list.2.2] w false [(false, [.b])] R :=
  ok_of Try_follows Try.func3 (fun R => law12_TableRises.wp list w R) (law12_TableRises.eq list w) rfl h
/-! ### law12_TableNewest -/
set_option maxRecDepth 100000 in
def law12_TableNewest.wp (list : Option Addr × Nat × Nat) (last : Option Addr × Nat × Nat) (w : World) (R : TR [(false, [.b])] → World → Prop) : Prop :=
clS Try.prog F.law12_alive [] w false [(false, [.b])] fun r1 w2 =>
brB (!r1.1.1) (
R ((false, ()), ()) w2) (
brB (decide ((list.2.1 : Int) > 100)) (
R ((true, ()), ()) w2) (
brB (decide ((last.2.1 : Int) > 100)) (
R ((true, ()), ()) w2) (
alK [.slice none 0 0] T.table_Table w2 fun p3 w4 =>
alK [.slice none 0 0] T.table_Table w4 fun p5 w6 =>
LoopT (fun (self7 : ((Int) × Unit) → World → Prop) (z8 : (Int) × Unit) w9 => ∀ _ : Nat → Value,
brB (decide (z8.1 < (list.2.1 : Int))) (
ixK list.1 list.2.1 z8.1 fun a10 =>
ldN [(.i .i64), (.i .i64), (.i .i64)] (a10.add (z8.1.toNat * 3)) 0 w9 fun x11 =>
alK [.int .i64 0, .int .i64 0, .int .i64 0] T.table_Entry w9 fun p12 w13 =>
stN [.int .i64 x11.1, .int .i64 x11.2.1, .int .i64 x11.2.2.1] p12 0 w13 fun w14 =>
ldN [(.i .i64), (.i .i64), (.i .i64)] p12 0 w14 fun x15 =>
clS Try.prog F.table_Table_Add [.pointer (some p3), .agg #[.int .i64 x15.1, .int .i64 x15.2.1, .int .i64 x15.2.2.1]] w14 false [(false, [(.i .i64)])] fun r16 w17 =>
self7 (IntKind.wrap .i64 (z8.1 + 1), ()) w17) (
LoopT (fun (self18 : ((Int) × (Int) × Unit) → World → Prop) (z19 : (Int) × (Int) × Unit) w20 => ∀ _ : Nat → Value,
brB (decide (z19.2.1 < (last.2.1 : Int))) (
ixK last.1 last.2.1 z19.2.1 fun a21 =>
ldN [(.i .i64), (.i .i64), (.i .i64)] (a21.add (z19.2.1.toNat * 3)) 0 w20 fun x22 =>
alK [.int .i64 0, .int .i64 0, .int .i64 0] T.table_Entry w20 fun p23 w24 =>
stN [.int .i64 x22.1, .int .i64 x22.2.1, .int .i64 x22.2.2.1] p23 0 w24 fun w25 =>
ldN [(.i .i64), (.i .i64), (.i .i64)] p23 0 w25 fun x26 =>
clS Try.prog F.table_Table_Add [.pointer (some p3), .agg #[.int .i64 x26.1, .int .i64 x26.2.1, .int .i64 x26.2.2.1]] w25 false [(false, [(.i .i64)])] fun r27 w28 =>
brB (r27.1.1 == 0) (
ldN [(.i .i64), (.i .i64), (.i .i64)] p23 0 w28 fun x29 =>
clS Try.prog F.table_Table_Add [.pointer (some p5), .agg #[.int .i64 x29.1, .int .i64 x29.2.1, .int .i64 x29.2.2.1]] w28 false [(false, [(.i .i64)])] fun r30 w31 =>
brB (r30.1.1 != 0) (
R ((false, ()), ()) w31) (
self18 (IntKind.wrap .i64 (z19.1 + 1), IntKind.wrap .i64 (z19.2.1 + 1), ()) w31)) (
self18 (z19.1, IntKind.wrap .i64 (z19.2.1 + 1), ()) w28)) (
brB (decide (z19.1 < 8)) (
R ((true, ()), ()) w20) (
clS Try.prog F.table_Table_List [.pointer (some p3)] w20 false [(false, [.sl])] fun r32 w33 =>
clS Try.prog F.table_Table_List [.pointer (some p5)] w33 false [(false, [.sl])] fun r34 w35 =>
brB ((r32.1.1.2.1 : Int) != 8) (
R ((false, ()), ()) w35) (
brB ((r34.1.1.2.1 : Int) != 8) (
R ((false, ()), ()) w35) (
clS Try.prog F.table_Table_Hops [.pointer (some p3)] w35 false [(false, [(.i .i64)])] fun r36 w37 =>
clS Try.prog F.table_Table_Hops [.pointer (some p5)] w37 false [(false, [(.i .i64)])] fun r38 w39 =>
brB (r36.1.1 != r38.1.1) (
R ((false, ()), ()) w39) (
LoopT (fun (self40 : ((Int) × Unit) → World → Prop) (z41 : (Int) × Unit) w42 => ∀ _ : Nat → Value,
brB (decide (z41.1 < (r32.1.1.2.1 : Int))) (
drK w42 fun w43 =>
ixK r32.1.1.1 r32.1.1.2.1 z41.1 fun a44 =>
ldN [(.i .i64), (.i .i64), (.i .i64)] (a44.add (z41.1.toNat * 3)) 0 w43 fun x45 =>
ixK r34.1.1.1 r34.1.1.2.1 z41.1 fun a46 =>
ldN [(.i .i64), (.i .i64), (.i .i64)] (a46.add (z41.1.toNat * 3)) 0 w43 fun x47 =>
brB (!((x45.1 == x47.1) && ((x45.2.1 == x47.2.1) && ((x45.2.2.1 == x47.2.2.1) && true)))) (
R ((false, ()), ()) w43) (
self40 (IntKind.wrap .i64 (z41.1 + 1), ()) w43)) (
R ((true, ()), ()) w42)) (0, ()) w39)))))) (0, 0, ()) w9)) (0, ()) w6)))
set_option maxRecDepth 100000 in
theorem law12_TableNewest.eq (list : Option Addr × Nat × Nat) (last : Option Addr × Nat × Nat) (w : World) (R : Value → World → Prop) : wpF Try.prog Try.f4 (.s .n (.s .n (.s .n (.s .n (.s (.s .n (.lp [(27, (.i .i64))] .n)) (.s .n (.s (.s .n (.lp [(9, (.i .i64)), (36, (.i .i64))] .n)) (.s .n (.s .n (.s .n (.s (.s .n (.lp [(68, (.i .i64))] (.s .n (.s .n (.s (.s .n (.s (.pl (.tk 0 (.tk 1 (.tk 2 (.tk 3 (.tk 4 (.tk 5 (.tk 6 (.tk 7 (.tk 8 .z)))))))))) .n)) .n))))) .n))))))))))) [.slice list.1 list.2.1 list.2.2, .slice last.1 last.2.1 last.2.2] w R = law12_TableNewest.wp list last w (fun r w => R (encR false [(false, [.b])] r) w) := by kernel_rfl
theorem law12_TableNewest.ok {list : Option Addr × Nat × Nat} {last : Option Addr × Nat × Nat} {w : World} {R : TR [(false, [.b])] → World → Prop} (h : law12_TableNewest.wp list last w R) : clS Try.prog F.law12_TableNewest [.slice list.1 list.2.1 list.2.2, .slice last.1 last.2.1 last.2.2] w false [(false, [.b])] R :=
  ok_of Try_follows Try.func4 (fun R => law12_TableNewest.wp list last w R) (law12_TableNewest.eq list last w) rfl h
/-! ### law12_TableDoes -/
set_option maxRecDepth 100000 in
def law12_TableDoes.wp (list : Option Addr × Nat × Nat) (clears : Option Addr × Nat × Nat) (stop : Int) (w : World) (R : TR [(false, [.b])] → World → Prop) : Prop :=
clS Try.prog F.law12_alive [] w false [(false, [.b])] fun r1 w2 =>
brB (!r1.1.1) (
R ((false, ()), ()) w2) (
brB (decide ((list.2.1 : Int) > 100)) (
R ((true, ()), ()) w2) (
brB (decide ((clears.2.1 : Int) > 100)) (
R ((true, ()), ()) w2) (
alK [.slice none 0 0] T.table_Table w2 fun p3 w4 =>
clS Try.prog F.table_Table_Clear [.pointer none] w4 true [] fun r5 w6 =>
clS Try.prog F.table_Table_Last [.pointer none] w6 true [(true, [(.i .i64), (.i .i64), (.i .i64)]), (false, [.b])] fun r7 w8 =>
alK [.int .i64 0, .int .i64 0, .int .i64 0] T.table_Entry w8 fun p9 w10 =>
stN [.int .i64 r7.1.1, .int .i64 r7.1.2.1, .int .i64 r7.1.2.2.1] p9 0 w10 fun w11 =>
clS Try.prog F.table_Table_Add [.pointer none, .agg #[.int .i64 0, .int .i64 0, .int .i64 1]] w11 false [(false, [(.i .i64)])] fun r12 w13 =>
brB (r12.1.1 != 2) (
R ((false, ()), ()) w13) (
clS Try.prog F.table_Table_Len [.pointer none] w13 false [(false, [(.i .i64)])] fun r14 w15 =>
brB (r14.1.1 != 0) (
R ((false, ()), ()) w15) (
brB r7.2.1.1 (
R ((false, ()), ()) w15) (
clS Try.prog F.table_Table_Hops [.pointer none] w15 false [(false, [(.i .i64)])] fun r16 w17 =>
brB (r16.1.1 != 0) (
R ((false, ()), ()) w17) (
clS Try.prog F.table_Table_List [.pointer none] w17 false [(false, [.sl])] fun r18 w19 =>
brB ((r18.1.1.2.1 : Int) != 0) (
R ((false, ()), ()) w19) (
clS Try.prog F.law12_same [.pointer none, .slice none 0 0] w19 false [(false, [.b])] fun r20 w21 =>
brB (!r20.1.1) (
R ((false, ()), ()) w21) (
LoopT (fun (self22 : ((Option Addr × Nat × Nat) × (Int) × Unit) → World → Prop) (z23 : (Option Addr × Nat × Nat) × (Int) × Unit) w24 => ∀ _ : Nat → Value,
brB (decide (z23.2.1 < (list.2.1 : Int))) (
ixK list.1 list.2.1 z23.2.1 fun a25 =>
ldN [(.i .i64), (.i .i64), (.i .i64)] (a25.add (z23.2.1.toNat * 3)) 0 w24 fun x26 =>
alK [.int .i64 0, .int .i64 0, .int .i64 0] T.table_Entry w24 fun p27 w28 =>
stN [.int .i64 x26.1, .int .i64 x26.2.1, .int .i64 x26.2.2.1] p27 0 w28 fun w29 =>
LoopT (fun (self30 : ((Option Addr × Nat × Nat) × (Int) × Unit) → World → Prop) (z31 : (Option Addr × Nat × Nat) × (Int) × Unit) w32 => ∀ _ : Nat → Value,
brB (decide (z31.2.1 < (clears.2.1 : Int))) (
ixK clears.1 clears.2.1 z31.2.1 fun a33 =>
ld1 (.i .i64) (a33.add (z31.2.1.toNat * 1)) w32 fun x34 =>
brB (x34 == z23.2.1) (
clS Try.prog F.table_Table_Clear [.pointer (some p3)] w32 true [] fun r35 w36 =>
self30 ((none, 0, 0), IntKind.wrap .i64 (z31.2.1 + 1), ()) w36) (
self30 ((z31.1.1, z31.1.2.1, z31.1.2.2), IntKind.wrap .i64 (z31.2.1 + 1), ()) w32)) (
ldN [(.i .i64), (.i .i64), (.i .i64)] p27 0 w32 fun x37 =>
clS Try.prog F.ref12_Add [.slice z31.1.1 z31.1.2.1 z31.1.2.2, .agg #[.int .i64 x37.1, .int .i64 x37.2.1, .int .i64 x37.2.2.1]] w32 true [(false, [.sl]), (false, [(.i .i64)])] fun r38 w39 =>
drK w39 fun w40 =>
ldN [(.i .i64), (.i .i64), (.i .i64)] p27 0 w40 fun x41 =>
clS Try.prog F.table_Table_Add [.pointer (some p3), .agg #[.int .i64 x41.1, .int .i64 x41.2.1, .int .i64 x41.2.2.1]] w40 false [(false, [(.i .i64)])] fun r42 w43 =>
Hold [(0, (p27.add 0), (w40.cell? (p27.add 0)).getD undef), (0, (p27.add 1), (w40.cell? (p27.add 1)).getD undef), (0, (p27.add 2), (w40.cell? (p27.add 2)).getD undef)] w43 ∧ (
brB (r42.1.1 != r38.2.1.1) (
R ((false, ()), ()) w43) (
ldN [(.i .i64), (.i .i64), (.i .i64)] p27 0 w43 fun x44 =>
ldN [(.i .i64), (.i .i64), (.i .i64)] p27 0 w43 fun x45 =>
clS Try.prog F.table_Entry_Good [.agg #[.int .i64 x44.1, .int .i64 x44.2.1, .int .i64 x44.2.2.1]] w43 false [(false, [.b])] fun r46 w47 =>
Hold [(7, (p27.add 0), (w43.cell? (p27.add 0)).getD undef), (7, (p27.add 1), (w43.cell? (p27.add 1)).getD undef), (7, (p27.add 2), (w43.cell? (p27.add 2)).getD undef), (5, (p27.add 0), (w43.cell? (p27.add 0)).getD undef), (5, (p27.add 1), (w43.cell? (p27.add 1)).getD undef), (5, (p27.add 2), (w43.cell? (p27.add 2)).getD undef), (0, (p27.add 0), (w40.cell? (p27.add 0)).getD undef), (0, (p27.add 1), (w40.cell? (p27.add 1)).getD undef), (0, (p27.add 2), (w40.cell? (p27.add 2)).getD undef)] w47 ∧ (
clS Try.prog F.ref12_Good [.agg #[.int .i64 x45.1, .int .i64 x45.2.1, .int .i64 x45.2.2.1]] w47 false [(false, [.b])] fun r48 w49 =>
Hold [(5, (p27.add 0), (w43.cell? (p27.add 0)).getD undef), (5, (p27.add 1), (w43.cell? (p27.add 1)).getD undef), (5, (p27.add 2), (w43.cell? (p27.add 2)).getD undef), (0, (p27.add 0), (w40.cell? (p27.add 0)).getD undef), (0, (p27.add 1), (w40.cell? (p27.add 1)).getD undef), (0, (p27.add 2), (w40.cell? (p27.add 2)).getD undef)] w49 ∧ (
brB (!(r46.1.1 == r48.1.1)) (
R ((false, ()), ()) w49) (
clS Try.prog F.table_Table_List [.pointer (some p3)] w49 false [(false, [.sl])] fun r50 w51 =>
brB ((r50.1.1.2.1 : Int) != (r38.1.1.2.1 : Int)) (
R ((false, ()), ()) w51) (
clS Try.prog F.table_Table_Len [.pointer (some p3)] w51 false [(false, [(.i .i64)])] fun r52 w53 =>
brB (r52.1.1 != (r38.1.1.2.1 : Int)) (
R ((false, ()), ()) w53) (
clS Try.prog F.table_Table_Hops [.pointer (some p3)] w53 false [(false, [(.i .i64)])] fun r54 w55 =>
clS Try.prog F.ref12_Hops [.slice r38.1.1.1 r38.1.1.2.1 r38.1.1.2.2] w55 false [(false, [(.i .i64)])] fun r56 w57 =>
brB (r54.1.1 != r56.1.1) (
R ((false, ()), ()) w57) (
clS Try.prog F.law12_same [.pointer (some p3), .slice r38.1.1.1 r38.1.1.2.1 r38.1.1.2.2] w57 false [(false, [.b])] fun r58 w59 =>
brB (!r58.1.1) (
R ((false, ()), ()) w59) (
clS Try.prog F.table_Table_Last [.pointer (some p3)] w59 true [(true, [(.i .i64), (.i .i64), (.i .i64)]), (false, [.b])] fun r60 w61 =>
alK [.int .i64 0, .int .i64 0, .int .i64 0] T.table_Entry w61 fun p62 w63 =>
stN [.int .i64 r60.1.1, .int .i64 r60.1.2.1, .int .i64 r60.1.2.2.1] p62 0 w63 fun w64 =>
CutT (fun (J65 : Unit → World → Prop) =>
drK w64 fun w68 =>
brB (!(r60.2.1.1 == (decide ((r38.1.1.2.1 : Int) > 0)))) (
R ((false, ()), ()) w68) (
brB r60.2.1.1 (
ldN [(.i .i64), (.i .i64), (.i .i64)] p62 0 w68 fun x69 =>
ixK r38.1.1.1 r38.1.1.2.1 (IntKind.wrap .i64 ((r38.1.1.2.1 : Int) - 1)) fun a70 =>
ldN [(.i .i64), (.i .i64), (.i .i64)] (a70.add ((IntKind.wrap .i64 ((r38.1.1.2.1 : Int) - 1)).toNat * 3)) 0 w68 fun x71 =>
brB (!((x69.1 == x71.1) && ((x69.2.1 == x71.2.1) && ((x69.2.2.1 == x71.2.2.1) && true)))) (
R ((false, ()), ()) w68) (
brB (!r60.2.1.1) (
ldN [(.i .i64), (.i .i64), (.i .i64)] p62 0 w68 fun x72 =>
brB (!((x72.1 == 0) && ((x72.2.1 == 0) && ((x72.2.2.1 == 0) && true)))) (
R ((false, ()), ()) w68) (
J65 (()) w68)) (
J65 (()) w68))) (
brB (!r60.2.1.1) (
ldN [(.i .i64), (.i .i64), (.i .i64)] p62 0 w68 fun x73 =>
brB (!((x73.1 == 0) && ((x73.2.1 == 0) && ((x73.2.2.1 == 0) && true)))) (
R ((false, ()), ()) w68) (
J65 (()) w68)) (
J65 (()) w68)))) (fun (z66 : Unit) w67 => ∀ _ : Nat → Value,
LoopT (fun (self74 : ((Int) × Unit) → World → Prop) (z75 : (Int) × Unit) w76 => ∀ _ : Nat → Value,
brB (decide (z75.1 < (r50.1.1.2.1 : Int))) (
drK w76 fun w77 =>
ixK r50.1.1.1 r50.1.1.2.1 z75.1 fun a78 =>
ldN [(.i .i64), (.i .i64), (.i .i64)] (a78.add (z75.1.toNat * 3)) 0 w77 fun x79 =>
ixK r38.1.1.1 r38.1.1.2.1 z75.1 fun a80 =>
ldN [(.i .i64), (.i .i64), (.i .i64)] (a80.add (z75.1.toNat * 3)) 0 w77 fun x81 =>
brB (!((x79.1 == x81.1) && ((x79.2.1 == x81.2.1) && ((x79.2.2.1 == x81.2.2.1) && true)))) (
R ((false, ()), ()) w77) (
ixK r50.1.1.1 r50.1.1.2.1 z75.1 fun a82 =>
stN [.int .i64 0, .int .i64 0, .int .i64 0] (a82.add (z75.1.toNat * 3)) 0 w77 fun w83 =>
self74 (IntKind.wrap .i64 (z75.1 + 1), ()) w83)) (
self22 ((r38.1.1.1, r38.1.1.2.1, r38.1.1.2.2), IntKind.wrap .i64 (z23.2.1 + 1), ()) w76)) (0, ()) w67)))))))))))) ((z23.1.1, z23.1.2.1, z23.1.2.2), 0, ()) w29) (
clS Try.prog F.law12_same [.pointer (some p3), .slice z23.1.1 z23.1.2.1 z23.1.2.2] w24 false [(false, [.b])] fun r84 w85 =>
brB r84.1.1 (
brB (decide (stop < 1)) (
R ((true, ()), ()) w85) (
clS Try.prog F.law12_first [.pointer (some p3), .int .i64 stop] w85 false [(false, [(.i .i64)])] fun r86 w87 =>
R (((r86.1.1 == (if (z23.1.2.1 : Int) < stop then (z23.1.2.1 : Int) else stop)), ()), ()) w87)) (
R ((false, ()), ()) w85))) ((none, 0, 0), 0, ()) w21)))))))))
set_option maxRecDepth 100000 in
theorem law12_TableDoes.eq (list : Option Addr × Nat × Nat) (clears : Option Addr × Nat × Nat) (stop : Int) (w : World) (R : Value → World → Prop) : wpF Try.prog Try.f5 (.s .n (.s .n (.s .n (.s .n (.s .n (.s .n (.s .n (.s .n (.s .n (.s (.s .n (.lp [(11, .sl), (68, (.i .i64))] (.s .n (.s .n (.s (.s .n (.s (.s .n (.lp [(11, .sl), (75, (.i .i64))] .n)) (.s .n (.s .n (.s (.s (.pl (.tk 0 (.tk 2 (.ef 1 [] (.tk 3 (.tk 4 (.tk 5 (.tk 7 (.ef 6 [] (.ef 8 [7] (.tk 9 (.tk 10 .z)))))))))))) .n) (.s .n (.s .n (.s .n (.ct [] (.s (.pl (.tk 0 (.tk 1 (.tk 2 (.tk 3 (.tk 4 (.tk 5 (.tk 6 (.tk 7 (.tk 8 (.tk 9 (.tk 10 (.tk 11 (.tk 12 (.tk 13 (.tk 14 (.tk 15 (.tk 16 (.tk 17 (.tk 18 (.tk 19 (.tk 20 (.tk 21 (.tk 22 (.tk 23 (.tk 24 (.tk 25 (.tk 26 .z)))))))))))))))))))))))))))) .n) (.s .n (.lp [(157, (.i .i64))] (.s .n (.s .n (.s (.s .n (.s (.s (.pl (.tk 0 (.tk 1 (.tk 2 (.tk 3 (.tk 4 (.tk 5 (.tk 6 (.tk 7 (.tk 8 .z)))))))))) .n) .n)) .n)))))))))))))) .n))))) .n)))))))))) [.slice list.1 list.2.1 list.2.2, .slice clears.1 clears.2.1 clears.2.2, .int .i64 stop] w R = law12_TableDoes.wp list clears stop w (fun r w => R (encR false [(false, [.b])] r) w) := by kernel_rfl
theorem law12_TableDoes.ok {list : Option Addr × Nat × Nat} {clears : Option Addr × Nat × Nat} {stop : Int} {w : World} {R : TR [(false, [.b])] → World → Prop} (h : law12_TableDoes.wp list clears stop w R) : clS Try.prog F.law12_TableDoes [.slice list.1 list.2.1 list.2.2, .slice clears.1 clears.2.1 clears.2.2, .int .i64 stop] w false [(false, [.b])] R :=
  ok_of Try_follows Try.func5 (fun R => law12_TableDoes.wp list clears stop w R) (law12_TableDoes.eq list clears stop w) rfl h
/-! ### law13_SlopeIs -/
set_option maxRecDepth 100000 in
def law13_SlopeIs.wp (drift : Int) (list : Option Addr × Nat × Nat) (w : World) (R : TR [(false, [.b])] → World → Prop) : Prop :=
clS Try.prog F.law13_alive [] w false [(false, [.b])] fun r1 w2 =>
brB (!r1.1.1) (
R ((false, ()), ()) w2) (
brB (decide ((list.2.1 : Int) > 100)) (
R ((true, ()), ()) w2) (
clS Try.prog F.slope_Of [.int .i64 drift, .slice list.1 list.2.1 list.2.2] w2 false [(true, [(.i .i64), (.i .i64)])] fun r3 w4 =>
alK [.int .i64 0, .int .i64 0] T.slope_Slope w4 fun p5 w6 =>
stN [.int .i64 r3.1.1, .int .i64 r3.1.2.1] p5 0 w6 fun w7 =>
clS Try.prog F.law13_rows [.slice list.1 list.2.1 list.2.2] w7 false [(false, [.sl])] fun r8 w9 =>
clS Try.prog F.ref13_Of [.int .i64 drift, .slice r8.1.1.1 r8.1.1.2.1 r8.1.1.2.2] w9 true [(false, [(.i .i64)]), (false, [(.i .i64)])] fun r10 w11 =>
clS Try.prog F.slope_Most [.int .i64 drift] w11 false [(true, [(.i .i64), (.i .i64)])] fun r12 w13 =>
alK [.int .i64 0, .int .i64 0] T.slope_Slope w13 fun p14 w15 =>
stN [.int .i64 r12.1.1, .int .i64 r12.1.2.1] p14 0 w15 fun w16 =>
clS Try.prog F.ref13_Most [.int .i64 drift] w16 true [(false, [(.i .i64)]), (false, [(.i .i64)])] fun r17 w18 =>
ld1 (.i .i64) p5 w18 fun x19 =>
brB (x19 == r10.1.1) (
ld1 (.i .i64) (p5.add 1) w18 fun x20 =>
brB (x20 == r10.2.1.1) (
ld1 (.i .i64) p14 w18 fun x21 =>
brB (x21 == r17.1.1) (
ld1 (.i .i64) (p14.add 1) w18 fun x22 =>
R (((x22 == r17.2.1.1), ()), ()) w18) (
R ((false, ()), ()) w18)) (
R ((false, ()), ()) w18)) (
R ((false, ()), ()) w18)))
set_option maxRecDepth 100000 in
theorem law13_SlopeIs.eq (drift : Int) (list : Option Addr × Nat × Nat) (w : World) (R : Value → World → Prop) : wpF Try.prog Try.f6 .n [.int .i64 drift, .slice list.1 list.2.1 list.2.2] w R = law13_SlopeIs.wp drift list w (fun r w => R (encR false [(false, [.b])] r) w) := by kernel_rfl
theorem law13_SlopeIs.ok {drift : Int} {list : Option Addr × Nat × Nat} {w : World} {R : TR [(false, [.b])] → World → Prop} (h : law13_SlopeIs.wp drift list w R) : clS Try.prog F.law13_SlopeIs [.int .i64 drift, .slice list.1 list.2.1 list.2.2] w false [(false, [.b])] R :=
  ok_of Try_follows Try.func6 (fun R => law13_SlopeIs.wp drift list w R) (law13_SlopeIs.eq drift list w) rfl h
/-! ### law13_SlopeBound -/
set_option maxRecDepth 100000 in
def law13_SlopeBound.wp (drift : Int) (list : Option Addr × Nat × Nat) (w : World) (R : TR [(false, [.b])] → World → Prop) : Prop :=
clS Try.prog F.law13_alive [] w false [(false, [.b])] fun r1 w2 =>
brB (!r1.1.1) (
R ((false, ()), ()) w2) (
brB (decide ((list.2.1 : Int) > 100)) (
R ((true, ()), ()) w2) (
clS Try.prog F.slope_Of [.int .i64 drift, .slice list.1 list.2.1 list.2.2] w2 false [(true, [(.i .i64), (.i .i64)])] fun r3 w4 =>
alK [.int .i64 0, .int .i64 0] T.slope_Slope w4 fun p5 w6 =>
stN [.int .i64 r3.1.1, .int .i64 r3.1.2.1] p5 0 w6 fun w7 =>
clS Try.prog F.ref13_Most [.int .i64 drift] w7 true [(false, [(.i .i64)]), (false, [(.i .i64)])] fun r8 w9 =>
ld1 (.i .i64) (p5.add 1) w9 fun x10 =>
brB (decide (x10 < 1)) (
R ((false, ()), ()) w9) (
ld1 (.i .i64) p5 w9 fun x11 =>
brB (decide (x11 < (Int.negSucc 1152921504606846975))) (
R ((false, ()), ()) w9) (
ld1 (.i .i64) p5 w9 fun x12 =>
brB (decide (x12 > 1152921504606846976)) (
R ((false, ()), ()) w9) (
ld1 (.i .i64) p5 w9 fun x13 =>
ld1 (.i .i64) p5 w9 fun x14 =>
ld1 (.i .i64) (p5.add 1) w9 fun x15 =>
clS Try.prog F.ref13_Over [.int .i64 (if (IntKind.wrap .i64 (0 - x14)) > x13 then (IntKind.wrap .i64 (0 - x14)) else x13), .int .i64 x15, .int .i64 r8.1.1, .int .i64 r8.2.1.1] w9 false [(false, [.b])] fun r16 w17 =>
R ((!r16.1.1, ()), ()) w17)))))
set_option maxRecDepth 100000 in
theorem law13_SlopeBound.eq (drift : Int) (list : Option Addr × Nat × Nat) (w : World) (R : Value → World → Prop) : wpF Try.prog Try.f7 .n [.int .i64 drift, .slice list.1 list.2.1 list.2.2] w R = law13_SlopeBound.wp drift list w (fun r w => R (encR false [(false, [.b])] r) w) := by kernel_rfl
theorem law13_SlopeBound.ok {drift : Int} {list : Option Addr × Nat × Nat} {w : World} {R : TR [(false, [.b])] → World → Prop} (h : law13_SlopeBound.wp drift list w R) : clS Try.prog F.law13_SlopeBound [.int .i64 drift, .slice list.1 list.2.1 list.2.2] w false [(false, [.b])] R :=
  ok_of Try_follows Try.func7 (fun R => law13_SlopeBound.wp drift list w R) (law13_SlopeBound.eq drift list w) rfl h
/-! ### law13_SlopeLine -/
set_option maxRecDepth 100000 in
def law13_SlopeLine.wp (drift : Int) (at_ : Option Addr × Nat × Nat) (gain : Int) (of : Int) (local_ : Int) (offset : Int) (w : World) (R : TR [(false, [.b])] → World → Prop) : Prop :=
clS Try.prog F.law13_alive [] w false [(false, [.b])] fun r1 w2 =>
brB (!r1.1.1) (
R ((false, ()), ()) w2) (
clS Try.prog F.ref13_Most [.int .i64 drift] w2 true [(false, [(.i .i64)]), (false, [(.i .i64)])] fun r3 w4 =>
brB (decide ((at_.2.1 : Int) < 2)) (
R ((true, ()), ()) w4) (
brB (decide ((at_.2.1 : Int) > 8)) (
R ((true, ()), ()) w4) (
brB (decide (of < 1)) (
R ((true, ()), ()) w4) (
brB (decide (of > 1000)) (
R ((true, ()), ()) w4) (
brB (decide (gain < (Int.negSucc 999))) (
R ((true, ()), ()) w4) (
brB (decide (gain > 1000)) (
R ((true, ()), ()) w4) (
clS Try.prog F.ref13_Over [.int .i64 (if (IntKind.wrap .i64 (0 - gain)) > gain then (IntKind.wrap .i64 (0 - gain)) else gain), .int .i64 of, .int .i64 r3.1.1, .int .i64 r3.2.1.1] w4 false [(false, [.b])] fun r5 w6 =>
brB r5.1.1 (
R ((true, ()), ()) w6) (
brB (decide (local_ < 0)) (
R ((true, ()), ()) w6) (
brB (decide (local_ > 1099511627776)) (
R ((true, ()), ()) w6) (
brB (decide (offset < (Int.negSucc 1099511627775))) (
R ((true, ()), ()) w6) (
brB (decide (offset > 1099511627776)) (
R ((true, ()), ()) w6) (
LoopT (fun (self7 : ((Option Addr × Nat × Nat) × (Int) × Unit) → World → Prop) (z8 : (Option Addr × Nat × Nat) × (Int) × Unit) w9 => ∀ _ : Nat → Value,
brB (decide (z8.2.1 < (at_.2.1 : Int))) (
ixK at_.1 at_.2.1 z8.2.1 fun a10 =>
ld1 (.i .i64) (a10.add (z8.2.1.toNat * 1)) w9 fun x11 =>
CutT (fun (J12 : Unit → World → Prop) =>
brB (decide (x11 < 0)) (
R ((true, ()), ()) w9) (
brB (decide (x11 > 4000)) (
R ((true, ()), ()) w9) (
brB (decide (z8.2.1 > 0)) (
ixK at_.1 at_.2.1 (IntKind.wrap .i64 (z8.2.1 - 1)) fun a15 =>
ld1 (.i .i64) (a15.add ((IntKind.wrap .i64 (z8.2.1 - 1)).toNat * 1)) w9 fun x16 =>
brB (decide (x11 ≤ x16)) (
R ((true, ()), ()) w9) (
J12 (()) w9)) (
J12 (()) w9)))) (fun (z13 : Unit) w14 => ∀ _ : Nat → Value,
alK [.int .i64 (IntKind.wrap .i64 (local_ + (IntKind.wrap .i64 (x11 * of)))), .int .i64 (IntKind.wrap .i64 (offset + (IntKind.wrap .i64 (x11 * gain)))), .int .i64 1] T.table_Entry w14 fun p17 w18 =>
slOf ((Builtin.append_ #[T.sl_table_Entry, T.sl_table_Entry] T.sl_table_Entry #[.slice z8.1.1 z8.1.2.1 z8.1.2.2, .slice (some p17) 1 1]).run Try.prog w18) fun y19 w20 =>
self7 ((y19.1, y19.2.1, y19.2.2), IntKind.wrap .i64 (z8.2.1 + 1), ()) w20)) (
clS Try.prog F.slope_Of [.int .i64 drift, .slice z8.1.1 z8.1.2.1 z8.1.2.2] w9 false [(true, [(.i .i64), (.i .i64)])] fun r21 w22 =>
alK [.int .i64 0, .int .i64 0] T.slope_Slope w22 fun p23 w24 =>
stN [.int .i64 r21.1.1, .int .i64 r21.1.2.1] p23 0 w24 fun w25 =>
drK w25 fun w26 =>
ixK z8.1.1 z8.1.2.1 (IntKind.wrap .i64 ((z8.1.2.1 : Int) - 1)) fun a27 =>
ld1 (.i .i64) (a27.add ((IntKind.wrap .i64 ((z8.1.2.1 : Int) - 1)).toNat * 3)) w26 fun x28 =>
ixK z8.1.1 z8.1.2.1 0 fun a29 =>
ld1 (.i .i64) (a29.add ((0 : Int).toNat * 3)) w26 fun x30 =>
brB (decide ((IntKind.wrap .i64 (x28 - x30)) > 4194304)) (
ld1 (.i .i64) p23 w26 fun x31 =>
R (((x31 == 0), ()), ()) w26) (
ld1 (.i .i64) (p23.add 1) w26 fun x32 =>
brB (decide (x32 > 0)) (
ld1 (.i .i64) p23 w26 fun x33 =>
brB (decide (x33 < 2251799813685248)) (
ld1 (.i .i64) p23 w26 fun x34 =>
brB (decide (x34 > (Int.negSucc 2251799813685247))) (
ld1 (.i .i64) (p23.add 1) w26 fun x35 =>
brB (decide (x35 < 2251799813685248)) (
ld1 (.i .i64) p23 w26 fun x36 =>
ld1 (.i .i64) (p23.add 1) w26 fun x37 =>
R ((((IntKind.wrap .i64 (x36 * of)) == (IntKind.wrap .i64 (gain * x37))), ()), ()) w26) (
R ((false, ()), ()) w26)) (
R ((false, ()), ()) w26)) (
R ((false, ()), ()) w26)) (
R ((false, ()), ()) w26)))) ((none, 0, 0), 0, ()) w6))))))))))))
set_option maxRecDepth 100000 in
theorem law13_SlopeLine.eq (drift : Int) (at_ : Option Addr × Nat × Nat) (gain : Int) (of : Int) (local_ : Int) (offset : Int) (w : World) (R : Value → World → Prop) : wpF Try.prog Try.f8 (.s .n (.s .n (.s .n (.s .n (.s .n (.s (.s .n (.lp [(15, .sl), (78, (.i .i64))] (.s .n (.s .n (.s (.s .n (.ct [] .n .n)) .n))))) (.s .n (.s (.s (.pl (.tk 0 (.tk 1 (.tk 2 (.tk 3 (.tk 4 (.tk 5 (.tk 6 (.tk 7 (.tk 8 (.tk 9 (.tk 10 (.tk 11 (.tk 12 .z)))))))))))))) .n) .n)))))))) [.int .i64 drift, .slice at_.1 at_.2.1 at_.2.2, .int .i64 gain, .int .i64 of, .int .i64 local_, .int .i64 offset] w R = law13_SlopeLine.wp drift at_ gain of local_ offset w (fun r w => R (encR false [(false, [.b])] r) w) := by kernel_rfl
theorem law13_SlopeLine.ok {drift : Int} {at_ : Option Addr × Nat × Nat} {gain : Int} {of : Int} {local_ : Int} {offset : Int} {w : World} {R : TR [(false, [.b])] → World → Prop} (h : law13_SlopeLine.wp drift at_ gain of local_ offset w R) : clS Try.prog F.law13_SlopeLine [.int .i64 drift, .slice at_.1 at_.2.1 at_.2.2, .int .i64 gain, .int .i64 of, .int .i64 local_, .int .i64 offset] w false [(false, [.b])] R :=
  ok_of Try_follows Try.func8 (fun R => law13_SlopeLine.wp drift at_ gain of local_ offset w R) (law13_SlopeLine.eq drift at_ gain of local_ offset w) rfl h
/-! ### law13_SlopeMoved -/
set_option maxRecDepth 100000 in
def law13_SlopeMoved.wp (drift : Int) (list : Option Addr × Nat × Nat) (local_ : Int) (offset : Int) (w : World) (R : TR [(false, [.b])] → World → Prop) : Prop :=
clS Try.prog F.law13_alive [] w false [(false, [.b])] fun r1 w2 =>
brB (!r1.1.1) (
R ((false, ()), ()) w2) (
brB (decide ((list.2.1 : Int) > 8)) (
R ((true, ()), ()) w2) (
brB (decide (local_ < (Int.negSucc 1125899906842623))) (
R ((true, ()), ()) w2) (
brB (decide (local_ > 1125899906842624)) (
R ((true, ()), ()) w2) (
brB (decide (offset < (Int.negSucc 1125899906842623))) (
R ((true, ()), ()) w2) (
brB (decide (offset > 1125899906842624)) (
R ((true, ()), ()) w2) (
LoopT (fun (self3 : ((Option Addr × Nat × Nat) × (Int) × Unit) → World → Prop) (z4 : (Option Addr × Nat × Nat) × (Int) × Unit) w5 => ∀ _ : Nat → Value,
brB (decide (z4.2.1 < (list.2.1 : Int))) (
ixK list.1 list.2.1 z4.2.1 fun a6 =>
ldN [(.i .i64), (.i .i64), (.i .i64)] (a6.add (z4.2.1.toNat * 3)) 0 w5 fun x7 =>
alK [.int .i64 0, .int .i64 0, .int .i64 0] T.table_Entry w5 fun p8 w9 =>
stN [.int .i64 x7.1, .int .i64 x7.2.1, .int .i64 x7.2.2.1] p8 0 w9 fun w10 =>
ldN [(.i .i64), (.i .i64), (.i .i64)] p8 0 w10 fun x11 =>
clS Try.prog F.table_Entry_Good [.agg #[.int .i64 x11.1, .int .i64 x11.2.1, .int .i64 x11.2.2.1]] w10 false [(false, [.b])] fun r12 w13 =>
brB (!r12.1.1) (
R ((true, ()), ()) w13) (
ld1 (.i .i64) p8 w13 fun x14 =>
ld1 (.i .i64) (p8.add 1) w13 fun x15 =>
ld1 (.i .i64) (p8.add 2) w13 fun x16 =>
alK [.int .i64 0, .int .i64 0, .int .i64 0] T.table_Entry w13 fun p17 w18 =>
stN [.int .i64 (IntKind.wrap .i64 (x14 + local_)), .int .i64 (IntKind.wrap .i64 (x15 + offset)), .int .i64 x16] p17 0 w18 fun w19 =>
ldN [(.i .i64), (.i .i64), (.i .i64)] p17 0 w19 fun x20 =>
clS Try.prog F.table_Entry_Good [.agg #[.int .i64 x20.1, .int .i64 x20.2.1, .int .i64 x20.2.2.1]] w19 false [(false, [.b])] fun r21 w22 =>
brB (!r21.1.1) (
R ((true, ()), ()) w22) (
ldN [(.i .i64), (.i .i64), (.i .i64)] p17 0 w22 fun x23 =>
alK [.int .i64 x23.1, .int .i64 x23.2.1, .int .i64 x23.2.2.1] T.table_Entry w22 fun p24 w25 =>
slOf ((Builtin.append_ #[T.sl_table_Entry, T.sl_table_Entry] T.sl_table_Entry #[.slice z4.1.1 z4.1.2.1 z4.1.2.2, .slice (some p24) 1 1]).run Try.prog w25) fun y26 w27 =>
self3 ((y26.1, y26.2.1, y26.2.2), IntKind.wrap .i64 (z4.2.1 + 1), ()) w27))) (
clS Try.prog F.slope_Of [.int .i64 drift, .slice list.1 list.2.1 list.2.2] w5 false [(true, [(.i .i64), (.i .i64)])] fun r28 w29 =>
clS Try.prog F.slope_Of [.int .i64 drift, .slice z4.1.1 z4.1.2.1 z4.1.2.2] w29 false [(true, [(.i .i64), (.i .i64)])] fun r30 w31 =>
R ((((r28.1.1 == r30.1.1) && ((r28.1.2.1 == r30.1.2.1) && true)), ()), ()) w31)) ((none, 0, 0), 0, ()) w2))))))
set_option maxRecDepth 100000 in
theorem law13_SlopeMoved.eq (drift : Int) (list : Option Addr × Nat × Nat) (local_ : Int) (offset : Int) (w : World) (R : Value → World → Prop) : wpF Try.prog Try.f9 (.s .n (.s .n (.s .n (.s .n (.s (.s .n (.lp [(9, .sl), (36, (.i .i64))] .n)) .n))))) [.int .i64 drift, .slice list.1 list.2.1 list.2.2, .int .i64 local_, .int .i64 offset] w R = law13_SlopeMoved.wp drift list local_ offset w (fun r w => R (encR false [(false, [.b])] r) w) := by kernel_rfl
theorem law13_SlopeMoved.ok {drift : Int} {list : Option Addr × Nat × Nat} {local_ : Int} {offset : Int} {w : World} {R : TR [(false, [.b])] → World → Prop} (h : law13_SlopeMoved.wp drift list local_ offset w R) : clS Try.prog F.law13_SlopeMoved [.int .i64 drift, .slice list.1 list.2.1 list.2.2, .int .i64 local_, .int .i64 offset] w false [(false, [.b])] R :=
  ok_of Try_follows Try.func9 (fun R => law13_SlopeMoved.wp drift list local_ offset w R) (law13_SlopeMoved.eq drift list local_ offset w) rfl h
/-! ### law13_SlopeSigns -/
set_option maxRecDepth 100000 in
def law13_SlopeSigns.wp (drift : Int) (list : Option Addr × Nat × Nat) (w : World) (R : TR [(false, [.b])] → World → Prop) : Prop :=
clS Try.prog F.law13_alive [] w false [(false, [.b])] fun r1 w2 =>
brB (!r1.1.1) (
R ((false, ()), ()) w2) (
brB (decide ((list.2.1 : Int) > 8)) (
R ((true, ()), ()) w2) (
LoopT (fun (self3 : ((Bool) × (Bool) × (Int) × Unit) → World → Prop) (z4 : (Bool) × (Bool) × (Int) × Unit) w5 => ∀ _ : Nat → Value,
brB (decide (z4.2.2.1 < (list.2.1 : Int))) (
ixK list.1 list.2.1 z4.2.2.1 fun a6 =>
ldN [(.i .i64), (.i .i64), (.i .i64)] (a6.add (z4.2.2.1.toNat * 3)) 0 w5 fun x7 =>
alK [.int .i64 0, .int .i64 0, .int .i64 0] T.table_Entry w5 fun p8 w9 =>
stN [.int .i64 x7.1, .int .i64 x7.2.1, .int .i64 x7.2.2.1] p8 0 w9 fun w10 =>
CutT (fun (J11 : Unit → World → Prop) =>
drK w10 fun w14 =>
brB (decide (z4.2.2.1 > 0)) (
ld1 (.i .i64) p8 w14 fun x15 =>
ixK list.1 list.2.1 (IntKind.wrap .i64 (z4.2.2.1 - 1)) fun a16 =>
ld1 (.i .i64) (a16.add ((IntKind.wrap .i64 (z4.2.2.1 - 1)).toNat * 3)) w14 fun x17 =>
brB (decide (x15 ≤ x17)) (
R ((true, ()), ()) w14) (
ldN [(.i .i64), (.i .i64), (.i .i64)] p8 0 w14 fun x18 =>
clS Try.prog F.table_Entry_Good [.agg #[.int .i64 x18.1, .int .i64 x18.2.1, .int .i64 x18.2.2.1]] w14 false [(false, [.b])] fun r19 w20 =>
Hold [(10, (a16.add ((IntKind.wrap .i64 (z4.2.2.1 - 1)).toNat * 3)), (w14.cell? (a16.add ((IntKind.wrap .i64 (z4.2.2.1 - 1)).toNat * 3))).getD undef), (4, p8, (w14.cell? p8).getD undef)] w20 ∧ (
brB (!r19.1.1) (
R ((true, ()), ()) w20) (
J11 (()) w20)))) (
J11 (()) w14)) (fun (z12 : Unit) w13 => ∀ _ : Nat → Value,
CutT (fun (J21 : ((Bool) × Unit) → World → Prop) =>
drK w13 fun w24 =>
brB (decide (z4.2.2.1 > 0)) (
ld1 (.i .i64) (p8.add 1) w24 fun x25 =>
ixK list.1 list.2.1 (IntKind.wrap .i64 (z4.2.2.1 - 1)) fun a26 =>
ld1 (.i .i64) ((a26.add ((IntKind.wrap .i64 (z4.2.2.1 - 1)).toNat * 3)).add 1) w24 fun x27 =>
brB (decide (x25 < x27)) (
J21 (false, ()) w24) (
J21 (z4.1, ()) w24)) (
J21 (z4.1, ()) w24)) (fun (z22 : (Bool) × Unit) w23 => ∀ _ : Nat → Value,
drK w23 fun w28 =>
brB (decide (z4.2.2.1 > 0)) (
ld1 (.i .i64) (p8.add 1) w28 fun x29 =>
ixK list.1 list.2.1 (IntKind.wrap .i64 (z4.2.2.1 - 1)) fun a30 =>
ld1 (.i .i64) ((a30.add ((IntKind.wrap .i64 (z4.2.2.1 - 1)).toNat * 3)).add 1) w28 fun x31 =>
brB (decide (x29 > x31)) (
self3 (z22.1, false, IntKind.wrap .i64 (z4.2.2.1 + 1), ()) w28) (
self3 (z22.1, z4.2.1, IntKind.wrap .i64 (z4.2.2.1 + 1), ()) w28)) (
self3 (z22.1, z4.2.1, IntKind.wrap .i64 (z4.2.2.1 + 1), ()) w28)))) (
clS Try.prog F.slope_Of [.int .i64 drift, .slice list.1 list.2.1 list.2.2] w5 false [(true, [(.i .i64), (.i .i64)])] fun r32 w33 =>
alK [.int .i64 0, .int .i64 0] T.slope_Slope w33 fun p34 w35 =>
stN [.int .i64 r32.1.1, .int .i64 r32.1.2.1] p34 0 w35 fun w36 =>
brB (!z4.1) (
brB (!z4.2.1) (
R ((true, ()), ()) w36) (
ld1 (.i .i64) p34 w36 fun x37 =>
R ((decide (x37 ≤ 0), ()), ()) w36)) (
ld1 (.i .i64) p34 w36 fun x38 =>
brB (decide (x38 ≥ 0)) (
brB (!z4.2.1) (
R ((true, ()), ()) w36) (
ld1 (.i .i64) p34 w36 fun x39 =>
R ((decide (x39 ≤ 0), ()), ()) w36)) (
R ((false, ()), ()) w36)))) (true, true, 0, ()) w2))
set_option maxRecDepth 100000 in
theorem law13_SlopeSigns.eq (drift : Int) (list : Option Addr × Nat × Nat) (w : World) (R : Value → World → Prop) : wpF Try.prog Try.f10 (.s .n (.s .n (.s .n (.s .n (.s (.s .n (.lp [(5, .b), (6, .b), (17, (.i .i64))] (.s .n (.s .n (.s (.s .n (.ct [] (.s (.pl (.tk 0 (.tk 1 (.tk 2 (.tk 3 (.tk 4 (.tk 5 (.tk 6 (.tk 7 (.tk 8 (.tk 9 (.tk 10 (.tk 11 (.tk 12 (.tk 13 (.ef 14 [13] (.tk 15 (.tk 16 (.tk 17 .z))))))))))))))))))) .n) (.ct [(5, .b)] (.s (.pl (.tk 0 (.tk 1 (.tk 2 (.tk 3 (.tk 4 (.tk 5 (.tk 6 (.tk 7 (.tk 8 (.tk 9 (.tk 10 (.tk 11 (.tk 12 .z)))))))))))))) .n) (.s (.pl (.tk 0 (.tk 1 (.tk 2 (.tk 3 (.tk 4 (.tk 5 (.tk 6 (.tk 7 (.tk 8 (.tk 9 (.tk 10 (.tk 11 (.tk 12 .z)))))))))))))) .n)))) .n))))) .n))))) [.int .i64 drift, .slice list.1 list.2.1 list.2.2] w R = law13_SlopeSigns.wp drift list w (fun r w => R (encR false [(false, [.b])] r) w) := by kernel_rfl
theorem law13_SlopeSigns.ok {drift : Int} {list : Option Addr × Nat × Nat} {w : World} {R : TR [(false, [.b])] → World → Prop} (h : law13_SlopeSigns.wp drift list w R) : clS Try.prog F.law13_SlopeSigns [.int .i64 drift, .slice list.1 list.2.1 list.2.2] w false [(false, [.b])] R :=
  ok_of Try_follows Try.func10 (fun R => law13_SlopeSigns.wp drift list w R) (law13_SlopeSigns.eq drift list w) rfl h
/-! ### law01_FixFloors -/
set_option maxRecDepth 100000 in
def law01_FixFloors.wp (a : Int) (b : Int) (w : World) (R : TR [(false, [.b])] → World → Prop) : Prop :=
clS Try.prog F.law01_alive [] w false [(false, [.b])] fun r1 w2 =>
brB (!r1.1.1) (
R ((false, ()), ()) w2) (
clS Try.prog F.fix_Floor [.int .i64 a, .int .i64 b] w2 true [(false, [(.i .i64)]), (false, [(.i .i64)]), (false, [.b])] fun r3 w4 =>
clS Try.prog F.fix_Size [.int .i64 a] w4 false [(false, [(.i .u64)])] fun r5 w6 =>
clS Try.prog F.ref01_Size [.int .i64 a] w6 false [(false, [(.i .u64)])] fun r7 w8 =>
brB (r5.1.1 != r7.1.1) (
R ((false, ()), ()) w8) (
brB (decide (b < 1)) (
brB (r3.1.1 == 0) (
brB (r3.2.1.1 == 0) (
R ((!r3.2.2.1.1, ()), ()) w8) (
R ((false, ()), ()) w8)) (
R ((false, ()), ()) w8)) (
clS Try.prog F.ref01_Floor [.int .i64 a, .int .i64 b] w8 true [(false, [(.i .i64)]), (false, [(.i .i64)])] fun r9 w10 =>
brB r3.2.2.1.1 (
brB (r3.1.1 == r9.1.1) (
brB (r3.2.1.1 == r9.2.1.1) (
brB (decide (r3.2.1.1 ≥ 0)) (
brB (decide (r3.2.1.1 < b)) (
R ((((IntKind.wrap .i64 ((IntKind.wrap .i64 (r3.1.1 * b)) + r3.2.1.1)) == a), ()), ()) w10) (
R ((false, ()), ()) w10)) (
R ((false, ()), ()) w10)) (
R ((false, ()), ()) w10)) (
R ((false, ()), ()) w10)) (
R ((false, ()), ()) w10))))
set_option maxRecDepth 100000 in
theorem law01_FixFloors.eq (a : Int) (b : Int) (w : World) (R : Value → World → Prop) : wpF Try.prog Try.f11 .n [.int .i64 a, .int .i64 b] w R = law01_FixFloors.wp a b w (fun r w => R (encR false [(false, [.b])] r) w) := by kernel_rfl
theorem law01_FixFloors.ok {a : Int} {b : Int} {w : World} {R : TR [(false, [.b])] → World → Prop} (h : law01_FixFloors.wp a b w R) : clS Try.prog F.law01_FixFloors [.int .i64 a, .int .i64 b] w false [(false, [.b])] R :=
  ok_of Try_follows Try.func11 (fun R => law01_FixFloors.wp a b w R) (law01_FixFloors.eq a b w) rfl h
/-! ### law01_FixProducts -/
set_option maxRecDepth 100000 in
def law01_FixProducts.wp (a : Int) (b : Int) (c : Int) (w : World) (R : TR [(false, [.b])] → World → Prop) : Prop :=
clS Try.prog F.law01_alive [] w false [(false, [.b])] fun r1 w2 =>
brB (!r1.1.1) (
R ((false, ()), ()) w2) (
clS Try.prog F.fix_MulDiv [.int .i64 a, .int .i64 b, .int .i64 c] w2 true [(false, [(.i .i64)]), (false, [.b])] fun r3 w4 =>
clS Try.prog F.ref01_MulDiv [.int .i64 a, .int .i64 b, .int .i64 c] w4 true [(false, [(.i .i64)]), (false, [.b])] fun r5 w6 =>
brB (r3.1.1 == r5.1.1) (
R (((r3.2.1.1 == r5.2.1.1), ()), ()) w6) (
R ((false, ()), ()) w6))
set_option maxRecDepth 100000 in
theorem law01_FixProducts.eq (a : Int) (b : Int) (c : Int) (w : World) (R : Value → World → Prop) : wpF Try.prog Try.f12 .n [.int .i64 a, .int .i64 b, .int .i64 c] w R = law01_FixProducts.wp a b c w (fun r w => R (encR false [(false, [.b])] r) w) := by kernel_rfl
theorem law01_FixProducts.ok {a : Int} {b : Int} {c : Int} {w : World} {R : TR [(false, [.b])] → World → Prop} (h : law01_FixProducts.wp a b c w R) : clS Try.prog F.law01_FixProducts [.int .i64 a, .int .i64 b, .int .i64 c] w false [(false, [.b])] R :=
  ok_of Try_follows Try.func12 (fun R => law01_FixProducts.wp a b c w R) (law01_FixProducts.eq a b c w) rfl h
end Go.Proofs.Ytccnlakbplmhnaa
