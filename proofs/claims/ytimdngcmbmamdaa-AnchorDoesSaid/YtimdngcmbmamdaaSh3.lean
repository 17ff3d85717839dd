import Derived.Test.YtimdngcmbmamdaaNm
namespace Go.Proofs.Ytimdngcmbmamdaa
open Go.Eng
set_option linter.unusedVariables false
/-! ### utc_Parse -/
set_option maxRecDepth 100000 in
def utc_Parse.wp (s : ByteArray) (w : World) (R : TR [(true, [(.i .i64), (.i .i64), (.i .i64), (.i .i64), (.i .i64), (.i .i64)]), (false, [.b])] → World → Prop) : Prop :=
alK [.int .i64 0, .int .i64 0, .int .i64 0, .int .i64 0, .int .i64 0, .int .i64 0] T.utc_Utc w fun p1 w2 =>
clS Try.prog F.utc_looks [.string s] w2 false [(false, [.b])] fun r3 w4 =>
brB (!r3.1.1) (
stN [.int .i64 0, .int .i64 0, .int .i64 0, .int .i64 0, .int .i64 0, .int .i64 0] p1 0 w4 fun w5 =>
ldN [(.i .i64), (.i .i64), (.i .i64), (.i .i64), (.i .i64), (.i .i64)] p1 0 w5 fun x6 =>
R ((x6.1, x6.2.1, x6.2.2.1, x6.2.2.2.1, x6.2.2.2.2.1, x6.2.2.2.2.2.1, ()), (false, ()), ()) w5) (
slK 0 10 s.size (
clS Try.prog F.civil_Parse [.string (s.extract (Int.toNat 0) (Int.toNat 10))] w4 true [(true, [(.i .i64), (.i .i64), (.i .i64)]), (false, [.b])] fun r7 w8 =>
alK [.int .i64 0, .int .i64 0, .int .i64 0] T.civil_Date w8 fun p9 w10 =>
stN [.int .i64 r7.1.1, .int .i64 r7.1.2.1, .int .i64 r7.1.2.2.1] p9 0 w10 fun w11 =>
CutT (fun (J12 : ((Addr) × Unit) → World → Prop) =>
drK w11 fun w15 =>
ldN [(.i .i64), (.i .i64), (.i .i64)] p9 0 w15 fun x16 =>
slK 11 (s.size : Int) s.size (
slK 14 (s.size : Int) s.size (
slK 17 (s.size : Int) s.size (
(
clS Try.prog F.utc_num [.string (s.extract (Int.toNat 11) (Int.toNat (s.size : Int)))] w15 false [(false, [(.i .i64)])] fun r17 w18 =>
Hold [(0, (p9.add 0), (w15.cell? (p9.add 0)).getD undef), (0, (p9.add 1), (w15.cell? (p9.add 1)).getD undef), (0, (p9.add 2), (w15.cell? (p9.add 2)).getD undef)] w18 ∧ (
(
clS Try.prog F.utc_num [.string (s.extract (Int.toNat 14) (Int.toNat (s.size : Int)))] w18 false [(false, [(.i .i64)])] fun r19 w20 =>
Hold [(0, (p9.add 0), (w15.cell? (p9.add 0)).getD undef), (0, (p9.add 1), (w15.cell? (p9.add 1)).getD undef), (0, (p9.add 2), (w15.cell? (p9.add 2)).getD undef)] w20 ∧ (
(
clS Try.prog F.utc_num [.string (s.extract (Int.toNat 17) (Int.toNat (s.size : Int)))] w20 false [(false, [(.i .i64)])] fun r21 w22 =>
Hold [(0, (p9.add 0), (w15.cell? (p9.add 0)).getD undef), (0, (p9.add 1), (w15.cell? (p9.add 1)).getD undef), (0, (p9.add 2), (w15.cell? (p9.add 2)).getD undef)] w22 ∧ (
alK [.int .i64 0, .int .i64 0, .int .i64 0, .int .i64 0, .int .i64 0, .int .i64 0] T.utc_Utc w22 fun p23 w24 =>
Hold [(0, (p9.add 0), (w15.cell? (p9.add 0)).getD undef), (0, (p9.add 1), (w15.cell? (p9.add 1)).getD undef), (0, (p9.add 2), (w15.cell? (p9.add 2)).getD undef)] w24 ∧ (
stN [.int .i64 x16.1, .int .i64 x16.2.1, .int .i64 x16.2.2.1, .int .i64 r17.1.1, .int .i64 r19.1.1, .int .i64 r21.1.1] p23 0 w24 fun w25 =>
Hold [] w25 ∧ (
J12 (p23, ()) w25)))) ∧ (
alK [.int .i64 0, .int .i64 0, .int .i64 0, .int .i64 0, .int .i64 0, .int .i64 0] T.utc_Utc w20 fun p26 w27 =>
Hold [(0, (p9.add 0), (w15.cell? (p9.add 0)).getD undef), (0, (p9.add 1), (w15.cell? (p9.add 1)).getD undef), (0, (p9.add 2), (w15.cell? (p9.add 2)).getD undef)] w27 ∧ (
clS Try.prog F.utc_num [.string (s.extract (Int.toNat 17) (Int.toNat (s.size : Int)))] w27 false [(false, [(.i .i64)])] fun r28 w29 =>
Hold [(0, (p9.add 0), (w15.cell? (p9.add 0)).getD undef), (0, (p9.add 1), (w15.cell? (p9.add 1)).getD undef), (0, (p9.add 2), (w15.cell? (p9.add 2)).getD undef)] w29 ∧ (
stN [.int .i64 x16.1, .int .i64 x16.2.1, .int .i64 x16.2.2.1, .int .i64 r17.1.1, .int .i64 r19.1.1, .int .i64 r28.1.1] p26 0 w29 fun w30 =>
Hold [] w30 ∧ (
J12 (p26, ()) w30)))))) ∧ (
alK [.int .i64 0, .int .i64 0, .int .i64 0, .int .i64 0, .int .i64 0, .int .i64 0] T.utc_Utc w18 fun p31 w32 =>
Hold [(0, (p9.add 0), (w15.cell? (p9.add 0)).getD undef), (0, (p9.add 1), (w15.cell? (p9.add 1)).getD undef), (0, (p9.add 2), (w15.cell? (p9.add 2)).getD undef)] w32 ∧ (
clS Try.prog F.utc_num [.string (s.extract (Int.toNat 14) (Int.toNat (s.size : Int)))] w32 false [(false, [(.i .i64)])] fun r33 w34 =>
Hold [(0, (p9.add 0), (w15.cell? (p9.add 0)).getD undef), (0, (p9.add 1), (w15.cell? (p9.add 1)).getD undef), (0, (p9.add 2), (w15.cell? (p9.add 2)).getD undef)] w34 ∧ (
clS Try.prog F.utc_num [.string (s.extract (Int.toNat 17) (Int.toNat (s.size : Int)))] w34 false [(false, [(.i .i64)])] fun r35 w36 =>
Hold [(0, (p9.add 0), (w15.cell? (p9.add 0)).getD undef), (0, (p9.add 1), (w15.cell? (p9.add 1)).getD undef), (0, (p9.add 2), (w15.cell? (p9.add 2)).getD undef)] w36 ∧ (
stN [.int .i64 x16.1, .int .i64 x16.2.1, .int .i64 x16.2.2.1, .int .i64 r17.1.1, .int .i64 r33.1.1, .int .i64 r35.1.1] p31 0 w36 fun w37 =>
Hold [] w37 ∧ (
J12 (p31, ()) w37))))))) ∧ (
alK [.int .i64 0, .int .i64 0, .int .i64 0, .int .i64 0, .int .i64 0, .int .i64 0] T.utc_Utc w15 fun p38 w39 =>
Hold [(0, (p9.add 0), (w15.cell? (p9.add 0)).getD undef), (0, (p9.add 1), (w15.cell? (p9.add 1)).getD undef), (0, (p9.add 2), (w15.cell? (p9.add 2)).getD undef)] w39 ∧ (
clS Try.prog F.utc_num [.string (s.extract (Int.toNat 11) (Int.toNat (s.size : Int)))] w39 false [(false, [(.i .i64)])] fun r40 w41 =>
Hold [(0, (p9.add 0), (w15.cell? (p9.add 0)).getD undef), (0, (p9.add 1), (w15.cell? (p9.add 1)).getD undef), (0, (p9.add 2), (w15.cell? (p9.add 2)).getD undef)] w41 ∧ (
clS Try.prog F.utc_num [.string (s.extract (Int.toNat 14) (Int.toNat (s.size : Int)))] w41 false [(false, [(.i .i64)])] fun r42 w43 =>
Hold [(0, (p9.add 0), (w15.cell? (p9.add 0)).getD undef), (0, (p9.add 1), (w15.cell? (p9.add 1)).getD undef), (0, (p9.add 2), (w15.cell? (p9.add 2)).getD undef)] w43 ∧ (
clS Try.prog F.utc_num [.string (s.extract (Int.toNat 17) (Int.toNat (s.size : Int)))] w43 false [(false, [(.i .i64)])] fun r44 w45 =>
Hold [(0, (p9.add 0), (w15.cell? (p9.add 0)).getD undef), (0, (p9.add 1), (w15.cell? (p9.add 1)).getD undef), (0, (p9.add 2), (w15.cell? (p9.add 2)).getD undef)] w45 ∧ (
stN [.int .i64 x16.1, .int .i64 x16.2.1, .int .i64 x16.2.2.1, .int .i64 r40.1.1, .int .i64 r42.1.1, .int .i64 r44.1.1] p38 0 w45 fun w46 =>
Hold [] w46 ∧ (
J12 (p38, ()) w46)))))))))) (fun (z13 : (Addr) × Unit) w14 => ∀ _ : Nat → Value,
ldN [(.i .i64), (.i .i64), (.i .i64), (.i .i64), (.i .i64), (.i .i64)] z13.1 0 w14 fun x47 =>
clS Try.prog F.utc_Utc_Good [.agg #[.int .i64 x47.1, .int .i64 x47.2.1, .int .i64 x47.2.2.1, .int .i64 x47.2.2.2.1, .int .i64 x47.2.2.2.2.1, .int .i64 x47.2.2.2.2.2.1]] w14 false [(false, [.b])] fun r48 w49 =>
brB (!r48.1.1) (
stN [.int .i64 0, .int .i64 0, .int .i64 0, .int .i64 0, .int .i64 0, .int .i64 0] p1 0 w49 fun w50 =>
ldN [(.i .i64), (.i .i64), (.i .i64), (.i .i64), (.i .i64), (.i .i64)] p1 0 w50 fun x51 =>
R ((x51.1, x51.2.1, x51.2.2.1, x51.2.2.2.1, x51.2.2.2.2.1, x51.2.2.2.2.2.1, ()), (false, ()), ()) w50) (
ldN [(.i .i64), (.i .i64), (.i .i64), (.i .i64), (.i .i64), (.i .i64)] z13.1 0 w49 fun x52 =>
stN [.int .i64 x52.1, .int .i64 x52.2.1, .int .i64 x52.2.2.1, .int .i64 x52.2.2.2.1, .int .i64 x52.2.2.2.2.1, .int .i64 x52.2.2.2.2.2.1] p1 0 w49 fun w53 =>
ldN [(.i .i64), (.i .i64), (.i .i64), (.i .i64), (.i .i64), (.i .i64)] p1 0 w53 fun x54 =>
R ((x54.1, x54.2.1, x54.2.2.1, x54.2.2.2.1, x54.2.2.2.2.1, x54.2.2.2.2.2.1, ()), (true, ()), ()) w53))))
set_option maxRecDepth 100000 in
theorem utc_Parse.eq (s : ByteArray) (w : World) (R : Value → World → Prop) : wpF Try.prog Try.f26 (.s .n (.s .n (.s .n (.ct [(6, .a)] (.pl (.tk 0 (.tk 1 (.tk 2 (.tk 4 (.tk 5 (.tk 7 (.tk 8 (.two 3 11 (.two 6 11 (.two 9 11 (.tk 10 (.ef 11 [] (.ef 12 [0] .z))) (.ef 9 [] (.tk 10 (.ef 12 [0] .z)))) (.ef 6 [] (.ef 9 [] (.tk 10 (.ef 12 [0] .z))))) (.ef 3 [] (.ef 6 [] (.ef 9 [] (.tk 10 (.ef 12 [0] .z)))))))))))))) .n)))) [.string s] w R = utc_Parse.wp s w (fun r w => R (encR true [(true, [(.i .i64), (.i .i64), (.i .i64), (.i .i64), (.i .i64), (.i .i64)]), (false, [.b])] r) w) := by kernel_rfl
set_option maxRecDepth 100000 in
theorem utc_Parse.ok {s : ByteArray} {w : World} {R : TR [(true, [(.i .i64), (.i .i64), (.i .i64), (.i .i64), (.i .i64), (.i .i64)]), (false, [.b])] → World → Prop} (h : utc_Parse.wp s w R) : clS Try.prog F.utc_Parse [.string s] w true [(true, [(.i .i64), (.i .i64), (.i .i64), (.i .i64), (.i .i64), (.i .i64)]), (false, [.b])] R :=
  ok_of Try_follows Try.func26 (fun R => utc_Parse.wp s w R) (utc_Parse.eq s w) rfl h
/-! ### ref22_Parse -/
set_option maxRecDepth 100000 in
def ref22_Parse.wp (s : ByteArray) (w : World) (R : TR [(true, [(.i .i64), (.i .i64), (.i .i64), (.i .i64), (.i .i64), (.i .i64)]), (false, [.b])] → World → Prop) : Prop :=
alK [.int .i64 0, .int .i64 0, .int .i64 0, .int .i64 0, .int .i64 0, .int .i64 0] T.ref22_Utc w fun p1 w2 =>
brB ((s.size : Int) != 20) (
stN [.int .i64 0, .int .i64 0, .int .i64 0, .int .i64 0, .int .i64 0, .int .i64 0] p1 0 w2 fun w3 =>
ldN [(.i .i64), (.i .i64), (.i .i64), (.i .i64), (.i .i64), (.i .i64)] p1 0 w3 fun x4 =>
R ((x4.1, x4.2.1, x4.2.2.1, x4.2.2.2.1, x4.2.2.2.2.1, x4.2.2.2.2.2.1, ()), (false, ()), ()) w3) (
siK s 10 fun c5 =>
brB (c5 != 84) (
stN [.int .i64 0, .int .i64 0, .int .i64 0, .int .i64 0, .int .i64 0, .int .i64 0] p1 0 w2 fun w6 =>
ldN [(.i .i64), (.i .i64), (.i .i64), (.i .i64), (.i .i64), (.i .i64)] p1 0 w6 fun x7 =>
R ((x7.1, x7.2.1, x7.2.2.1, x7.2.2.2.1, x7.2.2.2.2.1, x7.2.2.2.2.2.1, ()), (false, ()), ()) w6) (
siK s 13 fun c8 =>
brB (c8 != 58) (
stN [.int .i64 0, .int .i64 0, .int .i64 0, .int .i64 0, .int .i64 0, .int .i64 0] p1 0 w2 fun w9 =>
ldN [(.i .i64), (.i .i64), (.i .i64), (.i .i64), (.i .i64), (.i .i64)] p1 0 w9 fun x10 =>
R ((x10.1, x10.2.1, x10.2.2.1, x10.2.2.2.1, x10.2.2.2.2.1, x10.2.2.2.2.2.1, ()), (false, ()), ()) w9) (
siK s 16 fun c11 =>
brB (c11 != 58) (
stN [.int .i64 0, .int .i64 0, .int .i64 0, .int .i64 0, .int .i64 0, .int .i64 0] p1 0 w2 fun w12 =>
ldN [(.i .i64), (.i .i64), (.i .i64), (.i .i64), (.i .i64), (.i .i64)] p1 0 w12 fun x13 =>
R ((x13.1, x13.2.1, x13.2.2.1, x13.2.2.2.1, x13.2.2.2.2.1, x13.2.2.2.2.2.1, ()), (false, ()), ()) w12) (
siK s 19 fun c14 =>
brB (c14 != 90) (
stN [.int .i64 0, .int .i64 0, .int .i64 0, .int .i64 0, .int .i64 0, .int .i64 0] p1 0 w2 fun w15 =>
ldN [(.i .i64), (.i .i64), (.i .i64), (.i .i64), (.i .i64), (.i .i64)] p1 0 w15 fun x16 =>
R ((x16.1, x16.2.1, x16.2.2.1, x16.2.2.2.1, x16.2.2.2.2.1, x16.2.2.2.2.2.1, ()), (false, ()), ()) w15) (
slK 0 10 s.size (
clS Try.prog F.ref20_Parse [.string (s.extract (Int.toNat 0) (Int.toNat 10))] w2 true [(true, [(.i .i64), (.i .i64), (.i .i64)]), (false, [.b])] fun r17 w18 =>
alK [.int .i64 0, .int .i64 0, .int .i64 0] T.ref20_Date w18 fun p19 w20 =>
stN [.int .i64 r17.1.1, .int .i64 r17.1.2.1, .int .i64 r17.1.2.2.1] p19 0 w20 fun w21 =>
CutT (fun (J22 : ((Addr) × Unit) → World → Prop) =>
drK w21 fun w25 =>
ldN [(.i .i64), (.i .i64), (.i .i64)] p19 0 w25 fun x26 =>
slK 11 13 s.size (
slK 14 16 s.size (
slK 17 19 s.size (
(
clS Try.prog F.ref22_num [.string (s.extract (Int.toNat 11) (Int.toNat 13))] w25 false [(false, [(.i .i64)])] fun r27 w28 =>
Hold [(0, (p19.add 0), (w25.cell? (p19.add 0)).getD undef), (0, (p19.add 1), (w25.cell? (p19.add 1)).getD undef), (0, (p19.add 2), (w25.cell? (p19.add 2)).getD undef)] w28 ∧ (
(
clS Try.prog F.ref22_num [.string (s.extract (Int.toNat 14) (Int.toNat 16))] w28 false [(false, [(.i .i64)])] fun r29 w30 =>
Hold [(0, (p19.add 0), (w25.cell? (p19.add 0)).getD undef), (0, (p19.add 1), (w25.cell? (p19.add 1)).getD undef), (0, (p19.add 2), (w25.cell? (p19.add 2)).getD undef)] w30 ∧ (
(
clS Try.prog F.ref22_num [.string (s.extract (Int.toNat 17) (Int.toNat 19))] w30 false [(false, [(.i .i64)])] fun r31 w32 =>
Hold [(0, (p19.add 0), (w25.cell? (p19.add 0)).getD undef), (0, (p19.add 1), (w25.cell? (p19.add 1)).getD undef), (0, (p19.add 2), (w25.cell? (p19.add 2)).getD undef)] w32 ∧ (
alK [.int .i64 0, .int .i64 0, .int .i64 0, .int .i64 0, .int .i64 0, .int .i64 0] T.ref22_Utc w32 fun p33 w34 =>
Hold [(0, (p19.add 0), (w25.cell? (p19.add 0)).getD undef), (0, (p19.add 1), (w25.cell? (p19.add 1)).getD undef), (0, (p19.add 2), (w25.cell? (p19.add 2)).getD undef)] w34 ∧ (
stN [.int .i64 x26.1, .int .i64 x26.2.1, .int .i64 x26.2.2.1, .int .i64 r27.1.1, .int .i64 r29.1.1, .int .i64 r31.1.1] p33 0 w34 fun w35 =>
Hold [] w35 ∧ (
J22 (p33, ()) w35)))) ∧ (
alK [.int .i64 0, .int .i64 0, .int .i64 0, .int .i64 0, .int .i64 0, .int .i64 0] T.ref22_Utc w30 fun p36 w37 =>
Hold [(0, (p19.add 0), (w25.cell? (p19.add 0)).getD undef), (0, (p19.add 1), (w25.cell? (p19.add 1)).getD undef), (0, (p19.add 2), (w25.cell? (p19.add 2)).getD undef)] w37 ∧ (
clS Try.prog F.ref22_num [.string (s.extract (Int.toNat 17) (Int.toNat 19))] w37 false [(false, [(.i .i64)])] fun r38 w39 =>
Hold [(0, (p19.add 0), (w25.cell? (p19.add 0)).getD undef), (0, (p19.add 1), (w25.cell? (p19.add 1)).getD undef), (0, (p19.add 2), (w25.cell? (p19.add 2)).getD undef)] w39 ∧ (
stN [.int .i64 x26.1, .int .i64 x26.2.1, .int .i64 x26.2.2.1, .int .i64 r27.1.1, .int .i64 r29.1.1, .int .i64 r38.1.1] p36 0 w39 fun w40 =>
Hold [] w40 ∧ (
J22 (p36, ()) w40)))))) ∧ (
alK [.int .i64 0, .int .i64 0, .int .i64 0, .int .i64 0, .int .i64 0, .int .i64 0] T.ref22_Utc w28 fun p41 w42 =>
Hold [(0, (p19.add 0), (w25.cell? (p19.add 0)).getD undef), (0, (p19.add 1), (w25.cell? (p19.add 1)).getD undef), (0, (p19.add 2), (w25.cell? (p19.add 2)).getD undef)] w42 ∧ (
clS Try.prog F.ref22_num [.string (s.extract (Int.toNat 14) (Int.toNat 16))] w42 false [(false, [(.i .i64)])] fun r43 w44 =>
Hold [(0, (p19.add 0), (w25.cell? (p19.add 0)).getD undef), (0, (p19.add 1), (w25.cell? (p19.add 1)).getD undef), (0, (p19.add 2), (w25.cell? (p19.add 2)).getD undef)] w44 ∧ (
clS Try.prog F.ref22_num [.string (s.extract (Int.toNat 17) (Int.toNat 19))] w44 false [(false, [(.i .i64)])] fun r45 w46 =>
Hold [(0, (p19.add 0), (w25.cell? (p19.add 0)).getD undef), (0, (p19.add 1), (w25.cell? (p19.add 1)).getD undef), (0, (p19.add 2), (w25.cell? (p19.add 2)).getD undef)] w46 ∧ (
stN [.int .i64 x26.1, .int .i64 x26.2.1, .int .i64 x26.2.2.1, .int .i64 r27.1.1, .int .i64 r43.1.1, .int .i64 r45.1.1] p41 0 w46 fun w47 =>
Hold [] w47 ∧ (
J22 (p41, ()) w47))))))) ∧ (
alK [.int .i64 0, .int .i64 0, .int .i64 0, .int .i64 0, .int .i64 0, .int .i64 0] T.ref22_Utc w25 fun p48 w49 =>
Hold [(0, (p19.add 0), (w25.cell? (p19.add 0)).getD undef), (0, (p19.add 1), (w25.cell? (p19.add 1)).getD undef), (0, (p19.add 2), (w25.cell? (p19.add 2)).getD undef)] w49 ∧ (
clS Try.prog F.ref22_num [.string (s.extract (Int.toNat 11) (Int.toNat 13))] w49 false [(false, [(.i .i64)])] fun r50 w51 =>
Hold [(0, (p19.add 0), (w25.cell? (p19.add 0)).getD undef), (0, (p19.add 1), (w25.cell? (p19.add 1)).getD undef), (0, (p19.add 2), (w25.cell? (p19.add 2)).getD undef)] w51 ∧ (
clS Try.prog F.ref22_num [.string (s.extract (Int.toNat 14) (Int.toNat 16))] w51 false [(false, [(.i .i64)])] fun r52 w53 =>
Hold [(0, (p19.add 0), (w25.cell? (p19.add 0)).getD undef), (0, (p19.add 1), (w25.cell? (p19.add 1)).getD undef), (0, (p19.add 2), (w25.cell? (p19.add 2)).getD undef)] w53 ∧ (
clS Try.prog F.ref22_num [.string (s.extract (Int.toNat 17) (Int.toNat 19))] w53 false [(false, [(.i .i64)])] fun r54 w55 =>
Hold [(0, (p19.add 0), (w25.cell? (p19.add 0)).getD undef), (0, (p19.add 1), (w25.cell? (p19.add 1)).getD undef), (0, (p19.add 2), (w25.cell? (p19.add 2)).getD undef)] w55 ∧ (
stN [.int .i64 x26.1, .int .i64 x26.2.1, .int .i64 x26.2.2.1, .int .i64 r50.1.1, .int .i64 r52.1.1, .int .i64 r54.1.1] p48 0 w55 fun w56 =>
Hold [] w56 ∧ (
J22 (p48, ()) w56)))))))))) (fun (z23 : (Addr) × Unit) w24 => ∀ _ : Nat → Value,
brB (!r17.2.1.1) (
stN [.int .i64 0, .int .i64 0, .int .i64 0, .int .i64 0, .int .i64 0, .int .i64 0] p1 0 w24 fun w57 =>
ldN [(.i .i64), (.i .i64), (.i .i64), (.i .i64), (.i .i64), (.i .i64)] p1 0 w57 fun x58 =>
R ((x58.1, x58.2.1, x58.2.2.1, x58.2.2.2.1, x58.2.2.2.2.1, x58.2.2.2.2.2.1, ()), (false, ()), ()) w57) (
ldN [(.i .i64), (.i .i64), (.i .i64), (.i .i64), (.i .i64), (.i .i64)] z23.1 0 w24 fun x59 =>
clS Try.prog F.ref22_Good [.agg #[.int .i64 x59.1, .int .i64 x59.2.1, .int .i64 x59.2.2.1, .int .i64 x59.2.2.2.1, .int .i64 x59.2.2.2.2.1, .int .i64 x59.2.2.2.2.2.1]] w24 false [(false, [.b])] fun r60 w61 =>
brB (!r60.1.1) (
stN [.int .i64 0, .int .i64 0, .int .i64 0, .int .i64 0, .int .i64 0, .int .i64 0] p1 0 w61 fun w62 =>
ldN [(.i .i64), (.i .i64), (.i .i64), (.i .i64), (.i .i64), (.i .i64)] p1 0 w62 fun x63 =>
R ((x63.1, x63.2.1, x63.2.2.1, x63.2.2.2.1, x63.2.2.2.2.1, x63.2.2.2.2.2.1, ()), (false, ()), ()) w62) (
ldN [(.i .i64), (.i .i64), (.i .i64), (.i .i64), (.i .i64), (.i .i64)] z23.1 0 w61 fun x64 =>
stN [.int .i64 x64.1, .int .i64 x64.2.1, .int .i64 x64.2.2.1, .int .i64 x64.2.2.2.1, .int .i64 x64.2.2.2.2.1, .int .i64 x64.2.2.2.2.2.1] p1 0 w61 fun w65 =>
ldN [(.i .i64), (.i .i64), (.i .i64), (.i .i64), (.i .i64), (.i .i64)] p1 0 w65 fun x66 =>
R ((x66.1, x66.2.1, x66.2.2.1, x66.2.2.2.1, x66.2.2.2.2.1, x66.2.2.2.2.2.1, ()), (true, ()), ()) w65)))))))))
set_option maxRecDepth 100000 in
theorem ref22_Parse.eq (s : ByteArray) (w : World) (R : Value → World → Prop) : wpF Try.prog Try.f27 (.s .n (.s .n (.s .n (.ct [(6, .a)] (.pl (.tk 0 (.tk 1 (.tk 2 (.tk 4 (.tk 5 (.tk 7 (.tk 8 (.two 3 11 (.two 6 11 (.two 9 11 (.tk 10 (.ef 11 [] (.ef 12 [0] .z))) (.ef 9 [] (.tk 10 (.ef 12 [0] .z)))) (.ef 6 [] (.ef 9 [] (.tk 10 (.ef 12 [0] .z))))) (.ef 3 [] (.ef 6 [] (.ef 9 [] (.tk 10 (.ef 12 [0] .z)))))))))))))) .n)))) [.string s] w R = ref22_Parse.wp s w (fun r w => R (encR true [(true, [(.i .i64), (.i .i64), (.i .i64), (.i .i64), (.i .i64), (.i .i64)]), (false, [.b])] r) w) := by kernel_rfl
set_option maxRecDepth 100000 in
theorem ref22_Parse.ok {s : ByteArray} {w : World} {R : TR [(true, [(.i .i64), (.i .i64), (.i .i64), (.i .i64), (.i .i64), (.i .i64)]), (false, [.b])] → World → Prop} (h : ref22_Parse.wp s w R) : clS Try.prog F.ref22_Parse [.string s] w true [(true, [(.i .i64), (.i .i64), (.i .i64), (.i .i64), (.i .i64), (.i .i64)]), (false, [.b])] R :=
  ok_of Try_follows Try.func27 (fun R => ref22_Parse.wp s w R) (ref22_Parse.eq s w) rfl h
/-! ### law23_alive -/
set_option maxRecDepth 100000 in
def law23_alive.wp  (w : World) (R : TR [(false, [.b])] → World → Prop) : Prop :=
alK [.bool false, .int .i64 0, .int .u16 0, .int .i64 0, .int .u16 0, .int .i64 0, .int .i64 0] T.anchor_Book w fun p1 w2 =>
clS Try.prog F.anchor_Book_Make [.pointer (some p1), .int .i64 3, .agg #[.int .i64 5000, .int .i64 0, .int .i64 0, .int .u16 0, .int .i64 0], .int .i64 100] w2 true [(true, [(.i .i64), (.i .u16), (.i .i64), (.i .u16), (.i .i64), (.i .i64)]), (false, [(.i .i64)])] fun r3 w4 =>
alK [.int .i64 0, .int .u16 0, .int .i64 0, .int .u16 0, .int .i64 0, .int .i64 0] T.frame_Anchor w4 fun p5 w6 =>
stN [.int .i64 r3.1.1, .int .u16 r3.1.2.1, .int .i64 r3.1.2.2.1, .int .u16 r3.1.2.2.2.1, .int .i64 r3.1.2.2.2.2.1, .int .i64 r3.1.2.2.2.2.2.1] p5 0 w6 fun w7 =>
clS Try.prog F.anchor_Book_Tai [.pointer (some p1), .agg #[.int .i64 0, .int .u16 0], .int .i64 7250] w7 true [(true, [(.i .i64), (.i .i64)]), (false, [(.i .i64)])] fun r8 w9 =>
alK [.int .i64 0, .int .i64 0] T.anchor_Moment w9 fun p10 w11 =>
stN [.int .i64 r8.1.1, .int .i64 r8.1.2.1] p10 0 w11 fun w12 =>
clS Try.prog F.anchor_Book_Tai [.pointer (some p1), .agg #[.int .i64 0, .int .u16 0], .int .i64 4999] w12 true [(true, [(.i .i64), (.i .i64)]), (false, [(.i .i64)])] fun r13 w14 =>
alK [.int .i64 0, .int .i64 0] T.anchor_Moment w14 fun p15 w16 =>
stN [.int .i64 r13.1.1, .int .i64 r13.1.2.1] p15 0 w16 fun w17 =>
brB (r3.2.1.1 == 0) (
ld1 (.i .u16) (p5.add 1) w17 fun x18 =>
brB (x18 == 1) (
ld1 (.i .i64) p5 w17 fun x19 =>
brB (x19 == 3) (
brB (r8.2.1.1 == 0) (
ldN [(.i .i64), (.i .i64)] p10 0 w17 fun x20 =>
brB ((x20.1 == 102) && ((x20.2.1 == 250) && true)) (
brB (r13.2.1.1 == 0) (
ldN [(.i .i64), (.i .i64)] p15 0 w17 fun x21 =>
R ((((x21.1 == 99) && ((x21.2.1 == 999) && true)), ()), ()) w17) (
R ((false, ()), ()) w17)) (
R ((false, ()), ()) w17)) (
R ((false, ()), ()) w17)) (
R ((false, ()), ()) w17)) (
R ((false, ()), ()) w17)) (
R ((false, ()), ()) w17)
set_option maxRecDepth 100000 in
theorem law23_alive.eq  (w : World) (R : Value → World → Prop) : wpF Try.prog Try.f28 .n [] w R = law23_alive.wp  w (fun r w => R (encR false [(false, [.b])] r) w) := by kernel_rfl
set_option maxRecDepth 100000 in
theorem law23_alive.ok  {w : World} {R : TR [(false, [.b])] → World → Prop} (h : law23_alive.wp  w R) : clS Try.prog F.law23_alive [] w false [(false, [.b])] R :=
  ok_of Try_follows Try.func28 (fun R => law23_alive.wp  w R) (law23_alive.eq  w) rfl h
/-! ### ref05_Good -/
set_option maxRecDepth 100000 in
def ref05_Good.wp (p0 : Int) (p1 : Int) (p2 : Int) (p3 : Int) (p4 : Int) (p5 : Int) (p6 : Int) (p7 : Int) (p8 : Int) (p9 : Int) (p10 : Int) (p11 : Int) (p12 : Int) (p13 : Int) (w : World) (R : TR [(false, [.b])] → World → Prop) : Prop :=
alK [.int .i64 p0, .int .i64 p1, .int .i64 p2, .int .i64 p3, .int .u16 p4, .int .u16 p5, .int .i64 p6, .int .i64 p7, .int .i64 p8, .int .i64 p9, .int .i64 p10, .int .i64 p11, .int .i64 p12, .int .i64 p13] T.ref05_Plain w fun p1 w2 =>
ldN [(.i .i64), (.i .i64), (.i .i64), (.i .i64), (.i .u16), (.i .u16), (.i .i64), (.i .i64), (.i .i64), (.i .i64), (.i .i64), (.i .i64), (.i .i64), (.i .i64)] p1 0 w2 fun x3 =>
clS Try.prog F.ref05_Fields [.agg #[.int .i64 x3.1, .int .i64 x3.2.1, .int .i64 x3.2.2.1, .int .i64 x3.2.2.2.1, .int .u16 x3.2.2.2.2.1, .int .u16 x3.2.2.2.2.2.1, .int .i64 x3.2.2.2.2.2.2.1, .int .i64 x3.2.2.2.2.2.2.2.1, .int .i64 x3.2.2.2.2.2.2.2.2.1, .int .i64 x3.2.2.2.2.2.2.2.2.2.1, .int .i64 x3.2.2.2.2.2.2.2.2.2.2.1, .int .i64 x3.2.2.2.2.2.2.2.2.2.2.2.1, .int .i64 x3.2.2.2.2.2.2.2.2.2.2.2.2.1, .int .i64 x3.2.2.2.2.2.2.2.2.2.2.2.2.2.1]] w2 false [(false, [.sl])] fun r4 w5 =>
LoopT (fun (self6 : ((Int) × Unit) → World → Prop) (z7 : (Int) × Unit) w8 => ∀ _ : Nat → Value,
brB (decide (z7.1 < (r4.1.1.2.1 : Int))) (
ixK r4.1.1.1 r4.1.1.2.1 z7.1 fun a9 =>
ldN [(.i .i64), (.i .i64), (.i .i64)] (a9.add (z7.1.toNat * 3)) 0 w8 fun x10 =>
alK [.int .i64 0, .int .i64 0, .int .i64 0] T.ref05_Field w8 fun p11 w12 =>
stN [.int .i64 x10.1, .int .i64 x10.2.1, .int .i64 x10.2.2.1] p11 0 w12 fun w13 =>
ld1 (.i .i64) (p11.add 1) w13 fun x14 =>
brB (decide (x14 < 0)) (
R ((false, ()), ()) w13) (
ld1 (.i .i64) (p11.add 1) w13 fun x15 =>
ld1 (.i .i64) (p11.add 2) w13 fun x16 =>
brB (decide (x15 > x16)) (
R ((false, ()), ()) w13) (
self6 (IntKind.wrap .i64 (z7.1 + 1), ()) w13))) (
R ((decide ((r4.1.1.2.1 : Int) > 0), ()), ()) w8)) (0, ()) w5
set_option maxRecDepth 100000 in
theorem ref05_Good.eq (p0 : Int) (p1 : Int) (p2 : Int) (p3 : Int) (p4 : Int) (p5 : Int) (p6 : Int) (p7 : Int) (p8 : Int) (p9 : Int) (p10 : Int) (p11 : Int) (p12 : Int) (p13 : Int) (w : World) (R : Value → World → Prop) : wpF Try.prog Try.f29 (.s .n (.s .n (.s (.s .n (.lp [(10, (.i .i64))] .n)) .n))) [.agg #[.int .i64 p0, .int .i64 p1, .int .i64 p2, .int .i64 p3, .int .u16 p4, .int .u16 p5, .int .i64 p6, .int .i64 p7, .int .i64 p8, .int .i64 p9, .int .i64 p10, .int .i64 p11, .int .i64 p12, .int .i64 p13]] w R = ref05_Good.wp p0 p1 p2 p3 p4 p5 p6 p7 p8 p9 p10 p11 p12 p13 w (fun r w => R (encR false [(false, [.b])] r) w) := by kernel_rfl
set_option maxRecDepth 100000 in
theorem ref05_Good.ok {p0 : Int} {p1 : Int} {p2 : Int} {p3 : Int} {p4 : Int} {p5 : Int} {p6 : Int} {p7 : Int} {p8 : Int} {p9 : Int} {p10 : Int} {p11 : Int} {p12 : Int} {p13 : Int} {w : World} {R : TR [(false, [.b])] → World → Prop} (h : ref05_Good.wp p0 p1 p2 p3 p4 p5 p6 p7 p8 p9 p10 p11 p12 p13 w R) : clS Try.prog F.ref05_Good [.agg #[.int .i64 p0, .int .i64 p1, .int .i64 p2, .int .i64 p3, .int .u16 p4, .int .u16 p5, .int .i64 p6, .int .i64 p7, .int .i64 p8, .int .i64 p9, .int .i64 p10, .int .i64 p11, .int .i64 p12, .int .i64 p13]] w false [(false, [.b])] R :=
  ok_of Try_follows Try.func29 (fun R => ref05_Good.wp p0 p1 p2 p3 p4 p5 p6 p7 p8 p9 p10 p11 p12 p13 w R) (ref05_Good.eq p0 p1 p2 p3 p4 p5 p6 p7 p8 p9 p10 p11 p12 p13 w) rfl h
/-! ### anchor_Book_Hear -/
set_option maxRecDepth 100000 in
def anchor_Book_Hear.wp (b : Option Addr) (a0 : Int) (a1 : Int) (a2 : Int) (a3 : Int) (a4 : Int) (a5 : Int) (w : World) (R : TR [(false, [.b])] → World → Prop) : Prop :=
alK [.int .i64 a0, .int .u16 a1, .int .i64 a2, .int .u16 a3, .int .i64 a4, .int .i64 a5] T.frame_Anchor w fun p1 w2 =>
CutT (fun (J3 : Unit → World → Prop) =>
drK w2 fun w6 =>
brB (Option.isNone b) (
R ((false, ()), ()) w6) (
ldN [(.i .i64), (.i .u16), (.i .i64), (.i .u16), (.i .i64), (.i .i64)] p1 0 w6 fun x7 =>
clS Try.prog F.frame_Good [.iface T.frame_Anchor (.agg #[.int .i64 x7.1, .int .u16 x7.2.1, .int .i64 x7.2.2.1, .int .u16 x7.2.2.2.1, .int .i64 x7.2.2.2.2.1, .int .i64 x7.2.2.2.2.2.1])] w6 false [(false, [.b])] fun r8 w9 =>
Hold [(3, (p1.add 0), (w6.cell? (p1.add 0)).getD undef), (3, (p1.add 1), (w6.cell? (p1.add 1)).getD undef), (3, (p1.add 2), (w6.cell? (p1.add 2)).getD undef), (3, (p1.add 3), (w6.cell? (p1.add 3)).getD undef), (3, (p1.add 4), (w6.cell? (p1.add 4)).getD undef), (3, (p1.add 5), (w6.cell? (p1.add 5)).getD undef)] w9 ∧ (
brB (!r8.1.1) (
R ((false, ()), ()) w9) (
ncK b fun a10 =>
ld1 .b a10 w9 fun x11 =>
brB x11 (
ld1 (.i .u16) (p1.add 1) w9 fun x12 =>
ncK b fun a13 =>
ld1 (.i .u16) ((a13.add 1).add 1) w9 fun x14 =>
clS Try.prog F.wrap_Newer [.int .u16 x12, .int .u16 x14] w9 false [(false, [.b])] fun r15 w16 =>
Hold [(12, a10, (w9.cell? a10).getD undef), (3, (p1.add 0), (w6.cell? (p1.add 0)).getD undef), (3, (p1.add 1), (w6.cell? (p1.add 1)).getD undef), (3, (p1.add 2), (w6.cell? (p1.add 2)).getD undef), (3, (p1.add 3), (w6.cell? (p1.add 3)).getD undef), (3, (p1.add 4), (w6.cell? (p1.add 4)).getD undef), (3, (p1.add 5), (w6.cell? (p1.add 5)).getD undef)] w16 ∧ (
brB (!r15.1.1) (
R ((false, ()), ()) w16) (
J3 (()) w16))) (
J3 (()) w9))))) (fun (z4 : Unit) w5 => ∀ _ : Nat → Value,
drK w5 fun w17 =>
ldN [(.i .i64), (.i .u16), (.i .i64), (.i .u16), (.i .i64), (.i .i64)] p1 0 w17 fun x18 =>
ncK b fun a19 =>
stN [.bool true] a19 0 w17 fun w20 =>
Hold [(2, (p1.add 0), (w17.cell? (p1.add 0)).getD undef), (2, (p1.add 1), (w17.cell? (p1.add 1)).getD undef), (2, (p1.add 2), (w17.cell? (p1.add 2)).getD undef), (2, (p1.add 3), (w17.cell? (p1.add 3)).getD undef), (2, (p1.add 4), (w17.cell? (p1.add 4)).getD undef), (2, (p1.add 5), (w17.cell? (p1.add 5)).getD undef)] w20 ∧ (
ncK b fun a21 =>
stN [.int .i64 x18.1, .int .u16 x18.2.1, .int .i64 x18.2.2.1, .int .u16 x18.2.2.2.1, .int .i64 x18.2.2.2.2.1, .int .i64 x18.2.2.2.2.2.1] (a21.add 1) 0 w20 fun w22 =>
Hold [] w22 ∧ (
R ((true, ()), ()) w22)))
set_option maxRecDepth 100000 in
theorem anchor_Book_Hear.eq (b : Option Addr) (a0 : Int) (a1 : Int) (a2 : Int) (a3 : Int) (a4 : Int) (a5 : Int) (w : World) (R : Value → World → Prop) : wpF Try.prog Try.f30 (.s .n (.ct [] (.s (.pl (.tk 0 (.tk 1 (.tk 2 (.tk 3 (.tk 4 (.ef 5 [] (.tk 6 (.tk 7 (.tk 8 (.tk 9 (.tk 10 (.tk 11 (.tk 12 (.tk 13 (.tk 14 (.tk 15 (.tk 16 (.tk 17 (.tk 18 (.tk 19 (.tk 20 (.ef 21 [15, 20] (.tk 22 (.tk 23 (.tk 24 .z)))))))))))))))))))))))))) .n) (.s (.pl (.tk 0 (.tk 1 (.tk 2 (.tk 3 (.tk 4 (.ef 5 [] (.tk 6 (.tk 7 (.ef 8 [2] .z)))))))))) .n))) [.pointer b, .agg #[.int .i64 a0, .int .u16 a1, .int .i64 a2, .int .u16 a3, .int .i64 a4, .int .i64 a5]] w R = anchor_Book_Hear.wp b a0 a1 a2 a3 a4 a5 w (fun r w => R (encR false [(false, [.b])] r) w) := by kernel_rfl
set_option maxRecDepth 100000 in
theorem anchor_Book_Hear.ok {b : Option Addr} {a0 : Int} {a1 : Int} {a2 : Int} {a3 : Int} {a4 : Int} {a5 : Int} {w : World} {R : TR [(false, [.b])] → World → Prop} (h : anchor_Book_Hear.wp b a0 a1 a2 a3 a4 a5 w R) : clS Try.prog F.anchor_Book_Hear [.pointer b, .agg #[.int .i64 a0, .int .u16 a1, .int .i64 a2, .int .u16 a3, .int .i64 a4, .int .i64 a5]] w false [(false, [.b])] R :=
  ok_of Try_follows Try.func30 (fun R => anchor_Book_Hear.wp b a0 a1 a2 a3 a4 a5 w R) (anchor_Book_Hear.eq b a0 a1 a2 a3 a4 a5 w) rfl h
/-! ### law23_of -/
set_option maxRecDepth 100000 in
def law23_of.wp (p0 : Int) (p1 : Int) (p2 : Int) (p3 : Int) (p4 : Int) (p5 : Int) (p6 : Int) (p7 : Int) (p8 : Int) (p9 : Int) (p10 : Int) (p11 : Int) (p12 : Int) (p13 : Int) (w : World) (R : TR [(true, [(.i .i64), (.i .u16), (.i .i64), (.i .u16), (.i .i64), (.i .i64)])] → World → Prop) : Prop :=
alK [.int .i64 p0, .int .i64 p1, .int .i64 p2, .int .i64 p3, .int .u16 p4, .int .u16 p5, .int .i64 p6, .int .i64 p7, .int .i64 p8, .int .i64 p9, .int .i64 p10, .int .i64 p11, .int .i64 p12, .int .i64 p13] T.ref05_Plain w fun p1 w2 =>
alK [.int .i64 0, .int .u16 0, .int .i64 0, .int .u16 0, .int .i64 0, .int .i64 0] T.frame_Anchor w2 fun p3 w4 =>
ld1 (.i .i64) (p1.add 1) w4 fun x5 =>
ld1 (.i .u16) (p1.add 5) w4 fun x6 =>
ld1 (.i .i64) (p1.add 3) w4 fun x7 =>
ld1 (.i .u16) (p1.add 4) w4 fun x8 =>
ld1 (.i .i64) (p1.add 12) w4 fun x9 =>
ld1 (.i .i64) (p1.add 13) w4 fun x10 =>
stN [.int .i64 x5, .int .u16 x6, .int .i64 x7, .int .u16 x8, .int .i64 x9, .int .i64 x10] p3 0 w4 fun w11 =>
ldN [(.i .i64), (.i .u16), (.i .i64), (.i .u16), (.i .i64), (.i .i64)] p3 0 w11 fun x12 =>
R ((x12.1, x12.2.1, x12.2.2.1, x12.2.2.2.1, x12.2.2.2.2.1, x12.2.2.2.2.2.1, ()), ()) w11
set_option maxRecDepth 100000 in
theorem law23_of.eq (p0 : Int) (p1 : Int) (p2 : Int) (p3 : Int) (p4 : Int) (p5 : Int) (p6 : Int) (p7 : Int) (p8 : Int) (p9 : Int) (p10 : Int) (p11 : Int) (p12 : Int) (p13 : Int) (w : World) (R : Value → World → Prop) : wpF Try.prog Try.f31 .n [.agg #[.int .i64 p0, .int .i64 p1, .int .i64 p2, .int .i64 p3, .int .u16 p4, .int .u16 p5, .int .i64 p6, .int .i64 p7, .int .i64 p8, .int .i64 p9, .int .i64 p10, .int .i64 p11, .int .i64 p12, .int .i64 p13]] w R = law23_of.wp p0 p1 p2 p3 p4 p5 p6 p7 p8 p9 p10 p11 p12 p13 w (fun r w => R (encR false [(true, [(.i .i64), (.i .u16), (.i .i64), (.i .u16), (.i .i64), (.i .i64)])] r) w) := by kernel_rfl
set_option maxRecDepth 100000 in
theorem law23_of.ok {p0 : Int} {p1 : Int} {p2 : Int} {p3 : Int} {p4 : Int} {p5 : Int} {p6 : Int} {p7 : Int} {p8 : Int} {p9 : Int} {p10 : Int} {p11 : Int} {p12 : Int} {p13 : Int} {w : World} {R : TR [(true, [(.i .i64), (.i .u16), (.i .i64), (.i .u16), (.i .i64), (.i .i64)])] → World → Prop} (h : law23_of.wp p0 p1 p2 p3 p4 p5 p6 p7 p8 p9 p10 p11 p12 p13 w R) : clS Try.prog F.law23_of [.agg #[.int .i64 p0, .int .i64 p1, .int .i64 p2, .int .i64 p3, .int .u16 p4, .int .u16 p5, .int .i64 p6, .int .i64 p7, .int .i64 p8, .int .i64 p9, .int .i64 p10, .int .i64 p11, .int .i64 p12, .int .i64 p13]] w false [(true, [(.i .i64), (.i .u16), (.i .i64), (.i .u16), (.i .i64), (.i .i64)])] R :=
  ok_of Try_follows Try.func31 (fun R => law23_of.wp p0 p1 p2 p3 p4 p5 p6 p7 p8 p9 p10 p11 p12 p13 w R) (law23_of.eq p0 p1 p2 p3 p4 p5 p6 p7 p8 p9 p10 p11 p12 p13 w) rfl h
/-! ### anchor_Book_Tai -/
set_option maxRecDepth 100000 in
def anchor_Book_Tai.wp (b : Option Addr) (w_0 : Int) (w_1 : Int) (time : Int) (w : World) (R : TR [(true, [(.i .i64), (.i .i64)]), (false, [(.i .i64)])] → World → Prop) : Prop :=
alK [.int .i64 w_0, .int .u16 w_1] T.source_Whose w fun p1 w2 =>
alK [.int .i64 0, .int .i64 0] T.anchor_Moment w2 fun p3 w4 =>
brB (Option.isNone b) (
stN [.int .i64 0, .int .i64 0] p3 0 w4 fun w5 =>
ldN [(.i .i64), (.i .i64)] p3 0 w5 fun x6 =>
R ((x6.1, x6.2.1, ()), (2, ()), ()) w5) (
ncK b fun a7 =>
ld1 .b a7 w4 fun x8 =>
brB (!x8) (
stN [.int .i64 0, .int .i64 0] p3 0 w4 fun w9 =>
ldN [(.i .i64), (.i .i64)] p3 0 w9 fun x10 =>
R ((x10.1, x10.2.1, ()), (7, ()), ()) w9) (
CutT (fun (J11 : ((Bool) × Unit) → World → Prop) =>
drK w4 fun w14 =>
ncK b fun a15 =>
ld1 (.i .i64) ((a15.add 1).add 2) w14 fun x16 =>
ld1 (.i .i64) p1 w14 fun x17 =>
brB (x16 != x17) (
J11 (true, ()) w14) (
ncK b fun a18 =>
ld1 (.i .u16) ((a18.add 1).add 3) w14 fun x19 =>
ld1 (.i .u16) (p1.add 1) w14 fun x20 =>
J11 ((x19 != x20), ()) w14)) (fun (z12 : (Bool) × Unit) w13 => ∀ _ : Nat → Value,
brB z12.1 (
stN [.int .i64 0, .int .i64 0] p3 0 w13 fun w21 =>
ldN [(.i .i64), (.i .i64)] p3 0 w21 fun x22 =>
R ((x22.1, x22.2.1, ()), (9, ()), ()) w21) (
brB (decide (time < 0)) (
stN [.int .i64 0, .int .i64 0] p3 0 w13 fun w23 =>
ldN [(.i .i64), (.i .i64)] p3 0 w23 fun x24 =>
R ((x24.1, x24.2.1, ()), (8, ()), ()) w23) (
brB (decide (time > 1125899906842624)) (
stN [.int .i64 0, .int .i64 0] p3 0 w13 fun w25 =>
ldN [(.i .i64), (.i .i64)] p3 0 w25 fun x26 =>
R ((x26.1, x26.2.1, ()), (8, ()), ()) w25) (
ncK b fun a27 =>
ld1 (.i .i64) ((a27.add 1).add 4) w13 fun x28 =>
clS Try.prog F.fix_Floor [.int .i64 (IntKind.wrap .i64 (time - x28)), .int .i64 1000] w13 true [(false, [(.i .i64)]), (false, [(.i .i64)]), (false, [.b])] fun r29 w30 =>
ncK b fun a31 =>
ld1 (.i .i64) ((a31.add 1).add 5) w30 fun x32 =>
stN [.int .i64 (IntKind.wrap .i64 (x32 + r29.1.1)), .int .i64 r29.2.1.1] p3 0 w30 fun w33 =>
ldN [(.i .i64), (.i .i64)] p3 0 w33 fun x34 =>
R ((x34.1, x34.2.1, ()), (0, ()), ()) w33))))))
set_option maxRecDepth 100000 in
theorem anchor_Book_Tai.eq (b : Option Addr) (w_0 : Int) (w_1 : Int) (time : Int) (w : World) (R : Value → World → Prop) : wpF Try.prog Try.f32 (.s .n (.s (.s .n (.s .n (.s .n (.s .n (.ct [(22, .b)] (.pl (.tk 0 (.tk 1 (.tk 2 (.tk 3 (.tk 4 (.tk 5 (.tk 6 (.tk 7 (.tk 8 (.tk 9 (.tk 10 (.tk 11 (.tk 12 (.tk 13 (.tk 14 (.tk 15 (.tk 16 (.tk 17 (.tk 18 .z)))))))))))))))))))) .n))))) .n)) [.pointer b, .agg #[.int .i64 w_0, .int .u16 w_1], .int .i64 time] w R = anchor_Book_Tai.wp b w_0 w_1 time w (fun r w => R (encR true [(true, [(.i .i64), (.i .i64)]), (false, [(.i .i64)])] r) w) := by kernel_rfl
set_option maxRecDepth 100000 in
theorem anchor_Book_Tai.ok {b : Option Addr} {w_0 : Int} {w_1 : Int} {time : Int} {w : World} {R : TR [(true, [(.i .i64), (.i .i64)]), (false, [(.i .i64)])] → World → Prop} (h : anchor_Book_Tai.wp b w_0 w_1 time w R) : clS Try.prog F.anchor_Book_Tai [.pointer b, .agg #[.int .i64 w_0, .int .u16 w_1], .int .i64 time] w true [(true, [(.i .i64), (.i .i64)]), (false, [(.i .i64)])] R :=
  ok_of Try_follows Try.func32 (fun R => anchor_Book_Tai.wp b w_0 w_1 time w R) (anchor_Book_Tai.eq b w_0 w_1 time w) rfl h
/-! ### anchor_Book_Time -/
set_option maxRecDepth 100000 in
def anchor_Book_Time.wp (b : Option Addr) (w_0 : Int) (w_1 : Int) (tai : Int) (w : World) (R : TR [(false, [(.i .i64)]), (false, [(.i .i64)])] → World → Prop) : Prop :=
alK [.int .i64 w_0, .int .u16 w_1] T.source_Whose w fun p1 w2 =>
ldN [(.i .i64), (.i .u16)] p1 0 w2 fun x3 =>
clS Try.prog F.anchor_Book_Tai [.pointer b, .agg #[.int .i64 x3.1, .int .u16 x3.2.1], .int .i64 0] w2 true [(true, [(.i .i64), (.i .i64)]), (false, [(.i .i64)])] fun r4 w5 =>
alK [.int .i64 0, .int .i64 0] T.anchor_Moment w5 fun p6 w7 =>
stN [.int .i64 r4.1.1, .int .i64 r4.1.2.1] p6 0 w7 fun w8 =>
brB (r4.2.1.1 != 0) (
R ((0, ()), (r4.2.1.1, ()), ()) w8) (
brB (decide (tai < (Int.negSucc 1125899906842623))) (
R ((0, ()), (8, ()), ()) w8) (
brB (decide (tai > 1125899906842624)) (
R ((0, ()), (8, ()), ()) w8) (
ncK b fun a9 =>
ld1 (.i .i64) ((a9.add 1).add 5) w8 fun x10 =>
clS Try.prog F.fix_MulDiv [.int .i64 (IntKind.wrap .i64 (tai - x10)), .int .i64 1000, .int .i64 1] w8 true [(false, [(.i .i64)]), (false, [.b])] fun r11 w12 =>
ncK b fun a13 =>
ld1 (.i .i64) ((a13.add 1).add 4) w12 fun x14 =>
clS Try.prog F.fix_Sat [.int .i64 r11.1.1, .int .i64 x14] w12 false [(false, [(.i .i64)])] fun r15 w16 =>
brB (!r11.2.1.1) (
R ((0, ()), (8, ()), ()) w16) (
brB (decide (r15.1.1 < 0)) (
R ((0, ()), (8, ()), ()) w16) (
brB (decide (r15.1.1 > 1125899906842624)) (
R ((0, ()), (8, ()), ()) w16) (
R ((r15.1.1, ()), (0, ()), ()) w16))))))
set_option maxRecDepth 100000 in
theorem anchor_Book_Time.eq (b : Option Addr) (w_0 : Int) (w_1 : Int) (tai : Int) (w : World) (R : Value → World → Prop) : wpF Try.prog Try.f33 .n [.pointer b, .agg #[.int .i64 w_0, .int .u16 w_1], .int .i64 tai] w R = anchor_Book_Time.wp b w_0 w_1 tai w (fun r w => R (encR true [(false, [(.i .i64)]), (false, [(.i .i64)])] r) w) := by kernel_rfl
set_option maxRecDepth 100000 in
theorem anchor_Book_Time.ok {b : Option Addr} {w_0 : Int} {w_1 : Int} {tai : Int} {w : World} {R : TR [(false, [(.i .i64)]), (false, [(.i .i64)])] → World → Prop} (h : anchor_Book_Time.wp b w_0 w_1 tai w R) : clS Try.prog F.anchor_Book_Time [.pointer b, .agg #[.int .i64 w_0, .int .u16 w_1], .int .i64 tai] w true [(false, [(.i .i64)]), (false, [(.i .i64)])] R :=
  ok_of Try_follows Try.func33 (fun R => anchor_Book_Time.wp b w_0 w_1 tai w R) (anchor_Book_Time.eq b w_0 w_1 tai w) rfl h
/-! ### law23_made -/
set_option maxRecDepth 100000 in
def law23_made.wp (m0 : Int) (m1 : Int) (m2 : Int) (m3 : Option Addr × Nat × Nat) (w : World) (R : TR [(false, [.p])] → World → Prop) : Prop :=
alK [.int .i64 m0, .int .i64 m1, .int .i64 m2, .slice m3.1 m3.2.1 m3.2.2] T.ref21_Table w fun p1 w2 =>
ld1 .sl (p1.add 3) w2 fun x3 =>
LoopT (fun (self4 : ((Option Addr × Nat × Nat) × (Int) × Unit) → World → Prop) (z5 : (Option Addr × Nat × Nat) × (Int) × Unit) w6 => ∀ _ : Nat → Value,
brB (decide (z5.2.1 < (x3.2.1 : Int))) (
ixK x3.1 x3.2.1 z5.2.1 fun a7 =>
ldN [(.i .i64), (.i .i64)] (a7.add (z5.2.1.toNat * 2)) 0 w6 fun x8 =>
alK [.int .i64 0, .int .i64 0] T.ref21_Leap w6 fun p9 w10 =>
stN [.int .i64 x8.1, .int .i64 x8.2.1] p9 0 w10 fun w11 =>
ldN [(.i .i64), (.i .i64)] p9 0 w11 fun x12 =>
alK [.int .i64 x12.1, .int .i64 x12.2.1] T.leap_Leap w11 fun p13 w14 =>
slOf ((Builtin.append_ #[T.sl_leap_Leap, T.sl_leap_Leap] T.sl_leap_Leap #[.slice z5.1.1 z5.1.2.1 z5.1.2.2, .slice (some p13) 1 1]).run Try.prog w14) fun y15 w16 =>
self4 ((y15.1, y15.2.1, y15.2.2), IntKind.wrap .i64 (z5.2.1 + 1), ()) w16) (
ld1 (.i .i64) p1 w6 fun x17 =>
ld1 (.i .i64) (p1.add 1) w6 fun x18 =>
ld1 (.i .i64) (p1.add 2) w6 fun x19 =>
clS Try.prog F.leap_Make [.int .i64 x17, .int .i64 x18, .int .i64 x19, .slice z5.1.1 z5.1.2.1 z5.1.2.2] w6 true [(false, [.p]), (false, [(.i .i64)])] fun r20 w21 =>
R ((r20.1.1, ()), ()) w21)) ((none, 0, 0), 0, ()) w2
set_option maxRecDepth 100000 in
theorem law23_made.eq (m0 : Int) (m1 : Int) (m2 : Int) (m3 : Option Addr × Nat × Nat) (w : World) (R : Value → World → Prop) : wpF Try.prog Try.f34 (.s .n (.s .n (.s (.s .n (.lp [(3, .sl), (11, (.i .i64))] .n)) .n))) [.agg #[.int .i64 m0, .int .i64 m1, .int .i64 m2, .slice m3.1 m3.2.1 m3.2.2]] w R = law23_made.wp m0 m1 m2 m3 w (fun r w => R (encR false [(false, [.p])] r) w) := by kernel_rfl
set_option maxRecDepth 100000 in
theorem law23_made.ok {m0 : Int} {m1 : Int} {m2 : Int} {m3 : Option Addr × Nat × Nat} {w : World} {R : TR [(false, [.p])] → World → Prop} (h : law23_made.wp m0 m1 m2 m3 w R) : clS Try.prog F.law23_made [.agg #[.int .i64 m0, .int .i64 m1, .int .i64 m2, .slice m3.1 m3.2.1 m3.2.2]] w false [(false, [.p])] R :=
  ok_of Try_follows Try.func34 (fun R => law23_made.wp m0 m1 m2 m3 w R) (law23_made.eq m0 m1 m2 m3 w) rfl h
end Go.Proofs.Ytimdngcmbmamdaa
