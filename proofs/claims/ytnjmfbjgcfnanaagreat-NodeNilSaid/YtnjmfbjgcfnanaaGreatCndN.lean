/- The law NodeNil: of a nil node there is nothing. Conditions: none. -/
import Derived.Test.YtnjmfbjgcfnanaaGreatCndQ
namespace Go.Proofs.YtnjmfbjgcfnanaaGreat
open Go Go.Eng
set_option linter.unusedVariables false
set_option linter.unusedSimpArgs false

abbrev nilP : Value := .pointer none
abbrev RII : List (Bool × List CK) := [(false, [.i .i64]), (false, [.i .i64])]
theorem node_Node_ready.nil {w : World} {k : TR RI1 → World → Prop} (hk : k ((2, ()), ()) w) : clS Tryz.prog F.node_Node_ready [nilP] w false RI1 k := by
  refine node_Node_ready.ok ?_
  unfold node_Node_ready.wp
  exact brT rfl hk
theorem node_Node_On.nil {raw : Int} {w : World} {k : TR RI1 → World → Prop} (hk : k ((2, ()), ()) w) : clS Tryz.prog F.node_Node_On [nilP, .int .u32 raw] w false RI1 k := by
  refine node_Node_On.ok ?_
  unfold node_Node_On.wp
  exact brT rfl hk
theorem node_Node_Off.nil {w : World} {k : TR RI1 → World → Prop} (hk : k ((2, ()), ()) w) : clS Tryz.prog F.node_Node_Off [nilP] w false RI1 k := by
  refine node_Node_Off.ok ?_
  unfold node_Node_Off.wp
  exact node_Node_ready.nil (brF rfl hk)
theorem node_Node_Fits.nil {t : Int} {w : World} {k : TR RBo → World → Prop} (hk : k ((false, ()), ()) w) : clS Tryz.prog F.node_Node_Fits [nilP, .int .i64 t] w false RBo k := by
  refine node_Node_Fits.ok ?_
  unfold node_Node_Fits.wp
  exact brF rfl hk
theorem node_Node_Go.nil {t : Int} {w : World} {k : TR RI1 → World → Prop} (hk : k ((2, ()), ()) w) : clS Tryz.prog F.node_Node_Go [nilP, .int .i64 t] w false RI1 k := by
  refine node_Node_Go.ok ?_
  unfold node_Node_Go.wp
  exact node_Node_ready.nil (brT rfl hk)
theorem node_Node_stamp.nil {j : Int} {w : World} {k : TR RII → World → Prop} (hk : k ((0, ()), (2, ()), ()) w) : clS Tryz.prog F.node_Node_stamp [nilP, .int .i64 j] w true RII k := by
  refine node_Node_stamp.ok ?_
  unfold node_Node_stamp.wp
  exact node_Node_ready.nil (brT rfl hk)
theorem node_Node_Awake.nil {w : World} {k : TR RBo → World → Prop} (hk : k ((false, ()), ()) w) : clS Tryz.prog F.node_Node_Awake [nilP] w false RBo k := by
  refine node_Node_Awake.ok ?_
  unfold node_Node_Awake.wp
  exact node_Node_ready.nil (brT rfl hk)
theorem node_Node_Send.nil {a j : Int} {w : World} {k : TR RSd → World → Prop} (hk : k (((none, 0, 0), ()), (2, ()), ()) w) : clS Tryz.prog F.node_Node_Send [nilP, .int .i64 a, .int .i64 j] w true RSd k := by
  refine node_Node_Send.ok ?_
  unfold node_Node_Send.wp
  exact node_Node_stamp.nil (brT rfl hk)
theorem node_Node_Hear.nil {j : Int} {b : Sl} {w : World} {k : TR RI1 → World → Prop} (hk : k ((2, ()), ()) w) : clS Tryz.prog F.node_Node_Hear [nilP, .int .i64 j, .slice b.1 b.2.1 b.2.2] w false RI1 k := by
  refine node_Node_Hear.ok ?_
  unfold node_Node_Hear.wp
  exact node_Node_stamp.nil (brT rfl hk)
theorem node_Node_Time.nil {w : World} {k : TR [(true, K5), (false, [.i .i64])] → World → Prop} (hk : ∀ w', Gro w w' → k (tA5 (0, 0, 0, 0, 0), (2, ()), ()) w') : clS Tryz.prog F.node_Node_Time [nilP] w true [(true, K5), (false, [.i .i64])] k := by
  refine node_Node_Time.ok ?_
  unfold node_Node_Time.wp
  exact alK_by fun p1 w2 e1 k1 u1 => node_Node_ready.nil (brT rfl (k1.sta (encs K5 (tA5 (0, 0, 0, 0, 0))) rfl rfl fun w5 k5 u5 => k5.cA (cs := K5) (tA5 (0, 0, 0, 0, 0)) rfl (hk w5 (Gro.fresh (Gro.refl _) u1 u5 e1))))
theorem node_Node_Tag.nil {s : ByteArray} {w : World} {k : TR RII → World → Prop} (hk : ∀ w', Gro w w' → k ((0, ()), (2, ()), ()) w') : clS Tryz.prog F.node_Node_Tag [nilP, .string s] w true RII k := by
  refine node_Node_Tag.ok ?_
  unfold node_Node_Tag.wp
  exact node_Node_Time.nil fun w2 u2 => alK_by fun p3 w4 e3 k3 u3 => k3.sta (encs K5 (tA5 (0, 0, 0, 0, 0))) rfl rfl fun w5 k5 u5 => brT rfl (hk w5 (Gro.fresh u2 u3 u5 e3))
abbrev KEv : List CK := [.i .i64, .s, .i .i64, .i .i64, .i .i64, .i .i64, .i .u16, .i .i64]
def ev0 : Tvs KEv := (0, ByteArray.empty, 0, 0, 0, 0, 0, 0, ())
theorem node_Node_Take.nil {w : World} {k : TR [(true, KEv), (false, [.b])] → World → Prop} (hk : ∀ w', Gro w w' → k (ev0, (false, ()), ()) w') : clS Tryz.prog F.node_Node_Take [nilP] w true [(true, KEv), (false, [.b])] k := by
  refine node_Node_Take.ok ?_
  unfold node_Node_Take.wp
  exact alK_by fun p1 w2 e1 k1 u1 => node_Node_ready.nil (brT rfl (k1.sta (encs KEv ev0) rfl rfl fun w5 k5 u5 => k5.cA (cs := KEv) ev0 rfl (hk w5 (Gro.fresh (Gro.refl _) u1 u5 e1))))
theorem node_Node_Fix.nil {t : Int} {w : World} {k : TR RI1 → World → Prop} (hk : k ((2, ()), ()) w) : clS Tryz.prog F.node_Node_Fix [nilP, .int .i64 t] w false RI1 k := by
  refine node_Node_Fix.ok ?_
  unfold node_Node_Fix.wp
  exact node_Node_ready.nil (brT rfl hk)
abbrev K6i : List CK := [.i .i64, .i .i64, .i .i64, .i .i64, .i .i64, .i .i64]
def z6i : Tvs K6i := (0, 0, 0, 0, 0, 0, ())
theorem node_Node_Utc.nil {w : World} {k : TR [(true, K6i), (false, [.i .i64]), (false, [.i .i64])] → World → Prop} (hk : ∀ w', Gro w w' → k (z6i, (0, ()), (2, ()), ()) w') : clS Tryz.prog F.node_Node_Utc [nilP] w true [(true, K6i), (false, [.i .i64]), (false, [.i .i64])] k := by
  refine node_Node_Utc.ok ?_
  unfold node_Node_Utc.wp
  refine alK_by fun p1 w2 e1 k1 u1 => node_Node_Time.nil fun w4 u4 => alK_by fun p5 w6 e5 k5 u6 => k5.sta (encs K5 (tA5 (0, 0, 0, 0, 0))) rfl rfl fun w7 k7 u7 => brT rfl ?_
  have f7 := Gro.fresh u4 u6 u7 e5
  refine (k1.gro f7).sta (encs K6i z6i) rfl rfl fun w8 k8 u8 => k8.cA (cs := K6i) z6i rfl (hk w8 (Gro.fresh (Gro.refl _) (u1.trans f7) u8 e1))
theorem node_Node_Mark.nil {w : World} {k : TR [(true, MK), (false, [.b])] → World → Prop} (hk : ∀ w', Gro w w' → k ((0, 0, ()), (false, ()), ()) w') : clS Tryz.prog F.node_Node_Mark [nilP] w true [(true, MK), (false, [.b])] k := by
  refine node_Node_Mark.ok ?_
  unfold node_Node_Mark.wp
  exact alK_by fun p1 w2 e1 k1 u1 => node_Node_ready.nil (brT rfl (k1.sta (encs MK (0, 0, ())) rfl rfl fun w5 k5 u5 => k5.cA (cs := MK) (0, 0, ()) rfl (hk w5 (Gro.fresh (Gro.refl _) u1 u5 e1))))
def sts0 : Tvs KSs := (false, 0, 0, 0, false, false, 0, 0, 0, false, 0, 0, ())
theorem node_Node_Status.nil {w : World} {k : TR [(true, KSs)] → World → Prop} (hk : ∀ w', Gro w w' → k (sts0, ()) w') : clS Tryz.prog F.node_Node_Status [nilP] w false [(true, KSs)] k := by
  refine node_Node_Status.ok ?_
  unfold node_Node_Status.wp
  exact alK_by fun p1 w2 e1 k1 u1 => brT rfl (k1.sta (encs KSs sts0) rfl rfl fun w5 k5 u5 => k5.cA (cs := KSs) sts0 rfl (hk w5 (Gro.fresh (Gro.refl _) u1 u5 e1)))
set_option maxRecDepth 20000 in
theorem law26_NodeNil.cl {n : Int} {b : Sl} {s : ByteArray} {w : World} : clS Tryz.prog F.law26_NodeNil [.int .i64 n, .slice b.1 b.2.1 b.2.2, .string s] w false RBo (Holds w) := by
  refine law26_NodeNil.ok ?_
  unfold law26_NodeNil.wp
  refine law26_alive.cl fun w2 u2 => brF rfl (brD (fun _ => holds u2 rfl) fun _ => brD (fun _ => holds u2 rfl) fun _ => ?_)
  refine node_Node_Send.nil (node_Node_Time.nil fun w6 u6 => alK_by fun p7 w8 e7 k7 u8 => k7.sta (encs K5 (tA5 (0, 0, 0, 0, 0))) rfl rfl fun w9 k9 u9 => ?_)
  have g9 := Gro.fresh (u2.trans u6) u8 u9 e7
  refine node_Node_Tag.nil fun w11 u11 => node_Node_Take.nil fun w13 u13 => alK_by fun p14 w15 e14 k14 u15 => k14.sta (encs KEv ev0) rfl rfl fun w16 k16 u16 => ?_
  have g16 := Gro.fresh ((g9.trans u11).trans u13) u15 u16 e14
  refine node_Node_Utc.nil fun w18 u18 => alK_by fun p19 w20 e19 k19 u20 => k19.sta (encs K6i z6i) rfl rfl fun w21 k21 u21 => ?_
  have g21 := Gro.fresh (g16.trans u18) u20 u21 e19
  refine node_Node_Mark.nil fun w23 u23 => alK_by fun p24 w25 e24 k24 u25 => k24.sta (encs MK (0, 0, ())) rfl rfl fun w26 k26 u26 => ?_
  have g26 := Gro.fresh (g21.trans u23) u25 u26 e24
  refine node_Node_On.nil (brT rfl (node_Node_Off.nil (brT rfl (node_Node_Fits.nil (brT rfl (node_Node_Go.nil (brT rfl (node_Node_Awake.nil (brT rfl (brT rfl (node_Node_Hear.nil (brT rfl (brT rfl (brT rfl (brT rfl (node_Node_Fix.nil (brT rfl (brT rfl (brT rfl ?_)))))))))))))))))))
  exact node_Node_Status.nil fun w42 u42 => holds (g26.trans u42) rfl
end Go.Proofs.YtnjmfbjgcfnanaaGreat
