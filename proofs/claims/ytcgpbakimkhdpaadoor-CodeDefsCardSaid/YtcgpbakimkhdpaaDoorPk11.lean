/- Part 11 of a claim's texts. -/
import Derived.Test.YtcgpbakimkhdpaaDoorPk1
import Derived.Test.YtcgpbakimkhdpaaDoorPk9
import Derived.Test.YtcgpbakimkhdpaaDoorPk10
import Derived.Test.YtcgpbakimkhdpaaDoorPk8
import Derived.Test.YtcgpbakimkhdpaaDoorPk6
import Derived.Test.YtcgpbakimkhdpaaDoorPk7
import Derived.OpenShut
namespace Go.Proofs.YtcgpbakimkhdpaaDoor.Q
open Go.RowKit Go.Proofs.YtcgpbakimkhdpaaDoorW.PrintWords Go.Proofs.YtcgpbakimkhdpaaDoorW.PrintLast Go.Proofs.YtcgpbakimkhdpaaDoorW.PrintMore
attribute [local go_sem] max2_int min2_int max_two min_two max_three min_three max_four min_four
set_option linter.unusedVariables false
set_option linter.unusedSimpArgs false
set_option maxHeartbeats 8000000
set_option maxRecDepth 100000
open Go.Proofs.YtcgpbakimkhdpaaDoor.Q.H_
mutual
def uD.j0 : Nat → List Int → Bool → ByteArray → Int → List (S61) → Option (Bool)
 | 0, _, _, _, _, _ => none
 | k + 1, x1, x26, x295000, x295001, x295002 => if x26 = true then (some true) else ((code_PutDef.f x295000 x295001 x295002).bind fun t297 => ((uR15_Def.f k x295000 x295001 x295002).bind fun t300 => (if (strOfNums t297).toList = t300.toList then ((code_TakeDef.f x1).bind fun bt301 => ((uR15_ReadDef.f k (strOfNums x1)).bind fun bt309 => ((uR13_Same.f k bt301.1 bt301.2.1 bt301.2.2.1 bt309.1 bt309.2.1 bt309.2.2.1).bind fun t317 => (if t317 = true then (if bt301.2.2.2.1 = bt309.2.2.2.1 then (if bt301.2.2.2.2 = bt309.2.2.2.2 then (if bt301.2.2.2.2 = 0 then ((code_PutDef.f bt301.1 bt301.2.1 bt301.2.2.1).bind fun t318 => (uD.j1 k t297 ((strOfNums t318).toList != (strOfNums x1).toList) x295000 x295001 x295002)) else (uD.j1 k t297 false x295000 x295001 x295002)) else (uD.j1 k t297 true x295000 x295001 x295002)) else (uD.j1 k t297 true x295000 x295001 x295002)) else (uD.j1 k t297 true x295000 x295001 x295002))))) else (some false))))
def uD.j1 : Nat → List Int → Bool → ByteArray → Int → List (S61) → Option (Bool)
 | 0, _, _, _, _, _ => none
 | k + 1, x5, x72, x295000, x295001, x295002 => if x72 = true then (some false) else ((uK.f k x295000 x295001 x295002).bind fun bt321 => (if bt321.2 = 0 then ((code_TakeDef.f x5).bind fun bt323 => (if bt323.2.2.2.2 = 0 then ((uR13_Same.f k bt323.1 bt323.2.1 bt323.2.2.1 x295000 x295001 x295002).bind fun t331 => (some t331)) else (some false))) else (some true)))
end
def uD.f (k : Nat) (a0_0 : ByteArray) (a0_1 : Int) (l0_2 : List (S61)) (l1 : List Int) : Option (Bool) := (uL15_awake.f k).bind fun t295 => (if t295 = true then ((uL13_Small.f k a0_0 a0_1 l0_2).bind fun t296 => (if t296 = 0 then (uD.j0 k l1 (decide ((l1.length : Int) > 700)) a0_0 a0_1 l0_2) else (uD.j0 k l1 true a0_0 a0_1 l0_2))) else (some false))
def uD.T10 : Bool × List (List Nat × List Nat) := (true, [([], []), ([], []), ([0, 1], [0, 1]), ([2], [2]), ([3, 2], [3]), ([4], [4]), ([4], [4]), ([5, 6, 4], [4, 5, 6]), ([4, 7], [4, 7]), ([8, 4], [8]), ([9], [9]), ([9], [9]), ([10, 11, 9], [9, 10, 11]), ([9, 12], [9, 12]), ([13, 9], [13]), ([14], [14]), ([15, 14], [14, 15]), ([16, 14, 14], [14, 16]), ([17], [17]), ([18, 17, 17], [17, 18]), ([19, 17], [17, 19]), ([17], [17]), ([21, 17], [17, 21]), ([20, 22, 17], [17, 20, 22]), ([17, 23, 14], [14, 17, 23]), ([14, 24], [14, 24])])
def uD.B10 : List Nat := [0, 0, 3, 7, 15, 31, 31, 127, 255, 511, 1023, 1023, 4095, 8191, 16383, 32767, 65535, 131071, 262143, 524287, 1048575, 262143, 2359295, 8388607, 16777215, 33554431]
theorem uD.tab10 : rtab .any (opsOf Tryd.f3 10) = uD.T10 := by kernel_rfl
theorem uD.bits10 : waitsOk uD.T10.2 uD.B10 = true := by kernel_rfl
theorem uD.calls (k : Nat) (a0_0 : ByteArray) (a0_1 : Int) (A0_2 : Option Addr) (c0_2 : Nat) (l0_2 : List (S61)) (A1 : Option Addr) (c1 : Nat) (l1 : List Int) (r : Bool) (w : World) (hr0_2 : Kd.C k61 w A0_2 l0_2.length l0_2) (hc0_2 : l0_2.length ≤ c0_2) (hr1 : Kd.C (Kd.int .u8) w A1 l1.length l1) (hc1 : l1.length ≤ c1) (hTab_ : Tabs_ w) (h : uD.f k a0_0 a0_1 l0_2 l1 = some r) (hT_ : r = true) :
 Calls Tryd.prog 3 #[.agg #[.string a0_0, .int .i64 a0_1, .slice A0_2 l0_2.length c0_2], .slice A1 l1.length c1] w fun e w' => e = .returned (.bool r) ∧ Below w.heap.size w w' := by
 have HT := ak_ hTab_
 clear hTab_
 have HTR_ := ak_ hT_
 clear hT_
 have hu24 := Tryd.underlying24
 have HR0_2 := ak_ hr0_2
 have HC0_2 := ak_ hc0_2
 clear hr0_2 hc0_2
 have HR1 := ak_ hr1
 have HC1 := ak_ hc1
 clear hr1 hc1
 have HB := ak_ (Below.refl w.heap.size w)
 have H : ((uL15_awake.f k).bind fun t295 => (if t295 = true then ((uL13_Small.f k a0_0 a0_1 l0_2).bind fun t296 => (if t296 = 0 then (uD.j0 k l1 (decide ((l1.length : Int) > 700)) a0_0 a0_1 l0_2) else (uD.j0 k l1 true a0_0 a0_1 l0_2))) else (some false))) = some r := h
 clear h
 replace H := ob_ H
 obtain ⟨t295, A30, H⟩ := H
 replace H : (if t295 = true then ((uL13_Small.f k a0_0 a0_1 l0_2).bind fun t296 => (if t296 = 0 then (uD.j0 k l1 (decide ((l1.length : Int) > 700)) a0_0 a0_1 l0_2) else (uD.j0 k l1 true a0_0 a0_1 l0_2))) else (some false)) = some r := H
 have A3 := ak_ A30
 clear A30
 by_cases c4 : t295 = true
 · subst c4
   have H1 : ((uL13_Small.f k a0_0 a0_1 l0_2).bind fun t296 => (if t296 = 0 then (uD.j0 k l1 (decide ((l1.length : Int) > 700)) a0_0 a0_1 l0_2) else (uD.j0 k l1 true a0_0 a0_1 l0_2))) = some r := by rw [if_pos rfl] at H; exact H
   clear H
   have H := H1
   clear H1
   have HC5 := ak_ H
   clear H
   go_enter Tryd.func3, Tryd.ntmps3
   go_upto_region 3 with (first | ((with_reducible refine gate_dst (N := 2) rfl ?_); (try (refine gate_guard (by rfl) ?_; dsimp only)); refine box_event ?hg (N := 2) ?hd (cs := #[.string a0_0, .int .i64 a0_1, .slice A0_2 l0_2.length c0_2]) (t := 24) ?hr ?_; (case hd | hg => rfl); (case hr => first | (go_simp; done) | (go_simp; rfl)); intro gb294 hg w6 hbox hb; have n0_ := ak_ (ps (by with_reducible repeat first | exact HB.out | apply pa | apply pd | apply pe) hb); have n1_ := ak_ (hbox); have n2_ := ak_ ((by rw [hg]; exact (below_size (by with_reducible repeat first | exact HB.out | apply pa | apply pd | apply pe)) : w.heap.size ≤ gb294)); have n3_ := ak_ ((by rw [hg]; exact (below_size (by with_reducible repeat first | exact HB.out | apply pa | apply pd | apply pe)) : w.heap.size ≤ gb294)); clear HB; have HB := n0_; have BK294 := n1_; have GW294 := n2_; have GE294 := n3_; clear n0_ n1_ n2_ n3_ hb hbox hg) | ((with_reducible refine gate_callee (f := 6) rfl ?_); refine goesL_ (some 17) rfl rfl Tryd.func6 (by kernel_rfl) rfl #[] rfl (by simp only [mt_, mc_, mn_] <;> rfl) ?_; (with_reducible refine (uL15_awake.calls k  true _ A3.out).mono ?_); rintro e w7 ⟨rfl, hb⟩; refine ⟨_, rfl, ?_⟩; have n0_ := ak_ (blk_below (g := gb294) (o := .cells #[.string a0_0, .int .i64 a0_1, .slice A0_2 l0_2.length c0_2] 24 (0, 0)) (by (with_reducible repeat (first | apply zn | apply zd | apply za)); exact BK294.out) hb); have n1_ := ak_ (ps (by with_reducible repeat first | exact HB.out | apply pa | apply pd | apply pe | refine zs ?_ GE294.out) hb); clear BK294 HB; have BK294 := n0_; have HB := n1_; clear n0_ n1_))
   (try simp only [Act.put, sa_, sz_, ss_])
   go_cut [26] (fun v26 wc => ∃ (kq : Nat) (x26_4 : Bool), v26 = .bool x26_4 ∧ Aside0 (uD.j0 kq l1 x26_4 a0_0 a0_1 l0_2 = some r) ∧ Aside0 (kq ≤ k) ∧ Aside0 (wc.heap[gb294]? = some (.cells #[.string a0_0, .int .i64 a0_1, (.slice A0_2 l0_2.length c0_2)] 24 (0, 0))) ∧ Aside0 (Below w.heap.size w wc))
   case first =>
    have H := HC5.out
    clear HC5
    replace H := ob_ H
    obtain ⟨t296, A80, H⟩ := H
    replace H : (if t296 = 0 then (uD.j0 k l1 (decide ((l1.length : Int) > 700)) a0_0 a0_1 l0_2) else (uD.j0 k l1 true a0_0 a0_1 l0_2)) = some r := H
    have A8 := ak_ A80
    clear A80
    by_cases c9 : t296 = 0
    · rw [if_pos c9] at H
      have c9b0 : (t296 == 0) = true := beq_iff_eq.mpr c9
      have c9b1 : (t296 != 0) = false := bne_eq_false_iff_eq.mpr c9
      clear c9
      (first | rw [c9b0] | (simp only [i64_w, i32_w]; rw [c9b0]) | skip)
      have H' := ak_ H
      clear H
      have hcz10_0 : w7.cell? ⟨gb294, 0, none⟩ = some (.string a0_0) := (zc BK294.out 0).trans rfl
      have hcz10_1 : w7.cell? ⟨gb294, 1, none⟩ = some (.int .i64 a0_1) := (zc BK294.out 1).trans rfl
      have hcz10_2 : w7.cell? ⟨gb294, 2, none⟩ = some (.slice A0_2 l0_2.length c0_2) := (zc BK294.out 2).trans rfl
      have hfz10_0 := zf BK294.out 0
      have hfz10_1 := zf BK294.out 1
      have hfz10_2 := zf BK294.out 2
      go_wp2_with (first | ((with_reducible refine gate_callee (f := 7) rfl ?_); refine goesL_ (some 20) rfl rfl Tryd.func7 (by kernel_rfl) rfl #[.agg #[.string a0_0, .int .i64 a0_1, .slice A0_2 l0_2.length c0_2]] rfl (by (try simp only [mt_, mc_, mn_]); first | done | rfl) ?_; (with_reducible refine (uL13_Small.calls k a0_0 a0_1 _ _ l0_2 t296 _ ?side1 ?side2 A8.out).mono ?_); (case side1 => repeat (first | exact (Kd.C_below HR0_2.out HB.out) | (with_reducible refine Kd.C_alloc ?_ _) | (with_reducible refine Kd.C_drewN ?_ _) | (with_reducible refine Kd.C_drew ?_))); (case side2 => exact HC0_2.out); rintro e w11 ⟨rfl, hb⟩; refine ⟨_, rfl, ?_⟩; have n0_ := ak_ (blk_below (g := gb294) (o := .cells #[.string a0_0, .int .i64 a0_1, .slice A0_2 l0_2.length c0_2] 24 (0, 0)) (by (with_reducible repeat (first | apply zn | apply zd | apply za)); exact BK294.out) hb); have n1_ := ak_ (ps (by with_reducible repeat first | exact HB.out | apply pa | apply pd | apply pe | refine zs ?_ GE294.out) hb); clear BK294 HB; have BK294 := n0_; have HB := n1_; clear n0_ n1_))
      go_meet
      case rel => exact ⟨_, (decide ((l1.length : Int) > 700)), (by first | rfl | simp [*]), H', ⟨by first | omega | exact Nat.le_refl _⟩, ⟨by (with_reducible repeat (first | apply zn | apply zd | apply za)); exact BK294.out⟩, ⟨by repeat (first | (with_reducible first | exact HB.out | apply pa | apply pd | apply pe | refine zs ?_ GE294.out) | exact HB.out)⟩⟩
    rw [if_neg c9] at H
    have c9b0 : (t296 == 0) = false := beq_eq_false_iff_ne.mpr c9
    have c9b1 : (t296 != 0) = true := bne_iff_ne.mpr c9
    (first | rw [c9b0] | (simp only [i64_w, i32_w]; rw [c9b0]) | skip)
    have H' := ak_ H
    clear H
    have hcz12_0 : w7.cell? ⟨gb294, 0, none⟩ = some (.string a0_0) := (zc BK294.out 0).trans rfl
    have hcz12_1 : w7.cell? ⟨gb294, 1, none⟩ = some (.int .i64 a0_1) := (zc BK294.out 1).trans rfl
    have hcz12_2 : w7.cell? ⟨gb294, 2, none⟩ = some (.slice A0_2 l0_2.length c0_2) := (zc BK294.out 2).trans rfl
    have hfz12_0 := zf BK294.out 0
    have hfz12_1 := zf BK294.out 1
    have hfz12_2 := zf BK294.out 2
    go_wp2_with (first | ((with_reducible refine gate_callee (f := 7) rfl ?_); refine goesL_ (some 20) rfl rfl Tryd.func7 (by kernel_rfl) rfl #[.agg #[.string a0_0, .int .i64 a0_1, .slice A0_2 l0_2.length c0_2]] rfl (by (try simp only [mt_, mc_, mn_]); first | done | rfl) ?_; (with_reducible refine (uL13_Small.calls k a0_0 a0_1 _ _ l0_2 t296 _ ?side1 ?side2 A8.out).mono ?_); (case side1 => repeat (first | exact (Kd.C_below HR0_2.out HB.out) | (with_reducible refine Kd.C_alloc ?_ _) | (with_reducible refine Kd.C_drewN ?_ _) | (with_reducible refine Kd.C_drew ?_))); (case side2 => exact HC0_2.out); rintro e w13 ⟨rfl, hb⟩; refine ⟨_, rfl, ?_⟩; have n0_ := ak_ (blk_below (g := gb294) (o := .cells #[.string a0_0, .int .i64 a0_1, .slice A0_2 l0_2.length c0_2] 24 (0, 0)) (by (with_reducible repeat (first | apply zn | apply zd | apply za)); exact BK294.out) hb); have n1_ := ak_ (ps (by with_reducible repeat first | exact HB.out | apply pa | apply pd | apply pe | refine zs ?_ GE294.out) hb); clear BK294 HB; have BK294 := n0_; have HB := n1_; clear n0_ n1_))
    go_meet
    case rel => exact ⟨_, (true), (by first | rfl | simp [*]), H', ⟨by first | omega | exact Nat.le_refl _⟩, ⟨by (with_reducible repeat (first | apply zn | apply zd | apply za)); exact BK294.out⟩, ⟨by repeat (first | (with_reducible first | exact HB.out | apply pa | apply pd | apply pe | refine zs ?_ GE294.out) | exact HB.out)⟩⟩
   case rest =>
    clear HC5
    try clear c1
    try clear p2
    try clear c3
    try clear c4
    try clear c6
    try clear c7
    try clear c9
    try clear c9b0
    try clear c9b1
    try clear hcz10_0
    try clear hcz10_1
    try clear hcz10_2
    try clear hcz12_0
    try clear hcz12_1
    try clear hcz12_2
    try clear hfz10_0
    try clear hfz10_1
    try clear hfz10_2
    try clear hfz12_0
    try clear hfz12_1
    try clear hfz12_2
    obtain ⟨kq, x26_4, rfl, HA, HJ4, BK294, HB⟩ := hcut
    cases kq with
    | zero => exact absurd HA.out (by simp [uD.j0])
    | succ kj4 =>
     have H := HA.out
     clear HA
     simp only [uD.j0] at H
     by_cases c14 : x26_4 = true
     · subst c14
       have H1 : (some true) = some r := by rw [if_pos rfl] at H; exact H
       clear H
       have H := H1
       clear H1
       obtain rfl := Option.some.inj H
       go_wp2
       go_ret
       exact ⟨by first | rfl | simp [*], by repeat (first | (with_reducible first | exact HB.out | apply pa | apply pd | apply pe | refine zs ?_ GE294.out) | exact HB.out)⟩
     replace c14 := Bool.eq_false_iff.mpr c14
     subst c14
     have H1 : ((code_PutDef.f a0_0 a0_1 l0_2).bind fun t297 => ((uR15_Def.f kj4 a0_0 a0_1 l0_2).bind fun t300 => (if (strOfNums t297).toList = t300.toList then ((code_TakeDef.f l1).bind fun bt301 => ((uR15_ReadDef.f kj4 (strOfNums l1)).bind fun bt309 => ((uR13_Same.f kj4 bt301.1 bt301.2.1 bt301.2.2.1 bt309.1 bt309.2.1 bt309.2.2.1).bind fun t317 => (if t317 = true then (if bt301.2.2.2.1 = bt309.2.2.2.1 then (if bt301.2.2.2.2 = bt309.2.2.2.2 then (if bt301.2.2.2.2 = 0 then ((code_PutDef.f bt301.1 bt301.2.1 bt301.2.2.1).bind fun t318 => (uD.j1 kj4 t297 ((strOfNums t318).toList != (strOfNums l1).toList) a0_0 a0_1 l0_2)) else (uD.j1 kj4 t297 false a0_0 a0_1 l0_2)) else (uD.j1 kj4 t297 true a0_0 a0_1 l0_2)) else (uD.j1 kj4 t297 true a0_0 a0_1 l0_2)) else (uD.j1 kj4 t297 true a0_0 a0_1 l0_2))))) else (some false)))) = some r := by rw [if_neg (show ¬ (false = true) by decide)] at H; exact H
     clear H
     have H := H1
     clear H1
     replace H := ob_ H
     obtain ⟨t297, A150, H⟩ := H
     replace H : ((uR15_Def.f kj4 a0_0 a0_1 l0_2).bind fun t300 => (if (strOfNums t297).toList = t300.toList then ((code_TakeDef.f l1).bind fun bt301 => ((uR15_ReadDef.f kj4 (strOfNums l1)).bind fun bt309 => ((uR13_Same.f kj4 bt301.1 bt301.2.1 bt301.2.2.1 bt309.1 bt309.2.1 bt309.2.2.1).bind fun t317 => (if t317 = true then (if bt301.2.2.2.1 = bt309.2.2.2.1 then (if bt301.2.2.2.2 = bt309.2.2.2.2 then (if bt301.2.2.2.2 = 0 then ((code_PutDef.f bt301.1 bt301.2.1 bt301.2.2.1).bind fun t318 => (uD.j1 kj4 t297 ((strOfNums t318).toList != (strOfNums l1).toList) a0_0 a0_1 l0_2)) else (uD.j1 kj4 t297 false a0_0 a0_1 l0_2)) else (uD.j1 kj4 t297 true a0_0 a0_1 l0_2)) else (uD.j1 kj4 t297 true a0_0 a0_1 l0_2)) else (uD.j1 kj4 t297 true a0_0 a0_1 l0_2))))) else (some false))) = some r := H
     have A15 := ak_ A150
     clear A150
     replace H := ob_ H
     obtain ⟨t300, A160, H⟩ := H
     replace H : (if (strOfNums t297).toList = t300.toList then ((code_TakeDef.f l1).bind fun bt301 => ((uR15_ReadDef.f kj4 (strOfNums l1)).bind fun bt309 => ((uR13_Same.f kj4 bt301.1 bt301.2.1 bt301.2.2.1 bt309.1 bt309.2.1 bt309.2.2.1).bind fun t317 => (if t317 = true then (if bt301.2.2.2.1 = bt309.2.2.2.1 then (if bt301.2.2.2.2 = bt309.2.2.2.2 then (if bt301.2.2.2.2 = 0 then ((code_PutDef.f bt301.1 bt301.2.1 bt301.2.2.1).bind fun t318 => (uD.j1 kj4 t297 ((strOfNums t318).toList != (strOfNums l1).toList) a0_0 a0_1 l0_2)) else (uD.j1 kj4 t297 false a0_0 a0_1 l0_2)) else (uD.j1 kj4 t297 true a0_0 a0_1 l0_2)) else (uD.j1 kj4 t297 true a0_0 a0_1 l0_2)) else (uD.j1 kj4 t297 true a0_0 a0_1 l0_2))))) else (some false)) = some r := H
     have A16 := ak_ A160
     clear A160
     by_cases c17 : (strOfNums t297).toList = t300.toList
     · rw [if_pos c17] at H
       have c17b0 : ((strOfNums t297).toList == t300.toList) = true := beq_iff_eq.mpr c17
       have c17b1 : ((strOfNums t297).toList != t300.toList) = false := bne_eq_false_iff_eq.mpr c17
       clear c17
       replace H := ob_ H
       obtain ⟨⟨t301, t302, t303, t306, t307⟩, A180, H⟩ := H
       replace H : ((uR15_ReadDef.f kj4 (strOfNums l1)).bind fun bt309 => ((uR13_Same.f kj4 t301 t302 t303 bt309.1 bt309.2.1 bt309.2.2.1).bind fun t317 => (if t317 = true then (if t306 = bt309.2.2.2.1 then (if t307 = bt309.2.2.2.2 then (if t307 = 0 then ((code_PutDef.f t301 t302 t303).bind fun t318 => (uD.j1 kj4 t297 ((strOfNums t318).toList != (strOfNums l1).toList) a0_0 a0_1 l0_2)) else (uD.j1 kj4 t297 false a0_0 a0_1 l0_2)) else (uD.j1 kj4 t297 true a0_0 a0_1 l0_2)) else (uD.j1 kj4 t297 true a0_0 a0_1 l0_2)) else (uD.j1 kj4 t297 true a0_0 a0_1 l0_2)))) = some r := H
       have A18 := ak_ A180
       clear A180
       replace H := ob_ H
       obtain ⟨⟨t309, t310, t311, t314, t315⟩, A190, H⟩ := H
       replace H : ((uR13_Same.f kj4 t301 t302 t303 t309 t310 t311).bind fun t317 => (if t317 = true then (if t306 = t314 then (if t307 = t315 then (if t307 = 0 then ((code_PutDef.f t301 t302 t303).bind fun t318 => (uD.j1 kj4 t297 ((strOfNums t318).toList != (strOfNums l1).toList) a0_0 a0_1 l0_2)) else (uD.j1 kj4 t297 false a0_0 a0_1 l0_2)) else (uD.j1 kj4 t297 true a0_0 a0_1 l0_2)) else (uD.j1 kj4 t297 true a0_0 a0_1 l0_2)) else (uD.j1 kj4 t297 true a0_0 a0_1 l0_2))) = some r := H
       have A19 := ak_ A190
       clear A190
       have HC20 := ak_ H
       clear H
       have hcz21_0 : wc.cell? ⟨gb294, 0, none⟩ = some (.string a0_0) := (zc BK294.out 0).trans rfl
       have hcz21_1 : wc.cell? ⟨gb294, 1, none⟩ = some (.int .i64 a0_1) := (zc BK294.out 1).trans rfl
       have hcz21_2 : wc.cell? ⟨gb294, 2, none⟩ = some (.slice A0_2 l0_2.length c0_2) := (zc BK294.out 2).trans rfl
       have hfz21_0 := zf BK294.out 0
       have hfz21_1 := zf BK294.out 1
       have hfz21_2 := zf BK294.out 2
       try go_wp2_with (first | ((with_reducible refine gate_callee (f := 8) rfl ?_); refine goesL_ (some 28) rfl rfl Tryd.func8 (by kernel_rfl) rfl #[.agg #[.string a0_0, .int .i64 a0_1, .slice A0_2 l0_2.length c0_2]] rfl (by (try simp only [mt_, mc_, mn_]); first | done | rfl) ?_; (with_reducible refine (code_PutDef.calls a0_0 a0_1 _ _ l0_2 t297 _ ?side1 ?side2 A15.out).mono ?_); (case side1 => repeat (first | exact (Kd.C_below HR0_2.out HB.out) | (with_reducible refine Kd.C_alloc ?_ _) | (with_reducible refine Kd.C_drewN ?_ _) | (with_reducible refine Kd.C_drew ?_))); (case side2 => exact HC0_2.out); rintro e w22 ⟨v298, rfl, ho0, hb⟩; refine ⟨_, rfl, ?_⟩; have n0_ := ak_ (Kd.R_lower ho0 (below_size (by with_reducible repeat first | exact HB.out | apply pa | apply pd | apply pe | refine zs ?_ GE294.out))); have n1_ := ak_ (blk_below (g := gb294) (o := .cells #[.string a0_0, .int .i64 a0_1, .slice A0_2 l0_2.length c0_2] 24 (0, 0)) (by (with_reducible repeat (first | apply zn | apply zd | apply za)); exact BK294.out) hb); have n2_ := ak_ (ps (by with_reducible repeat first | exact HB.out | apply pa | apply pd | apply pe | refine zs ?_ GE294.out) hb); clear BK294 HB; have HO299 := n0_; have BK294 := n1_; have HB := n2_; clear n0_ n1_ n2_))
       have n0_ := ak_ (Kd.R_drew HO299.out)
       have n1_ := ak_ (zd BK294.out)
       have n2_ := ak_ (pe HB.out)
       clear HO299 BK294 HB
       have HO299 := n0_
       have BK294 := n1_
       have HB := n2_
       clear n0_ n1_ n2_
       refine start_ (n := 5) (S := fun w' => w'.cell? ⟨gb294, 0, none⟩ = some (.string a0_0) ∧ w'.cell? ⟨gb294, 1, none⟩ = some (.int .i64 a0_1) ∧ w'.cell? ⟨gb294, 2, none⟩ = some (.slice A0_2 l0_2.length c0_2)) (ds := []) #[false, false, false, false, false] (by kernel_rfl) rfl rfl ⟨(zc BK294.out 0).trans rfl, (zc BK294.out 1).trans rfl, (zc BK294.out 2).trans rfl⟩ (fun hHeld => ?_)
       generalize w22.drew = w23 at HO299 BK294 HB hHeld ⊢
       refine pure_ (i := 0) (N := some 29) (v := ?_) (a' := ?_) (b_ 5 1) rfl rfl (by kernel_rfl) (fun _ _ _ h => h) (Or.inl ⟨by rfl, ?_⟩) ?_ ?_; rotate_left; (· intro w'; go_simp; with_reducible rfl); rotate_left; (· simp only [Act.put, sa_, sz_, ss_, i64_w, i32_w]; rfl)
       refine take_ (i := 2) (N := some 31) (v := ?_) (a' := ?_) (b_ 5 5) rfl rfl (by kernel_rfl) (fun _ _ _ h => h) (Or.inl ⟨by rfl, ?_⟩) hHeld ?_ ?_
       rotate_left
       · rintro w' ⟨s0, s1, s2⟩
         go_simp
         with_reducible rfl
       rotate_left
       · simp only [Act.put, sa_, sz_, ss_, i64_w, i32_w]
         rfl
       refine join_ (σ := Unit) 1 (b_ 5 15) (fun s_ => [(30, .string (strOfNums t297)), (32, .string t300)]) (fun s_ w' => (w'.cell? ⟨gb294, 0, none⟩ = some (.string a0_0) ∧ w'.cell? ⟨gb294, 1, none⟩ = some (.int .i64 a0_1) ∧ w'.cell? ⟨gb294, 2, none⟩ = some (.slice A0_2 l0_2.length c0_2)) ∧ (Kd.R (Kd.int .u8) 5 w' w.heap.size (fun _ => True) v298 t297) ∧ (w'.heap[gb294]? = some (.cells #[.string a0_0, .int .i64 a0_1, .slice A0_2 l0_2.length c0_2] 24 (0, 0))) ∧ (Below w.heap.size w w')) ?_ ?_
       rotate_left
       · intro hCont
         refine two_ (i := 1) (j := 3) (Ni := some 30) (Nj := some 32) (b_ 5 7) (b_ 5 13) rfl rfl rfl rfl (by kernel_rfl) (by decide) (by decide) (fun K hK => ?_) (fun K hK => ?_)
         · skip
           have hcv24 := own_string (P := Tryd.prog) Tryd.underlying25 Tryd.underlying5 Tryd.underlying9 (Kd.own_of_R HO299.out)
           refine value_ (w1 := ?_) (v := ?_) (by rfl) rfl ?_ ?_
           rotate_left 2
           · go_simp
             constructor
             · rfl
             rfl
           clear hcv24
           refine hK.out _ _ ⟨(zc BK294.out 0).trans rfl, (zc BK294.out 1).trans rfl, (zc BK294.out 2).trans rfl⟩ (fun hHeld => ?_)
           clear hK K
           refine norm_ (a' := ?_) ?_ ?_
           rotate_left
           · show Act.put _ (some 30) _ = _
             simp only [Act.put, sa_, sz_, ss_, i64_w, i32_w]
             rfl
           refine one_ (i := 3) (N := some 32) (b_ 5 15) rfl rfl (by kernel_rfl) (by decide) (fun K hK => ?_)
           refine goes_ Tryd.func9 (by kernel_rfl) rfl #[.agg #[.string a0_0, .int .i64 a0_1, .slice A0_2 l0_2.length c0_2]] (by rfl) rfl rfl (by (try simp only [mt_, mc_, mn_]); first | done | rfl) ?_
           with_reducible refine (uR15_Def.calls kj4 a0_0 a0_1 _ _ l0_2 t300 _ ?side1 ?side2 A16.out).mono ?_
           (case side1 => repeat (first | exact (Kd.C_below HR0_2.out HB.out) | (with_reducible refine Kd.C_alloc ?_ _) | (with_reducible refine Kd.C_drewN ?_ _) | (with_reducible refine Kd.C_drew ?_)))
           (case side2 => exact HC0_2.out)
           rintro e w25 ⟨rfl, hb⟩
           refine ⟨_, rfl, ?_⟩
           have n0_ := ak_ (Kd.R_below (by (with_reducible repeat (first | apply Kd.R_alloc | apply Kd.R_drewN | apply Kd.R_drew)); exact HO299.out) hb)
           have n1_ := ak_ (blk_below (g := gb294) (o := .cells #[.string a0_0, .int .i64 a0_1, .slice A0_2 l0_2.length c0_2] 24 (0, 0)) (by (with_reducible repeat (first | apply zn | apply zd | apply za)); exact BK294.out) hb)
           have n2_ := ak_ (ps (by with_reducible repeat first | exact HB.out | apply pa | apply pd | apply pe | refine zs ?_ GE294.out) hb)
           clear HO299 BK294 HB
           have HO299 := n0_
           have BK294 := n1_
           have HB := n2_
           clear n0_ n1_ n2_
           (try clear hb hk hi)
           refine hK.out _ _ ⟨(zc BK294.out 0).trans rfl, (zc BK294.out 1).trans rfl, (zc BK294.out 2).trans rfl⟩ (fun hHeld => ?_)
           clear hK K
           refine norm_ (a' := ?_) ?_ ?_
           rotate_left
           · show Act.put _ (some 32) _ = _
             simp only [Act.put, sa_, sz_, ss_, i64_w, i32_w]
             rfl
           exact norm_ (by simp only [putAll, Act.put, sa_, sz_, ss_]) (hCont () _ ⟨hHeld, (by (with_reducible repeat (first | apply Kd.R_alloc | apply Kd.R_drewN | apply Kd.R_drew)); exact HO299.out), (by (with_reducible repeat (first | apply zn | apply zd | apply za)); exact BK294.out), (by with_reducible repeat first | exact HB.out | apply pa | apply pd | apply pe | refine zs ?_ GE294.out)⟩)
         skip
         refine goes_ Tryd.func9 (by kernel_rfl) rfl #[.agg #[.string a0_0, .int .i64 a0_1, .slice A0_2 l0_2.length c0_2]] (by rfl) rfl rfl (by (try simp only [mt_, mc_, mn_]); first | done | rfl) ?_
         with_reducible refine (uR15_Def.calls kj4 a0_0 a0_1 _ _ l0_2 t300 _ ?side1 ?side2 A16.out).mono ?_
         (case side1 => repeat (first | exact (Kd.C_below HR0_2.out HB.out) | (with_reducible refine Kd.C_alloc ?_ _) | (with_reducible refine Kd.C_drewN ?_ _) | (with_reducible refine Kd.C_drew ?_)))
         (case side2 => exact HC0_2.out)
         rintro e w24 ⟨rfl, hb⟩
         refine ⟨_, rfl, ?_⟩
         have n0_ := ak_ (Kd.R_below (by (with_reducible repeat (first | apply Kd.R_alloc | apply Kd.R_drewN | apply Kd.R_drew)); exact HO299.out) hb)
         have n1_ := ak_ (blk_below (g := gb294) (o := .cells #[.string a0_0, .int .i64 a0_1, .slice A0_2 l0_2.length c0_2] 24 (0, 0)) (by (with_reducible repeat (first | apply zn | apply zd | apply za)); exact BK294.out) hb)
         have n2_ := ak_ (ps (by with_reducible repeat first | exact HB.out | apply pa | apply pd | apply pe | refine zs ?_ GE294.out) hb)
         clear HO299 BK294 HB
         have HO299 := n0_
         have BK294 := n1_
         have HB := n2_
         clear n0_ n1_ n2_
         (try clear hb hk hi)
         refine hK.out _ _ ⟨(zc BK294.out 0).trans rfl, (zc BK294.out 1).trans rfl, (zc BK294.out 2).trans rfl⟩ (fun hHeld => ?_)
         clear hK K
         refine norm_ (a' := ?_) ?_ ?_
         rotate_left
         · show Act.put _ (some 32) _ = _
           simp only [Act.put, sa_, sz_, ss_, i64_w, i32_w]
           rfl
         refine one_ (i := 1) (N := some 30) (b_ 5 15) rfl rfl (by kernel_rfl) (by decide) (fun K hK => ?_)
         have hcv25 := own_string (P := Tryd.prog) Tryd.underlying25 Tryd.underlying5 Tryd.underlying9 (Kd.own_of_R HO299.out)
         refine value_ (w1 := ?_) (v := ?_) (by rfl) rfl ?_ ?_
         rotate_left 2
         · go_simp
           constructor
           · rfl
           rfl
         clear hcv25
         refine hK.out _ _ ⟨(zc BK294.out 0).trans rfl, (zc BK294.out 1).trans rfl, (zc BK294.out 2).trans rfl⟩ (fun hHeld => ?_)
         clear hK K
         refine norm_ (a' := ?_) ?_ ?_
         rotate_left
         · show Act.put _ (some 30) _ = _
           simp only [Act.put, sa_, sz_, ss_, i64_w, i32_w]
           rfl
         exact norm_ (by simp only [putAll, Act.put, sa_, sz_, ss_]) (hCont () _ ⟨hHeld, (by (with_reducible repeat (first | apply Kd.R_alloc | apply Kd.R_drewN | apply Kd.R_drew)); exact HO299.out), (by (with_reducible repeat (first | apply zn | apply zd | apply za)); exact BK294.out), (by with_reducible repeat first | exact HB.out | apply pa | apply pd | apply pe | refine zs ?_ GE294.out)⟩)
       rintro _ w26 ⟨hS_, h0_, h1_, h2_⟩
       have n0_ : Aside0 (Kd.R (Kd.int .u8) 5 w26 w.heap.size (fun _ => True) v298 t297) := ⟨h0_⟩
       have n1_ : Aside0 (w26.heap[gb294]? = some (.cells #[.string a0_0, .int .i64 a0_1, .slice A0_2 l0_2.length c0_2] 24 (0, 0))) := ⟨h1_⟩
       have n2_ : Aside0 (Below w.heap.size w w26) := ⟨h2_⟩
       clear HO299 BK294 HB h0_ h1_ h2_
       have HO299 := n0_
       have BK294 := n1_
       have HB := n2_
       clear n0_ n1_ n2_
       have hHeld : w26.cell? ⟨gb294, 0, none⟩ = some (.string a0_0) ∧ w26.cell? ⟨gb294, 1, none⟩ = some (.int .i64 a0_1) ∧ w26.cell? ⟨gb294, 2, none⟩ = some (.slice A0_2 l0_2.length c0_2) := hS_
       refine norm_ (a' := ?_) ?_ ?_
       rotate_left
       · simp only [putAll, Act.put, sa_, sz_, ss_]
         rfl
       refine pure_ (i := 4) (N := some 33) (v := ?_) (a' := ?_) (b_ 5 31) rfl rfl (by kernel_rfl) (fun _ _ _ h => h) (Or.inl ⟨by rfl, ?_⟩) ?_ ?_; rotate_left; (· intro w'; go_simp; with_reducible rfl); rotate_left; (· simp only [Act.put, sa_, sz_, ss_, i64_w, i32_w]; rfl)
       refine done_ (by kernel_rfl) ?_
       go_upto_region 10 with (first | ((with_reducible refine gate_callee (f := 10) rfl ?_); refine goesL_ (some 36) rfl rfl Tryd.func10 (by kernel_rfl) rfl #[.slice A1 l1.length c1] rfl (by (try simp only [mt_, mc_, mn_]); first | done | rfl) ?_; (with_reducible refine (code_TakeDef.calls _ _ l1 t301 t302 t303 t306 t307 _ ?side1 ?side2 ?tab_ A18.out).mono ?_); (case tab_ => first | exact HT.out | exact Tabs_.below HT.out (by with_reducible repeat first | exact HB.out | apply pa | apply pd | apply pe)); (case side1 => repeat (first | exact (Kd.C_below HR1.out HB.out) | (with_reducible refine Kd.C_alloc ?_ _) | (with_reducible refine Kd.C_drewN ?_ _) | (with_reducible refine Kd.C_drew ?_))); (case side2 => exact HC1.out); rintro e w27 ⟨v304, rfl, ho0, hb⟩; refine ⟨_, rfl, ?_⟩; have n0_ := ak_ (Kd.R_below (by (with_reducible repeat (first | apply Kd.R_alloc | apply Kd.R_drewN | apply Kd.R_drew)); exact HO299.out) hb); have n1_ := ak_ (Kd.R_lower ho0 (below_size (by with_reducible repeat first | exact HB.out | apply pa | apply pd | apply pe | refine zs ?_ GE294.out))); have n2_ := ak_ (blk_below (g := gb294) (o := .cells #[.string a0_0, .int .i64 a0_1, .slice A0_2 l0_2.length c0_2] 24 (0, 0)) (by (with_reducible repeat (first | apply zn | apply zd | apply za)); exact BK294.out) hb); have n3_ := ak_ (ps (by with_reducible repeat first | exact HB.out | apply pa | apply pd | apply pe | refine zs ?_ GE294.out) hb); clear HO299 BK294 HB; have HO299 := n0_; have HO305 := n1_; have BK294 := n2_; have HB := n3_; clear n0_ n1_ n2_ n3_) | ((with_reducible refine gate_dst (N := 6) rfl ?_); (try (refine gate_guard (by rfl) ?_; dsimp only)); refine box_event ?hg (N := 6) ?hd (cs := #[.string ⟨#[]⟩, .int .i64 0, .slice none 0 0]) (t := 24) ?hr ?_; (case hd | hg => rfl); (case hr => first | (go_simp; done) | (go_simp; rfl)); intro gb308 hg w28 hbox hb; have n0_ := ak_ (Kd.R_below (by (with_reducible repeat (first | apply Kd.R_alloc | apply Kd.R_drewN | apply Kd.R_drew)); exact HO299.out) hb); have n1_ := ak_ (Kd.R_below (by (with_reducible repeat (first | apply Kd.R_alloc | apply Kd.R_drewN | apply Kd.R_drew)); exact HO305.out) hb); have n2_ := ak_ (blk_below (g := gb294) (o := .cells #[.string a0_0, .int .i64 a0_1, .slice A0_2 l0_2.length c0_2] 24 (0, 0)) (by (with_reducible repeat (first | apply zn | apply zd | apply za)); exact BK294.out) hb); have n3_ := ak_ (ps (by with_reducible repeat first | exact HB.out | apply pa | apply pd | apply pe | refine zs ?_ GE294.out) hb); have n4_ := ak_ (hbox); have n5_ := ak_ ((by rw [hg]; exact (below_size (by with_reducible repeat first | exact HB.out | apply pa | apply pd | apply pe | refine zs ?_ GE294.out)) : w.heap.size ≤ gb308)); have n6_ := ak_ ((by rw [hg]; exact (below_size (by with_reducible repeat first | exact HB.out | apply pa | apply pd | apply pe | refine zs ?_ GE294.out)) : w.heap.size ≤ gb308)); have n7_ := ak_ ((by rw [hg]; exact Nat.ne_of_lt (blk_lt (g := gb294) (by (with_reducible repeat (first | apply zn | apply zd | apply za)); exact BK294.out)) : gb294 ≠ gb308)); have n8_ := ak_ ((by rw [hg]; exact Nat.ne_of_gt (blk_lt (g := gb294) (by (with_reducible repeat (first | apply zn | apply zd | apply za)); exact BK294.out)) : gb308 ≠ gb294)); clear HO299 HO305 BK294 HB; have HO299 := n0_; have HO305 := n1_; have BK294 := n2_; have HB := n3_; have BK308 := n4_; have GW308 := n5_; have GE308 := n6_; have NB294_308 := n7_; have NB308_294 := n8_; clear n0_ n1_ n2_ n3_ n4_ n5_ n6_ n7_ n8_ hb hbox hg; have hnb29 := NB308_294.out; have hnc29 := NB294_308.out; have hcz30_0 : w28.cell? ⟨gb308, 0, none⟩ = some (.string ⟨#[]⟩) := (zc BK308.out 0).trans rfl; have hcz30_1 : w28.cell? ⟨gb308, 1, none⟩ = some (.int .i64 0) := (zc BK308.out 1).trans rfl; have hcz30_2 : w28.cell? ⟨gb308, 2, none⟩ = some (.slice none 0 0) := (zc BK308.out 2).trans rfl; have hfz30_0 := zf BK308.out 0; have hfz30_1 := zf BK308.out 1; have hfz30_2 := zf BK308.out 2; obtain ⟨Ao31, co31, eo31⟩ := Kd.R_slice HO305.out; subst eo31; have hcv32 := Kd.C_string (P := Tryd.prog) (A := A1) (c := c1) Tryd.underlying25 Tryd.underlying5 Tryd.underlying9 (Kd.C_below HR1.out (show Below w.heap.size w (((w28.setCell ⟨gb308, 0, none⟩ (.string t301)).setCell ⟨gb308, 1, none⟩ (.int .i64 t302)).setCell ⟨gb308, 2, none⟩ (.slice Ao31 t303.length co31)) from zs (zs (zs HB.out GE308.out) GE308.out) GE308.out))) | ((with_reducible refine gate_callee (f := 11) rfl ?_); refine goesL_ (some 43) rfl rfl Tryd.func11 (by kernel_rfl) rfl #[.string (strOfNums l1)] rfl (by simp only [mt_, mc_, mn_] <;> rfl) ?_; (with_reducible refine (uR15_ReadDef.calls kj4 (strOfNums l1) t309 t310 t311 t314 t315 _ A19.out).mono ?_); rintro e w33 ⟨v312, rfl, ho0, hb⟩; refine ⟨_, rfl, ?_⟩; have n0_ := ak_ (Kd.R_below (by (with_reducible repeat (first | apply Kd.R_alloc | apply Kd.R_drewN | apply Kd.R_drew)); exact (Kd.R_mono (Kd.R_far (p := ⟨gb308, 2, none⟩) (Kd.R_far (p := ⟨gb308, 1, none⟩) (Kd.R_far (p := ⟨gb308, 0, none⟩) (Kd.R_types HO299.out BK308.out (by decide)) (fun _ hk => hk.2) (.string t301)) (fun _ hk => hk.2) (.int .i64 t302)) (fun _ hk => hk.2) (.slice Ao31 t303.length co31)) (fun _ h_ => h_.1))) hb); have n1_ := ak_ (Kd.R_elder' (by (with_reducible repeat (first | apply Kd.R_alloc | apply Kd.R_drewN | apply Kd.R_drew)); exact (Kd.R_mono (Kd.R_far (p := ⟨gb308, 2, none⟩) (Kd.R_far (p := ⟨gb308, 1, none⟩) (Kd.R_far (p := ⟨gb308, 0, none⟩) (Kd.R_types HO305.out BK308.out (by decide)) (fun _ hk => hk.2) (.string t301)) (fun _ hk => hk.2) (.int .i64 t302)) (fun _ hk => hk.2) (.slice Ao31 t303.length co31)) (fun _ h_ => h_.1))) (Kd.R_base ho0) hb); have n2_ := ak_ (Kd.R_lower (Kd.R_new' ho0 (Kd.R_lt (by (with_reducible repeat (first | apply Kd.R_alloc | apply Kd.R_drewN | apply Kd.R_drew)); exact (Kd.R_mono (Kd.R_far (p := ⟨gb308, 2, none⟩) (Kd.R_far (p := ⟨gb308, 1, none⟩) (Kd.R_far (p := ⟨gb308, 0, none⟩) (Kd.R_types HO305.out BK308.out (by decide)) (fun _ hk => hk.2) (.string t301)) (fun _ hk => hk.2) (.int .i64 t302)) (fun _ hk => hk.2) (.slice Ao31 t303.length co31)) (fun _ h_ => h_.1))))) (below_size (by with_reducible repeat first | exact HB.out | apply pa | apply pd | apply pe | refine zs ?_ GE294.out | refine zs ?_ GE308.out))); have n3_ := ak_ (blk_below (g := gb294) (o := .cells #[.string a0_0, .int .i64 a0_1, .slice A0_2 l0_2.length c0_2] 24 (0, 0)) (by (repeat (first | (with_reducible first | apply zn | apply zd | apply za) | refine zr ?_ NB294_308.out _)); (with_reducible repeat (first | apply zn | apply zd | apply za)); exact BK294.out) hb); have n4_ := ak_ (blk_below (g := gb308) (o := .cells #[.string t301, .int .i64 t302, .slice Ao31 t303.length co31] 24 (0, 0)) (by (with_reducible repeat (first | apply zn | apply zd | apply za)); refine zp (cs := #[.string t301, .int .i64 t302, .slice none 0 0]) ?_ 2 _ rfl; (with_reducible repeat (first | apply zn | apply zd | apply za)); refine zp (cs := #[.string t301, .int .i64 0, .slice none 0 0]) ?_ 1 _ rfl; (with_reducible repeat (first | apply zn | apply zd | apply za)); refine zp (cs := #[.string ⟨#[]⟩, .int .i64 0, .slice none 0 0]) ?_ 0 _ rfl; (with_reducible repeat (first | apply zn | apply zd | apply za)); exact BK308.out) hb); have n5_ := ak_ (ps (by with_reducible repeat first | exact HB.out | apply pa | apply pd | apply pe | refine zs ?_ GE294.out | refine zs ?_ GE308.out) hb); clear HO299 HO305 BK294 BK308 HB; have HO299 := n0_; have HO305 := n1_; have HO313 := n2_; have BK294 := n3_; have BK308 := n4_; have HB := n5_; clear n0_ n1_ n2_ n3_ n4_ n5_) | ((with_reducible refine gate_dst (N := 9) rfl ?_); (try (refine gate_guard (by rfl) ?_; dsimp only)); refine box_event ?hg (N := 9) ?hd (cs := #[.string ⟨#[]⟩, .int .i64 0, .slice none 0 0]) (t := 24) ?hr ?_; (case hd | hg => rfl); (case hr => first | (go_simp; done) | (go_simp; rfl)); intro gb316 hg w34 hbox hb; have n0_ := ak_ (Kd.R_below (by (with_reducible repeat (first | apply Kd.R_alloc | apply Kd.R_drewN | apply Kd.R_drew)); exact HO299.out) hb); have n1_ := ak_ (Kd.R_below (by (with_reducible repeat (first | apply Kd.R_alloc | apply Kd.R_drewN | apply Kd.R_drew)); exact HO305.out) hb); have n2_ := ak_ (Kd.R_below (by (with_reducible repeat (first | apply Kd.R_alloc | apply Kd.R_drewN | apply Kd.R_drew)); exact HO313.out) hb); have n3_ := ak_ (blk_below (g := gb294) (o := .cells #[.string a0_0, .int .i64 a0_1, .slice A0_2 l0_2.length c0_2] 24 (0, 0)) (by (with_reducible repeat (first | apply zn | apply zd | apply za)); exact BK294.out) hb); have n4_ := ak_ (blk_below (g := gb308) (o := .cells #[.string t301, .int .i64 t302, .slice Ao31 t303.length co31] 24 (0, 0)) (by (with_reducible repeat (first | apply zn | apply zd | apply za)); exact BK308.out) hb); have n5_ := ak_ (ps (by with_reducible repeat first | exact HB.out | apply pa | apply pd | apply pe | refine zs ?_ GE294.out | refine zs ?_ GE308.out) hb); have n6_ := ak_ (hbox); have n7_ := ak_ ((by rw [hg]; exact (below_size (by with_reducible repeat first | exact HB.out | apply pa | apply pd | apply pe | refine zs ?_ GE294.out | refine zs ?_ GE308.out)) : w.heap.size ≤ gb316)); have n8_ := ak_ ((by rw [hg]; exact (below_size (by with_reducible repeat first | exact HB.out | apply pa | apply pd | apply pe | refine zs ?_ GE294.out | refine zs ?_ GE308.out)) : w.heap.size ≤ gb316)); have n9_ := ak_ ((by rw [hg]; exact Nat.ne_of_lt (blk_lt (g := gb294) (by (with_reducible repeat (first | apply zn | apply zd | apply za)); exact BK294.out)) : gb294 ≠ gb316)); have n10_ := ak_ ((by rw [hg]; exact Nat.ne_of_gt (blk_lt (g := gb294) (by (with_reducible repeat (first | apply zn | apply zd | apply za)); exact BK294.out)) : gb316 ≠ gb294)); have n11_ := ak_ ((by rw [hg]; exact Nat.ne_of_lt (blk_lt (g := gb308) (by (with_reducible repeat (first | apply zn | apply zd | apply za)); exact BK308.out)) : gb308 ≠ gb316)); have n12_ := ak_ ((by rw [hg]; exact Nat.ne_of_gt (blk_lt (g := gb308) (by (with_reducible repeat (first | apply zn | apply zd | apply za)); exact BK308.out)) : gb316 ≠ gb308)); clear HO299 HO305 HO313 BK294 BK308 HB; have HO299 := n0_; have HO305 := n1_; have HO313 := n2_; have BK294 := n3_; have BK308 := n4_; have HB := n5_; have BK316 := n6_; have GW316 := n7_; have GE316 := n8_; have NB294_316 := n9_; have NB316_294 := n10_; have NB308_316 := n11_; have NB316_308 := n12_; clear n0_ n1_ n2_ n3_ n4_ n5_ n6_ n7_ n8_ n9_ n10_ n11_ n12_ hb hbox hg; have hnb35 := NB316_294.out; have hnc35 := NB294_316.out; have hnb36 := NB316_308.out; have hnc36 := NB308_316.out; have hcz37_0 : w34.cell? ⟨gb316, 0, none⟩ = some (.string ⟨#[]⟩) := (zc BK316.out 0).trans rfl; have hcz37_1 : w34.cell? ⟨gb316, 1, none⟩ = some (.int .i64 0) := (zc BK316.out 1).trans rfl; have hcz37_2 : w34.cell? ⟨gb316, 2, none⟩ = some (.slice none 0 0) := (zc BK316.out 2).trans rfl; have hfz37_0 := zf BK316.out 0; have hfz37_1 := zf BK316.out 1; have hfz37_2 := zf BK316.out 2; obtain ⟨Ao38, co38, eo38⟩ := Kd.R_slice HO313.out; subst eo38))
       (try simp only [Act.put, sa_, sz_, ss_])
       go_cut [72] (fun v72 wc => ∃ (kq : Nat) (x72_19 : Bool), v72 = .bool x72_19 ∧ Aside0 (uD.j1 kq t297 x72_19 a0_0 a0_1 l0_2 = some r) ∧ Aside0 (kq ≤ kj4) ∧ Aside0 (Kd.R (Kd.int .u8) 5 wc w.heap.size (fun _ => True) v298 t297) ∧ Aside0 (Kd.R k61 61 wc w.heap.size (fun k_ => some k_ ≠ ((.slice Ao38 t311.length co38) : Value).ownBlock) (.slice Ao31 t303.length co31) t303) ∧ Aside0 (Kd.R k61 61 wc w.heap.size (fun k_ => some k_ ≠ ((.slice Ao31 t303.length co31) : Value).ownBlock) (.slice Ao38 t311.length co38) t311) ∧ Aside0 (wc.heap[gb294]? = some (.cells #[.string a0_0, .int .i64 a0_1, (.slice A0_2 l0_2.length c0_2)] 24 (0, 0))) ∧ Aside0 (wc.heap[gb308]? = some (.cells #[.string t301, .int .i64 t302, (.slice Ao31 t303.length co31)] 24 (0, 0))) ∧ Aside0 (wc.heap[gb316]? = some (.cells #[.string t309, .int .i64 t310, (.slice Ao38 t311.length co38)] 24 (0, 0))) ∧ Aside0 (Below w.heap.size w wc))
       case first =>
        have H := HC20.out
        clear HC20
        replace H := ob_ H
        obtain ⟨t317, A390, H⟩ := H
        replace H : (if t317 = true then (if t306 = t314 then (if t307 = t315 then (if t307 = 0 then ((code_PutDef.f t301 t302 t303).bind fun t318 => (uD.j1 kj4 t297 ((strOfNums t318).toList != (strOfNums l1).toList) a0_0 a0_1 l0_2)) else (uD.j1 kj4 t297 false a0_0 a0_1 l0_2)) else (uD.j1 kj4 t297 true a0_0 a0_1 l0_2)) else (uD.j1 kj4 t297 true a0_0 a0_1 l0_2)) else (uD.j1 kj4 t297 true a0_0 a0_1 l0_2)) = some r := H
        have A39 := ak_ A390
        clear A390
        by_cases c40 : t317 = true
        · subst c40
          have H1 : (if t306 = t314 then (if t307 = t315 then (if t307 = 0 then ((code_PutDef.f t301 t302 t303).bind fun t318 => (uD.j1 kj4 t297 ((strOfNums t318).toList != (strOfNums l1).toList) a0_0 a0_1 l0_2)) else (uD.j1 kj4 t297 false a0_0 a0_1 l0_2)) else (uD.j1 kj4 t297 true a0_0 a0_1 l0_2)) else (uD.j1 kj4 t297 true a0_0 a0_1 l0_2)) = some r := by rw [if_pos rfl] at H; exact H
          clear H
          have H := H1
          clear H1
          by_cases c41 : t306 = t314
          · rw [if_pos c41] at H
            have c41b0 : (t306 == t314) = true := beq_iff_eq.mpr c41
            have c41b1 : (t306 != t314) = false := bne_eq_false_iff_eq.mpr c41
            clear c41
            (first | rw [c41b0] | (simp only [i64_w, i32_w]; rw [c41b0]) | skip)
            by_cases c42 : t307 = t315
            · rw [if_pos c42] at H
              have c42b0 : (t307 == t315) = true := beq_iff_eq.mpr c42
              have c42b1 : (t307 != t315) = false := bne_eq_false_iff_eq.mpr c42
              clear c42
              by_cases c43 : t307 = 0
              · rw [if_pos c43] at H
                have c43b0 : (t307 == 0) = true := beq_iff_eq.mpr c43
                have c43b1 : (t307 != 0) = false := bne_eq_false_iff_eq.mpr c43
                clear c43
                replace H := ob_ H
                obtain ⟨t318, A440, H⟩ := H
                replace H : (uD.j1 kj4 t297 ((strOfNums t318).toList != (strOfNums l1).toList) a0_0 a0_1 l0_2) = some r := H
                have A44 := ak_ A440
                clear A440
                have H' := ak_ H
                clear H
                try go_wp2
                have n0_ : Aside0 (Kd.R (Kd.int .u8) 5 (((w34.setCell ⟨gb316, 0, none⟩ (.string t309)).setCell ⟨gb316, 1, none⟩ (.int .i64 t310)).setCell ⟨gb316, 2, none⟩ (.slice Ao38 t311.length co38)) w.heap.size (fun _ => True) v298 t297) := ⟨by (with_reducible repeat (first | apply Kd.R_alloc | apply Kd.R_drewN | apply Kd.R_drew)); exact Kd.R_mono (Kd.R_far (p := ⟨gb316, 2, none⟩) (Kd.R_far (p := ⟨gb316, 1, none⟩) (Kd.R_far (p := ⟨gb316, 0, none⟩) (Kd.R_types HO299.out BK316.out (by decide)) (fun _ hk => hk.2) (.string t309)) (fun _ hk => hk.2) (.int .i64 t310)) (fun _ hk => hk.2) (.slice Ao38 t311.length co38)) (fun _ hk => trivial)⟩
                have n1_ : Aside0 (Kd.R k61 61 (((w34.setCell ⟨gb316, 0, none⟩ (.string t309)).setCell ⟨gb316, 1, none⟩ (.int .i64 t310)).setCell ⟨gb316, 2, none⟩ (.slice Ao38 t311.length co38)) w.heap.size (fun k_ => some k_ ≠ (.slice Ao38 t311.length co38 : Value).ownBlock) (.slice Ao31 t303.length co31) t303) := ⟨by (with_reducible repeat (first | apply Kd.R_alloc | apply Kd.R_drewN | apply Kd.R_drew)); exact Kd.R_mono (Kd.R_far (p := ⟨gb316, 2, none⟩) (Kd.R_far (p := ⟨gb316, 1, none⟩) (Kd.R_far (p := ⟨gb316, 0, none⟩) (Kd.R_types HO305.out BK316.out (by decide)) (fun _ hk => hk.2) (.string t309)) (fun _ hk => hk.2) (.int .i64 t310)) (fun _ hk => hk.2) (.slice Ao38 t311.length co38)) (fun _ hk => hk.1.2)⟩
                have n2_ : Aside0 (Kd.R k61 61 (((w34.setCell ⟨gb316, 0, none⟩ (.string t309)).setCell ⟨gb316, 1, none⟩ (.int .i64 t310)).setCell ⟨gb316, 2, none⟩ (.slice Ao38 t311.length co38)) w.heap.size (fun k_ => some k_ ≠ (.slice Ao31 t303.length co31 : Value).ownBlock) (.slice Ao38 t311.length co38) t311) := ⟨by (with_reducible repeat (first | apply Kd.R_alloc | apply Kd.R_drewN | apply Kd.R_drew)); exact Kd.R_mono (Kd.R_far (p := ⟨gb316, 2, none⟩) (Kd.R_far (p := ⟨gb316, 1, none⟩) (Kd.R_far (p := ⟨gb316, 0, none⟩) (Kd.R_types HO313.out BK316.out (by decide)) (fun _ hk => hk.2) (.string t309)) (fun _ hk => hk.2) (.int .i64 t310)) (fun _ hk => hk.2) (.slice Ao38 t311.length co38)) (fun _ hk => hk.1.2)⟩
                have n3_ : Aside0 ((((w34.setCell ⟨gb316, 0, none⟩ (.string t309)).setCell ⟨gb316, 1, none⟩ (.int .i64 t310)).setCell ⟨gb316, 2, none⟩ (.slice Ao38 t311.length co38)).heap[gb294]? = some (.cells #[.string a0_0, .int .i64 a0_1, .slice A0_2 l0_2.length c0_2] 24 (0, 0))) := ⟨by (repeat (first | (with_reducible first | apply zn | apply zd | apply za) | refine zr ?_ NB294_316.out _)); (with_reducible repeat (first | apply zn | apply zd | apply za)); exact BK294.out⟩
                have n4_ : Aside0 ((((w34.setCell ⟨gb316, 0, none⟩ (.string t309)).setCell ⟨gb316, 1, none⟩ (.int .i64 t310)).setCell ⟨gb316, 2, none⟩ (.slice Ao38 t311.length co38)).heap[gb308]? = some (.cells #[.string t301, .int .i64 t302, .slice Ao31 t303.length co31] 24 (0, 0))) := ⟨by (repeat (first | (with_reducible first | apply zn | apply zd | apply za) | refine zr ?_ NB308_316.out _)); (with_reducible repeat (first | apply zn | apply zd | apply za)); exact BK308.out⟩
                have n5_ : Aside0 ((((w34.setCell ⟨gb316, 0, none⟩ (.string t309)).setCell ⟨gb316, 1, none⟩ (.int .i64 t310)).setCell ⟨gb316, 2, none⟩ (.slice Ao38 t311.length co38)).heap[gb316]? = some (.cells #[.string t309, .int .i64 t310, .slice Ao38 t311.length co38] 24 (0, 0))) := ⟨by (with_reducible repeat (first | apply zn | apply zd | apply za)); refine zp (cs := #[.string t309, .int .i64 t310, .slice none 0 0]) ?_ 2 _ rfl; (with_reducible repeat (first | apply zn | apply zd | apply za)); refine zp (cs := #[.string t309, .int .i64 0, .slice none 0 0]) ?_ 1 _ rfl; (with_reducible repeat (first | apply zn | apply zd | apply za)); refine zp (cs := #[.string ⟨#[]⟩, .int .i64 0, .slice none 0 0]) ?_ 0 _ rfl; (with_reducible repeat (first | apply zn | apply zd | apply za)); exact BK316.out⟩
                have n6_ : Aside0 (Below w.heap.size w (((w34.setCell ⟨gb316, 0, none⟩ (.string t309)).setCell ⟨gb316, 1, none⟩ (.int .i64 t310)).setCell ⟨gb316, 2, none⟩ (.slice Ao38 t311.length co38))) := ⟨by repeat (first | (with_reducible first | exact HB.out | apply pa | apply pd | apply pe | refine zs ?_ GE294.out | refine zs ?_ GE308.out | refine zs ?_ GE316.out) | exact HB.out)⟩
                (try clear HO299)
                generalize (((w34.setCell ⟨gb316, 0, none⟩ (.string t309)).setCell ⟨gb316, 1, none⟩ (.int .i64 t310)).setCell ⟨gb316, 2, none⟩ (.slice Ao38 t311.length co38)) = w45 at n0_ n1_ n2_ n3_ n4_ n5_ n6_ ⊢
                have HO299 := n0_
                have HO305 := n1_
                have HO313 := n2_
                have BK294 := n3_
                have BK308 := n4_
                have BK316 := n5_
                have HB := n6_
                clear n0_ n1_ n2_ n3_ n4_ n5_ n6_
                have n0_ := ak_ (Kd.R_drew HO299.out)
                have n1_ := ak_ (Kd.R_drew HO305.out)
                have n2_ := ak_ (Kd.R_drew HO313.out)
                have n3_ := ak_ (zd BK294.out)
                have n4_ := ak_ (zd BK308.out)
                have n5_ := ak_ (zd BK316.out)
                have n6_ := ak_ (pe HB.out)
                clear HO299 HO305 HO313 BK294 BK308 BK316 HB
                have HO299 := n0_
                have HO305 := n1_
                have HO313 := n2_
                have BK294 := n3_
                have BK308 := n4_
                have BK316 := n5_
                have HB := n6_
                clear n0_ n1_ n2_ n3_ n4_ n5_ n6_
                refine start_ (n := 26) (S := fun w' => w'.cell? ⟨gb308, 0, none⟩ = some (.string t301) ∧ w'.cell? ⟨gb308, 1, none⟩ = some (.int .i64 t302) ∧ w'.cell? ⟨gb308, 2, none⟩ = some (.slice Ao31 t303.length co31) ∧ w'.cell? ⟨gb316, 0, none⟩ = some (.string t309) ∧ w'.cell? ⟨gb316, 1, none⟩ = some (.int .i64 t310) ∧ w'.cell? ⟨gb316, 2, none⟩ = some (.slice Ao38 t311.length co38)) (ds := []) #[false, false, false, false, false, false, false, false, false, false, false, false, false, false, false, false, false, false, false, false, false, false, false, false, false, false] (by kernel_rfl) rfl rfl ⟨(zc BK308.out 0).trans rfl, (zc BK308.out 1).trans rfl, (zc BK308.out 2).trans rfl, (zc BK316.out 0).trans rfl, (zc BK316.out 1).trans rfl, (zc BK316.out 2).trans rfl⟩ (fun hHeld => ?_); refine with_tabW uD.tab10 uD.bits10 (fun HT_ HW_ => ?_)
                generalize w45.drew = w46 at HO299 HO305 HO313 BK294 BK308 BK316 HB hHeld ⊢
                refine take_ (i := 0) (N := some 47) (v := ?_) (a' := ?_) (b_ 26 1) rfl rfl (take_ofW HT_.out HW_.out (by kernel_rfl)) (fun _ _ _ h => h) (Or.inl ⟨by rfl, ?_⟩) hHeld ?_ ?_
                rotate_left
                · rintro w' ⟨s0, s1, s2, s3, s4, s5⟩
                  go_simp
                  with_reducible rfl
                rotate_left
                · simp only [Act.put, sa_, sz_, ss_, i64_w, i32_w]
                  rfl
                refine take_ (i := 1) (N := some 48) (v := ?_) (a' := ?_) (b_ 26 3) rfl rfl (take_ofW HT_.out HW_.out (by kernel_rfl)) (fun _ _ _ h => h) (Or.inl ⟨by rfl, ?_⟩) hHeld ?_ ?_
                rotate_left
                · rintro w' ⟨s0, s1, s2, s3, s4, s5⟩
                  go_simp
                  with_reducible rfl
                rotate_left
                · simp only [Act.put, sa_, sz_, ss_, i64_w, i32_w]
                  rfl
                refine one_ (i := 2) (N := some 49) (b_ 26 7) rfl rfl (one_of HT_.out (by kernel_rfl)) (by decide) (fun K hK => ?_)
                refine goes_ Tryd.func12 (by kernel_rfl) rfl #[.agg #[.string t301, .int .i64 t302, .slice Ao31 t303.length co31], .agg #[.string t309, .int .i64 t310, .slice Ao38 t311.length co38]] (by rfl) rfl rfl (by (try simp only [mt_, mc_, mn_]); first | done | rfl) ?_
                with_reducible refine (uR13_Same.calls kj4 t301 t302 _ _ t303 t309 t310 _ _ t311 true _ ?side1 ?side2 ?side3 ?side4 A39.out).mono ?_
                (case side1 => repeat (first | exact (Kd.R_reads' HO305.out).2.2 | (with_reducible refine Kd.C_alloc ?_ _) | (with_reducible refine Kd.C_drewN ?_ _) | (with_reducible refine Kd.C_drew ?_)))
                (case side2 => exact (Kd.R_reads' HO305.out).2.1)
                (case side3 => repeat (first | exact (Kd.R_reads' HO313.out).2.2 | (with_reducible refine Kd.C_alloc ?_ _) | (with_reducible refine Kd.C_drewN ?_ _) | (with_reducible refine Kd.C_drew ?_)))
                (case side4 => exact (Kd.R_reads' HO313.out).2.1)
                rintro e w47 ⟨rfl, hb⟩
                refine ⟨_, rfl, ?_⟩
                have n0_ := ak_ (Kd.R_below (by (with_reducible repeat (first | apply Kd.R_alloc | apply Kd.R_drewN | apply Kd.R_drew)); exact HO299.out) hb)
                have n1_ := ak_ (Kd.R_below (by (with_reducible repeat (first | apply Kd.R_alloc | apply Kd.R_drewN | apply Kd.R_drew)); exact HO305.out) hb)
                have n2_ := ak_ (Kd.R_below (by (with_reducible repeat (first | apply Kd.R_alloc | apply Kd.R_drewN | apply Kd.R_drew)); exact HO313.out) hb)
                have n3_ := ak_ (blk_below (g := gb294) (o := .cells #[.string a0_0, .int .i64 a0_1, .slice A0_2 l0_2.length c0_2] 24 (0, 0)) (by (with_reducible repeat (first | apply zn | apply zd | apply za)); exact BK294.out) hb)
                have n4_ := ak_ (blk_below (g := gb308) (o := .cells #[.string t301, .int .i64 t302, .slice Ao31 t303.length co31] 24 (0, 0)) (by (with_reducible repeat (first | apply zn | apply zd | apply za)); exact BK308.out) hb)
                have n5_ := ak_ (blk_below (g := gb316) (o := .cells #[.string t309, .int .i64 t310, .slice Ao38 t311.length co38] 24 (0, 0)) (by (with_reducible repeat (first | apply zn | apply zd | apply za)); exact BK316.out) hb)
                have n6_ := ak_ (ps (by with_reducible repeat first | exact HB.out | apply pa | apply pd | apply pe | refine zs ?_ GE294.out | refine zs ?_ GE308.out | refine zs ?_ GE316.out) hb)
                clear HO299 HO305 HO313 BK294 BK308 BK316 HB
                have HO299 := n0_
                have HO305 := n1_
                have HO313 := n2_
                have BK294 := n3_
                have BK308 := n4_
                have BK316 := n5_
                have HB := n6_
                clear n0_ n1_ n2_ n3_ n4_ n5_ n6_
                (try clear hb hk hi)
                refine hK.out _ _ ⟨(zc BK308.out 0).trans rfl, (zc BK308.out 1).trans rfl, (zc BK308.out 2).trans rfl, (zc BK316.out 0).trans rfl, (zc BK316.out 1).trans rfl, (zc BK316.out 2).trans rfl⟩ (fun hHeld => ?_)
                clear hK K
                refine norm_ (a' := ?_) ?_ ?_
                rotate_left
                · show Act.put _ (some 49) _ = _
                  simp only [Act.put, sa_, sz_, ss_, i64_w, i32_w]
                  rfl
                refine pure_ (i := 3) (N := some 50) (v := ?_) (a' := ?_) (b_ 26 15) rfl rfl (any_of HT_.out (by kernel_rfl)) (fun _ _ _ h => h) (Or.inl ⟨by rfl, ?_⟩) ?_ ?_; rotate_left; (· intro w'; go_simp; with_reducible rfl); rotate_left; (· simp only [Act.put, sa_, sz_, ss_, i64_w, i32_w]; rfl)
                refine pure_ (i := 4) (N := some 51) (v := ?_) (a' := ?_) (b_ 26 31) rfl rfl (any_of HT_.out (by kernel_rfl)) (fun _ _ _ h => h) (Or.inl ⟨by rfl, ?_⟩) ?_ ?_; rotate_left; (· intro w'; go_simp; with_reducible rfl); rotate_left; (· simp only [Act.put, sa_, sz_, ss_, i64_w, i32_w]; rfl)
                refine pure_ (i := 5) (N := some 52) (v := ?_) (a' := ?_) (b_ 26 63) rfl rfl (any_of HT_.out (by kernel_rfl)) (fun _ _ _ h => h) (Or.inl ⟨by rfl, ?_⟩) ?_ ?_; rotate_left; (· intro w'; go_simp; with_reducible rfl); rotate_left; (· simp only [Act.put, sa_, sz_, ss_, i64_w, i32_w]; rfl)
                refine pure_ (i := 6) (N := some 53) (v := ?_) (a' := ?_) (b_ 26 127) rfl rfl (any_of HT_.out (by kernel_rfl)) (fun _ _ _ h => h) (Or.inl ⟨by rfl, ?_⟩) ?_ ?_; rotate_left; (· intro w'; go_simp; with_reducible rfl); rotate_left; (· simp only [Act.put, sa_, sz_, ss_, i64_w, i32_w]; rfl)
                refine pure_ (i := 7) (N := some 54) (v := ?_) (a' := ?_) (b_ 26 255) rfl rfl (any_of HT_.out (by kernel_rfl)) (fun _ _ _ h => h) (Or.inl ⟨by rfl, ?_⟩) ?_ ?_; rotate_left; (· intro w'; go_simp; with_reducible rfl); rotate_left; (· simp only [Act.put, sa_, sz_, ss_, i64_w, i32_w]; rfl)
                refine pure_ (i := 8) (N := some 55) (v := ?_) (a' := ?_) (b_ 26 511) rfl rfl (any_of HT_.out (by kernel_rfl)) (fun _ _ _ h => h) (Or.inl ⟨by rfl, ?_⟩) ?_ ?_; rotate_left; (· intro w'; go_simp; with_reducible rfl); rotate_left; (· simp only [Act.put, sa_, sz_, ss_, i64_w, i32_w]; rfl)
                refine pure_ (i := 9) (N := some 56) (v := ?_) (a' := ?_) (b_ 26 1023) rfl rfl (any_of HT_.out (by kernel_rfl)) (fun _ _ _ h => h) (Or.inl ⟨by rfl, ?_⟩) ?_ ?_; rotate_left; (· intro w'; go_simp; with_reducible rfl); rotate_left; (· simp only [Act.put, sa_, sz_, ss_, i64_w, i32_w]; rfl)
                refine pure_ (i := 10) (N := some 57) (v := ?_) (a' := ?_) (b_ 26 2047) rfl rfl (any_of HT_.out (by kernel_rfl)) (fun _ _ _ h => h) (Or.inl ⟨by rfl, ?_⟩) ?_ ?_; rotate_left; (· intro w'; go_simp; with_reducible rfl); rotate_left; (· simp only [Act.put, sa_, sz_, ss_, i64_w, i32_w]; rfl)
                refine pure_ (i := 11) (N := some 58) (v := ?_) (a' := ?_) (b_ 26 4095) rfl rfl (any_of HT_.out (by kernel_rfl)) (fun _ _ _ h => h) (Or.inl ⟨by rfl, ?_⟩) ?_ ?_; rotate_left; (· intro w'; go_simp; with_reducible rfl); rotate_left; (· simp only [Act.put, sa_, sz_, ss_, i64_w, i32_w]; rfl)
                refine pure_ (i := 12) (N := some 59) (v := ?_) (a' := ?_) (b_ 26 8191) rfl rfl (any_of HT_.out (by kernel_rfl)) (fun _ _ _ h => h) (Or.inl ⟨by rfl, ?_⟩) ?_ ?_; rotate_left; (· intro w'; go_simp; with_reducible rfl); rotate_left; (· simp only [Act.put, sa_, sz_, ss_, i64_w, i32_w]; rfl)
                refine pure_ (i := 13) (N := some 60) (v := ?_) (a' := ?_) (b_ 26 16383) rfl rfl (any_of HT_.out (by kernel_rfl)) (fun _ _ _ h => h) (Or.inl ⟨by rfl, ?_⟩) ?_ ?_; rotate_left; (· intro w'; go_simp; with_reducible rfl); rotate_left; (· simp only [Act.put, sa_, sz_, ss_, i64_w, i32_w]; rfl)
                refine pure_ (i := 14) (N := some 61) (v := ?_) (a' := ?_) (b_ 26 32767) rfl rfl (any_of HT_.out (by kernel_rfl)) (fun _ _ _ h => h) (Or.inl ⟨by rfl, ?_⟩) ?_ ?_; rotate_left; (· intro w'; go_simp; with_reducible rfl); rotate_left; (· simp only [Act.put, sa_, sz_, ss_, i64_w, i32_w]; rfl)
                refine pure_ (i := 15) (N := some 62) (v := ?_) (a' := ?_) (b_ 26 65535) rfl rfl (any_of HT_.out (by kernel_rfl)) (fun _ _ _ h => h) (Or.inl ⟨by rfl, ?_⟩) ?_ ?_; rotate_left; (· intro w'; go_simp; with_reducible rfl); rotate_left; (· simp only [Act.put, sa_, sz_, ss_, i64_w, i32_w]; rfl)
                refine pure_ (i := 16) (N := some 63) (v := ?_) (a' := ?_) (b_ 26 131071) rfl rfl (any_of HT_.out (by kernel_rfl)) (fun _ _ _ h => h) (Or.inl ⟨by rfl, ?_⟩) ?_ ?_; rotate_left; (· intro w'; go_simp; with_reducible rfl); rotate_left; (· simp only [Act.put, sa_, sz_, ss_, i64_w, i32_w]; rfl)
                refine pure_ (i := 17) (N := some 64) (v := ?_) (a' := ?_) (b_ 26 262143) rfl rfl (any_of HT_.out (by kernel_rfl)) (fun _ _ _ h => h) (Or.inl ⟨by rfl, ?_⟩) ?_ ?_; rotate_left; (· intro w'; go_simp; with_reducible rfl); rotate_left; (· simp only [Act.put, sa_, sz_, ss_, i64_w, i32_w]; rfl)
                refine pure_ (i := 21) (N := some 68) (v := ?_) (a' := ?_) (b_ 26 2359295) rfl rfl (any_of HT_.out (by kernel_rfl)) (fun _ _ _ h => h) (Or.inl ⟨by rfl, ?_⟩) ?_ ?_; rotate_left; (· intro w'; go_simp; with_reducible rfl); rotate_left; (· simp only [Act.put, sa_, sz_, ss_, i64_w, i32_w]; rfl)
                refine take_ (i := 18) (N := some 65) (v := ?_) (a' := ?_) (b_ 26 2621439) rfl rfl (take_ofW HT_.out HW_.out (by kernel_rfl)) (fun _ _ _ h => h) (Or.inl ⟨by rfl, ?_⟩) hHeld ?_ ?_
                rotate_left
                · rintro w' ⟨s0, s1, s2, s3, s4, s5⟩
                  go_simp
                  with_reducible rfl
                rotate_left
                · simp only [Act.put, sa_, sz_, ss_, i64_w, i32_w]
                  rfl
                refine join_ (σ := Value) 3 (b_ 26 8388607) (fun s_ => [(66, s_), (67, .string (strOfNums t318)), (69, .string (strOfNums l1))]) (fun s_ w' => (w'.cell? ⟨gb308, 0, none⟩ = some (.string t301) ∧ w'.cell? ⟨gb308, 1, none⟩ = some (.int .i64 t302) ∧ w'.cell? ⟨gb308, 2, none⟩ = some (.slice Ao31 t303.length co31) ∧ w'.cell? ⟨gb316, 0, none⟩ = some (.string t309) ∧ w'.cell? ⟨gb316, 1, none⟩ = some (.int .i64 t310) ∧ w'.cell? ⟨gb316, 2, none⟩ = some (.slice Ao38 t311.length co38)) ∧ (Kd.R (Kd.int .u8) 5 w' w.heap.size (fun k_ => some k_ ≠ (s_ : Value).ownBlock) v298 t297) ∧ (Kd.R k61 61 w' w.heap.size (fun k_ => some k_ ≠ (.slice Ao38 t311.length co38 : Value).ownBlock) (.slice Ao31 t303.length co31) t303) ∧ (Kd.R k61 61 w' w.heap.size (fun k_ => some k_ ≠ (.slice Ao31 t303.length co31 : Value).ownBlock) (.slice Ao38 t311.length co38) t311) ∧ (Kd.R (Kd.int .u8) 5 w' w.heap.size (fun k_ => some k_ ≠ (v298 : Value).ownBlock) s_ t318) ∧ (w'.heap[gb294]? = some (.cells #[.string a0_0, .int .i64 a0_1, .slice A0_2 l0_2.length c0_2] 24 (0, 0))) ∧ (w'.heap[gb308]? = some (.cells #[.string t301, .int .i64 t302, .slice Ao31 t303.length co31] 24 (0, 0))) ∧ (w'.heap[gb316]? = some (.cells #[.string t309, .int .i64 t310, .slice Ao38 t311.length co38] 24 (0, 0))) ∧ (Below w.heap.size w w')) ?_ ?_
                rotate_left
                · intro hCont
                  refine two_ (i := 19) (j := 22) (Ni := some 66) (Nj := some 69) (b_ 26 3145727) (b_ 26 6815743) rfl rfl rfl rfl (two_of HT_.out (by kernel_rfl)) (by decide) (by decide) (fun K hK => ?_) (fun K hK => ?_)
                  · skip
                    refine goes_ Tryd.func8 (by kernel_rfl) rfl #[.agg #[.string t301, .int .i64 t302, .slice Ao31 t303.length co31]] (by rfl) rfl rfl (by (try simp only [mt_, mc_, mn_]); first | done | rfl) ?_
                    with_reducible refine (code_PutDef.calls t301 t302 _ _ t303 t318 _ ?side1 ?side2 A44.out).mono ?_
                    (case side1 => repeat (first | exact (Kd.R_reads' HO305.out).2.2 | (with_reducible refine Kd.C_alloc ?_ _) | (with_reducible refine Kd.C_drewN ?_ _) | (with_reducible refine Kd.C_drew ?_)))
                    (case side2 => exact (Kd.R_reads' HO305.out).2.1)
                    rintro e w48 ⟨v319, rfl, ho0, hb⟩
                    refine ⟨_, rfl, ?_⟩
                    have n0_ := ak_ (Kd.R_elder' (by (with_reducible repeat (first | apply Kd.R_alloc | apply Kd.R_drewN | apply Kd.R_drew)); exact HO299.out) (Kd.R_base ho0) hb)
                    have n1_ := ak_ (Kd.R_below (by (with_reducible repeat (first | apply Kd.R_alloc | apply Kd.R_drewN | apply Kd.R_drew)); exact HO305.out) hb)
                    have n2_ := ak_ (Kd.R_below (by (with_reducible repeat (first | apply Kd.R_alloc | apply Kd.R_drewN | apply Kd.R_drew)); exact HO313.out) hb)
                    have n3_ := ak_ (Kd.R_lower (Kd.R_new' ho0 (Kd.R_lt (by (with_reducible repeat (first | apply Kd.R_alloc | apply Kd.R_drewN | apply Kd.R_drew)); exact HO299.out))) (below_size (by with_reducible repeat first | exact HB.out | apply pa | apply pd | apply pe | refine zs ?_ GE294.out | refine zs ?_ GE308.out | refine zs ?_ GE316.out)))
                    have n4_ := ak_ (blk_below (g := gb294) (o := .cells #[.string a0_0, .int .i64 a0_1, .slice A0_2 l0_2.length c0_2] 24 (0, 0)) (by (with_reducible repeat (first | apply zn | apply zd | apply za)); exact BK294.out) hb)
                    have n5_ := ak_ (blk_below (g := gb308) (o := .cells #[.string t301, .int .i64 t302, .slice Ao31 t303.length co31] 24 (0, 0)) (by (with_reducible repeat (first | apply zn | apply zd | apply za)); exact BK308.out) hb)
                    have n6_ := ak_ (blk_below (g := gb316) (o := .cells #[.string t309, .int .i64 t310, .slice Ao38 t311.length co38] 24 (0, 0)) (by (with_reducible repeat (first | apply zn | apply zd | apply za)); exact BK316.out) hb)
                    have n7_ := ak_ (ps (by with_reducible repeat first | exact HB.out | apply pa | apply pd | apply pe | refine zs ?_ GE294.out | refine zs ?_ GE308.out | refine zs ?_ GE316.out) hb)
                    clear HO299 HO305 HO313 BK294 BK308 BK316 HB
                    have HO299 := n0_
                    have HO305 := n1_
                    have HO313 := n2_
                    have HO320 := n3_
                    have BK294 := n4_
                    have BK308 := n5_
                    have BK316 := n6_
                    have HB := n7_
                    clear n0_ n1_ n2_ n3_ n4_ n5_ n6_ n7_
                    (try clear hb hk hi)
                    refine hK.out _ _ ⟨(zc BK308.out 0).trans rfl, (zc BK308.out 1).trans rfl, (zc BK308.out 2).trans rfl, (zc BK316.out 0).trans rfl, (zc BK316.out 1).trans rfl, (zc BK316.out 2).trans rfl⟩ (fun hHeld => ?_)
                    clear hK K
                    refine norm_ (a' := ?_) ?_ ?_
                    rotate_left
                    · show Act.put _ (some 66) _ = _
                      simp only [Act.put, sa_, sz_, ss_, i64_w, i32_w]
                      rfl
                    refine two_ (i := 20) (j := 22) (Ni := some 67) (Nj := some 69) (b_ 26 4194303) (b_ 26 7340031) rfl rfl rfl rfl (two_of HT_.out (by kernel_rfl)) (by decide) (by decide) (fun K hK => ?_) (fun K hK => ?_)
                    · skip
                      have hcv49 := own_string (P := Tryd.prog) Tryd.underlying25 Tryd.underlying5 Tryd.underlying9 (Kd.own_of_R HO320.out)
                      refine value_ (w1 := ?_) (v := ?_) (by rfl) rfl ?_ ?_
                      rotate_left 2
                      · go_simp
                        constructor
                        · rfl
                        rfl
                      clear hcv49
                      refine hK.out _ _ ⟨(zc BK308.out 0).trans rfl, (zc BK308.out 1).trans rfl, (zc BK308.out 2).trans rfl, (zc BK316.out 0).trans rfl, (zc BK316.out 1).trans rfl, (zc BK316.out 2).trans rfl⟩ (fun hHeld => ?_)
                      clear hK K
                      refine norm_ (a' := ?_) ?_ ?_
                      rotate_left
                      · show Act.put _ (some 67) _ = _
                        simp only [Act.put, sa_, sz_, ss_, i64_w, i32_w]
                        rfl
                      refine one_ (i := 22) (N := some 69) (b_ 26 8388607) rfl rfl (one_of HT_.out (by kernel_rfl)) (by decide) (fun K hK => ?_)
                      have hcv50 := Kd.C_string (P := Tryd.prog) (A := A1) (c := c1) Tryd.underlying25 Tryd.underlying5 Tryd.underlying9 (Kd.C_below HR1.out HB.out)
                      refine value_ (w1 := ?_) (v := ?_) (by rfl) rfl ?_ ?_
                      rotate_left 2
                      · go_simp
                        constructor
                        · rfl
                        rfl
                      clear hcv50
                      refine hK.out _ _ ⟨(zc BK308.out 0).trans rfl, (zc BK308.out 1).trans rfl, (zc BK308.out 2).trans rfl, (zc BK316.out 0).trans rfl, (zc BK316.out 1).trans rfl, (zc BK316.out 2).trans rfl⟩ (fun hHeld => ?_)
                      clear hK K
                      refine norm_ (a' := ?_) ?_ ?_
                      rotate_left
                      · show Act.put _ (some 69) _ = _
                        simp only [Act.put, sa_, sz_, ss_, i64_w, i32_w]
                        rfl
                      exact norm_ (by simp only [putAll, Act.put, sa_, sz_, ss_]) (hCont (v319) _ ⟨hHeld, (by (with_reducible repeat (first | apply Kd.R_alloc | apply Kd.R_drewN | apply Kd.R_drew)); exact Kd.R_mono HO299.out (fun _ hk => hk.2)), (by (with_reducible repeat (first | apply Kd.R_alloc | apply Kd.R_drewN | apply Kd.R_drew)); exact HO305.out), (by (with_reducible repeat (first | apply Kd.R_alloc | apply Kd.R_drewN | apply Kd.R_drew)); exact HO313.out), (by (with_reducible repeat (first | apply Kd.R_alloc | apply Kd.R_drewN | apply Kd.R_drew)); exact Kd.R_mono HO320.out (fun _ hk => hk.2)), (by (with_reducible repeat (first | apply zn | apply zd | apply za)); exact BK294.out), (by (with_reducible repeat (first | apply zn | apply zd | apply za)); exact BK308.out), (by (with_reducible repeat (first | apply zn | apply zd | apply za)); exact BK316.out), (by with_reducible repeat first | exact HB.out | apply pa | apply pd | apply pe | refine zs ?_ GE294.out | refine zs ?_ GE308.out | refine zs ?_ GE316.out)⟩)
                    skip
                    have hcv49 := Kd.C_string (P := Tryd.prog) (A := A1) (c := c1) Tryd.underlying25 Tryd.underlying5 Tryd.underlying9 (Kd.C_below HR1.out HB.out)
                    refine value_ (w1 := ?_) (v := ?_) (by rfl) rfl ?_ ?_
                    rotate_left 2
                    · go_simp
                      constructor
                      · rfl
                      rfl
                    clear hcv49
                    refine hK.out _ _ ⟨(zc BK308.out 0).trans rfl, (zc BK308.out 1).trans rfl, (zc BK308.out 2).trans rfl, (zc BK316.out 0).trans rfl, (zc BK316.out 1).trans rfl, (zc BK316.out 2).trans rfl⟩ (fun hHeld => ?_)
                    clear hK K
                    refine norm_ (a' := ?_) ?_ ?_
                    rotate_left
                    · show Act.put _ (some 69) _ = _
                      simp only [Act.put, sa_, sz_, ss_, i64_w, i32_w]
                      rfl
                    refine one_ (i := 20) (N := some 67) (b_ 26 8388607) rfl rfl (one_of HT_.out (by kernel_rfl)) (by decide) (fun K hK => ?_)
                    have hcv50 := own_string (P := Tryd.prog) Tryd.underlying25 Tryd.underlying5 Tryd.underlying9 (Kd.own_of_R HO320.out)
                    refine value_ (w1 := ?_) (v := ?_) (by rfl) rfl ?_ ?_
                    rotate_left 2
                    · go_simp
                      constructor
                      · rfl
                      rfl
                    clear hcv50
                    refine hK.out _ _ ⟨(zc BK308.out 0).trans rfl, (zc BK308.out 1).trans rfl, (zc BK308.out 2).trans rfl, (zc BK316.out 0).trans rfl, (zc BK316.out 1).trans rfl, (zc BK316.out 2).trans rfl⟩ (fun hHeld => ?_)
                    clear hK K
                    refine norm_ (a' := ?_) ?_ ?_
                    rotate_left
                    · show Act.put _ (some 67) _ = _
                      simp only [Act.put, sa_, sz_, ss_, i64_w, i32_w]
                      rfl
                    exact norm_ (by simp only [putAll, Act.put, sa_, sz_, ss_]) (hCont (v319) _ ⟨hHeld, (by (with_reducible repeat (first | apply Kd.R_alloc | apply Kd.R_drewN | apply Kd.R_drew)); exact Kd.R_mono HO299.out (fun _ hk => hk.2)), (by (with_reducible repeat (first | apply Kd.R_alloc | apply Kd.R_drewN | apply Kd.R_drew)); exact HO305.out), (by (with_reducible repeat (first | apply Kd.R_alloc | apply Kd.R_drewN | apply Kd.R_drew)); exact HO313.out), (by (with_reducible repeat (first | apply Kd.R_alloc | apply Kd.R_drewN | apply Kd.R_drew)); exact Kd.R_mono HO320.out (fun _ hk => hk.2)), (by (with_reducible repeat (first | apply zn | apply zd | apply za)); exact BK294.out), (by (with_reducible repeat (first | apply zn | apply zd | apply za)); exact BK308.out), (by (with_reducible repeat (first | apply zn | apply zd | apply za)); exact BK316.out), (by with_reducible repeat first | exact HB.out | apply pa | apply pd | apply pe | refine zs ?_ GE294.out | refine zs ?_ GE308.out | refine zs ?_ GE316.out)⟩)
                  skip
                  have hcv48 := Kd.C_string (P := Tryd.prog) (A := A1) (c := c1) Tryd.underlying25 Tryd.underlying5 Tryd.underlying9 (Kd.C_below HR1.out HB.out)
                  refine value_ (w1 := ?_) (v := ?_) (by rfl) rfl ?_ ?_
                  rotate_left 2
                  · go_simp
                    constructor
                    · rfl
                    rfl
                  clear hcv48
                  refine hK.out _ _ ⟨(zc BK308.out 0).trans rfl, (zc BK308.out 1).trans rfl, (zc BK308.out 2).trans rfl, (zc BK316.out 0).trans rfl, (zc BK316.out 1).trans rfl, (zc BK316.out 2).trans rfl⟩ (fun hHeld => ?_)
                  clear hK K
                  refine norm_ (a' := ?_) ?_ ?_
                  rotate_left
                  · show Act.put _ (some 69) _ = _
                    simp only [Act.put, sa_, sz_, ss_, i64_w, i32_w]
                    rfl
                  refine one_ (i := 19) (N := some 66) (b_ 26 7340031) rfl rfl (one_of HT_.out (by kernel_rfl)) (by decide) (fun K hK => ?_)
                  refine goes_ Tryd.func8 (by kernel_rfl) rfl #[.agg #[.string t301, .int .i64 t302, .slice Ao31 t303.length co31]] (by rfl) rfl rfl (by (try simp only [mt_, mc_, mn_]); first | done | rfl) ?_
                  with_reducible refine (code_PutDef.calls t301 t302 _ _ t303 t318 _ ?side1 ?side2 A44.out).mono ?_
                  (case side1 => repeat (first | exact (Kd.R_reads' HO305.out).2.2 | (with_reducible refine Kd.C_alloc ?_ _) | (with_reducible refine Kd.C_drewN ?_ _) | (with_reducible refine Kd.C_drew ?_)))
                  (case side2 => exact (Kd.R_reads' HO305.out).2.1)
                  rintro e w49 ⟨v319, rfl, ho0, hb⟩
                  refine ⟨_, rfl, ?_⟩
                  have n0_ := ak_ (Kd.R_elder' (by (with_reducible repeat (first | apply Kd.R_alloc | apply Kd.R_drewN | apply Kd.R_drew)); exact HO299.out) (Kd.R_base ho0) hb)
                  have n1_ := ak_ (Kd.R_below (by (with_reducible repeat (first | apply Kd.R_alloc | apply Kd.R_drewN | apply Kd.R_drew)); exact HO305.out) hb)
                  have n2_ := ak_ (Kd.R_below (by (with_reducible repeat (first | apply Kd.R_alloc | apply Kd.R_drewN | apply Kd.R_drew)); exact HO313.out) hb)
                  have n3_ := ak_ (Kd.R_lower (Kd.R_new' ho0 (Kd.R_lt (by (with_reducible repeat (first | apply Kd.R_alloc | apply Kd.R_drewN | apply Kd.R_drew)); exact HO299.out))) (below_size (by with_reducible repeat first | exact HB.out | apply pa | apply pd | apply pe | refine zs ?_ GE294.out | refine zs ?_ GE308.out | refine zs ?_ GE316.out)))
                  have n4_ := ak_ (blk_below (g := gb294) (o := .cells #[.string a0_0, .int .i64 a0_1, .slice A0_2 l0_2.length c0_2] 24 (0, 0)) (by (with_reducible repeat (first | apply zn | apply zd | apply za)); exact BK294.out) hb)
                  have n5_ := ak_ (blk_below (g := gb308) (o := .cells #[.string t301, .int .i64 t302, .slice Ao31 t303.length co31] 24 (0, 0)) (by (with_reducible repeat (first | apply zn | apply zd | apply za)); exact BK308.out) hb)
                  have n6_ := ak_ (blk_below (g := gb316) (o := .cells #[.string t309, .int .i64 t310, .slice Ao38 t311.length co38] 24 (0, 0)) (by (with_reducible repeat (first | apply zn | apply zd | apply za)); exact BK316.out) hb)
                  have n7_ := ak_ (ps (by with_reducible repeat first | exact HB.out | apply pa | apply pd | apply pe | refine zs ?_ GE294.out | refine zs ?_ GE308.out | refine zs ?_ GE316.out) hb)
                  clear HO299 HO305 HO313 BK294 BK308 BK316 HB
                  have HO299 := n0_
                  have HO305 := n1_
                  have HO313 := n2_
                  have HO320 := n3_
                  have BK294 := n4_
                  have BK308 := n5_
                  have BK316 := n6_
                  have HB := n7_
                  clear n0_ n1_ n2_ n3_ n4_ n5_ n6_ n7_
                  (try clear hb hk hi)
                  refine hK.out _ _ ⟨(zc BK308.out 0).trans rfl, (zc BK308.out 1).trans rfl, (zc BK308.out 2).trans rfl, (zc BK316.out 0).trans rfl, (zc BK316.out 1).trans rfl, (zc BK316.out 2).trans rfl⟩ (fun hHeld => ?_)
                  clear hK K
                  refine norm_ (a' := ?_) ?_ ?_
                  rotate_left
                  · show Act.put _ (some 66) _ = _
                    simp only [Act.put, sa_, sz_, ss_, i64_w, i32_w]
                    rfl
                  refine one_ (i := 20) (N := some 67) (b_ 26 8388607) rfl rfl (one_of HT_.out (by kernel_rfl)) (by decide) (fun K hK => ?_)
                  have hcv50 := own_string (P := Tryd.prog) Tryd.underlying25 Tryd.underlying5 Tryd.underlying9 (Kd.own_of_R HO320.out)
                  refine value_ (w1 := ?_) (v := ?_) (by rfl) rfl ?_ ?_
                  rotate_left 2
                  · go_simp
                    constructor
                    · rfl
                    rfl
                  clear hcv50
                  refine hK.out _ _ ⟨(zc BK308.out 0).trans rfl, (zc BK308.out 1).trans rfl, (zc BK308.out 2).trans rfl, (zc BK316.out 0).trans rfl, (zc BK316.out 1).trans rfl, (zc BK316.out 2).trans rfl⟩ (fun hHeld => ?_)
                  clear hK K
                  refine norm_ (a' := ?_) ?_ ?_
                  rotate_left
                  · show Act.put _ (some 67) _ = _
                    simp only [Act.put, sa_, sz_, ss_, i64_w, i32_w]
                    rfl
                  exact norm_ (by simp only [putAll, Act.put, sa_, sz_, ss_]) (hCont (v319) _ ⟨hHeld, (by (with_reducible repeat (first | apply Kd.R_alloc | apply Kd.R_drewN | apply Kd.R_drew)); exact Kd.R_mono HO299.out (fun _ hk => hk.2)), (by (with_reducible repeat (first | apply Kd.R_alloc | apply Kd.R_drewN | apply Kd.R_drew)); exact HO305.out), (by (with_reducible repeat (first | apply Kd.R_alloc | apply Kd.R_drewN | apply Kd.R_drew)); exact HO313.out), (by (with_reducible repeat (first | apply Kd.R_alloc | apply Kd.R_drewN | apply Kd.R_drew)); exact Kd.R_mono HO320.out (fun _ hk => hk.2)), (by (with_reducible repeat (first | apply zn | apply zd | apply za)); exact BK294.out), (by (with_reducible repeat (first | apply zn | apply zd | apply za)); exact BK308.out), (by (with_reducible repeat (first | apply zn | apply zd | apply za)); exact BK316.out), (by with_reducible repeat first | exact HB.out | apply pa | apply pd | apply pe | refine zs ?_ GE294.out | refine zs ?_ GE308.out | refine zs ?_ GE316.out)⟩)
                rintro v319 w51 ⟨hS_, h0_, h1_, h2_, h3_, h4_, h5_, h6_, h7_⟩
                have n0_ : Aside0 (Kd.R (Kd.int .u8) 5 w51 w.heap.size (fun k_ => some k_ ≠ (v319 : Value).ownBlock) v298 t297) := ⟨h0_⟩
                have n1_ : Aside0 (Kd.R k61 61 w51 w.heap.size (fun k_ => some k_ ≠ (.slice Ao38 t311.length co38 : Value).ownBlock) (.slice Ao31 t303.length co31) t303) := ⟨h1_⟩
                have n2_ : Aside0 (Kd.R k61 61 w51 w.heap.size (fun k_ => some k_ ≠ (.slice Ao31 t303.length co31 : Value).ownBlock) (.slice Ao38 t311.length co38) t311) := ⟨h2_⟩
                have n3_ : Aside0 (Kd.R (Kd.int .u8) 5 w51 w.heap.size (fun k_ => some k_ ≠ (v298 : Value).ownBlock) v319 t318) := ⟨h3_⟩
                have n4_ : Aside0 (w51.heap[gb294]? = some (.cells #[.string a0_0, .int .i64 a0_1, .slice A0_2 l0_2.length c0_2] 24 (0, 0))) := ⟨h4_⟩
                have n5_ : Aside0 (w51.heap[gb308]? = some (.cells #[.string t301, .int .i64 t302, .slice Ao31 t303.length co31] 24 (0, 0))) := ⟨h5_⟩
                have n6_ : Aside0 (w51.heap[gb316]? = some (.cells #[.string t309, .int .i64 t310, .slice Ao38 t311.length co38] 24 (0, 0))) := ⟨h6_⟩
                have n7_ : Aside0 (Below w.heap.size w w51) := ⟨h7_⟩
                clear HO299 HO305 HO313 BK294 BK308 BK316 HB h0_ h1_ h2_ h3_ h4_ h5_ h6_ h7_
                have HO299 := n0_
                have HO305 := n1_
                have HO313 := n2_
                have HO320 := n3_
                have BK294 := n4_
                have BK308 := n5_
                have BK316 := n6_
                have HB := n7_
                clear n0_ n1_ n2_ n3_ n4_ n5_ n6_ n7_
                have hHeld : w51.cell? ⟨gb308, 0, none⟩ = some (.string t301) ∧ w51.cell? ⟨gb308, 1, none⟩ = some (.int .i64 t302) ∧ w51.cell? ⟨gb308, 2, none⟩ = some (.slice Ao31 t303.length co31) ∧ w51.cell? ⟨gb316, 0, none⟩ = some (.string t309) ∧ w51.cell? ⟨gb316, 1, none⟩ = some (.int .i64 t310) ∧ w51.cell? ⟨gb316, 2, none⟩ = some (.slice Ao38 t311.length co38) := hS_
                refine norm_ (a' := ?_) ?_ ?_
                rotate_left
                · simp only [putAll, Act.put, sa_, sz_, ss_]
                  rfl
                refine pure_ (i := 23) (N := some 70) (v := ?_) (a' := ?_) (b_ 26 16777215) rfl rfl (any_of HT_.out (by kernel_rfl)) (fun _ _ _ h => h) (Or.inl ⟨by rfl, ?_⟩) ?_ ?_; rotate_left; (· intro w'; go_simp; with_reducible rfl); rotate_left; (· simp only [Act.put, sa_, sz_, ss_, i64_w, i32_w]; rfl)
                refine pure_ (i := 24) (N := some 71) (v := ?_) (a' := ?_) (b_ 26 33554431) rfl rfl (any_of HT_.out (by kernel_rfl)) (fun _ _ _ h => h) (Or.inl ⟨by rfl, ?_⟩) ?_ ?_; rotate_left; (· intro w'; go_simp; with_reducible rfl); rotate_left; (· simp only [Act.put, sa_, sz_, ss_, i64_w, i32_w]; rfl)
                refine pure_ (i := 25) (N := some 72) (v := ?_) (a' := ?_) (b_ 26 67108863) rfl rfl (any_of HT_.out (by kernel_rfl)) (fun _ _ _ h => h) (Or.inl ⟨by rfl, ?_⟩) ?_ ?_; rotate_left; (· intro w'; go_simp; with_reducible rfl); rotate_left; (· simp only [Act.put, sa_, sz_, ss_, i64_w, i32_w]; rfl)
                refine done_ (done_of HT_.out (by kernel_rfl)) ?_
                try go_wp2
                go_meet
                case rel => exact ⟨_, (((strOfNums t318).toList != (strOfNums l1).toList)), (by first | rfl | simp [*]), H', ⟨by have := HJ4.out; first | omega | exact Nat.le_refl _⟩, ⟨by (with_reducible repeat (first | apply Kd.R_alloc | apply Kd.R_drewN | apply Kd.R_drew)); exact Kd.R_mono HO299.out (fun _ hk => trivial)⟩, ⟨by (with_reducible repeat (first | apply Kd.R_alloc | apply Kd.R_drewN | apply Kd.R_drew)); exact HO305.out⟩, ⟨by (with_reducible repeat (first | apply Kd.R_alloc | apply Kd.R_drewN | apply Kd.R_drew)); exact HO313.out⟩, ⟨by (with_reducible repeat (first | apply zn | apply zd | apply za)); exact BK294.out⟩, ⟨by (with_reducible repeat (first | apply zn | apply zd | apply za)); exact BK308.out⟩, ⟨by (with_reducible repeat (first | apply zn | apply zd | apply za)); exact BK316.out⟩, ⟨by repeat (first | (with_reducible first | exact HB.out | apply pa | apply pd | apply pe | refine zs ?_ GE294.out | refine zs ?_ GE308.out | refine zs ?_ GE316.out) | exact HB.out)⟩⟩
              rw [if_neg c43] at H
              have c43b0 : (t307 == 0) = false := beq_eq_false_iff_ne.mpr c43
              have c43b1 : (t307 != 0) = true := bne_iff_ne.mpr c43
              have H' := ak_ H
              clear H
              try go_wp2
              have n0_ : Aside0 (Kd.R (Kd.int .u8) 5 (((w34.setCell ⟨gb316, 0, none⟩ (.string t309)).setCell ⟨gb316, 1, none⟩ (.int .i64 t310)).setCell ⟨gb316, 2, none⟩ (.slice Ao38 t311.length co38)) w.heap.size (fun _ => True) v298 t297) := ⟨by (with_reducible repeat (first | apply Kd.R_alloc | apply Kd.R_drewN | apply Kd.R_drew)); exact Kd.R_mono (Kd.R_far (p := ⟨gb316, 2, none⟩) (Kd.R_far (p := ⟨gb316, 1, none⟩) (Kd.R_far (p := ⟨gb316, 0, none⟩) (Kd.R_types HO299.out BK316.out (by decide)) (fun _ hk => hk.2) (.string t309)) (fun _ hk => hk.2) (.int .i64 t310)) (fun _ hk => hk.2) (.slice Ao38 t311.length co38)) (fun _ hk => trivial)⟩
              have n1_ : Aside0 (Kd.R k61 61 (((w34.setCell ⟨gb316, 0, none⟩ (.string t309)).setCell ⟨gb316, 1, none⟩ (.int .i64 t310)).setCell ⟨gb316, 2, none⟩ (.slice Ao38 t311.length co38)) w.heap.size (fun k_ => some k_ ≠ (.slice Ao38 t311.length co38 : Value).ownBlock) (.slice Ao31 t303.length co31) t303) := ⟨by (with_reducible repeat (first | apply Kd.R_alloc | apply Kd.R_drewN | apply Kd.R_drew)); exact Kd.R_mono (Kd.R_far (p := ⟨gb316, 2, none⟩) (Kd.R_far (p := ⟨gb316, 1, none⟩) (Kd.R_far (p := ⟨gb316, 0, none⟩) (Kd.R_types HO305.out BK316.out (by decide)) (fun _ hk => hk.2) (.string t309)) (fun _ hk => hk.2) (.int .i64 t310)) (fun _ hk => hk.2) (.slice Ao38 t311.length co38)) (fun _ hk => hk.1.2)⟩
              have n2_ : Aside0 (Kd.R k61 61 (((w34.setCell ⟨gb316, 0, none⟩ (.string t309)).setCell ⟨gb316, 1, none⟩ (.int .i64 t310)).setCell ⟨gb316, 2, none⟩ (.slice Ao38 t311.length co38)) w.heap.size (fun k_ => some k_ ≠ (.slice Ao31 t303.length co31 : Value).ownBlock) (.slice Ao38 t311.length co38) t311) := ⟨by (with_reducible repeat (first | apply Kd.R_alloc | apply Kd.R_drewN | apply Kd.R_drew)); exact Kd.R_mono (Kd.R_far (p := ⟨gb316, 2, none⟩) (Kd.R_far (p := ⟨gb316, 1, none⟩) (Kd.R_far (p := ⟨gb316, 0, none⟩) (Kd.R_types HO313.out BK316.out (by decide)) (fun _ hk => hk.2) (.string t309)) (fun _ hk => hk.2) (.int .i64 t310)) (fun _ hk => hk.2) (.slice Ao38 t311.length co38)) (fun _ hk => hk.1.2)⟩
              have n3_ : Aside0 ((((w34.setCell ⟨gb316, 0, none⟩ (.string t309)).setCell ⟨gb316, 1, none⟩ (.int .i64 t310)).setCell ⟨gb316, 2, none⟩ (.slice Ao38 t311.length co38)).heap[gb294]? = some (.cells #[.string a0_0, .int .i64 a0_1, .slice A0_2 l0_2.length c0_2] 24 (0, 0))) := ⟨by (repeat (first | (with_reducible first | apply zn | apply zd | apply za) | refine zr ?_ NB294_316.out _)); (with_reducible repeat (first | apply zn | apply zd | apply za)); exact BK294.out⟩
              have n4_ : Aside0 ((((w34.setCell ⟨gb316, 0, none⟩ (.string t309)).setCell ⟨gb316, 1, none⟩ (.int .i64 t310)).setCell ⟨gb316, 2, none⟩ (.slice Ao38 t311.length co38)).heap[gb308]? = some (.cells #[.string t301, .int .i64 t302, .slice Ao31 t303.length co31] 24 (0, 0))) := ⟨by (repeat (first | (with_reducible first | apply zn | apply zd | apply za) | refine zr ?_ NB308_316.out _)); (with_reducible repeat (first | apply zn | apply zd | apply za)); exact BK308.out⟩
              have n5_ : Aside0 ((((w34.setCell ⟨gb316, 0, none⟩ (.string t309)).setCell ⟨gb316, 1, none⟩ (.int .i64 t310)).setCell ⟨gb316, 2, none⟩ (.slice Ao38 t311.length co38)).heap[gb316]? = some (.cells #[.string t309, .int .i64 t310, .slice Ao38 t311.length co38] 24 (0, 0))) := ⟨by (with_reducible repeat (first | apply zn | apply zd | apply za)); refine zp (cs := #[.string t309, .int .i64 t310, .slice none 0 0]) ?_ 2 _ rfl; (with_reducible repeat (first | apply zn | apply zd | apply za)); refine zp (cs := #[.string t309, .int .i64 0, .slice none 0 0]) ?_ 1 _ rfl; (with_reducible repeat (first | apply zn | apply zd | apply za)); refine zp (cs := #[.string ⟨#[]⟩, .int .i64 0, .slice none 0 0]) ?_ 0 _ rfl; (with_reducible repeat (first | apply zn | apply zd | apply za)); exact BK316.out⟩
              have n6_ : Aside0 (Below w.heap.size w (((w34.setCell ⟨gb316, 0, none⟩ (.string t309)).setCell ⟨gb316, 1, none⟩ (.int .i64 t310)).setCell ⟨gb316, 2, none⟩ (.slice Ao38 t311.length co38))) := ⟨by repeat (first | (with_reducible first | exact HB.out | apply pa | apply pd | apply pe | refine zs ?_ GE294.out | refine zs ?_ GE308.out | refine zs ?_ GE316.out) | exact HB.out)⟩
              (try clear HO299)
              generalize (((w34.setCell ⟨gb316, 0, none⟩ (.string t309)).setCell ⟨gb316, 1, none⟩ (.int .i64 t310)).setCell ⟨gb316, 2, none⟩ (.slice Ao38 t311.length co38)) = w52 at n0_ n1_ n2_ n3_ n4_ n5_ n6_ ⊢
              have HO299 := n0_
              have HO305 := n1_
              have HO313 := n2_
              have BK294 := n3_
              have BK308 := n4_
              have BK316 := n5_
              have HB := n6_
              clear n0_ n1_ n2_ n3_ n4_ n5_ n6_
              have n0_ := ak_ (Kd.R_drew HO299.out)
              have n1_ := ak_ (Kd.R_drew HO305.out)
              have n2_ := ak_ (Kd.R_drew HO313.out)
              have n3_ := ak_ (zd BK294.out)
              have n4_ := ak_ (zd BK308.out)
              have n5_ := ak_ (zd BK316.out)
              have n6_ := ak_ (pe HB.out)
              clear HO299 HO305 HO313 BK294 BK308 BK316 HB
              have HO299 := n0_
              have HO305 := n1_
              have HO313 := n2_
              have BK294 := n3_
              have BK308 := n4_
              have BK316 := n5_
              have HB := n6_
              clear n0_ n1_ n2_ n3_ n4_ n5_ n6_
              refine start_ (n := 26) (S := fun w' => w'.cell? ⟨gb308, 0, none⟩ = some (.string t301) ∧ w'.cell? ⟨gb308, 1, none⟩ = some (.int .i64 t302) ∧ w'.cell? ⟨gb308, 2, none⟩ = some (.slice Ao31 t303.length co31) ∧ w'.cell? ⟨gb316, 0, none⟩ = some (.string t309) ∧ w'.cell? ⟨gb316, 1, none⟩ = some (.int .i64 t310) ∧ w'.cell? ⟨gb316, 2, none⟩ = some (.slice Ao38 t311.length co38)) (ds := []) #[false, false, false, false, false, false, false, false, false, false, false, false, false, false, false, false, false, false, false, false, false, false, false, false, false, false] (by kernel_rfl) rfl rfl ⟨(zc BK308.out 0).trans rfl, (zc BK308.out 1).trans rfl, (zc BK308.out 2).trans rfl, (zc BK316.out 0).trans rfl, (zc BK316.out 1).trans rfl, (zc BK316.out 2).trans rfl⟩ (fun hHeld => ?_); refine with_tabW uD.tab10 uD.bits10 (fun HT_ HW_ => ?_)
              generalize w52.drew = w53 at HO299 HO305 HO313 BK294 BK308 BK316 HB hHeld ⊢
              refine take_ (i := 0) (N := some 47) (v := ?_) (a' := ?_) (b_ 26 1) rfl rfl (take_ofW HT_.out HW_.out (by kernel_rfl)) (fun _ _ _ h => h) (Or.inl ⟨by rfl, ?_⟩) hHeld ?_ ?_
              rotate_left
              · rintro w' ⟨s0, s1, s2, s3, s4, s5⟩
                go_simp
                with_reducible rfl
              rotate_left
              · simp only [Act.put, sa_, sz_, ss_, i64_w, i32_w]
                rfl
              refine take_ (i := 1) (N := some 48) (v := ?_) (a' := ?_) (b_ 26 3) rfl rfl (take_ofW HT_.out HW_.out (by kernel_rfl)) (fun _ _ _ h => h) (Or.inl ⟨by rfl, ?_⟩) hHeld ?_ ?_
              rotate_left
              · rintro w' ⟨s0, s1, s2, s3, s4, s5⟩
                go_simp
                with_reducible rfl
              rotate_left
              · simp only [Act.put, sa_, sz_, ss_, i64_w, i32_w]
                rfl
              refine one_ (i := 2) (N := some 49) (b_ 26 7) rfl rfl (one_of HT_.out (by kernel_rfl)) (by decide) (fun K hK => ?_)
              refine goes_ Tryd.func12 (by kernel_rfl) rfl #[.agg #[.string t301, .int .i64 t302, .slice Ao31 t303.length co31], .agg #[.string t309, .int .i64 t310, .slice Ao38 t311.length co38]] (by rfl) rfl rfl (by (try simp only [mt_, mc_, mn_]); first | done | rfl) ?_
              with_reducible refine (uR13_Same.calls kj4 t301 t302 _ _ t303 t309 t310 _ _ t311 true _ ?side1 ?side2 ?side3 ?side4 A39.out).mono ?_
              (case side1 => repeat (first | exact (Kd.R_reads' HO305.out).2.2 | (with_reducible refine Kd.C_alloc ?_ _) | (with_reducible refine Kd.C_drewN ?_ _) | (with_reducible refine Kd.C_drew ?_)))
              (case side2 => exact (Kd.R_reads' HO305.out).2.1)
              (case side3 => repeat (first | exact (Kd.R_reads' HO313.out).2.2 | (with_reducible refine Kd.C_alloc ?_ _) | (with_reducible refine Kd.C_drewN ?_ _) | (with_reducible refine Kd.C_drew ?_)))
              (case side4 => exact (Kd.R_reads' HO313.out).2.1)
              rintro e w54 ⟨rfl, hb⟩
              refine ⟨_, rfl, ?_⟩
              have n0_ := ak_ (Kd.R_below (by (with_reducible repeat (first | apply Kd.R_alloc | apply Kd.R_drewN | apply Kd.R_drew)); exact HO299.out) hb)
              have n1_ := ak_ (Kd.R_below (by (with_reducible repeat (first | apply Kd.R_alloc | apply Kd.R_drewN | apply Kd.R_drew)); exact HO305.out) hb)
              have n2_ := ak_ (Kd.R_below (by (with_reducible repeat (first | apply Kd.R_alloc | apply Kd.R_drewN | apply Kd.R_drew)); exact HO313.out) hb)
              have n3_ := ak_ (blk_below (g := gb294) (o := .cells #[.string a0_0, .int .i64 a0_1, .slice A0_2 l0_2.length c0_2] 24 (0, 0)) (by (with_reducible repeat (first | apply zn | apply zd | apply za)); exact BK294.out) hb)
              have n4_ := ak_ (blk_below (g := gb308) (o := .cells #[.string t301, .int .i64 t302, .slice Ao31 t303.length co31] 24 (0, 0)) (by (with_reducible repeat (first | apply zn | apply zd | apply za)); exact BK308.out) hb)
              have n5_ := ak_ (blk_below (g := gb316) (o := .cells #[.string t309, .int .i64 t310, .slice Ao38 t311.length co38] 24 (0, 0)) (by (with_reducible repeat (first | apply zn | apply zd | apply za)); exact BK316.out) hb)
              have n6_ := ak_ (ps (by with_reducible repeat first | exact HB.out | apply pa | apply pd | apply pe | refine zs ?_ GE294.out | refine zs ?_ GE308.out | refine zs ?_ GE316.out) hb)
              clear HO299 HO305 HO313 BK294 BK308 BK316 HB
              have HO299 := n0_
              have HO305 := n1_
              have HO313 := n2_
              have BK294 := n3_
              have BK308 := n4_
              have BK316 := n5_
              have HB := n6_
              clear n0_ n1_ n2_ n3_ n4_ n5_ n6_
              (try clear hb hk hi)
              refine hK.out _ _ ⟨(zc BK308.out 0).trans rfl, (zc BK308.out 1).trans rfl, (zc BK308.out 2).trans rfl, (zc BK316.out 0).trans rfl, (zc BK316.out 1).trans rfl, (zc BK316.out 2).trans rfl⟩ (fun hHeld => ?_)
              clear hK K
              refine norm_ (a' := ?_) ?_ ?_
              rotate_left
              · show Act.put _ (some 49) _ = _
                simp only [Act.put, sa_, sz_, ss_, i64_w, i32_w]
                rfl
              refine pure_ (i := 3) (N := some 50) (v := ?_) (a' := ?_) (b_ 26 15) rfl rfl (any_of HT_.out (by kernel_rfl)) (fun _ _ _ h => h) (Or.inl ⟨by rfl, ?_⟩) ?_ ?_; rotate_left; (· intro w'; go_simp; with_reducible rfl); rotate_left; (· simp only [Act.put, sa_, sz_, ss_, i64_w, i32_w]; rfl)
              refine pure_ (i := 4) (N := some 51) (v := ?_) (a' := ?_) (b_ 26 31) rfl rfl (any_of HT_.out (by kernel_rfl)) (fun _ _ _ h => h) (Or.inl ⟨by rfl, ?_⟩) ?_ ?_; rotate_left; (· intro w'; go_simp; with_reducible rfl); rotate_left; (· simp only [Act.put, sa_, sz_, ss_, i64_w, i32_w]; rfl)
              refine pure_ (i := 5) (N := some 52) (v := ?_) (a' := ?_) (b_ 26 63) rfl rfl (any_of HT_.out (by kernel_rfl)) (fun _ _ _ h => h) (Or.inl ⟨by rfl, ?_⟩) ?_ ?_; rotate_left; (· intro w'; go_simp; with_reducible rfl); rotate_left; (· simp only [Act.put, sa_, sz_, ss_, i64_w, i32_w]; rfl)
              refine pure_ (i := 6) (N := some 53) (v := ?_) (a' := ?_) (b_ 26 127) rfl rfl (any_of HT_.out (by kernel_rfl)) (fun _ _ _ h => h) (Or.inl ⟨by rfl, ?_⟩) ?_ ?_; rotate_left; (· intro w'; go_simp; with_reducible rfl); rotate_left; (· simp only [Act.put, sa_, sz_, ss_, i64_w, i32_w]; rfl)
              refine pure_ (i := 7) (N := some 54) (v := ?_) (a' := ?_) (b_ 26 255) rfl rfl (any_of HT_.out (by kernel_rfl)) (fun _ _ _ h => h) (Or.inl ⟨by rfl, ?_⟩) ?_ ?_; rotate_left; (· intro w'; go_simp; with_reducible rfl); rotate_left; (· simp only [Act.put, sa_, sz_, ss_, i64_w, i32_w]; rfl)
              refine pure_ (i := 8) (N := some 55) (v := ?_) (a' := ?_) (b_ 26 511) rfl rfl (any_of HT_.out (by kernel_rfl)) (fun _ _ _ h => h) (Or.inl ⟨by rfl, ?_⟩) ?_ ?_; rotate_left; (· intro w'; go_simp; with_reducible rfl); rotate_left; (· simp only [Act.put, sa_, sz_, ss_, i64_w, i32_w]; rfl)
              refine pure_ (i := 9) (N := some 56) (v := ?_) (a' := ?_) (b_ 26 1023) rfl rfl (any_of HT_.out (by kernel_rfl)) (fun _ _ _ h => h) (Or.inl ⟨by rfl, ?_⟩) ?_ ?_; rotate_left; (· intro w'; go_simp; with_reducible rfl); rotate_left; (· simp only [Act.put, sa_, sz_, ss_, i64_w, i32_w]; rfl)
              refine pure_ (i := 10) (N := some 57) (v := ?_) (a' := ?_) (b_ 26 2047) rfl rfl (any_of HT_.out (by kernel_rfl)) (fun _ _ _ h => h) (Or.inl ⟨by rfl, ?_⟩) ?_ ?_; rotate_left; (· intro w'; go_simp; with_reducible rfl); rotate_left; (· simp only [Act.put, sa_, sz_, ss_, i64_w, i32_w]; rfl)
              refine pure_ (i := 11) (N := some 58) (v := ?_) (a' := ?_) (b_ 26 4095) rfl rfl (any_of HT_.out (by kernel_rfl)) (fun _ _ _ h => h) (Or.inl ⟨by rfl, ?_⟩) ?_ ?_; rotate_left; (· intro w'; go_simp; with_reducible rfl); rotate_left; (· simp only [Act.put, sa_, sz_, ss_, i64_w, i32_w]; rfl)
              refine pure_ (i := 12) (N := some 59) (v := ?_) (a' := ?_) (b_ 26 8191) rfl rfl (any_of HT_.out (by kernel_rfl)) (fun _ _ _ h => h) (Or.inl ⟨by rfl, ?_⟩) ?_ ?_; rotate_left; (· intro w'; go_simp; with_reducible rfl); rotate_left; (· simp only [Act.put, sa_, sz_, ss_, i64_w, i32_w]; rfl)
              refine pure_ (i := 13) (N := some 60) (v := ?_) (a' := ?_) (b_ 26 16383) rfl rfl (any_of HT_.out (by kernel_rfl)) (fun _ _ _ h => h) (Or.inl ⟨by rfl, ?_⟩) ?_ ?_; rotate_left; (· intro w'; go_simp; with_reducible rfl); rotate_left; (· simp only [Act.put, sa_, sz_, ss_, i64_w, i32_w]; rfl)
              refine pure_ (i := 14) (N := some 61) (v := ?_) (a' := ?_) (b_ 26 32767) rfl rfl (any_of HT_.out (by kernel_rfl)) (fun _ _ _ h => h) (Or.inl ⟨by rfl, ?_⟩) ?_ ?_; rotate_left; (· intro w'; go_simp; with_reducible rfl); rotate_left; (· simp only [Act.put, sa_, sz_, ss_, i64_w, i32_w]; rfl)
              refine pure_ (i := 15) (N := some 62) (v := ?_) (a' := ?_) (b_ 26 65535) rfl rfl (any_of HT_.out (by kernel_rfl)) (fun _ _ _ h => h) (Or.inl ⟨by rfl, ?_⟩) ?_ ?_; rotate_left; (· intro w'; go_simp; with_reducible rfl); rotate_left; (· simp only [Act.put, sa_, sz_, ss_, i64_w, i32_w]; rfl)
              refine pure_ (i := 16) (N := some 63) (v := ?_) (a' := ?_) (b_ 26 131071) rfl rfl (any_of HT_.out (by kernel_rfl)) (fun _ _ _ h => h) (Or.inl ⟨by rfl, ?_⟩) ?_ ?_; rotate_left; (· intro w'; go_simp; with_reducible rfl); rotate_left; (· simp only [Act.put, sa_, sz_, ss_, i64_w, i32_w]; rfl)
              refine pure_ (i := 17) (N := some 64) (v := ?_) (a' := ?_) (b_ 26 262143) rfl rfl (any_of HT_.out (by kernel_rfl)) (fun _ _ _ h => h) (Or.inl ⟨by rfl, ?_⟩) ?_ ?_; rotate_left; (· intro w'; go_simp; with_reducible rfl); rotate_left; (· simp only [Act.put, sa_, sz_, ss_, i64_w, i32_w]; rfl)
              refine pure_ (i := 18) (N := some 65) (v := undef) (a' := ?_) (b_ 26 524287) rfl rfl (any_of HT_.out (by kernel_rfl)) (fun _ _ _ h => h) (Or.inr ⟨by rfl, rfl⟩) ?_ ?_
              rotate_left
              · simp only [Act.put, sa_, sz_, ss_, i64_w, i32_w]
                rfl
              refine pure_ (i := 19) (N := some 66) (v := undef) (a' := ?_) (b_ 26 1048575) rfl rfl (any_of HT_.out (by kernel_rfl)) (fun _ _ _ h => h) (Or.inr ⟨by rfl, rfl⟩) ?_ ?_
              rotate_left
              · simp only [Act.put, sa_, sz_, ss_, i64_w, i32_w]
                rfl
              refine pure_ (i := 20) (N := some 67) (v := undef) (a' := ?_) (b_ 26 2097151) rfl rfl (any_of HT_.out (by kernel_rfl)) (fun _ _ _ h => h) (Or.inr ⟨by rfl, rfl⟩) ?_ ?_
              rotate_left
              · simp only [Act.put, sa_, sz_, ss_, i64_w, i32_w]
                rfl
              refine pure_ (i := 21) (N := some 68) (v := undef) (a' := ?_) (b_ 26 4194303) rfl rfl (any_of HT_.out (by kernel_rfl)) (fun _ _ _ h => h) (Or.inr ⟨by rfl, rfl⟩) ?_ ?_
              rotate_left
              · simp only [Act.put, sa_, sz_, ss_, i64_w, i32_w]
                rfl
              refine pure_ (i := 22) (N := some 69) (v := undef) (a' := ?_) (b_ 26 8388607) rfl rfl (any_of HT_.out (by kernel_rfl)) (fun _ _ _ h => h) (Or.inr ⟨by rfl, rfl⟩) ?_ ?_
              rotate_left
              · simp only [Act.put, sa_, sz_, ss_, i64_w, i32_w]
                rfl
              refine pure_ (i := 23) (N := some 70) (v := undef) (a' := ?_) (b_ 26 16777215) rfl rfl (any_of HT_.out (by kernel_rfl)) (fun _ _ _ h => h) (Or.inr ⟨by rfl, rfl⟩) ?_ ?_
              rotate_left
              · simp only [Act.put, sa_, sz_, ss_, i64_w, i32_w]
                rfl
              refine pure_ (i := 24) (N := some 71) (v := ?_) (a' := ?_) (b_ 26 33554431) rfl rfl (any_of HT_.out (by kernel_rfl)) (fun _ _ _ h => h) (Or.inl ⟨by rfl, ?_⟩) ?_ ?_; rotate_left; (· intro w'; go_simp; with_reducible rfl); rotate_left; (· simp only [Act.put, sa_, sz_, ss_, i64_w, i32_w]; rfl)
              refine pure_ (i := 25) (N := some 72) (v := ?_) (a' := ?_) (b_ 26 67108863) rfl rfl (any_of HT_.out (by kernel_rfl)) (fun _ _ _ h => h) (Or.inl ⟨by rfl, ?_⟩) ?_ ?_; rotate_left; (· intro w'; go_simp; with_reducible rfl); rotate_left; (· simp only [Act.put, sa_, sz_, ss_, i64_w, i32_w]; rfl)
              refine done_ (done_of HT_.out (by kernel_rfl)) ?_
              try go_wp2
              go_meet
              case rel => exact ⟨_, (false), (by first | rfl | simp [*]), H', ⟨by have := HJ4.out; first | omega | exact Nat.le_refl _⟩, ⟨by (with_reducible repeat (first | apply Kd.R_alloc | apply Kd.R_drewN | apply Kd.R_drew)); exact HO299.out⟩, ⟨by (with_reducible repeat (first | apply Kd.R_alloc | apply Kd.R_drewN | apply Kd.R_drew)); exact HO305.out⟩, ⟨by (with_reducible repeat (first | apply Kd.R_alloc | apply Kd.R_drewN | apply Kd.R_drew)); exact HO313.out⟩, ⟨by (with_reducible repeat (first | apply zn | apply zd | apply za)); exact BK294.out⟩, ⟨by (with_reducible repeat (first | apply zn | apply zd | apply za)); exact BK308.out⟩, ⟨by (with_reducible repeat (first | apply zn | apply zd | apply za)); exact BK316.out⟩, ⟨by repeat (first | (with_reducible first | exact HB.out | apply pa | apply pd | apply pe | refine zs ?_ GE294.out | refine zs ?_ GE308.out | refine zs ?_ GE316.out) | exact HB.out)⟩⟩
            rw [if_neg c42] at H
            have c42b0 : (t307 == t315) = false := beq_eq_false_iff_ne.mpr c42
            have c42b1 : (t307 != t315) = true := bne_iff_ne.mpr c42
            exfalso
            revert H
            cases kj4 <;> simp [uD.j1, HTR_.out]
          rw [if_neg c41] at H
          have c41b0 : (t306 == t314) = false := beq_eq_false_iff_ne.mpr c41
          have c41b1 : (t306 != t314) = true := bne_iff_ne.mpr c41
          (first | rw [c41b0] | (simp only [i64_w, i32_w]; rw [c41b0]) | skip)
          exfalso
          revert H
          cases kj4 <;> simp [uD.j1, HTR_.out]
        replace c40 := Bool.eq_false_iff.mpr c40
        subst c40
        have H1 : (uD.j1 kj4 t297 true a0_0 a0_1 l0_2) = some r := by rw [if_neg (show ¬ (false = true) by decide)] at H; exact H
        clear H
        have H := H1
        clear H1
        exfalso
        revert H
        cases kj4 <;> simp [uD.j1, HTR_.out]
       case rest =>
        clear HC20
        try clear c1
        try clear p2
        try clear c4
        try clear hcv4
        try clear hcv5
        try clear c8
        try clear c12
        try clear c40
        try clear c41
        try clear c41b0
        try clear c41b1
        try clear c42
        try clear c42b0
        try clear c42b1
        try clear c43
        try clear c43b0
        try clear c43b1
        try clear hcv48
        try clear hcv49
        try clear hcv50
        obtain ⟨kq, x72_19, rfl, HA, HJ19, HO_5, HO_309002, HO_317002, BK294, BK308, BK316, HB⟩ := hcut
        cases kq with
        | zero => exact absurd HA.out (by simp [uD.j1])
        | succ kj19 =>
         have H := HA.out
         clear HA
         simp only [uD.j1] at H
         by_cases c55 : x72_19 = true
         · subst c55
           have H1 : (some false) = some r := by rw [if_pos rfl] at H; exact H
           clear H
           have H := H1
           clear H1
           exact absurd ((Option.some.inj H).trans HTR_.out) (by decide)
         replace c55 := Bool.eq_false_iff.mpr c55
         subst c55
         have H1 : ((uK.f kj19 a0_0 a0_1 l0_2).bind fun bt321 => (if bt321.2 = 0 then ((code_TakeDef.f t297).bind fun bt323 => (if bt323.2.2.2.2 = 0 then ((uR13_Same.f kj19 bt323.1 bt323.2.1 bt323.2.2.1 a0_0 a0_1 l0_2).bind fun t331 => (some t331)) else (some false))) else (some true))) = some r := by rw [if_neg (show ¬ (false = true) by decide)] at H; exact H
         clear H
         have H := H1
         clear H1
         replace H := ob_ H
         obtain ⟨⟨t321, t322⟩, A560, H⟩ := H
         replace H : (if t322 = 0 then ((code_TakeDef.f t297).bind fun bt323 => (if bt323.2.2.2.2 = 0 then ((uR13_Same.f kj19 bt323.1 bt323.2.1 bt323.2.2.1 a0_0 a0_1 l0_2).bind fun t331 => (some t331)) else (some false))) else (some true)) = some r := H
         have A56 := ak_ A560
         clear A560
         by_cases c57 : t322 = 0
         · rw [if_pos c57] at H
           have c57b0 : (t322 == 0) = true := beq_iff_eq.mpr c57
           have c57b1 : (t322 != 0) = false := bne_eq_false_iff_eq.mpr c57
           clear c57
           replace H := ob_ H
           obtain ⟨⟨t323, t324, t325, t328, t329⟩, A580, H⟩ := H
           replace H : (if t329 = 0 then ((uR13_Same.f kj19 t323 t324 t325 a0_0 a0_1 l0_2).bind fun t331 => (some t331)) else (some false)) = some r := H
           have A58 := ak_ A580
           clear A580
           by_cases c59 : t329 = 0
           · rw [if_pos c59] at H
             have c59b0 : (t329 == 0) = true := beq_iff_eq.mpr c59
             have c59b1 : (t329 != 0) = false := bne_eq_false_iff_eq.mpr c59
             clear c59
             replace H := ob_ H
             obtain ⟨t331, A600, H⟩ := H
             replace H : (some t331) = some r := H
             have A60 := ak_ A600
             clear A600
             obtain rfl := Option.some.inj H
             have hnb61 := NB294_308.out
             have hnc61 := NB308_294.out
             have hnb62 := NB294_316.out
             have hnc62 := NB316_294.out
             have hcz63_0 : wc.cell? ⟨gb294, 0, none⟩ = some (.string a0_0) := (zc BK294.out 0).trans rfl
             have hcz63_1 : wc.cell? ⟨gb294, 1, none⟩ = some (.int .i64 a0_1) := (zc BK294.out 1).trans rfl
             have hcz63_2 : wc.cell? ⟨gb294, 2, none⟩ = some (.slice A0_2 l0_2.length c0_2) := (zc BK294.out 2).trans rfl
             have hfz63_0 := zf BK294.out 0
             have hfz63_1 := zf BK294.out 1
             have hfz63_2 := zf BK294.out 2
             go_wp2_with (first | ((with_reducible refine gate_callee (f := 13) rfl ?_); refine goesL_ (some 75) rfl rfl Tryd.func13 (by kernel_rfl) rfl #[.agg #[.string a0_0, .int .i64 a0_1, .slice A0_2 l0_2.length c0_2]] rfl (by (try simp only [mt_, mc_, mn_]); first | done | rfl) ?_; (with_reducible refine (uK.calls kj19 a0_0 a0_1 _ _ l0_2 t321 t322 _ ?side1 ?side2 A56.out).mono ?_); (case side1 => repeat (first | exact (Kd.C_below HR0_2.out HB.out) | (with_reducible refine Kd.C_alloc ?_ _) | (with_reducible refine Kd.C_drewN ?_ _) | (with_reducible refine Kd.C_drew ?_))); (case side2 => exact HC0_2.out); rintro e w64 ⟨rfl, hb⟩; refine ⟨_, rfl, ?_⟩; have n0_ := ak_ (Kd.R_below (by (with_reducible repeat (first | apply Kd.R_alloc | apply Kd.R_drewN | apply Kd.R_drew)); exact HO_5.out) hb); have n1_ := ak_ (Kd.R_below (by (with_reducible repeat (first | apply Kd.R_alloc | apply Kd.R_drewN | apply Kd.R_drew)); exact HO_309002.out) hb); have n2_ := ak_ (Kd.R_below (by (with_reducible repeat (first | apply Kd.R_alloc | apply Kd.R_drewN | apply Kd.R_drew)); exact HO_317002.out) hb); have n3_ := ak_ (blk_below (g := gb294) (o := .cells #[.string a0_0, .int .i64 a0_1, .slice A0_2 l0_2.length c0_2] 24 (0, 0)) (by (with_reducible repeat (first | apply zn | apply zd | apply za)); exact BK294.out) hb); have n4_ := ak_ (blk_below (g := gb308) (o := .cells #[.string t301, .int .i64 t302, .slice Ao31 t303.length co31] 24 (0, 0)) (by (with_reducible repeat (first | apply zn | apply zd | apply za)); exact BK308.out) hb); have n5_ := ak_ (blk_below (g := gb316) (o := .cells #[.string t309, .int .i64 t310, .slice Ao38 t311.length co38] 24 (0, 0)) (by (with_reducible repeat (first | apply zn | apply zd | apply za)); exact BK316.out) hb); have n6_ := ak_ (ps (by with_reducible repeat first | exact HB.out | apply pa | apply pd | apply pe | refine zs ?_ GE294.out | refine zs ?_ GE308.out | refine zs ?_ GE316.out) hb); clear HO_5 HO_309002 HO_317002 BK294 BK308 BK316 HB; have HO_5 := n0_; have HO_309002 := n1_; have HO_317002 := n2_; have BK294 := n3_; have BK308 := n4_; have BK316 := n5_; have HB := n6_; clear n0_ n1_ n2_ n3_ n4_ n5_ n6_; obtain ⟨Ao65, co65, eo65⟩ := Kd.R_slice HO_5.out; subst eo65) | ((with_reducible refine gate_callee (f := 10) rfl ?_); refine goesL_ (some 82) rfl rfl Tryd.func10 (by kernel_rfl) rfl #[.slice Ao65 t297.length co65] rfl (by (try simp only [mt_, mc_, mn_]); first | done | rfl) ?_; (with_reducible refine (code_TakeDef.calls _ _ t297 t323 t324 t325 t328 t329 _ ?side1 ?side2 ?tab_ A58.out).mono ?_); (case tab_ => first | exact HT.out | exact Tabs_.below HT.out (by with_reducible repeat first | exact HB.out | apply pa | apply pd | apply pe)); (case side1 => repeat (first | exact (Kd.R_reads' HO_5.out).2.2 | (with_reducible refine Kd.C_alloc ?_ _) | (with_reducible refine Kd.C_drewN ?_ _) | (with_reducible refine Kd.C_drew ?_))); (case side2 => exact (Kd.R_reads' HO_5.out).2.1); rintro e w66 ⟨v326, rfl, ho0, hb⟩; refine ⟨_, rfl, ?_⟩; have n0_ := ak_ (Kd.R_below (by (with_reducible repeat (first | apply Kd.R_alloc | apply Kd.R_drewN | apply Kd.R_drew)); exact HO_5.out) hb); have n1_ := ak_ (Kd.R_elder' (by (with_reducible repeat (first | apply Kd.R_alloc | apply Kd.R_drewN | apply Kd.R_drew)); exact HO_309002.out) (Kd.R_base ho0) hb); have n2_ := ak_ (Kd.R_elder' (by (with_reducible repeat (first | apply Kd.R_alloc | apply Kd.R_drewN | apply Kd.R_drew)); exact HO_317002.out) (Kd.R_base ho0) hb); have n3_ := ak_ (Kd.R_lower (Kd.R_new' (Kd.R_new' ho0 (Kd.R_lt (by (with_reducible repeat (first | apply Kd.R_alloc | apply Kd.R_drewN | apply Kd.R_drew)); exact HO_309002.out))) (Kd.R_lt (by (with_reducible repeat (first | apply Kd.R_alloc | apply Kd.R_drewN | apply Kd.R_drew)); exact HO_317002.out))) (below_size (by with_reducible repeat first | exact HB.out | apply pa | apply pd | apply pe | refine zs ?_ GE294.out | refine zs ?_ GE308.out | refine zs ?_ GE316.out))); have n4_ := ak_ (blk_below (g := gb294) (o := .cells #[.string a0_0, .int .i64 a0_1, .slice A0_2 l0_2.length c0_2] 24 (0, 0)) (by (with_reducible repeat (first | apply zn | apply zd | apply za)); exact BK294.out) hb); have n5_ := ak_ (blk_below (g := gb308) (o := .cells #[.string t301, .int .i64 t302, .slice Ao31 t303.length co31] 24 (0, 0)) (by (with_reducible repeat (first | apply zn | apply zd | apply za)); exact BK308.out) hb); have n6_ := ak_ (blk_below (g := gb316) (o := .cells #[.string t309, .int .i64 t310, .slice Ao38 t311.length co38] 24 (0, 0)) (by (with_reducible repeat (first | apply zn | apply zd | apply za)); exact BK316.out) hb); have n7_ := ak_ (ps (by with_reducible repeat first | exact HB.out | apply pa | apply pd | apply pe | refine zs ?_ GE294.out | refine zs ?_ GE308.out | refine zs ?_ GE316.out) hb); clear HO_5 HO_309002 HO_317002 BK294 BK308 BK316 HB; have HO_5 := n0_; have HO_309002 := n1_; have HO_317002 := n2_; have HO327 := n3_; have BK294 := n4_; have BK308 := n5_; have BK316 := n6_; have HB := n7_; clear n0_ n1_ n2_ n3_ n4_ n5_ n6_ n7_) | ((with_reducible refine gate_dst (N := 14) rfl ?_); (try (refine gate_guard (by rfl) ?_; dsimp only)); refine box_event ?hg (N := 14) ?hd (cs := #[.string ⟨#[]⟩, .int .i64 0, .slice none 0 0]) (t := 24) ?hr ?_; (case hd | hg => rfl); (case hr => first | (go_simp; done) | (go_simp; rfl)); intro gb330 hg w67 hbox hb; have n0_ := ak_ (Kd.R_below (by (with_reducible repeat (first | apply Kd.R_alloc | apply Kd.R_drewN | apply Kd.R_drew)); exact HO_5.out) hb); have n1_ := ak_ (Kd.R_below (by (with_reducible repeat (first | apply Kd.R_alloc | apply Kd.R_drewN | apply Kd.R_drew)); exact HO_309002.out) hb); have n2_ := ak_ (Kd.R_below (by (with_reducible repeat (first | apply Kd.R_alloc | apply Kd.R_drewN | apply Kd.R_drew)); exact HO_317002.out) hb); have n3_ := ak_ (Kd.R_below (by (with_reducible repeat (first | apply Kd.R_alloc | apply Kd.R_drewN | apply Kd.R_drew)); exact HO327.out) hb); have n4_ := ak_ (blk_below (g := gb294) (o := .cells #[.string a0_0, .int .i64 a0_1, .slice A0_2 l0_2.length c0_2] 24 (0, 0)) (by (with_reducible repeat (first | apply zn | apply zd | apply za)); exact BK294.out) hb); have n5_ := ak_ (blk_below (g := gb308) (o := .cells #[.string t301, .int .i64 t302, .slice Ao31 t303.length co31] 24 (0, 0)) (by (with_reducible repeat (first | apply zn | apply zd | apply za)); exact BK308.out) hb); have n6_ := ak_ (blk_below (g := gb316) (o := .cells #[.string t309, .int .i64 t310, .slice Ao38 t311.length co38] 24 (0, 0)) (by (with_reducible repeat (first | apply zn | apply zd | apply za)); exact BK316.out) hb); have n7_ := ak_ (ps (by with_reducible repeat first | exact HB.out | apply pa | apply pd | apply pe | refine zs ?_ GE294.out | refine zs ?_ GE308.out | refine zs ?_ GE316.out) hb); have n8_ := ak_ (hbox); have n9_ := ak_ ((by rw [hg]; exact (below_size (by with_reducible repeat first | exact HB.out | apply pa | apply pd | apply pe | refine zs ?_ GE294.out | refine zs ?_ GE308.out | refine zs ?_ GE316.out)) : w.heap.size ≤ gb330)); have n10_ := ak_ ((by rw [hg]; exact (below_size (by with_reducible repeat first | exact HB.out | apply pa | apply pd | apply pe | refine zs ?_ GE294.out | refine zs ?_ GE308.out | refine zs ?_ GE316.out)) : w.heap.size ≤ gb330)); have n11_ := ak_ ((by rw [hg]; exact Nat.ne_of_lt (blk_lt (g := gb294) (by (with_reducible repeat (first | apply zn | apply zd | apply za)); exact BK294.out)) : gb294 ≠ gb330)); have n12_ := ak_ ((by rw [hg]; exact Nat.ne_of_gt (blk_lt (g := gb294) (by (with_reducible repeat (first | apply zn | apply zd | apply za)); exact BK294.out)) : gb330 ≠ gb294)); have n13_ := ak_ ((by rw [hg]; exact Nat.ne_of_lt (blk_lt (g := gb308) (by (with_reducible repeat (first | apply zn | apply zd | apply za)); exact BK308.out)) : gb308 ≠ gb330)); have n14_ := ak_ ((by rw [hg]; exact Nat.ne_of_gt (blk_lt (g := gb308) (by (with_reducible repeat (first | apply zn | apply zd | apply za)); exact BK308.out)) : gb330 ≠ gb308)); have n15_ := ak_ ((by rw [hg]; exact Nat.ne_of_lt (blk_lt (g := gb316) (by (with_reducible repeat (first | apply zn | apply zd | apply za)); exact BK316.out)) : gb316 ≠ gb330)); have n16_ := ak_ ((by rw [hg]; exact Nat.ne_of_gt (blk_lt (g := gb316) (by (with_reducible repeat (first | apply zn | apply zd | apply za)); exact BK316.out)) : gb330 ≠ gb316)); clear HO_5 HO_309002 HO_317002 HO327 BK294 BK308 BK316 HB; have HO_5 := n0_; have HO_309002 := n1_; have HO_317002 := n2_; have HO327 := n3_; have BK294 := n4_; have BK308 := n5_; have BK316 := n6_; have HB := n7_; have BK330 := n8_; have GW330 := n9_; have GE330 := n10_; have NB294_330 := n11_; have NB330_294 := n12_; have NB308_330 := n13_; have NB330_308 := n14_; have NB316_330 := n15_; have NB330_316 := n16_; clear n0_ n1_ n2_ n3_ n4_ n5_ n6_ n7_ n8_ n9_ n10_ n11_ n12_ n13_ n14_ n15_ n16_ hb hbox hg; have hnb68 := NB330_294.out; have hnc68 := NB294_330.out; have hnb69 := NB330_308.out; have hnc69 := NB308_330.out; have hnb70 := NB330_316.out; have hnc70 := NB316_330.out; have hcz71_0 : w67.cell? ⟨gb330, 0, none⟩ = some (.string ⟨#[]⟩) := (zc BK330.out 0).trans rfl; have hcz71_1 : w67.cell? ⟨gb330, 1, none⟩ = some (.int .i64 0) := (zc BK330.out 1).trans rfl; have hcz71_2 : w67.cell? ⟨gb330, 2, none⟩ = some (.slice none 0 0) := (zc BK330.out 2).trans rfl; have hfz71_0 := zf BK330.out 0; have hfz71_1 := zf BK330.out 1; have hfz71_2 := zf BK330.out 2; obtain ⟨Ao72, co72, eo72⟩ := Kd.R_slice HO327.out; subst eo72; have hcz73_0 : w67.cell? ⟨gb294, 0, none⟩ = some (.string a0_0) := (zc BK294.out 0).trans rfl; have hcz73_1 : w67.cell? ⟨gb294, 1, none⟩ = some (.int .i64 a0_1) := (zc BK294.out 1).trans rfl; have hcz73_2 : w67.cell? ⟨gb294, 2, none⟩ = some (.slice A0_2 l0_2.length c0_2) := (zc BK294.out 2).trans rfl; have hfz73_0 := zf BK294.out 0; have hfz73_1 := zf BK294.out 1; have hfz73_2 := zf BK294.out 2) | (go_at_call 12; (with_reducible refine (uR13_Same.calls kj19 t323 t324 _ _ t325 a0_0 a0_1 _ _ l0_2 t331 _ ?side1 ?side2 ?side3 ?side4 A60.out).mono ?_); (case side1 => refine (Kd.R_reads' (e := 61) (base := w.heap.size) (ok := fun k_ => ((True ∧ some k_ ≠ (.slice Ao31 t303.length co31 : Value).ownBlock) ∧ some k_ ≠ (.slice Ao38 t311.length co38 : Value).ownBlock)) (n := t325.length) (c := co72) ?_).2.2; exact (by (with_reducible repeat (first | apply Kd.R_alloc | apply Kd.R_drewN | apply Kd.R_drew)); exact (Kd.R_mono (Kd.R_far (p := ⟨gb330, 2, none⟩) (Kd.R_far (p := ⟨gb330, 1, none⟩) (Kd.R_far (p := ⟨gb330, 0, none⟩) (Kd.R_types HO327.out BK330.out (by decide)) (fun _ hk => hk.2) (.string t323)) (fun _ hk => hk.2) (.int .i64 t324)) (fun _ hk => hk.2) (.slice Ao72 t325.length co72)) (fun _ h_ => h_.1)))); (case side2 => exact (Kd.R_reads' HO327.out).2.1); (case side3 => exact Kd.C_below HR0_2.out (by with_reducible repeat first | exact HB.out | apply pa | apply pd | apply pe | refine zs ?_ GE294.out | refine zs ?_ GE308.out | refine zs ?_ GE316.out | refine zs ?_ GE330.out)); (case side4 => exact HC0_2.out); rintro e w74 ⟨rfl, hb⟩; have n0_ := ak_ (Kd.R_below (by (with_reducible repeat (first | apply Kd.R_alloc | apply Kd.R_drewN | apply Kd.R_drew)); exact (Kd.R_mono (Kd.R_far (p := ⟨gb330, 2, none⟩) (Kd.R_far (p := ⟨gb330, 1, none⟩) (Kd.R_far (p := ⟨gb330, 0, none⟩) (Kd.R_types HO_5.out BK330.out (by decide)) (fun _ hk => hk.2) (.string t323)) (fun _ hk => hk.2) (.int .i64 t324)) (fun _ hk => hk.2) (.slice Ao72 t325.length co72)) (fun _ h_ => h_.1))) hb); have n1_ := ak_ (Kd.R_below (by (with_reducible repeat (first | apply Kd.R_alloc | apply Kd.R_drewN | apply Kd.R_drew)); exact (Kd.R_mono (Kd.R_far (p := ⟨gb330, 2, none⟩) (Kd.R_far (p := ⟨gb330, 1, none⟩) (Kd.R_far (p := ⟨gb330, 0, none⟩) (Kd.R_types HO_309002.out BK330.out (by decide)) (fun _ hk => hk.2) (.string t323)) (fun _ hk => hk.2) (.int .i64 t324)) (fun _ hk => hk.2) (.slice Ao72 t325.length co72)) (fun _ h_ => h_.1))) hb); have n2_ := ak_ (Kd.R_below (by (with_reducible repeat (first | apply Kd.R_alloc | apply Kd.R_drewN | apply Kd.R_drew)); exact (Kd.R_mono (Kd.R_far (p := ⟨gb330, 2, none⟩) (Kd.R_far (p := ⟨gb330, 1, none⟩) (Kd.R_far (p := ⟨gb330, 0, none⟩) (Kd.R_types HO_317002.out BK330.out (by decide)) (fun _ hk => hk.2) (.string t323)) (fun _ hk => hk.2) (.int .i64 t324)) (fun _ hk => hk.2) (.slice Ao72 t325.length co72)) (fun _ h_ => h_.1))) hb); have n3_ := ak_ (Kd.R_below (by (with_reducible repeat (first | apply Kd.R_alloc | apply Kd.R_drewN | apply Kd.R_drew)); exact (Kd.R_mono (Kd.R_far (p := ⟨gb330, 2, none⟩) (Kd.R_far (p := ⟨gb330, 1, none⟩) (Kd.R_far (p := ⟨gb330, 0, none⟩) (Kd.R_types HO327.out BK330.out (by decide)) (fun _ hk => hk.2) (.string t323)) (fun _ hk => hk.2) (.int .i64 t324)) (fun _ hk => hk.2) (.slice Ao72 t325.length co72)) (fun _ h_ => h_.1))) hb); have n4_ := ak_ (blk_below (g := gb294) (o := .cells #[.string a0_0, .int .i64 a0_1, .slice A0_2 l0_2.length c0_2] 24 (0, 0)) (by (repeat (first | (with_reducible first | apply zn | apply zd | apply za) | refine zr ?_ NB294_330.out _)); (with_reducible repeat (first | apply zn | apply zd | apply za)); exact BK294.out) hb); have n5_ := ak_ (blk_below (g := gb308) (o := .cells #[.string t301, .int .i64 t302, .slice Ao31 t303.length co31] 24 (0, 0)) (by (repeat (first | (with_reducible first | apply zn | apply zd | apply za) | refine zr ?_ NB308_330.out _)); (with_reducible repeat (first | apply zn | apply zd | apply za)); exact BK308.out) hb); have n6_ := ak_ (blk_below (g := gb316) (o := .cells #[.string t309, .int .i64 t310, .slice Ao38 t311.length co38] 24 (0, 0)) (by (repeat (first | (with_reducible first | apply zn | apply zd | apply za) | refine zr ?_ NB316_330.out _)); (with_reducible repeat (first | apply zn | apply zd | apply za)); exact BK316.out) hb); have n7_ := ak_ (blk_below (g := gb330) (o := .cells #[.string t323, .int .i64 t324, .slice Ao72 t325.length co72] 24 (0, 0)) (by (with_reducible repeat (first | apply zn | apply zd | apply za)); refine zp (cs := #[.string t323, .int .i64 t324, .slice none 0 0]) ?_ 2 _ rfl; (with_reducible repeat (first | apply zn | apply zd | apply za)); refine zp (cs := #[.string t323, .int .i64 0, .slice none 0 0]) ?_ 1 _ rfl; (with_reducible repeat (first | apply zn | apply zd | apply za)); refine zp (cs := #[.string ⟨#[]⟩, .int .i64 0, .slice none 0 0]) ?_ 0 _ rfl; (with_reducible repeat (first | apply zn | apply zd | apply za)); exact BK330.out) hb); have n8_ := ak_ (ps (by with_reducible repeat first | exact HB.out | apply pa | apply pd | apply pe | refine zs ?_ GE294.out | refine zs ?_ GE308.out | refine zs ?_ GE316.out | refine zs ?_ GE330.out) hb); clear HO_5 HO_309002 HO_317002 HO327 BK294 BK308 BK316 BK330 HB; have HO_5 := n0_; have HO_309002 := n1_; have HO_317002 := n2_; have HO327 := n3_; have BK294 := n4_; have BK308 := n5_; have BK316 := n6_; have BK330 := n7_; have HB := n8_; clear n0_ n1_ n2_ n3_ n4_ n5_ n6_ n7_ n8_))
             go_ret
             exact ⟨by first | rfl | simp [*], by repeat (first | (with_reducible first | exact HB.out | apply pa | apply pd | apply pe | refine zs ?_ GE294.out | refine zs ?_ GE308.out | refine zs ?_ GE316.out | refine zs ?_ GE330.out) | exact HB.out)⟩
           rw [if_neg c59] at H
           have c59b0 : (t329 == 0) = false := beq_eq_false_iff_ne.mpr c59
           have c59b1 : (t329 != 0) = true := bne_iff_ne.mpr c59
           exact absurd ((Option.some.inj H).trans HTR_.out) (by decide)
         rw [if_neg c57] at H
         have c57b0 : (t322 == 0) = false := beq_eq_false_iff_ne.mpr c57
         have c57b1 : (t322 != 0) = true := bne_iff_ne.mpr c57
         obtain rfl := Option.some.inj H
         have hnb75 := NB294_308.out
         have hnc75 := NB308_294.out
         have hnb76 := NB294_316.out
         have hnc76 := NB316_294.out
         have hcz77_0 : wc.cell? ⟨gb294, 0, none⟩ = some (.string a0_0) := (zc BK294.out 0).trans rfl
         have hcz77_1 : wc.cell? ⟨gb294, 1, none⟩ = some (.int .i64 a0_1) := (zc BK294.out 1).trans rfl
         have hcz77_2 : wc.cell? ⟨gb294, 2, none⟩ = some (.slice A0_2 l0_2.length c0_2) := (zc BK294.out 2).trans rfl
         have hfz77_0 := zf BK294.out 0
         have hfz77_1 := zf BK294.out 1
         have hfz77_2 := zf BK294.out 2
         go_wp2_with (first | ((with_reducible refine gate_callee (f := 13) rfl ?_); refine goesL_ (some 75) rfl rfl Tryd.func13 (by kernel_rfl) rfl #[.agg #[.string a0_0, .int .i64 a0_1, .slice A0_2 l0_2.length c0_2]] rfl (by (try simp only [mt_, mc_, mn_]); first | done | rfl) ?_; (with_reducible refine (uK.calls kj19 a0_0 a0_1 _ _ l0_2 t321 t322 _ ?side1 ?side2 A56.out).mono ?_); (case side1 => repeat (first | exact (Kd.C_below HR0_2.out HB.out) | (with_reducible refine Kd.C_alloc ?_ _) | (with_reducible refine Kd.C_drewN ?_ _) | (with_reducible refine Kd.C_drew ?_))); (case side2 => exact HC0_2.out); rintro e w78 ⟨rfl, hb⟩; refine ⟨_, rfl, ?_⟩; have n0_ := ak_ (Kd.R_below (by (with_reducible repeat (first | apply Kd.R_alloc | apply Kd.R_drewN | apply Kd.R_drew)); exact HO_5.out) hb); have n1_ := ak_ (Kd.R_below (by (with_reducible repeat (first | apply Kd.R_alloc | apply Kd.R_drewN | apply Kd.R_drew)); exact HO_309002.out) hb); have n2_ := ak_ (Kd.R_below (by (with_reducible repeat (first | apply Kd.R_alloc | apply Kd.R_drewN | apply Kd.R_drew)); exact HO_317002.out) hb); have n3_ := ak_ (blk_below (g := gb294) (o := .cells #[.string a0_0, .int .i64 a0_1, .slice A0_2 l0_2.length c0_2] 24 (0, 0)) (by (with_reducible repeat (first | apply zn | apply zd | apply za)); exact BK294.out) hb); have n4_ := ak_ (blk_below (g := gb308) (o := .cells #[.string t301, .int .i64 t302, .slice Ao31 t303.length co31] 24 (0, 0)) (by (with_reducible repeat (first | apply zn | apply zd | apply za)); exact BK308.out) hb); have n5_ := ak_ (blk_below (g := gb316) (o := .cells #[.string t309, .int .i64 t310, .slice Ao38 t311.length co38] 24 (0, 0)) (by (with_reducible repeat (first | apply zn | apply zd | apply za)); exact BK316.out) hb); have n6_ := ak_ (ps (by with_reducible repeat first | exact HB.out | apply pa | apply pd | apply pe | refine zs ?_ GE294.out | refine zs ?_ GE308.out | refine zs ?_ GE316.out) hb); clear HO_5 HO_309002 HO_317002 BK294 BK308 BK316 HB; have HO_5 := n0_; have HO_309002 := n1_; have HO_317002 := n2_; have BK294 := n3_; have BK308 := n4_; have BK316 := n5_; have HB := n6_; clear n0_ n1_ n2_ n3_ n4_ n5_ n6_))
         go_ret
         exact ⟨by first | rfl | simp [*], by repeat (first | (with_reducible first | exact HB.out | apply pa | apply pd | apply pe | refine zs ?_ GE294.out | refine zs ?_ GE308.out | refine zs ?_ GE316.out) | exact HB.out)⟩
     rw [if_neg c17] at H
     have c17b0 : ((strOfNums t297).toList == t300.toList) = false := beq_eq_false_iff_ne.mpr c17
     have c17b1 : ((strOfNums t297).toList != t300.toList) = true := bne_iff_ne.mpr c17
     exact absurd ((Option.some.inj H).trans HTR_.out) (by decide)
 replace c4 := Bool.eq_false_iff.mpr c4
 subst c4
 have H1 : (some false) = some r := by rw [if_neg (show ¬ (false = true) by decide)] at H; exact H
 clear H
 have H := H1
 clear H1
 exact absurd ((Option.some.inj H).trans HTR_.out) (by decide)
end Go.Proofs.YtcgpbakimkhdpaaDoor.Q
section
namespace Go.Proofs.YtcgpbakimkhdpaaDoor.Walk
set_option linter.unusedVariables false
set_option linter.unusedSimpArgs false
open Go.RowKit Go.Proofs.YtcgpbakimkhdpaaDoor.Q Go.Proofs.YtcgpbakimkhdpaaDoorW.PrintWords Go.Proofs.YtcgpbakimkhdpaaDoorW.PrintLast Go.Proofs.YtcgpbakimkhdpaaDoorW.PrintMore Go.Proofs.YtcgpbakimkhdpaaDoor.Opn
theorem awake15 (K : Nat) (hK : 100 ≤ K) : uL15_awake.f K = some true := by
  unfold uL15_awake.f code_PutSaga.f
  rw [if_pos (by refine ⟨⟨?_, ?_, ?_, ?_, ?_, ?_, ?_⟩, ?_⟩ <;> decide), Option.bind_some]
  have e : sagaB 0 (⟨#[]⟩ : ByteArray) 0 0 0 0 false 0 0 = List.replicate 65 0 := by decide
  rw [e]
  have st : ∀ (d i k : Nat), i + d = 65 → d + 1 ≤ k → uL15_awake.l0 k (List.replicate 65 0) (i : Int) = some true := by
    intro d
    induction d with
    | zero =>
      intro i k hi hk
      obtain ⟨k, rfl⟩ : ∃ j, k = j + 1 := ⟨k - 1, by omega⟩
      rw [uL15_awake.l0, if_neg (by rw [List.length_replicate]; omega)]
      rfl
    | succ d ih =>
      intro i k hi hk
      obtain ⟨k, rfl⟩ : ∃ j, k = j + 1 := ⟨k - 1, by omega⟩
      have hr : rd (List.replicate 65 0) (i : Int) = 0 := by
        unfold rd
        rw [Int.toNat_natCast, List.getD_eq_getElem?_getD, List.getElem?_replicate]
        split <;> rfl
      have e1 : wrap64 ((i : Int) + 1) = ((i + 1 : Nat) : Int) := by unfold wrap64; omega
      rw [uL15_awake.l0, if_pos (by rw [List.length_replicate]; omega), if_pos (by omega), if_pos hr, e1]
      exact ih (i + 1) k (by omega) (by omega)
  exact st 65 0 K (by omega) (by omega)
theorem small_l (n : ByteArray) (dl : Int) (l : List S61) (hl : l.length ≤ 40) : ∀ (d i k : Nat), l.length - i ≤ d → d < k → (∀ j, j < i → ∀ (hj : j < l.length), l[j].f0.size ≤ 100 ∧ l[j].f1.size ≤ 100) → ∃ r, uL13_Small.l0 k (i : Int) n dl l = some r ∧ (r = 0 → NmS 100 l)
  | d, i, 0, _, hk, _ => absurd hk (by omega)
  | d, i, k + 1, hd, hk, hs => by
    rw [uL13_Small.l0]
    by_cases hi : i < l.length
    · rw [if_pos (show (i : Int) < (l.length : Int) by omega), if_pos (show (0 : Int) ≤ (i : Int) by omega), rdS_at hi]
      by_cases h0 : ((l[i].f0.size : Nat) : Int) > 100
      · rw [if_pos h0]
        exact ⟨2, rfl, fun h => absurd h (by decide)⟩
      · rw [if_neg h0]
        by_cases h1 : ((l[i].f1.size : Nat) : Int) > 100
        · rw [if_pos h1]
          exact ⟨2, rfl, fun h => absurd h (by decide)⟩
        · rw [if_neg h1, wr1 (by omega) (by omega)]
          cases d with
          | zero => omega
          | succ d =>
            refine small_l n dl l hl d (i + 1) k (by omega) (by omega) (fun j hj hjl => ?_)
            by_cases e : j = i
            · subst e; exact ⟨by omega, by omega⟩
            · exact hs j (by omega) hjl
    · rw [if_neg (show ¬ (i : Int) < (l.length : Int) by omega)]
      refine ⟨0, rfl, fun _ x hx => ?_⟩
      obtain ⟨j, hj, rfl⟩ := List.getElem_of_mem hx
      exact hs j (by omega) hj
theorem small_f (n : ByteArray) (dl : Int) (l : List S61) (k : Nat) (hk : 50 ≤ k) : ∃ r, uL13_Small.f k n dl l = some r ∧ (r = 0 → l.length ≤ 40 ∧ n.size ≤ 100 ∧ NmS 100 l) := by
  obtain ⟨k2, rfl⟩ : ∃ k2, k = k2 + 1 := ⟨k - 1, by omega⟩
  unfold uL13_Small.f
  have hj : ∃ r, uL13_Small.j0 (k2 + 1) true n dl l = some r ∧ (r = 0 → l.length ≤ 40 ∧ n.size ≤ 100 ∧ NmS 100 l) := by
    rw [uL13_Small.j0, if_pos rfl]
    exact ⟨1, rfl, fun h => absurd h (by decide)⟩
  by_cases h0 : (l.length : Int) > 40
  · rw [if_pos h0]; exact hj
  · rw [if_neg h0]
    by_cases h1 : (n.size : Int) > 100
    · rw [decide_eq_true h1]; exact hj
    · rw [decide_eq_false h1, uL13_Small.j0, if_neg (by decide)]
      have h00 : ((0 : Nat) : Int) = 0 := rfl
      rw [← h00]
      obtain ⟨r, hr, hz⟩ := small_l n dl l (by omega) l.length 0 k2 (by omega) (by omega) (fun j hj => absurd hj (by omega))
      exact ⟨r, hr, fun h => ⟨by omega, by omega, hz h⟩⟩
theorem same_l (n m : ByteArray) (dl dm : Int) (l : List S61) (hl : l.length ≤ 1000) : ∀ (d i k : Nat), l.length - i ≤ d → d < k → uR13_Same.l0 k (i : Int) n dl l m dm l = some true
  | d, i, 0, _, hk => absurd hk (by omega)
  | d, i, k + 1, hd, hk => by
    rw [uR13_Same.l0]
    by_cases hi : i < l.length
    · rw [if_pos (show (i : Int) < (l.length : Int) by omega), if_pos (show (0 : Int) ≤ (i : Int) by omega), if_pos (show (i : Int) < (l.length : Int) by omega)]
      rw [if_neg (by simp), wr1 (by omega) (by omega)]
      cases d with
      | zero => omega
      | succ d => exact same_l n m dl dm l hl d (i + 1) k (by omega) (by omega)
    · rw [if_neg (show ¬ (i : Int) < (l.length : Int) by omega)]
theorem same_f (n : ByteArray) (dl : Int) (l : List S61) (hl : l.length ≤ 1000) (k : Nat) (hk : 1010 ≤ k) : uR13_Same.f k n dl l n dl l = some true := by
  obtain ⟨k2, rfl⟩ : ∃ k2, k = k2 + 1 := ⟨k - 1, by omega⟩
  unfold uR13_Same.f
  rw [if_pos rfl, if_pos rfl, show ((l.length : Int) != (l.length : Int)) = false from by simp, uR13_Same.j0, if_neg (by decide)]
  have h00 : ((0 : Nat) : Int) = 0 := rfl
  rw [← h00]
  exact same_l n n dl dl l hl l.length 0 k2 (by omega) (by omega)
theorem stepI_n {x : S61} (h : StepN x) (h0 : x.f0.size ≤ 100000) (h1 : x.f1.size ≤ 100000) : StepI x := by
  obtain ⟨a, ⟨b0, b1, b2, b3⟩, ⟨c0, c1, c2, c3⟩, d⟩ := h
  refine ⟨by omega, by omega, ⟨by omega, by omega⟩, ⟨⟨by omega, by omega⟩, ⟨by omega, by omega⟩, ⟨by omega, by omega⟩, ⟨by omega, by omega⟩⟩, ⟨⟨by omega, by omega⟩, ⟨by omega, by omega⟩, ⟨by omega, by omega⟩, ⟨by omega, by omega⟩⟩, ⟨by omega, by omega⟩⟩
theorem stepsW_le {l : List S61} {m : Nat} (h : NmS m l) : (stepsW l).length ≤ (96 + 2 * m) * l.length := by
  induction l with
  | nil => simp [stepsW]
  | cons x l ih =>
    have e : stepsW (x :: l) = stepW x ++ stepsW l := by simp only [stepsW, List.flatMap_cons]
    have hx := h x (by simp)
    have hi := ih (fun y hy => h y (by simp [hy]))
    rw [e, List.length_append, stepW_len, List.length_cons, Nat.mul_succ]
    omega
theorem defW_len (n : ByteArray) (dl : Int) (l : List S61) : (defW n dl l).length = 24 + n.size + (stepsW l).length := by
  simp [defW, nbs_len, encN_len, bytesOf_length]
  omega
def StepC (x : S61) : Prop := I64_ x.f2 ∧ PlanI x.f3 ∧ PlanI x.f4 ∧ I64_ x.f5
theorem put_def {n : ByteArray} {dl : Int} {l : List S61} (hd : I64_ dl) (hl : l.length ≤ 40) (hn : n.size ≤ 100000) (hs : NmS 100000 l) (hc : ∀ x ∈ l, StepC x) (hx : (defW n dl l).length < 1000000) : code_PutDef.f n dl l = some (defW n dl l) := by
  unfold code_PutDef.f
  have hI : ∀ s ∈ l, StepI s := fun s h => by
    obtain ⟨a, b, c, d⟩ := hc s h
    have := hs s h
    exact ⟨by omega, by omega, a, b, c, d⟩
  rw [if_pos ⟨hd, by omega, hI, hx⟩]
theorem CodeDefs.pure (n : ByteArray) (dl : Int) (l : List S61) (b : List Int) (hB : BB b) (hd : I64_ dl) (hc : ∀ x ∈ l, StepC x) : uD.f 400000 n dl l b = some true := by
  unfold uD.f
  rw [awake15 _ (by omega), Option.bind_some, if_pos rfl]
  obtain ⟨r, hr, hz⟩ := small_f n dl l 400000 (by omega)
  rw [hr, Option.bind_some]
  have hj0 : uD.j0 400000 b true n dl l = some true := by
    rw [show (400000 : Nat) = 399999 + 1 from rfl, uD.j0, if_pos rfl]
  by_cases h0 : r = 0
  · rw [if_pos h0]
    obtain ⟨z1, z2, z3⟩ := hz h0
    by_cases hb : (b.length : Int) > 700
    · rw [decide_eq_true hb]; exact hj0
    · rw [decide_eq_false hb, show (400000 : Nat) = 399999 + 1 from rfl, uD.j0, if_neg (by decide)]
      have hsl := stepsW_le z3
      have hsm : (96 + 2 * 100) * l.length ≤ 11840 := by omega
      have hlen := defW_len n dl l
      have z4 : NmS 100000 l := fun x hx => by have := z3 x hx; omega
      rw [put_def hd z1 (by omega) z4 hc (by omega), Option.bind_some, ref_def n dl l (by omega) (by omega) z4 (by omega) 399999 (by omega), Option.bind_some, if_pos rfl]
      obtain ⟨xn, xd, xl, at_, e, hT, hR, p1, p4, p3, hE⟩ := take_def hB (by omega) 399999 (by omega)
      rw [hT, Option.bind_some, hR, Option.bind_some]
      dsimp only
      have hxl : xl.length ≤ 1000 := by omega
      rw [same_f xn xd xl hxl 399999 (by omega), Option.bind_some, if_pos rfl, if_pos rfl, if_pos rfl]
      have hJ : uD.j1 399999 (defW n dl l) false n dl l = some true := by
        rw [show (399999 : Nat) = 399998 + 1 from rfl, uD.j1, if_neg (by decide), ref_check_f n dl l (m := 100000) (by omega) z4 (by omega) 399998 (by omega), Option.bind_some]
        by_cases hq : (chkD n dl l).2 = 0
        · rw [if_pos hq]
          obtain ⟨q1, q2, q3⟩ := chkD_n hq
          rw [take_back n dl l (by omega) q1 q2 (fun x hx => ⟨q3 x hx, by have := z3 x hx; omega, by have := z3 x hx; omega⟩) (by omega) hq, Option.bind_some]
          dsimp only
          rw [if_pos rfl, same_f n dl l (by omega) 399998 (by omega), Option.bind_some]
        · rw [if_neg hq]
      by_cases he : e = 0
      · rw [if_pos he]
        obtain ⟨hb2, e2, e3, e4, e5⟩ := hE he
        have hp2 : code_PutDef.f xn xd xl = some (defW xn xd xl) := by
          unfold code_PutDef.f
          rw [if_pos ⟨⟨by omega, by omega⟩, by omega, fun s h => stepI_n (e4 s h) (p4 s h).1 (p4 s h).2, by rw [← hb2]; omega⟩]
        rw [hp2, Option.bind_some, ← hb2, show ((strOfNums b).toList != (strOfNums b).toList) = false from by simp]
        exact hJ
      · rw [if_neg he]
        exact hJ
  · rw [if_neg h0]
    exact hj0
def StepOk (x : S61) : Prop := (fun s : S61 => (fun x : ByteArray × ByteArray × Int × S59 × S59 × Int => (fun x => x.size ≤ maxLen) x.1 ∧ (fun x => x.size ≤ maxLen) x.2.1 ∧ (fun x => (Lit.int .i64 x).wf = true) x.2.2.1 ∧ (fun s : S59 => (fun x : Int × Int × Int × Int => (fun x => (Lit.int .i64 x).wf = true) x.1 ∧ (fun x => (Lit.int .i64 x).wf = true) x.2.1 ∧ (fun x => (Lit.int .i64 x).wf = true) x.2.2.1 ∧ (fun x => (Lit.int .i64 x).wf = true) x.2.2.2) (s.f0, (s.f1, (s.f2, s.f3)))) x.2.2.2.1 ∧ (fun s : S59 => (fun x : Int × Int × Int × Int => (fun x => (Lit.int .i64 x).wf = true) x.1 ∧ (fun x => (Lit.int .i64 x).wf = true) x.2.1 ∧ (fun x => (Lit.int .i64 x).wf = true) x.2.2.1 ∧ (fun x => (Lit.int .i64 x).wf = true) x.2.2.2) (s.f0, (s.f1, (s.f2, s.f3)))) x.2.2.2.2.1 ∧ (fun x => (Lit.int .i64 x).wf = true) x.2.2.2.2.2) (s.f0, (s.f1, (s.f2, (s.f3, (s.f4, s.f5)))))) x
theorem stepC_ok {x : S61} (h : StepOk x) : StepC x := by
  obtain ⟨_, _, a, ⟨b0, b1, b2, b3⟩, ⟨c0, c1, c2, c3⟩, d⟩ := h
  exact ⟨bounds_i64 a, ⟨bounds_i64 b0, bounds_i64 b1, bounds_i64 b2, bounds_i64 b3⟩, ⟨bounds_i64 c0, bounds_i64 c1, bounds_i64 c2, bounds_i64 c3⟩, bounds_i64 d⟩
theorem CodeDefs.walk (w : World) (cs0 : Array Value) (x0 : (ByteArray × Int × (List S61))) (A1 : Option Addr) (c1 : Nat) (l1 : List Int)
    (hk0 : Kd.K (Kd.pair Kd.string (Kd.pair (Kd.int .i64) (Kd.slice 61 k61))) w x0 cs0.toList) (ok0 : (fun x : ByteArray × Int × (List S61) => (fun x => x.size ≤ maxLen) x.1 ∧ (fun x => (Lit.int .i64 x).wf = true) x.2.1 ∧ (fun xs => xs.length ≤ maxLen ∧ ∀ x ∈ xs, StepOk x) x.2.2) x0) (hr1 : Kd.C (Kd.int .u8) w A1 l1.length l1) (hc1 : l1.length ≤ c1) (hm1 : c1 ≤ maxLen) (ok1 : ∀ x ∈ l1, (fun x => (Lit.int .u8 x).wf = true) x) (hTab_ : Tabs_ w) :
    Calls Tryd.prog 3 #[.agg cs0, .slice A1 l1.length c1] w fun e w' => e = .returned (.bool true) ∧ Below w.heap.size w w' := by
  obtain ⟨n, dl, l⟩ := x0
  obtain ⟨_, _, hcs, rfl, ⟨_, _, rfl, rfl, ⟨A0, c0, rfl, hc0, hr0⟩⟩⟩ := hk0
  obtain rfl : cs0 = #[.string n, .int .i64 dl, .slice A0 l.length c0] := by
    rw [← Array.toList_inj]
    exact hcs
  obtain ⟨_, o1, o2⟩ := ok0
  have hp := CodeDefs.pure n dl l l1 (fun x hx => by have := bounds_u8 (ok1 x hx); omega) (bounds_i64 o1) (fun x hx => stepC_ok (o2.2 x hx))
  exact uD.calls 400000 n dl A0 c0 l A1 c1 l1 true w hr0 hc0 hr1 hc1 hTab_ hp rfl
end Go.Proofs.YtcgpbakimkhdpaaDoor.Walk
end
