/- Part 8 of a claim's texts. -/
import Derived.Test.YtcgpbakimkhdpaaDoorPk1
import Derived.Test.YtcgpbakimkhdpaaDoorPk2
import Derived.Test.YtcgpbakimkhdpaaDoorPk7
import Derived.Test.YtcgpbakimkhdpaaDoorPk3
import Derived.Lib.Hide
import Derived.Outline
namespace Go.Proofs.YtcgpbakimkhdpaaDoor.Q
open Go.RowKit Go.Proofs.YtcgpbakimkhdpaaDoorW.PrintWords Go.Proofs.YtcgpbakimkhdpaaDoorW.PrintLast Go.Proofs.YtcgpbakimkhdpaaDoorW.PrintMore
attribute [local go_sem] max2_int min2_int max_two min_two max_three min_three max_four min_four
set_option linter.unusedVariables false
set_option linter.unusedSimpArgs false
set_option maxHeartbeats 8000000
set_option maxRecDepth 100000
open Go.Proofs.YtcgpbakimkhdpaaDoor.Q.H_
def uR15_Def.l0 : Nat → ByteArray → Int → ByteArray → Int → List (S61) → Option (ByteArray)
 | 0, _, _, _, _, _ => none
 | k + 1, x3, x4, x125000, x125001, x125002 => if x4 < (x125002.length : Int) then (if 0 ≤ x4 then ((uR15_text.f k ((rT x125002 x4).f0)).bind fun t130 => (if x3.size + t130.size ≤ 9223372036854775807 then ((uR15_text.f k ((rT x125002 x4).f1)).bind fun t131 => (if (x3 ++ t130).size + t131.size ≤ 9223372036854775807 then ((uR04_Num.f k ((rT x125002 x4).f2)).bind fun t132 => (if ((x3 ++ t130) ++ t131).size + t132.size ≤ 9223372036854775807 then ((uR15_plan.f k ((rT x125002 x4).f3.f0) ((rT x125002 x4).f3.f1) ((rT x125002 x4).f3.f2) ((rT x125002 x4).f3.f3)).bind fun t133 => (if (((x3 ++ t130) ++ t131) ++ t132).size + t133.size ≤ 9223372036854775807 then ((uR15_plan.f k ((rT x125002 x4).f4.f0) ((rT x125002 x4).f4.f1) ((rT x125002 x4).f4.f2) ((rT x125002 x4).f4.f3)).bind fun t134 => (if ((((x3 ++ t130) ++ t131) ++ t132) ++ t133).size + t134.size ≤ 9223372036854775807 then ((uR04_Num.f k ((rT x125002 x4).f5)).bind fun t135 => (if (((((x3 ++ t130) ++ t131) ++ t132) ++ t133) ++ t134).size + t135.size ≤ 9223372036854775807 then (uR15_Def.l0 k ((((((x3 ++ t130) ++ t131) ++ t132) ++ t133) ++ t134) ++ t135) (wrap64 (x4 + 1)) x125000 x125001 x125002) else (none))) else (none))) else (none))) else (none))) else (none))) else (none))) else (none)) else (some x3)
def uR15_Def.f (k : Nat) (a0_0 : ByteArray) (a0_1 : Int) (l0_2 : List (S61)) : Option (ByteArray) := (uR15_text.f k a0_0).bind fun t125 => ((uR04_Num.f k a0_1).bind fun t126 => (if t125.size + t126.size ≤ 9223372036854775807 then ((uR04_Num.f k (l0_2.length : Int)).bind fun t127 => (if (t125 ++ t126).size + t127.size ≤ 9223372036854775807 then (uR15_Def.l0 k ((t125 ++ t126) ++ t127) 0 a0_0 a0_1 l0_2) else (none))) else (none)))
def uR15_Def.T1 : Bool × List (List Nat × List Nat) := (true, [([], []), ([0], [0]), ([1], [1]), ([], []), ([3], [3]), ([4, 2], [4]), ([2, 5], [2, 5]), ([], []), ([7], [7]), ([8], [8]), ([9, 5], [9]), ([6, 10], [6, 10]), ([11, 10, 0, 1, 2, 3, 4, 5, 6, 7, 8, 9, 10, 11], [11])])
def uR15_Def.B1 : List Nat := [0, 1, 3, 0, 8, 31, 63, 0, 128, 384, 959, 2047, 4095]
theorem uR15_Def.tab1 : rtab .any (opsOf Tryd.f9 1) = uR15_Def.T1 := by kernel_rfl
theorem uR15_Def.bits1 : waitsOk uR15_Def.T1.2 uR15_Def.B1 = true := by kernel_rfl
def uR15_Def.T6 : Bool × List (List Nat × List Nat) := (true, [([], []), ([], []), ([1], [1]), ([2], [2]), ([0, 3], [0, 3]), ([], []), ([5], [5]), ([6, 3], [6]), ([4, 7], [4, 7]), ([], []), ([9], [9]), ([10, 7], [10]), ([8, 11], [8, 11]), ([], []), ([13], [13]), ([14, 11], [14]), ([12, 15], [12, 15]), ([], []), ([17], [17]), ([18, 15], [18]), ([16, 19], [16, 19]), ([], []), ([21], [21]), ([22, 19], [22]), ([20, 23], [20, 23]), ([24, 23, 0, 1, 2, 3, 4, 5, 6, 7, 8, 9, 10, 11, 12, 13, 14, 15, 16, 17, 18, 19, 20, 21, 22, 23, 24], [0, 24])])
def uR15_Def.B6 : List Nat := [0, 0, 2, 6, 15, 0, 32, 110, 255, 0, 512, 1774, 4095, 0, 8192, 28398, 65535, 0, 131072, 454382, 1048575, 0, 2097152, 7270126, 16777215, 33554431]
theorem uR15_Def.tab6 : rtab .any (opsOf Tryd.f9 6) = uR15_Def.T6 := by kernel_rfl
theorem uR15_Def.bits6 : waitsOk uR15_Def.T6.2 uR15_Def.B6 = true := by kernel_rfl
theorem uR15_Def.calls (k : Nat) (a0_0 : ByteArray) (a0_1 : Int) (A0_2 : Option Addr) (c0_2 : Nat) (l0_2 : List (S61)) (r : ByteArray) (w : World) (hr0_2 : Kd.C k61 w A0_2 l0_2.length l0_2) (hc0_2 : l0_2.length ≤ c0_2) (h : uR15_Def.f k a0_0 a0_1 l0_2 = some r) :
 Calls Tryd.prog 9 #[.agg #[.string a0_0, .int .i64 a0_1, .slice A0_2 l0_2.length c0_2]] w fun e w' => e = .returned (.string r) ∧ Below w.heap.size w w' := by
 have hu24 := Tryd.underlying24
 have hu61 := Tryd.underlying61
 have hu59 := Tryd.underlying59
 have HR0_2 := ak_ hr0_2
 have HC0_2 := ak_ hc0_2
 clear hr0_2 hc0_2
 have HB := ak_ (Below.refl w.heap.size w)
 have H : ((uR15_text.f k a0_0).bind fun t125 => ((uR04_Num.f k a0_1).bind fun t126 => (if t125.size + t126.size ≤ 9223372036854775807 then ((uR04_Num.f k (l0_2.length : Int)).bind fun t127 => (if (t125 ++ t126).size + t127.size ≤ 9223372036854775807 then (uR15_Def.l0 k ((t125 ++ t126) ++ t127) 0 a0_0 a0_1 l0_2) else (none))) else (none)))) = some r := h
 clear h
 replace H := ob_ H
 obtain ⟨t125, A20, H⟩ := H
 replace H : ((uR04_Num.f k a0_1).bind fun t126 => (if t125.size + t126.size ≤ 9223372036854775807 then ((uR04_Num.f k (l0_2.length : Int)).bind fun t127 => (if (t125 ++ t126).size + t127.size ≤ 9223372036854775807 then (uR15_Def.l0 k ((t125 ++ t126) ++ t127) 0 a0_0 a0_1 l0_2) else (none))) else (none))) = some r := H
 have A2 := ak_ A20
 clear A20
 replace H := ob_ H
 obtain ⟨t126, A30, H⟩ := H
 replace H : (if t125.size + t126.size ≤ 9223372036854775807 then ((uR04_Num.f k (l0_2.length : Int)).bind fun t127 => (if (t125 ++ t126).size + t127.size ≤ 9223372036854775807 then (uR15_Def.l0 k ((t125 ++ t126) ++ t127) 0 a0_0 a0_1 l0_2) else (none))) else (none)) = some r := H
 have A3 := ak_ A30
 clear A30
 by_cases c4 : t125.size + t126.size ≤ 9223372036854775807
 · rw [if_pos c4] at H
   have c4b0 := eq_true c4
   have c4b1 : decide (t125.size + t126.size ≤ 9223372036854775807) = true := dt_ c4
   try have c4b2 : (9223372036854775807 < t125.size + t126.size) = False := eq_false (Nat.not_lt.2 c4)
   replace H := ob_ H
   obtain ⟨t127, A50, H⟩ := H
   replace H : (if (t125 ++ t126).size + t127.size ≤ 9223372036854775807 then (uR15_Def.l0 k ((t125 ++ t126) ++ t127) 0 a0_0 a0_1 l0_2) else (none)) = some r := H
   have A5 := ak_ A50
   clear A50
   by_cases c6 : (t125 ++ t126).size + t127.size ≤ 9223372036854775807
   · rw [if_pos c6] at H
     have c6b0 := eq_true c6
     have c6b1 : decide ((t125 ++ t126).size + t127.size ≤ 9223372036854775807) = true := dt_ c6
     try have c6b2 : (9223372036854775807 < (t125 ++ t126).size + t127.size) = False := eq_false (Nat.not_lt.2 c6)
     try have c6b3 := c6b2
     try simp only [ByteArray.size_append] at c6b3
     have H' := ak_ H
     clear H
     go_enter Tryd.func9, Tryd.ntmps9
     try go_wp2_with (first | ((with_reducible refine gate_dst (N := 1) rfl ?_); refine box_event ?hg (N := 1) ?hd (cs := #[.string a0_0, .int .i64 a0_1, .slice A0_2 l0_2.length c0_2]) (t := 24) ?hr ?_; (case hd | hg => rfl); (case hr => first | (go_simp; done) | (go_simp; rfl)); intro gb124 hg w7 hbox hb; have n0_ := ak_ (ps (by with_reducible repeat first | exact HB.out | apply pa | apply pd | apply pe) hb); have n1_ := ak_ (hbox); have n2_ := ak_ ((by rw [hg]; exact (below_size (by with_reducible repeat first | exact HB.out | apply pa | apply pd | apply pe)) : w.heap.size ≤ gb124)); have n3_ := ak_ ((by rw [hg]; exact (below_size (by with_reducible repeat first | exact HB.out | apply pa | apply pd | apply pe)) : w.heap.size ≤ gb124)); clear HB; have HB := n0_; have BK124 := n1_; have GW124 := n2_; have GE124 := n3_; clear n0_ n1_ n2_ n3_ hb hbox hg))
     have n0_ := ak_ (zd BK124.out)
     have n1_ := ak_ (pe HB.out)
     clear BK124 HB
     have BK124 := n0_
     have HB := n1_
     clear n0_ n1_
     refine start_ (n := 13) (S := fun w' => w'.cell? ⟨gb124, 0, none⟩ = some (.string a0_0) ∧ w'.cell? ⟨gb124, 1, none⟩ = some (.int .i64 a0_1) ∧ w'.cell? ⟨gb124, 2, none⟩ = some (.slice A0_2 l0_2.length c0_2)) (ds := []) #[false, false, false, false, false, false, false, false, false, false, false, false, false] (by kernel_rfl) rfl rfl ⟨(zc BK124.out 0).trans rfl, (zc BK124.out 1).trans rfl, (zc BK124.out 2).trans rfl⟩ (fun hHeld => ?_); refine with_tabW uR15_Def.tab1 uR15_Def.bits1 (fun HT_ HW_ => ?_)
     generalize w7.drew = w8 at BK124 HB hHeld ⊢
     refine pure_ (i := 0) (N := some 6) (v := ?_) (a' := ?_) (b_ 13 1) rfl rfl (any_of HT_.out (by kernel_rfl)) (fun _ _ _ h => h) (Or.inl ⟨by rfl, ?_⟩) ?_ ?_; rotate_left; (· intro w'; go_simp; with_reducible rfl); rotate_left; (· simp only [Act.put, sa_, sz_, ss_, i64_w, i32_w]; rfl)
     refine pure_ (i := 3) (N := some 9) (v := ?_) (a' := ?_) (b_ 13 9) rfl rfl (any_of HT_.out (by kernel_rfl)) (fun _ _ _ h => h) (Or.inl ⟨by rfl, ?_⟩) ?_ ?_; rotate_left; (· intro w'; go_simp; with_reducible rfl); rotate_left; (· simp only [Act.put, sa_, sz_, ss_, i64_w, i32_w]; rfl)
     refine pure_ (i := 7) (N := some 13) (v := ?_) (a' := ?_) (b_ 13 137) rfl rfl (any_of HT_.out (by kernel_rfl)) (fun _ _ _ h => h) (Or.inl ⟨by rfl, ?_⟩) ?_ ?_; rotate_left; (· intro w'; go_simp; with_reducible rfl); rotate_left; (· simp only [Act.put, sa_, sz_, ss_, i64_w, i32_w]; rfl)
     refine take_ (i := 1) (N := some 7) (v := ?_) (a' := ?_) (b_ 13 139) rfl rfl (take_ofW HT_.out HW_.out (by kernel_rfl)) (fun _ _ _ h => h) (Or.inl ⟨by rfl, ?_⟩) hHeld ?_ ?_
     rotate_left
     · rintro w' ⟨s0, s1, s2⟩
       go_simp
       with_reducible rfl
     rotate_left
     · simp only [Act.put, sa_, sz_, ss_, i64_w, i32_w]
       rfl
     refine take_ (i := 4) (N := some 10) (v := ?_) (a' := ?_) (b_ 13 155) rfl rfl (take_ofW HT_.out HW_.out (by kernel_rfl)) (fun _ _ _ h => h) (Or.inl ⟨by rfl, ?_⟩) hHeld ?_ ?_
     rotate_left
     · rintro w' ⟨s0, s1, s2⟩
       go_simp
       with_reducible rfl
     rotate_left
     · simp only [Act.put, sa_, sz_, ss_, i64_w, i32_w]
       rfl
     refine take_ (i := 8) (N := some 14) (v := ?_) (a' := ?_) (b_ 13 411) rfl rfl (take_ofW HT_.out HW_.out (by kernel_rfl)) (fun _ _ _ h => h) (Or.inl ⟨by rfl, ?_⟩) hHeld ?_ ?_
     rotate_left
     · rintro w' ⟨s0, s1, s2⟩
       go_simp
       with_reducible rfl
     rotate_left
     · simp only [Act.put, sa_, sz_, ss_, i64_w, i32_w]
       rfl
     refine pure_ (i := 9) (N := some 15) (v := ?_) (a' := ?_) (b_ 13 923) rfl rfl (any_of HT_.out (by kernel_rfl)) (fun _ _ _ h => h) (Or.inl ⟨by rfl, ?_⟩) ?_ ?_; rotate_left; (· intro w'; go_simp; with_reducible rfl); rotate_left; (· simp only [Act.put, sa_, sz_, ss_, i64_w, i32_w]; rfl)
     refine one_ (i := 2) (N := some 8) (b_ 13 927) rfl rfl (one_of HT_.out (by kernel_rfl)) (by decide) (fun K hK => ?_)
     refine goes_ Tryd.func24 (by kernel_rfl) rfl #[.string a0_0] (by rfl) rfl rfl (by (try simp only [mt_, mc_, mn_]); first | done | rfl) ?_
     with_reducible refine (uR15_text.calls k a0_0 t125 _ A2.out).mono ?_
     rintro e w9 ⟨rfl, hb⟩
     refine ⟨_, rfl, ?_⟩
     have n0_ := ak_ (blk_below (g := gb124) (o := .cells #[.string a0_0, .int .i64 a0_1, .slice A0_2 l0_2.length c0_2] 24 (0, 0)) (by (with_reducible repeat (first | apply zn | apply zd | apply za)); exact BK124.out) hb)
     have n1_ := ak_ (ps (by with_reducible repeat first | exact HB.out | apply pa | apply pd | apply pe | refine zs ?_ GE124.out) hb)
     clear BK124 HB
     have BK124 := n0_
     have HB := n1_
     clear n0_ n1_
     (try clear hb hk hi)
     refine hK.out _ _ ⟨(zc BK124.out 0).trans rfl, (zc BK124.out 1).trans rfl, (zc BK124.out 2).trans rfl⟩ (fun hHeld => ?_)
     clear hK K
     refine norm_ (a' := ?_) ?_ ?_
     rotate_left
     · show Act.put _ (some 8) _ = _
       simp only [Act.put, sa_, sz_, ss_, i64_w, i32_w]
       rfl
     refine one_ (i := 5) (N := some 11) (b_ 13 959) rfl rfl (one_of HT_.out (by kernel_rfl)) (by decide) (fun K hK => ?_)
     refine goes_ Tryd.func25 (by kernel_rfl) rfl #[.int .i64 a0_1] (by rfl) rfl rfl (by (try simp only [mt_, mc_, mn_]); first | done | rfl) ?_
     with_reducible refine (uR04_Num.calls k a0_1 t126 _ A3.out).mono ?_
     rintro e w10 ⟨rfl, hb⟩
     refine ⟨_, rfl, ?_⟩
     have n0_ := ak_ (blk_below (g := gb124) (o := .cells #[.string a0_0, .int .i64 a0_1, .slice A0_2 l0_2.length c0_2] 24 (0, 0)) (by (with_reducible repeat (first | apply zn | apply zd | apply za)); exact BK124.out) hb)
     have n1_ := ak_ (ps (by with_reducible repeat first | exact HB.out | apply pa | apply pd | apply pe | refine zs ?_ GE124.out) hb)
     clear BK124 HB
     have BK124 := n0_
     have HB := n1_
     clear n0_ n1_
     (try clear hb hk hi)
     refine hK.out _ _ ⟨(zc BK124.out 0).trans rfl, (zc BK124.out 1).trans rfl, (zc BK124.out 2).trans rfl⟩ (fun hHeld => ?_)
     clear hK K
     refine norm_ (a' := ?_) ?_ ?_
     rotate_left
     · show Act.put _ (some 11) _ = _
       simp only [Act.put, sa_, sz_, ss_, i64_w, i32_w]
       rfl
     refine pure_ (i := 6) (N := some 12) (v := ?_) (a' := ?_) (b_ 13 1023) rfl rfl (any_of HT_.out (by kernel_rfl)) (fun _ _ _ h => h) (Or.inl ⟨by rfl, ?_⟩) ?_ ?_; rotate_left; (· intro w'; go_simp; with_reducible rfl); rotate_left; (· simp only [Act.put, sa_, sz_, ss_, i64_w, i32_w]; rfl)
     refine one_ (i := 10) (N := some 16) (b_ 13 2047) rfl rfl (one_of HT_.out (by kernel_rfl)) (by decide) (fun K hK => ?_)
     refine goes_ Tryd.func25 (by kernel_rfl) rfl #[.int .i64 (l0_2.length : Int)] (by rfl) rfl rfl (by (try simp only [mt_, mc_, mn_]); first | done | rfl) ?_
     with_reducible refine (uR04_Num.calls k (l0_2.length : Int) t127 _ A5.out).mono ?_
     rintro e w11 ⟨rfl, hb⟩
     refine ⟨_, rfl, ?_⟩
     have n0_ := ak_ (blk_below (g := gb124) (o := .cells #[.string a0_0, .int .i64 a0_1, .slice A0_2 l0_2.length c0_2] 24 (0, 0)) (by (with_reducible repeat (first | apply zn | apply zd | apply za)); exact BK124.out) hb)
     have n1_ := ak_ (ps (by with_reducible repeat first | exact HB.out | apply pa | apply pd | apply pe | refine zs ?_ GE124.out) hb)
     clear BK124 HB
     have BK124 := n0_
     have HB := n1_
     clear n0_ n1_
     (try clear hb hk hi)
     refine hK.out _ _ ⟨(zc BK124.out 0).trans rfl, (zc BK124.out 1).trans rfl, (zc BK124.out 2).trans rfl⟩ (fun hHeld => ?_)
     clear hK K
     refine norm_ (a' := ?_) ?_ ?_
     rotate_left
     · show Act.put _ (some 16) _ = _
       simp only [Act.put, sa_, sz_, ss_, i64_w, i32_w]
       rfl
     refine pure_ (i := 11) (N := some 17) (v := ?_) (a' := ?_) (b_ 13 4095) rfl rfl (any_of HT_.out (by kernel_rfl)) (fun _ _ _ h => h) (Or.inl ⟨by rfl, ?_⟩) ?_ ?_; rotate_left; (· intro w'; go_simp; with_reducible rfl); rotate_left; (· simp only [Act.put, sa_, sz_, ss_, i64_w, i32_w]; rfl)
     refine pure_ (i := 12) (N := some 3) (v := ?_) (a' := ?_) (b_ 13 8191) rfl rfl (any_of HT_.out (by kernel_rfl)) (fun _ _ _ h => h) (Or.inl ⟨by rfl, ?_⟩) ?_ ?_; rotate_left; (· intro w'; go_simp; with_reducible rfl); rotate_left; (· simp only [Act.put, sa_, sz_, ss_, i64_w, i32_w]; rfl)
     refine done_ (done_of HT_.out (by kernel_rfl)) ?_
     try go_wp2
     go_loopg [3, 4] k (fun kq v3 v4 w' => ∃ (x3_1 : ByteArray) (x4_1 : Int), v3 = .string x3_1 ∧ v4 = .int .i64 x4_1 ∧ Aside0 (uR15_Def.l0 kq x3_1 x4_1 a0_0 a0_1 l0_2 = some r) ∧ Aside0 (kq ≤ k) ∧ Aside0 (w'.heap[gb124]? = some (.cells #[.string a0_0, .int .i64 a0_1, (.slice A0_2 l0_2.length c0_2)] 24 (0, 0))) ∧ Aside0 (Below w.heap.size w w'))
     case atStart => exact ⟨((t125 ++ t126) ++ t127), (0), (by first | rfl | simp [*]), (by first | rfl | simp [*]), H', ⟨Nat.le_refl _⟩, ⟨by (with_reducible repeat (first | apply zn | apply zd | apply za)); exact BK124.out⟩, ⟨by repeat (first | (with_reducible first | exact HB.out | apply pa | apply pd | apply pe | refine zs ?_ GE124.out) | exact HB.out)⟩⟩
     case round =>
      clear H'
      try clear c2
      try clear p2
      try clear c4
      try clear c4b0
      try clear c4b1
      try clear c4b2
      try clear c6
      try clear c6b0
      try clear c6b1
      try clear c6b2
      try clear c9
      obtain ⟨x3_1, x4_1, rfl, rfl, HA, HK1, BK124, HB⟩ := hrel
      cases gk with
      | zero => exact absurd HA.out (by simp [uR15_Def.l0])
      | succ k1 =>
       have H := HA.out
       clear HA
       simp only [uR15_Def.l0] at H
       have HF12 := ak_ H
       clear H
       have hcz13_0 : wr.cell? ⟨gb124, 0, none⟩ = some (.string a0_0) := (zc BK124.out 0).trans rfl
       have hcz13_1 : wr.cell? ⟨gb124, 1, none⟩ = some (.int .i64 a0_1) := (zc BK124.out 1).trans rfl
       have hcz13_2 : wr.cell? ⟨gb124, 2, none⟩ = some (.slice A0_2 l0_2.length c0_2) := (zc BK124.out 2).trans rfl
       have hfz13_0 := zf BK124.out 0
       have hfz13_1 := zf BK124.out 1
       have hfz13_2 := zf BK124.out 2
       go_upto_if 22 with (fail)
       have H := HF12.out
       clear HF12
       by_cases c14 : x4_1 < (l0_2.length : Int)
       · rw [if_pos c14] at H
         have c14b0 : decide (x4_1 < (l0_2.length : Int)) = true := dt_ c14
         clear c14
         (first | rw [c14b0] | (simp only [i64_w, i32_w]; rw [c14b0]) | skip)
         by_cases c15 : 0 ≤ x4_1
         · rw [if_pos c15] at H
           have c15b0 : decide (0 ≤ x4_1) = true := dt_ c15
           clear c15
           replace H := ob_ H
           obtain ⟨t130, A160, H⟩ := H
           replace H : (if x3_1.size + t130.size ≤ 9223372036854775807 then ((uR15_text.f k1 ((rT l0_2 x4_1).f1)).bind fun t131 => (if (x3_1 ++ t130).size + t131.size ≤ 9223372036854775807 then ((uR04_Num.f k1 ((rT l0_2 x4_1).f2)).bind fun t132 => (if ((x3_1 ++ t130) ++ t131).size + t132.size ≤ 9223372036854775807 then ((uR15_plan.f k1 ((rT l0_2 x4_1).f3.f0) ((rT l0_2 x4_1).f3.f1) ((rT l0_2 x4_1).f3.f2) ((rT l0_2 x4_1).f3.f3)).bind fun t133 => (if (((x3_1 ++ t130) ++ t131) ++ t132).size + t133.size ≤ 9223372036854775807 then ((uR15_plan.f k1 ((rT l0_2 x4_1).f4.f0) ((rT l0_2 x4_1).f4.f1) ((rT l0_2 x4_1).f4.f2) ((rT l0_2 x4_1).f4.f3)).bind fun t134 => (if ((((x3_1 ++ t130) ++ t131) ++ t132) ++ t133).size + t134.size ≤ 9223372036854775807 then ((uR04_Num.f k1 ((rT l0_2 x4_1).f5)).bind fun t135 => (if (((((x3_1 ++ t130) ++ t131) ++ t132) ++ t133) ++ t134).size + t135.size ≤ 9223372036854775807 then (uR15_Def.l0 k1 ((((((x3_1 ++ t130) ++ t131) ++ t132) ++ t133) ++ t134) ++ t135) (wrap64 (x4_1 + 1)) a0_0 a0_1 l0_2) else (none))) else (none))) else (none))) else (none))) else (none))) else (none)) = some r := H
           have A16 := ak_ A160
           clear A160
           by_cases c17 : x3_1.size + t130.size ≤ 9223372036854775807
           · rw [if_pos c17] at H
             have c17b0 := eq_true c17
             have c17b1 : decide (x3_1.size + t130.size ≤ 9223372036854775807) = true := dt_ c17
             try have c17b2 : (9223372036854775807 < x3_1.size + t130.size) = False := eq_false (Nat.not_lt.2 c17)
             replace H := ob_ H
             obtain ⟨t131, A180, H⟩ := H
             replace H : (if (x3_1 ++ t130).size + t131.size ≤ 9223372036854775807 then ((uR04_Num.f k1 ((rT l0_2 x4_1).f2)).bind fun t132 => (if ((x3_1 ++ t130) ++ t131).size + t132.size ≤ 9223372036854775807 then ((uR15_plan.f k1 ((rT l0_2 x4_1).f3.f0) ((rT l0_2 x4_1).f3.f1) ((rT l0_2 x4_1).f3.f2) ((rT l0_2 x4_1).f3.f3)).bind fun t133 => (if (((x3_1 ++ t130) ++ t131) ++ t132).size + t133.size ≤ 9223372036854775807 then ((uR15_plan.f k1 ((rT l0_2 x4_1).f4.f0) ((rT l0_2 x4_1).f4.f1) ((rT l0_2 x4_1).f4.f2) ((rT l0_2 x4_1).f4.f3)).bind fun t134 => (if ((((x3_1 ++ t130) ++ t131) ++ t132) ++ t133).size + t134.size ≤ 9223372036854775807 then ((uR04_Num.f k1 ((rT l0_2 x4_1).f5)).bind fun t135 => (if (((((x3_1 ++ t130) ++ t131) ++ t132) ++ t133) ++ t134).size + t135.size ≤ 9223372036854775807 then (uR15_Def.l0 k1 ((((((x3_1 ++ t130) ++ t131) ++ t132) ++ t133) ++ t134) ++ t135) (wrap64 (x4_1 + 1)) a0_0 a0_1 l0_2) else (none))) else (none))) else (none))) else (none))) else (none)) = some r := H
             have A18 := ak_ A180
             clear A180
             by_cases c19 : (x3_1 ++ t130).size + t131.size ≤ 9223372036854775807
             · rw [if_pos c19] at H
               have c19b0 := eq_true c19
               have c19b1 : decide ((x3_1 ++ t130).size + t131.size ≤ 9223372036854775807) = true := dt_ c19
               try have c19b2 : (9223372036854775807 < (x3_1 ++ t130).size + t131.size) = False := eq_false (Nat.not_lt.2 c19)
               try have c19b3 := c19b2
               try simp only [ByteArray.size_append] at c19b3
               replace H := ob_ H
               obtain ⟨t132, A200, H⟩ := H
               replace H : (if ((x3_1 ++ t130) ++ t131).size + t132.size ≤ 9223372036854775807 then ((uR15_plan.f k1 ((rT l0_2 x4_1).f3.f0) ((rT l0_2 x4_1).f3.f1) ((rT l0_2 x4_1).f3.f2) ((rT l0_2 x4_1).f3.f3)).bind fun t133 => (if (((x3_1 ++ t130) ++ t131) ++ t132).size + t133.size ≤ 9223372036854775807 then ((uR15_plan.f k1 ((rT l0_2 x4_1).f4.f0) ((rT l0_2 x4_1).f4.f1) ((rT l0_2 x4_1).f4.f2) ((rT l0_2 x4_1).f4.f3)).bind fun t134 => (if ((((x3_1 ++ t130) ++ t131) ++ t132) ++ t133).size + t134.size ≤ 9223372036854775807 then ((uR04_Num.f k1 ((rT l0_2 x4_1).f5)).bind fun t135 => (if (((((x3_1 ++ t130) ++ t131) ++ t132) ++ t133) ++ t134).size + t135.size ≤ 9223372036854775807 then (uR15_Def.l0 k1 ((((((x3_1 ++ t130) ++ t131) ++ t132) ++ t133) ++ t134) ++ t135) (wrap64 (x4_1 + 1)) a0_0 a0_1 l0_2) else (none))) else (none))) else (none))) else (none)) = some r := H
               have A20 := ak_ A200
               clear A200
               by_cases c21 : ((x3_1 ++ t130) ++ t131).size + t132.size ≤ 9223372036854775807
               · rw [if_pos c21] at H
                 have c21b0 := eq_true c21
                 have c21b1 : decide (((x3_1 ++ t130) ++ t131).size + t132.size ≤ 9223372036854775807) = true := dt_ c21
                 try have c21b2 : (9223372036854775807 < ((x3_1 ++ t130) ++ t131).size + t132.size) = False := eq_false (Nat.not_lt.2 c21)
                 try have c21b3 := c21b2
                 try simp only [ByteArray.size_append] at c21b3
                 replace H := ob_ H
                 obtain ⟨t133, A220, H⟩ := H
                 replace H : (if (((x3_1 ++ t130) ++ t131) ++ t132).size + t133.size ≤ 9223372036854775807 then ((uR15_plan.f k1 ((rT l0_2 x4_1).f4.f0) ((rT l0_2 x4_1).f4.f1) ((rT l0_2 x4_1).f4.f2) ((rT l0_2 x4_1).f4.f3)).bind fun t134 => (if ((((x3_1 ++ t130) ++ t131) ++ t132) ++ t133).size + t134.size ≤ 9223372036854775807 then ((uR04_Num.f k1 ((rT l0_2 x4_1).f5)).bind fun t135 => (if (((((x3_1 ++ t130) ++ t131) ++ t132) ++ t133) ++ t134).size + t135.size ≤ 9223372036854775807 then (uR15_Def.l0 k1 ((((((x3_1 ++ t130) ++ t131) ++ t132) ++ t133) ++ t134) ++ t135) (wrap64 (x4_1 + 1)) a0_0 a0_1 l0_2) else (none))) else (none))) else (none)) = some r := H
                 have A22 := ak_ A220
                 clear A220
                 by_cases c23 : (((x3_1 ++ t130) ++ t131) ++ t132).size + t133.size ≤ 9223372036854775807
                 · rw [if_pos c23] at H
                   have c23b0 := eq_true c23
                   have c23b1 : decide ((((x3_1 ++ t130) ++ t131) ++ t132).size + t133.size ≤ 9223372036854775807) = true := dt_ c23
                   try have c23b2 : (9223372036854775807 < (((x3_1 ++ t130) ++ t131) ++ t132).size + t133.size) = False := eq_false (Nat.not_lt.2 c23)
                   try have c23b3 := c23b2
                   try simp only [ByteArray.size_append] at c23b3
                   replace H := ob_ H
                   obtain ⟨t134, A240, H⟩ := H
                   replace H : (if ((((x3_1 ++ t130) ++ t131) ++ t132) ++ t133).size + t134.size ≤ 9223372036854775807 then ((uR04_Num.f k1 ((rT l0_2 x4_1).f5)).bind fun t135 => (if (((((x3_1 ++ t130) ++ t131) ++ t132) ++ t133) ++ t134).size + t135.size ≤ 9223372036854775807 then (uR15_Def.l0 k1 ((((((x3_1 ++ t130) ++ t131) ++ t132) ++ t133) ++ t134) ++ t135) (wrap64 (x4_1 + 1)) a0_0 a0_1 l0_2) else (none))) else (none)) = some r := H
                   have A24 := ak_ A240
                   clear A240
                   by_cases c25 : ((((x3_1 ++ t130) ++ t131) ++ t132) ++ t133).size + t134.size ≤ 9223372036854775807
                   · rw [if_pos c25] at H
                     have c25b0 := eq_true c25
                     have c25b1 : decide (((((x3_1 ++ t130) ++ t131) ++ t132) ++ t133).size + t134.size ≤ 9223372036854775807) = true := dt_ c25
                     try have c25b2 : (9223372036854775807 < ((((x3_1 ++ t130) ++ t131) ++ t132) ++ t133).size + t134.size) = False := eq_false (Nat.not_lt.2 c25)
                     try have c25b3 := c25b2
                     try simp only [ByteArray.size_append] at c25b3
                     replace H := ob_ H
                     obtain ⟨t135, A260, H⟩ := H
                     replace H : (if (((((x3_1 ++ t130) ++ t131) ++ t132) ++ t133) ++ t134).size + t135.size ≤ 9223372036854775807 then (uR15_Def.l0 k1 ((((((x3_1 ++ t130) ++ t131) ++ t132) ++ t133) ++ t134) ++ t135) (wrap64 (x4_1 + 1)) a0_0 a0_1 l0_2) else (none)) = some r := H
                     have A26 := ak_ A260
                     clear A260
                     by_cases c27 : (((((x3_1 ++ t130) ++ t131) ++ t132) ++ t133) ++ t134).size + t135.size ≤ 9223372036854775807
                     · rw [if_pos c27] at H
                       have c27b0 := eq_true c27
                       have c27b1 : decide ((((((x3_1 ++ t130) ++ t131) ++ t132) ++ t133) ++ t134).size + t135.size ≤ 9223372036854775807) = true := dt_ c27
                       try have c27b2 : (9223372036854775807 < (((((x3_1 ++ t130) ++ t131) ++ t132) ++ t133) ++ t134).size + t135.size) = False := eq_false (Nat.not_lt.2 c27)
                       try have c27b3 := c27b2
                       try simp only [ByteArray.size_append] at c27b3
                       have H' := ak_ H
                       clear H
                       have hcz28_0 : wr.cell? ⟨gb124, 0, none⟩ = some (.string a0_0) := (zc BK124.out 0).trans rfl
                       have hcz28_1 : wr.cell? ⟨gb124, 1, none⟩ = some (.int .i64 a0_1) := (zc BK124.out 1).trans rfl
                       have hcz28_2 : wr.cell? ⟨gb124, 2, none⟩ = some (.slice A0_2 l0_2.length c0_2) := (zc BK124.out 2).trans rfl
                       have hfz28_0 := zf BK124.out 0
                       have hfz28_1 := zf BK124.out 1
                       have hfz28_2 := zf BK124.out 2
                       have p128 : 0 ≤ (x4_1 : Int) := of_decide_eq_true (by assumption)
                       have q128 : x4_1 < (l0_2.length : Int) := of_decide_eq_true (by assumption)
                       obtain ⟨ad128, e128, hx128_0, hx128_1, hx128_2, hx128_3, hx128_4, hx128_5, hx128_6, hx128_7, hx128_8, hx128_9, hx128_10, hx128_11⟩ := at_T61 HR0_2.out x4_1 p128 q128
                       cases e128
                       replace hx128_0 := (HB.out.cell (bl_ w _ hx128_0)).trans hx128_0
                       replace hx128_1 := (HB.out.cell (bl_ w _ hx128_1)).trans hx128_1
                       replace hx128_2 := (HB.out.cell (bl_ w _ hx128_2)).trans hx128_2
                       replace hx128_3 := (HB.out.cell (bl_ w _ hx128_3)).trans hx128_3
                       replace hx128_4 := (HB.out.cell (bl_ w _ hx128_4)).trans hx128_4
                       replace hx128_5 := (HB.out.cell (bl_ w _ hx128_5)).trans hx128_5
                       replace hx128_6 := (HB.out.cell (bl_ w _ hx128_6)).trans hx128_6
                       replace hx128_7 := (HB.out.cell (bl_ w _ hx128_7)).trans hx128_7
                       replace hx128_8 := (HB.out.cell (bl_ w _ hx128_8)).trans hx128_8
                       replace hx128_9 := (HB.out.cell (bl_ w _ hx128_9)).trans hx128_9
                       replace hx128_10 := (HB.out.cell (bl_ w _ hx128_10)).trans hx128_10
                       replace hx128_11 := (HB.out.cell (bl_ w _ hx128_11)).trans hx128_11
                       replace p128 := eq_true p128
                       replace q128 := eq_true q128
                       try go_wp2_with (first | ((with_reducible refine gate_dst (N := 5) rfl ?_); refine box_event ?hg (N := 5) ?hd (cs := #[.string ⟨#[]⟩, .string ⟨#[]⟩, .int .i64 0, .int .i64 0, .int .i64 0, .int .i64 0, .int .i64 0, .int .i64 0, .int .i64 0, .int .i64 0, .int .i64 0, .int .i64 0]) (t := 61) ?hr ?_; (case hd | hg => rfl); (case hr => first | (go_simp; done) | (go_simp; rfl)); intro gb129 hg w29 hbox hb; have n0_ := ak_ (blk_below (g := gb124) (o := .cells #[.string a0_0, .int .i64 a0_1, .slice (some ad128) l0_2.length c0_2] 24 (0, 0)) (by (with_reducible repeat (first | apply zn | apply zd | apply za)); exact BK124.out) hb); have n1_ := ak_ (ps (by with_reducible repeat first | exact HB.out | apply pa | apply pd | apply pe | refine zs ?_ GE124.out) hb); have n2_ := ak_ (hbox); have n3_ := ak_ ((by rw [hg]; exact (below_size (by with_reducible repeat first | exact HB.out | apply pa | apply pd | apply pe | refine zs ?_ GE124.out)) : w.heap.size ≤ gb129)); have n4_ := ak_ ((by rw [hg]; exact (below_size (by with_reducible repeat first | exact HB.out | apply pa | apply pd | apply pe | refine zs ?_ GE124.out)) : w.heap.size ≤ gb129)); have n5_ := ak_ ((by rw [hg]; exact Nat.ne_of_lt (blk_lt (g := gb124) (by (with_reducible repeat (first | apply zn | apply zd | apply za)); exact BK124.out)) : gb124 ≠ gb129)); have n6_ := ak_ ((by rw [hg]; exact Nat.ne_of_gt (blk_lt (g := gb124) (by (with_reducible repeat (first | apply zn | apply zd | apply za)); exact BK124.out)) : gb129 ≠ gb124)); clear BK124 HB; have BK124 := n0_; have HB := n1_; have BK129 := n2_; have GW129 := n3_; have GE129 := n4_; have NB124_129 := n5_; have NB129_124 := n6_; clear n0_ n1_ n2_ n3_ n4_ n5_ n6_ hb hbox hg; have hnb30 := NB129_124.out; have hnc30 := NB124_129.out; have hcz31_0 : w29.cell? ⟨gb129, 0, none⟩ = some (.string ⟨#[]⟩) := (zc BK129.out 0).trans rfl; have hcz31_1 : w29.cell? ⟨gb129, 1, none⟩ = some (.string ⟨#[]⟩) := (zc BK129.out 1).trans rfl; have hcz31_2 : w29.cell? ⟨gb129, 2, none⟩ = some (.int .i64 0) := (zc BK129.out 2).trans rfl; have hcz31_3 : w29.cell? ⟨gb129, 3, none⟩ = some (.int .i64 0) := (zc BK129.out 3).trans rfl; have hcz31_4 : w29.cell? ⟨gb129, 4, none⟩ = some (.int .i64 0) := (zc BK129.out 4).trans rfl; have hcz31_5 : w29.cell? ⟨gb129, 5, none⟩ = some (.int .i64 0) := (zc BK129.out 5).trans rfl; have hcz31_6 : w29.cell? ⟨gb129, 6, none⟩ = some (.int .i64 0) := (zc BK129.out 6).trans rfl; have hcz31_7 : w29.cell? ⟨gb129, 7, none⟩ = some (.int .i64 0) := (zc BK129.out 7).trans rfl; have hcz31_8 : w29.cell? ⟨gb129, 8, none⟩ = some (.int .i64 0) := (zc BK129.out 8).trans rfl; have hcz31_9 : w29.cell? ⟨gb129, 9, none⟩ = some (.int .i64 0) := (zc BK129.out 9).trans rfl; have hcz31_10 : w29.cell? ⟨gb129, 10, none⟩ = some (.int .i64 0) := (zc BK129.out 10).trans rfl; have hcz31_11 : w29.cell? ⟨gb129, 11, none⟩ = some (.int .i64 0) := (zc BK129.out 11).trans rfl; have hfz31_0 := zf BK129.out 0; have hfz31_1 := zf BK129.out 1; have hfz31_2 := zf BK129.out 2; have hfz31_3 := zf BK129.out 3; have hfz31_4 := zf BK129.out 4; have hfz31_5 := zf BK129.out 5; have hfz31_6 := zf BK129.out 6; have hfz31_7 := zf BK129.out 7; have hfz31_8 := zf BK129.out 8; have hfz31_9 := zf BK129.out 9; have hfz31_10 := zf BK129.out 10; have hfz31_11 := zf BK129.out 11))
                       have n0_ : Aside0 (((((((((((((w29.setCell ⟨gb129, 0, none⟩ (.string ((rT l0_2 x4_1).f0))).setCell ⟨gb129, 1, none⟩ (.string ((rT l0_2 x4_1).f1))).setCell ⟨gb129, 2, none⟩ (.int .i64 ((rT l0_2 x4_1).f2))).setCell ⟨gb129, 3, none⟩ (.int .i64 ((rT l0_2 x4_1).f3.f0))).setCell ⟨gb129, 4, none⟩ (.int .i64 ((rT l0_2 x4_1).f3.f1))).setCell ⟨gb129, 5, none⟩ (.int .i64 ((rT l0_2 x4_1).f3.f2))).setCell ⟨gb129, 6, none⟩ (.int .i64 ((rT l0_2 x4_1).f3.f3))).setCell ⟨gb129, 7, none⟩ (.int .i64 ((rT l0_2 x4_1).f4.f0))).setCell ⟨gb129, 8, none⟩ (.int .i64 ((rT l0_2 x4_1).f4.f1))).setCell ⟨gb129, 9, none⟩ (.int .i64 ((rT l0_2 x4_1).f4.f2))).setCell ⟨gb129, 10, none⟩ (.int .i64 ((rT l0_2 x4_1).f4.f3))).setCell ⟨gb129, 11, none⟩ (.int .i64 ((rT l0_2 x4_1).f5))).heap[gb124]? = some (.cells #[.string a0_0, .int .i64 a0_1, .slice (some ad128) l0_2.length c0_2] 24 (0, 0))) := ⟨by (repeat (first | (with_reducible first | apply zn | apply zd | apply za) | refine zr ?_ NB124_129.out _)); (with_reducible repeat (first | apply zn | apply zd | apply za)); exact BK124.out⟩
                       have n1_ : Aside0 (((((((((((((w29.setCell ⟨gb129, 0, none⟩ (.string ((rT l0_2 x4_1).f0))).setCell ⟨gb129, 1, none⟩ (.string ((rT l0_2 x4_1).f1))).setCell ⟨gb129, 2, none⟩ (.int .i64 ((rT l0_2 x4_1).f2))).setCell ⟨gb129, 3, none⟩ (.int .i64 ((rT l0_2 x4_1).f3.f0))).setCell ⟨gb129, 4, none⟩ (.int .i64 ((rT l0_2 x4_1).f3.f1))).setCell ⟨gb129, 5, none⟩ (.int .i64 ((rT l0_2 x4_1).f3.f2))).setCell ⟨gb129, 6, none⟩ (.int .i64 ((rT l0_2 x4_1).f3.f3))).setCell ⟨gb129, 7, none⟩ (.int .i64 ((rT l0_2 x4_1).f4.f0))).setCell ⟨gb129, 8, none⟩ (.int .i64 ((rT l0_2 x4_1).f4.f1))).setCell ⟨gb129, 9, none⟩ (.int .i64 ((rT l0_2 x4_1).f4.f2))).setCell ⟨gb129, 10, none⟩ (.int .i64 ((rT l0_2 x4_1).f4.f3))).setCell ⟨gb129, 11, none⟩ (.int .i64 ((rT l0_2 x4_1).f5))).heap[gb129]? = some (.cells #[.string ((rT l0_2 x4_1).f0), .string ((rT l0_2 x4_1).f1), .int .i64 ((rT l0_2 x4_1).f2), .int .i64 ((rT l0_2 x4_1).f3.f0), .int .i64 ((rT l0_2 x4_1).f3.f1), .int .i64 ((rT l0_2 x4_1).f3.f2), .int .i64 ((rT l0_2 x4_1).f3.f3), .int .i64 ((rT l0_2 x4_1).f4.f0), .int .i64 ((rT l0_2 x4_1).f4.f1), .int .i64 ((rT l0_2 x4_1).f4.f2), .int .i64 ((rT l0_2 x4_1).f4.f3), .int .i64 ((rT l0_2 x4_1).f5)] 61 (0, 0))) := ⟨by (with_reducible repeat (first | apply zn | apply zd | apply za)); refine zp (cs := #[.string ((rT l0_2 x4_1).f0), .string ((rT l0_2 x4_1).f1), .int .i64 ((rT l0_2 x4_1).f2), .int .i64 ((rT l0_2 x4_1).f3.f0), .int .i64 ((rT l0_2 x4_1).f3.f1), .int .i64 ((rT l0_2 x4_1).f3.f2), .int .i64 ((rT l0_2 x4_1).f3.f3), .int .i64 ((rT l0_2 x4_1).f4.f0), .int .i64 ((rT l0_2 x4_1).f4.f1), .int .i64 ((rT l0_2 x4_1).f4.f2), .int .i64 ((rT l0_2 x4_1).f4.f3), .int .i64 0]) ?_ 11 _ rfl; (with_reducible repeat (first | apply zn | apply zd | apply za)); refine zp (cs := #[.string ((rT l0_2 x4_1).f0), .string ((rT l0_2 x4_1).f1), .int .i64 ((rT l0_2 x4_1).f2), .int .i64 ((rT l0_2 x4_1).f3.f0), .int .i64 ((rT l0_2 x4_1).f3.f1), .int .i64 ((rT l0_2 x4_1).f3.f2), .int .i64 ((rT l0_2 x4_1).f3.f3), .int .i64 ((rT l0_2 x4_1).f4.f0), .int .i64 ((rT l0_2 x4_1).f4.f1), .int .i64 ((rT l0_2 x4_1).f4.f2), .int .i64 0, .int .i64 0]) ?_ 10 _ rfl; (with_reducible repeat (first | apply zn | apply zd | apply za)); refine zp (cs := #[.string ((rT l0_2 x4_1).f0), .string ((rT l0_2 x4_1).f1), .int .i64 ((rT l0_2 x4_1).f2), .int .i64 ((rT l0_2 x4_1).f3.f0), .int .i64 ((rT l0_2 x4_1).f3.f1), .int .i64 ((rT l0_2 x4_1).f3.f2), .int .i64 ((rT l0_2 x4_1).f3.f3), .int .i64 ((rT l0_2 x4_1).f4.f0), .int .i64 ((rT l0_2 x4_1).f4.f1), .int .i64 0, .int .i64 0, .int .i64 0]) ?_ 9 _ rfl; (with_reducible repeat (first | apply zn | apply zd | apply za)); refine zp (cs := #[.string ((rT l0_2 x4_1).f0), .string ((rT l0_2 x4_1).f1), .int .i64 ((rT l0_2 x4_1).f2), .int .i64 ((rT l0_2 x4_1).f3.f0), .int .i64 ((rT l0_2 x4_1).f3.f1), .int .i64 ((rT l0_2 x4_1).f3.f2), .int .i64 ((rT l0_2 x4_1).f3.f3), .int .i64 ((rT l0_2 x4_1).f4.f0), .int .i64 0, .int .i64 0, .int .i64 0, .int .i64 0]) ?_ 8 _ rfl; (with_reducible repeat (first | apply zn | apply zd | apply za)); refine zp (cs := #[.string ((rT l0_2 x4_1).f0), .string ((rT l0_2 x4_1).f1), .int .i64 ((rT l0_2 x4_1).f2), .int .i64 ((rT l0_2 x4_1).f3.f0), .int .i64 ((rT l0_2 x4_1).f3.f1), .int .i64 ((rT l0_2 x4_1).f3.f2), .int .i64 ((rT l0_2 x4_1).f3.f3), .int .i64 0, .int .i64 0, .int .i64 0, .int .i64 0, .int .i64 0]) ?_ 7 _ rfl; (with_reducible repeat (first | apply zn | apply zd | apply za)); refine zp (cs := #[.string ((rT l0_2 x4_1).f0), .string ((rT l0_2 x4_1).f1), .int .i64 ((rT l0_2 x4_1).f2), .int .i64 ((rT l0_2 x4_1).f3.f0), .int .i64 ((rT l0_2 x4_1).f3.f1), .int .i64 ((rT l0_2 x4_1).f3.f2), .int .i64 0, .int .i64 0, .int .i64 0, .int .i64 0, .int .i64 0, .int .i64 0]) ?_ 6 _ rfl; (with_reducible repeat (first | apply zn | apply zd | apply za)); refine zp (cs := #[.string ((rT l0_2 x4_1).f0), .string ((rT l0_2 x4_1).f1), .int .i64 ((rT l0_2 x4_1).f2), .int .i64 ((rT l0_2 x4_1).f3.f0), .int .i64 ((rT l0_2 x4_1).f3.f1), .int .i64 0, .int .i64 0, .int .i64 0, .int .i64 0, .int .i64 0, .int .i64 0, .int .i64 0]) ?_ 5 _ rfl; (with_reducible repeat (first | apply zn | apply zd | apply za)); refine zp (cs := #[.string ((rT l0_2 x4_1).f0), .string ((rT l0_2 x4_1).f1), .int .i64 ((rT l0_2 x4_1).f2), .int .i64 ((rT l0_2 x4_1).f3.f0), .int .i64 0, .int .i64 0, .int .i64 0, .int .i64 0, .int .i64 0, .int .i64 0, .int .i64 0, .int .i64 0]) ?_ 4 _ rfl; (with_reducible repeat (first | apply zn | apply zd | apply za)); refine zp (cs := #[.string ((rT l0_2 x4_1).f0), .string ((rT l0_2 x4_1).f1), .int .i64 ((rT l0_2 x4_1).f2), .int .i64 0, .int .i64 0, .int .i64 0, .int .i64 0, .int .i64 0, .int .i64 0, .int .i64 0, .int .i64 0, .int .i64 0]) ?_ 3 _ rfl; (with_reducible repeat (first | apply zn | apply zd | apply za)); refine zp (cs := #[.string ((rT l0_2 x4_1).f0), .string ((rT l0_2 x4_1).f1), .int .i64 0, .int .i64 0, .int .i64 0, .int .i64 0, .int .i64 0, .int .i64 0, .int .i64 0, .int .i64 0, .int .i64 0, .int .i64 0]) ?_ 2 _ rfl; (with_reducible repeat (first | apply zn | apply zd | apply za)); refine zp (cs := #[.string ((rT l0_2 x4_1).f0), .string ⟨#[]⟩, .int .i64 0, .int .i64 0, .int .i64 0, .int .i64 0, .int .i64 0, .int .i64 0, .int .i64 0, .int .i64 0, .int .i64 0, .int .i64 0]) ?_ 1 _ rfl; (with_reducible repeat (first | apply zn | apply zd | apply za)); refine zp (cs := #[.string ⟨#[]⟩, .string ⟨#[]⟩, .int .i64 0, .int .i64 0, .int .i64 0, .int .i64 0, .int .i64 0, .int .i64 0, .int .i64 0, .int .i64 0, .int .i64 0, .int .i64 0]) ?_ 0 _ rfl; (with_reducible repeat (first | apply zn | apply zd | apply za)); exact BK129.out⟩
                       have n2_ : Aside0 (Below w.heap.size w ((((((((((((w29.setCell ⟨gb129, 0, none⟩ (.string ((rT l0_2 x4_1).f0))).setCell ⟨gb129, 1, none⟩ (.string ((rT l0_2 x4_1).f1))).setCell ⟨gb129, 2, none⟩ (.int .i64 ((rT l0_2 x4_1).f2))).setCell ⟨gb129, 3, none⟩ (.int .i64 ((rT l0_2 x4_1).f3.f0))).setCell ⟨gb129, 4, none⟩ (.int .i64 ((rT l0_2 x4_1).f3.f1))).setCell ⟨gb129, 5, none⟩ (.int .i64 ((rT l0_2 x4_1).f3.f2))).setCell ⟨gb129, 6, none⟩ (.int .i64 ((rT l0_2 x4_1).f3.f3))).setCell ⟨gb129, 7, none⟩ (.int .i64 ((rT l0_2 x4_1).f4.f0))).setCell ⟨gb129, 8, none⟩ (.int .i64 ((rT l0_2 x4_1).f4.f1))).setCell ⟨gb129, 9, none⟩ (.int .i64 ((rT l0_2 x4_1).f4.f2))).setCell ⟨gb129, 10, none⟩ (.int .i64 ((rT l0_2 x4_1).f4.f3))).setCell ⟨gb129, 11, none⟩ (.int .i64 ((rT l0_2 x4_1).f5)))) := ⟨by repeat (first | (with_reducible first | exact HB.out | apply pa | apply pd | apply pe | refine zs ?_ GE124.out | refine zs ?_ GE129.out) | exact HB.out)⟩
                       (try clear BK124)
                       generalize ((((((((((((w29.setCell ⟨gb129, 0, none⟩ (.string ((rT l0_2 x4_1).f0))).setCell ⟨gb129, 1, none⟩ (.string ((rT l0_2 x4_1).f1))).setCell ⟨gb129, 2, none⟩ (.int .i64 ((rT l0_2 x4_1).f2))).setCell ⟨gb129, 3, none⟩ (.int .i64 ((rT l0_2 x4_1).f3.f0))).setCell ⟨gb129, 4, none⟩ (.int .i64 ((rT l0_2 x4_1).f3.f1))).setCell ⟨gb129, 5, none⟩ (.int .i64 ((rT l0_2 x4_1).f3.f2))).setCell ⟨gb129, 6, none⟩ (.int .i64 ((rT l0_2 x4_1).f3.f3))).setCell ⟨gb129, 7, none⟩ (.int .i64 ((rT l0_2 x4_1).f4.f0))).setCell ⟨gb129, 8, none⟩ (.int .i64 ((rT l0_2 x4_1).f4.f1))).setCell ⟨gb129, 9, none⟩ (.int .i64 ((rT l0_2 x4_1).f4.f2))).setCell ⟨gb129, 10, none⟩ (.int .i64 ((rT l0_2 x4_1).f4.f3))).setCell ⟨gb129, 11, none⟩ (.int .i64 ((rT l0_2 x4_1).f5))) = w32 at n0_ n1_ n2_ ⊢
                       have BK124 := n0_
                       have BK129 := n1_
                       have HB := n2_
                       clear n0_ n1_ n2_
                       have n0_ := ak_ (zd BK124.out)
                       have n1_ := ak_ (zd BK129.out)
                       have n2_ := ak_ (pe HB.out)
                       clear BK124 BK129 HB
                       have BK124 := n0_
                       have BK129 := n1_
                       have HB := n2_
                       clear n0_ n1_ n2_
                       refine start_ (n := 26) (S := fun w' => w'.cell? ⟨gb129, 0, none⟩ = some (.string ((rT l0_2 x4_1).f0)) ∧ w'.cell? ⟨gb129, 1, none⟩ = some (.string ((rT l0_2 x4_1).f1)) ∧ w'.cell? ⟨gb129, 2, none⟩ = some (.int .i64 ((rT l0_2 x4_1).f2)) ∧ w'.cell? ⟨gb129, 3, none⟩ = some (.int .i64 ((rT l0_2 x4_1).f3.f0)) ∧ w'.cell? ⟨gb129, 4, none⟩ = some (.int .i64 ((rT l0_2 x4_1).f3.f1)) ∧ w'.cell? ⟨gb129, 5, none⟩ = some (.int .i64 ((rT l0_2 x4_1).f3.f2)) ∧ w'.cell? ⟨gb129, 6, none⟩ = some (.int .i64 ((rT l0_2 x4_1).f3.f3)) ∧ w'.cell? ⟨gb129, 7, none⟩ = some (.int .i64 ((rT l0_2 x4_1).f4.f0)) ∧ w'.cell? ⟨gb129, 8, none⟩ = some (.int .i64 ((rT l0_2 x4_1).f4.f1)) ∧ w'.cell? ⟨gb129, 9, none⟩ = some (.int .i64 ((rT l0_2 x4_1).f4.f2)) ∧ w'.cell? ⟨gb129, 10, none⟩ = some (.int .i64 ((rT l0_2 x4_1).f4.f3)) ∧ w'.cell? ⟨gb129, 11, none⟩ = some (.int .i64 ((rT l0_2 x4_1).f5))) (ds := []) #[false, false, false, false, false, false, false, false, false, false, false, false, false, false, false, false, false, false, false, false, false, false, false, false, false, false] (by kernel_rfl) rfl rfl ⟨(zc BK129.out 0).trans rfl, (zc BK129.out 1).trans rfl, (zc BK129.out 2).trans rfl, (zc BK129.out 3).trans rfl, (zc BK129.out 4).trans rfl, (zc BK129.out 5).trans rfl, (zc BK129.out 6).trans rfl, (zc BK129.out 7).trans rfl, (zc BK129.out 8).trans rfl, (zc BK129.out 9).trans rfl, (zc BK129.out 10).trans rfl, (zc BK129.out 11).trans rfl⟩ (fun hHeld => ?_); refine with_tabW uR15_Def.tab6 uR15_Def.bits6 (fun HT_ HW_ => ?_)
                       generalize w32.drew = w33 at BK124 BK129 HB hHeld ⊢
                       refine pure_ (i := 0) (N := some 30) (v := ?_) (a' := ?_) (b_ 26 1) rfl rfl (any_of HT_.out (by kernel_rfl)) (fun _ _ _ h => h) (Or.inl ⟨by rfl, ?_⟩) ?_ ?_; rotate_left; (· intro w'; go_simp; with_reducible rfl); rotate_left; (· simp only [Act.put, sa_, sz_, ss_, i64_w, i32_w]; rfl)
                       refine pure_ (i := 1) (N := some 31) (v := ?_) (a' := ?_) (b_ 26 3) rfl rfl (any_of HT_.out (by kernel_rfl)) (fun _ _ _ h => h) (Or.inl ⟨by rfl, ?_⟩) ?_ ?_; rotate_left; (· intro w'; go_simp; with_reducible rfl); rotate_left; (· simp only [Act.put, sa_, sz_, ss_, i64_w, i32_w]; rfl)
                       refine pure_ (i := 5) (N := some 35) (v := ?_) (a' := ?_) (b_ 26 35) rfl rfl (any_of HT_.out (by kernel_rfl)) (fun _ _ _ h => h) (Or.inl ⟨by rfl, ?_⟩) ?_ ?_; rotate_left; (· intro w'; go_simp; with_reducible rfl); rotate_left; (· simp only [Act.put, sa_, sz_, ss_, i64_w, i32_w]; rfl)
                       refine pure_ (i := 9) (N := some 39) (v := ?_) (a' := ?_) (b_ 26 547) rfl rfl (any_of HT_.out (by kernel_rfl)) (fun _ _ _ h => h) (Or.inl ⟨by rfl, ?_⟩) ?_ ?_; rotate_left; (· intro w'; go_simp; with_reducible rfl); rotate_left; (· simp only [Act.put, sa_, sz_, ss_, i64_w, i32_w]; rfl)
                       refine pure_ (i := 13) (N := some 43) (v := ?_) (a' := ?_) (b_ 26 8739) rfl rfl (any_of HT_.out (by kernel_rfl)) (fun _ _ _ h => h) (Or.inl ⟨by rfl, ?_⟩) ?_ ?_; rotate_left; (· intro w'; go_simp; with_reducible rfl); rotate_left; (· simp only [Act.put, sa_, sz_, ss_, i64_w, i32_w]; rfl)
                       refine pure_ (i := 17) (N := some 47) (v := ?_) (a' := ?_) (b_ 26 139811) rfl rfl (any_of HT_.out (by kernel_rfl)) (fun _ _ _ h => h) (Or.inl ⟨by rfl, ?_⟩) ?_ ?_; rotate_left; (· intro w'; go_simp; with_reducible rfl); rotate_left; (· simp only [Act.put, sa_, sz_, ss_, i64_w, i32_w]; rfl)
                       refine pure_ (i := 21) (N := some 51) (v := ?_) (a' := ?_) (b_ 26 2236963) rfl rfl (any_of HT_.out (by kernel_rfl)) (fun _ _ _ h => h) (Or.inl ⟨by rfl, ?_⟩) ?_ ?_; rotate_left; (· intro w'; go_simp; with_reducible rfl); rotate_left; (· simp only [Act.put, sa_, sz_, ss_, i64_w, i32_w]; rfl)
                       refine take_ (i := 2) (N := some 32) (v := ?_) (a' := ?_) (b_ 26 2236967) rfl rfl (take_ofW HT_.out HW_.out (by kernel_rfl)) (fun _ _ _ h => h) (Or.inl ⟨by rfl, ?_⟩) hHeld ?_ ?_
                       rotate_left
                       · rintro w' ⟨s0, s1, s2, s3, s4, s5, s6, s7, s8, s9, s10, s11⟩
                         go_simp
                         with_reducible rfl
                       rotate_left
                       · simp only [Act.put, sa_, sz_, ss_, i64_w, i32_w]
                         rfl
                       refine take_ (i := 6) (N := some 36) (v := ?_) (a' := ?_) (b_ 26 2237031) rfl rfl (take_ofW HT_.out HW_.out (by kernel_rfl)) (fun _ _ _ h => h) (Or.inl ⟨by rfl, ?_⟩) hHeld ?_ ?_
                       rotate_left
                       · rintro w' ⟨s0, s1, s2, s3, s4, s5, s6, s7, s8, s9, s10, s11⟩
                         go_simp
                         with_reducible rfl
                       rotate_left
                       · simp only [Act.put, sa_, sz_, ss_, i64_w, i32_w]
                         rfl
                       refine take_ (i := 10) (N := some 40) (v := ?_) (a' := ?_) (b_ 26 2238055) rfl rfl (take_ofW HT_.out HW_.out (by kernel_rfl)) (fun _ _ _ h => h) (Or.inl ⟨by rfl, ?_⟩) hHeld ?_ ?_
                       rotate_left
                       · rintro w' ⟨s0, s1, s2, s3, s4, s5, s6, s7, s8, s9, s10, s11⟩
                         go_simp
                         with_reducible rfl
                       rotate_left
                       · simp only [Act.put, sa_, sz_, ss_, i64_w, i32_w]
                         rfl
                       refine take_ (i := 14) (N := some 44) (v := ?_) (a' := ?_) (b_ 26 2254439) rfl rfl (take_ofW HT_.out HW_.out (by kernel_rfl)) (fun _ _ _ h => h) (Or.inl ⟨by rfl, ?_⟩) hHeld ?_ ?_
                       rotate_left
                       · rintro w' ⟨s0, s1, s2, s3, s4, s5, s6, s7, s8, s9, s10, s11⟩
                         go_simp
                         with_reducible rfl
                       rotate_left
                       · simp only [Act.put, sa_, sz_, ss_, i64_w, i32_w]
                         rfl
                       refine take_ (i := 18) (N := some 48) (v := ?_) (a' := ?_) (b_ 26 2516583) rfl rfl (take_ofW HT_.out HW_.out (by kernel_rfl)) (fun _ _ _ h => h) (Or.inl ⟨by rfl, ?_⟩) hHeld ?_ ?_
                       rotate_left
                       · rintro w' ⟨s0, s1, s2, s3, s4, s5, s6, s7, s8, s9, s10, s11⟩
                         go_simp
                         with_reducible rfl
                       rotate_left
                       · simp only [Act.put, sa_, sz_, ss_, i64_w, i32_w]
                         rfl
                       refine take_ (i := 22) (N := some 52) (v := ?_) (a' := ?_) (b_ 26 6710887) rfl rfl (take_ofW HT_.out HW_.out (by kernel_rfl)) (fun _ _ _ h => h) (Or.inl ⟨by rfl, ?_⟩) hHeld ?_ ?_
                       rotate_left
                       · rintro w' ⟨s0, s1, s2, s3, s4, s5, s6, s7, s8, s9, s10, s11⟩
                         go_simp
                         with_reducible rfl
                       rotate_left
                       · simp only [Act.put, sa_, sz_, ss_, i64_w, i32_w]
                         rfl
                       refine one_ (i := 3) (N := some 33) (b_ 26 6710895) rfl rfl (one_of HT_.out (by kernel_rfl)) (by decide) (fun K hK => ?_)
                       refine goes_ Tryd.func24 (by kernel_rfl) rfl #[.string ((rT l0_2 x4_1).f0)] (by rfl) rfl rfl (by (try simp only [mt_, mc_, mn_]); first | done | rfl) ?_
                       with_reducible refine (uR15_text.calls k1 ((rT l0_2 x4_1).f0) t130 _ A16.out).mono ?_
                       rintro e w34 ⟨rfl, hb⟩
                       refine ⟨_, rfl, ?_⟩
                       have n0_ := ak_ (blk_below (g := gb124) (o := .cells #[.string a0_0, .int .i64 a0_1, .slice (some ad128) l0_2.length c0_2] 24 (0, 0)) (by (with_reducible repeat (first | apply zn | apply zd | apply za)); exact BK124.out) hb)
                       have n1_ := ak_ (blk_below (g := gb129) (o := .cells #[.string ((rT l0_2 x4_1).f0), .string ((rT l0_2 x4_1).f1), .int .i64 ((rT l0_2 x4_1).f2), .int .i64 ((rT l0_2 x4_1).f3.f0), .int .i64 ((rT l0_2 x4_1).f3.f1), .int .i64 ((rT l0_2 x4_1).f3.f2), .int .i64 ((rT l0_2 x4_1).f3.f3), .int .i64 ((rT l0_2 x4_1).f4.f0), .int .i64 ((rT l0_2 x4_1).f4.f1), .int .i64 ((rT l0_2 x4_1).f4.f2), .int .i64 ((rT l0_2 x4_1).f4.f3), .int .i64 ((rT l0_2 x4_1).f5)] 61 (0, 0)) (by (with_reducible repeat (first | apply zn | apply zd | apply za)); exact BK129.out) hb)
                       have n2_ := ak_ (ps (by with_reducible repeat first | exact HB.out | apply pa | apply pd | apply pe | refine zs ?_ GE124.out | refine zs ?_ GE129.out) hb)
                       clear BK124 BK129 HB
                       have BK124 := n0_
                       have BK129 := n1_
                       have HB := n2_
                       clear n0_ n1_ n2_
                       (try clear hb hk hi)
                       refine hK.out _ _ ⟨(zc BK129.out 0).trans rfl, (zc BK129.out 1).trans rfl, (zc BK129.out 2).trans rfl, (zc BK129.out 3).trans rfl, (zc BK129.out 4).trans rfl, (zc BK129.out 5).trans rfl, (zc BK129.out 6).trans rfl, (zc BK129.out 7).trans rfl, (zc BK129.out 8).trans rfl, (zc BK129.out 9).trans rfl, (zc BK129.out 10).trans rfl, (zc BK129.out 11).trans rfl⟩ (fun hHeld => ?_)
                       clear hK K
                       refine norm_ (a' := ?_) ?_ ?_
                       rotate_left
                       · show Act.put _ (some 33) _ = _
                         simp only [Act.put, sa_, sz_, ss_, i64_w, i32_w]
                         rfl
                       refine pure_ (i := 4) (N := some 34) (v := ?_) (a' := ?_) (b_ 26 6710911) rfl rfl (any_of HT_.out (by kernel_rfl)) (fun _ _ _ h => h) (Or.inl ⟨by rfl, ?_⟩) ?_ ?_; rotate_left; (· intro w'; go_simp; with_reducible rfl); rotate_left; (· simp only [Act.put, sa_, sz_, ss_, i64_w, i32_w]; rfl)
                       refine one_ (i := 7) (N := some 37) (b_ 26 6711039) rfl rfl (one_of HT_.out (by kernel_rfl)) (by decide) (fun K hK => ?_)
                       refine goes_ Tryd.func24 (by kernel_rfl) rfl #[.string ((rT l0_2 x4_1).f1)] (by rfl) rfl rfl (by (try simp only [mt_, mc_, mn_]); first | done | rfl) ?_
                       with_reducible refine (uR15_text.calls k1 ((rT l0_2 x4_1).f1) t131 _ A18.out).mono ?_
                       rintro e w35 ⟨rfl, hb⟩
                       refine ⟨_, rfl, ?_⟩
                       have n0_ := ak_ (blk_below (g := gb124) (o := .cells #[.string a0_0, .int .i64 a0_1, .slice (some ad128) l0_2.length c0_2] 24 (0, 0)) (by (with_reducible repeat (first | apply zn | apply zd | apply za)); exact BK124.out) hb)
                       have n1_ := ak_ (blk_below (g := gb129) (o := .cells #[.string ((rT l0_2 x4_1).f0), .string ((rT l0_2 x4_1).f1), .int .i64 ((rT l0_2 x4_1).f2), .int .i64 ((rT l0_2 x4_1).f3.f0), .int .i64 ((rT l0_2 x4_1).f3.f1), .int .i64 ((rT l0_2 x4_1).f3.f2), .int .i64 ((rT l0_2 x4_1).f3.f3), .int .i64 ((rT l0_2 x4_1).f4.f0), .int .i64 ((rT l0_2 x4_1).f4.f1), .int .i64 ((rT l0_2 x4_1).f4.f2), .int .i64 ((rT l0_2 x4_1).f4.f3), .int .i64 ((rT l0_2 x4_1).f5)] 61 (0, 0)) (by (with_reducible repeat (first | apply zn | apply zd | apply za)); exact BK129.out) hb)
                       have n2_ := ak_ (ps (by with_reducible repeat first | exact HB.out | apply pa | apply pd | apply pe | refine zs ?_ GE124.out | refine zs ?_ GE129.out) hb)
                       clear BK124 BK129 HB
                       have BK124 := n0_
                       have BK129 := n1_
                       have HB := n2_
                       clear n0_ n1_ n2_
                       (try clear hb hk hi)
                       refine hK.out _ _ ⟨(zc BK129.out 0).trans rfl, (zc BK129.out 1).trans rfl, (zc BK129.out 2).trans rfl, (zc BK129.out 3).trans rfl, (zc BK129.out 4).trans rfl, (zc BK129.out 5).trans rfl, (zc BK129.out 6).trans rfl, (zc BK129.out 7).trans rfl, (zc BK129.out 8).trans rfl, (zc BK129.out 9).trans rfl, (zc BK129.out 10).trans rfl, (zc BK129.out 11).trans rfl⟩ (fun hHeld => ?_)
                       clear hK K
                       refine norm_ (a' := ?_) ?_ ?_
                       rotate_left
                       · show Act.put _ (some 37) _ = _
                         simp only [Act.put, sa_, sz_, ss_, i64_w, i32_w]
                         rfl
                       refine pure_ (i := 8) (N := some 38) (v := ?_) (a' := ?_) (b_ 26 6711295) rfl rfl (any_of HT_.out (by kernel_rfl)) (fun _ _ _ h => h) (Or.inl ⟨by rfl, ?_⟩) ?_ ?_; rotate_left; (· intro w'; go_simp; with_reducible rfl); rotate_left; (· simp only [Act.put, sa_, sz_, ss_, i64_w, i32_w]; rfl)
                       refine one_ (i := 11) (N := some 41) (b_ 26 6713343) rfl rfl (one_of HT_.out (by kernel_rfl)) (by decide) (fun K hK => ?_)
                       refine goes_ Tryd.func25 (by kernel_rfl) rfl #[.int .i64 ((rT l0_2 x4_1).f2)] (by rfl) rfl rfl (by (try simp only [mt_, mc_, mn_]); first | done | rfl) ?_
                       with_reducible refine (uR04_Num.calls k1 ((rT l0_2 x4_1).f2) t132 _ A20.out).mono ?_
                       rintro e w36 ⟨rfl, hb⟩
                       refine ⟨_, rfl, ?_⟩
                       have n0_ := ak_ (blk_below (g := gb124) (o := .cells #[.string a0_0, .int .i64 a0_1, .slice (some ad128) l0_2.length c0_2] 24 (0, 0)) (by (with_reducible repeat (first | apply zn | apply zd | apply za)); exact BK124.out) hb)
                       have n1_ := ak_ (blk_below (g := gb129) (o := .cells #[.string ((rT l0_2 x4_1).f0), .string ((rT l0_2 x4_1).f1), .int .i64 ((rT l0_2 x4_1).f2), .int .i64 ((rT l0_2 x4_1).f3.f0), .int .i64 ((rT l0_2 x4_1).f3.f1), .int .i64 ((rT l0_2 x4_1).f3.f2), .int .i64 ((rT l0_2 x4_1).f3.f3), .int .i64 ((rT l0_2 x4_1).f4.f0), .int .i64 ((rT l0_2 x4_1).f4.f1), .int .i64 ((rT l0_2 x4_1).f4.f2), .int .i64 ((rT l0_2 x4_1).f4.f3), .int .i64 ((rT l0_2 x4_1).f5)] 61 (0, 0)) (by (with_reducible repeat (first | apply zn | apply zd | apply za)); exact BK129.out) hb)
                       have n2_ := ak_ (ps (by with_reducible repeat first | exact HB.out | apply pa | apply pd | apply pe | refine zs ?_ GE124.out | refine zs ?_ GE129.out) hb)
                       clear BK124 BK129 HB
                       have BK124 := n0_
                       have BK129 := n1_
                       have HB := n2_
                       clear n0_ n1_ n2_
                       (try clear hb hk hi)
                       refine hK.out _ _ ⟨(zc BK129.out 0).trans rfl, (zc BK129.out 1).trans rfl, (zc BK129.out 2).trans rfl, (zc BK129.out 3).trans rfl, (zc BK129.out 4).trans rfl, (zc BK129.out 5).trans rfl, (zc BK129.out 6).trans rfl, (zc BK129.out 7).trans rfl, (zc BK129.out 8).trans rfl, (zc BK129.out 9).trans rfl, (zc BK129.out 10).trans rfl, (zc BK129.out 11).trans rfl⟩ (fun hHeld => ?_)
                       clear hK K
                       refine norm_ (a' := ?_) ?_ ?_
                       rotate_left
                       · show Act.put _ (some 41) _ = _
                         simp only [Act.put, sa_, sz_, ss_, i64_w, i32_w]
                         rfl
                       refine pure_ (i := 12) (N := some 42) (v := ?_) (a' := ?_) (b_ 26 6717439) rfl rfl (any_of HT_.out (by kernel_rfl)) (fun _ _ _ h => h) (Or.inl ⟨by rfl, ?_⟩) ?_ ?_; rotate_left; (· intro w'; go_simp; with_reducible rfl); rotate_left; (· simp only [Act.put, sa_, sz_, ss_, i64_w, i32_w]; rfl)
                       refine one_ (i := 15) (N := some 45) (b_ 26 6750207) rfl rfl (one_of HT_.out (by kernel_rfl)) (by decide) (fun K hK => ?_)
                       refine goes_ Tryd.func26 (by kernel_rfl) rfl #[.agg #[.int .i64 ((rT l0_2 x4_1).f3.f0), .int .i64 ((rT l0_2 x4_1).f3.f1), .int .i64 ((rT l0_2 x4_1).f3.f2), .int .i64 ((rT l0_2 x4_1).f3.f3)]] (by rfl) rfl rfl (by (try simp only [mt_, mc_, mn_]); first | done | rfl) ?_
                       with_reducible refine (uR15_plan.calls k1 ((rT l0_2 x4_1).f3.f0) ((rT l0_2 x4_1).f3.f1) ((rT l0_2 x4_1).f3.f2) ((rT l0_2 x4_1).f3.f3) t133 _ A22.out).mono ?_
                       rintro e w37 ⟨rfl, hb⟩
                       refine ⟨_, rfl, ?_⟩
                       have n0_ := ak_ (blk_below (g := gb124) (o := .cells #[.string a0_0, .int .i64 a0_1, .slice (some ad128) l0_2.length c0_2] 24 (0, 0)) (by (with_reducible repeat (first | apply zn | apply zd | apply za)); exact BK124.out) hb)
                       have n1_ := ak_ (blk_below (g := gb129) (o := .cells #[.string ((rT l0_2 x4_1).f0), .string ((rT l0_2 x4_1).f1), .int .i64 ((rT l0_2 x4_1).f2), .int .i64 ((rT l0_2 x4_1).f3.f0), .int .i64 ((rT l0_2 x4_1).f3.f1), .int .i64 ((rT l0_2 x4_1).f3.f2), .int .i64 ((rT l0_2 x4_1).f3.f3), .int .i64 ((rT l0_2 x4_1).f4.f0), .int .i64 ((rT l0_2 x4_1).f4.f1), .int .i64 ((rT l0_2 x4_1).f4.f2), .int .i64 ((rT l0_2 x4_1).f4.f3), .int .i64 ((rT l0_2 x4_1).f5)] 61 (0, 0)) (by (with_reducible repeat (first | apply zn | apply zd | apply za)); exact BK129.out) hb)
                       have n2_ := ak_ (ps (by with_reducible repeat first | exact HB.out | apply pa | apply pd | apply pe | refine zs ?_ GE124.out | refine zs ?_ GE129.out) hb)
                       clear BK124 BK129 HB
                       have BK124 := n0_
                       have BK129 := n1_
                       have HB := n2_
                       clear n0_ n1_ n2_
                       (try clear hb hk hi)
                       refine hK.out _ _ ⟨(zc BK129.out 0).trans rfl, (zc BK129.out 1).trans rfl, (zc BK129.out 2).trans rfl, (zc BK129.out 3).trans rfl, (zc BK129.out 4).trans rfl, (zc BK129.out 5).trans rfl, (zc BK129.out 6).trans rfl, (zc BK129.out 7).trans rfl, (zc BK129.out 8).trans rfl, (zc BK129.out 9).trans rfl, (zc BK129.out 10).trans rfl, (zc BK129.out 11).trans rfl⟩ (fun hHeld => ?_)
                       clear hK K
                       refine norm_ (a' := ?_) ?_ ?_
                       rotate_left
                       · show Act.put _ (some 45) _ = _
                         simp only [Act.put, sa_, sz_, ss_, i64_w, i32_w]
                         rfl
                       refine pure_ (i := 16) (N := some 46) (v := ?_) (a' := ?_) (b_ 26 6815743) rfl rfl (any_of HT_.out (by kernel_rfl)) (fun _ _ _ h => h) (Or.inl ⟨by rfl, ?_⟩) ?_ ?_; rotate_left; (· intro w'; go_simp; with_reducible rfl); rotate_left; (· simp only [Act.put, sa_, sz_, ss_, i64_w, i32_w]; rfl)
                       refine one_ (i := 19) (N := some 49) (b_ 26 7340031) rfl rfl (one_of HT_.out (by kernel_rfl)) (by decide) (fun K hK => ?_)
                       refine goes_ Tryd.func26 (by kernel_rfl) rfl #[.agg #[.int .i64 ((rT l0_2 x4_1).f4.f0), .int .i64 ((rT l0_2 x4_1).f4.f1), .int .i64 ((rT l0_2 x4_1).f4.f2), .int .i64 ((rT l0_2 x4_1).f4.f3)]] (by rfl) rfl rfl (by (try simp only [mt_, mc_, mn_]); first | done | rfl) ?_
                       with_reducible refine (uR15_plan.calls k1 ((rT l0_2 x4_1).f4.f0) ((rT l0_2 x4_1).f4.f1) ((rT l0_2 x4_1).f4.f2) ((rT l0_2 x4_1).f4.f3) t134 _ A24.out).mono ?_
                       rintro e w38 ⟨rfl, hb⟩
                       refine ⟨_, rfl, ?_⟩
                       have n0_ := ak_ (blk_below (g := gb124) (o := .cells #[.string a0_0, .int .i64 a0_1, .slice (some ad128) l0_2.length c0_2] 24 (0, 0)) (by (with_reducible repeat (first | apply zn | apply zd | apply za)); exact BK124.out) hb)
                       have n1_ := ak_ (blk_below (g := gb129) (o := .cells #[.string ((rT l0_2 x4_1).f0), .string ((rT l0_2 x4_1).f1), .int .i64 ((rT l0_2 x4_1).f2), .int .i64 ((rT l0_2 x4_1).f3.f0), .int .i64 ((rT l0_2 x4_1).f3.f1), .int .i64 ((rT l0_2 x4_1).f3.f2), .int .i64 ((rT l0_2 x4_1).f3.f3), .int .i64 ((rT l0_2 x4_1).f4.f0), .int .i64 ((rT l0_2 x4_1).f4.f1), .int .i64 ((rT l0_2 x4_1).f4.f2), .int .i64 ((rT l0_2 x4_1).f4.f3), .int .i64 ((rT l0_2 x4_1).f5)] 61 (0, 0)) (by (with_reducible repeat (first | apply zn | apply zd | apply za)); exact BK129.out) hb)
                       have n2_ := ak_ (ps (by with_reducible repeat first | exact HB.out | apply pa | apply pd | apply pe | refine zs ?_ GE124.out | refine zs ?_ GE129.out) hb)
                       clear BK124 BK129 HB
                       have BK124 := n0_
                       have BK129 := n1_
                       have HB := n2_
                       clear n0_ n1_ n2_
                       (try clear hb hk hi)
                       refine hK.out _ _ ⟨(zc BK129.out 0).trans rfl, (zc BK129.out 1).trans rfl, (zc BK129.out 2).trans rfl, (zc BK129.out 3).trans rfl, (zc BK129.out 4).trans rfl, (zc BK129.out 5).trans rfl, (zc BK129.out 6).trans rfl, (zc BK129.out 7).trans rfl, (zc BK129.out 8).trans rfl, (zc BK129.out 9).trans rfl, (zc BK129.out 10).trans rfl, (zc BK129.out 11).trans rfl⟩ (fun hHeld => ?_)
                       clear hK K
                       refine norm_ (a' := ?_) ?_ ?_
                       rotate_left
                       · show Act.put _ (some 49) _ = _
                         simp only [Act.put, sa_, sz_, ss_, i64_w, i32_w]
                         rfl
                       refine pure_ (i := 20) (N := some 50) (v := ?_) (a' := ?_) (b_ 26 8388607) rfl rfl (any_of HT_.out (by kernel_rfl)) (fun _ _ _ h => h) (Or.inl ⟨by rfl, ?_⟩) ?_ ?_; rotate_left; (· intro w'; go_simp; with_reducible rfl); rotate_left; (· simp only [Act.put, sa_, sz_, ss_, i64_w, i32_w]; rfl)
                       refine one_ (i := 23) (N := some 53) (b_ 26 16777215) rfl rfl (one_of HT_.out (by kernel_rfl)) (by decide) (fun K hK => ?_)
                       refine goes_ Tryd.func25 (by kernel_rfl) rfl #[.int .i64 ((rT l0_2 x4_1).f5)] (by rfl) rfl rfl (by (try simp only [mt_, mc_, mn_]); first | done | rfl) ?_
                       with_reducible refine (uR04_Num.calls k1 ((rT l0_2 x4_1).f5) t135 _ A26.out).mono ?_
                       rintro e w39 ⟨rfl, hb⟩
                       refine ⟨_, rfl, ?_⟩
                       have n0_ := ak_ (blk_below (g := gb124) (o := .cells #[.string a0_0, .int .i64 a0_1, .slice (some ad128) l0_2.length c0_2] 24 (0, 0)) (by (with_reducible repeat (first | apply zn | apply zd | apply za)); exact BK124.out) hb)
                       have n1_ := ak_ (blk_below (g := gb129) (o := .cells #[.string ((rT l0_2 x4_1).f0), .string ((rT l0_2 x4_1).f1), .int .i64 ((rT l0_2 x4_1).f2), .int .i64 ((rT l0_2 x4_1).f3.f0), .int .i64 ((rT l0_2 x4_1).f3.f1), .int .i64 ((rT l0_2 x4_1).f3.f2), .int .i64 ((rT l0_2 x4_1).f3.f3), .int .i64 ((rT l0_2 x4_1).f4.f0), .int .i64 ((rT l0_2 x4_1).f4.f1), .int .i64 ((rT l0_2 x4_1).f4.f2), .int .i64 ((rT l0_2 x4_1).f4.f3), .int .i64 ((rT l0_2 x4_1).f5)] 61 (0, 0)) (by (with_reducible repeat (first | apply zn | apply zd | apply za)); exact BK129.out) hb)
                       have n2_ := ak_ (ps (by with_reducible repeat first | exact HB.out | apply pa | apply pd | apply pe | refine zs ?_ GE124.out | refine zs ?_ GE129.out) hb)
                       clear BK124 BK129 HB
                       have BK124 := n0_
                       have BK129 := n1_
                       have HB := n2_
                       clear n0_ n1_ n2_
                       (try clear hb hk hi)
                       refine hK.out _ _ ⟨(zc BK129.out 0).trans rfl, (zc BK129.out 1).trans rfl, (zc BK129.out 2).trans rfl, (zc BK129.out 3).trans rfl, (zc BK129.out 4).trans rfl, (zc BK129.out 5).trans rfl, (zc BK129.out 6).trans rfl, (zc BK129.out 7).trans rfl, (zc BK129.out 8).trans rfl, (zc BK129.out 9).trans rfl, (zc BK129.out 10).trans rfl, (zc BK129.out 11).trans rfl⟩ (fun hHeld => ?_)
                       clear hK K
                       refine norm_ (a' := ?_) ?_ ?_
                       rotate_left
                       · show Act.put _ (some 53) _ = _
                         simp only [Act.put, sa_, sz_, ss_, i64_w, i32_w]
                         rfl
                       refine pure_ (i := 24) (N := some 54) (v := ?_) (a' := ?_) (b_ 26 33554431) rfl rfl (any_of HT_.out (by kernel_rfl)) (fun _ _ _ h => h) (Or.inl ⟨by rfl, ?_⟩) ?_ ?_; rotate_left; (· intro w'; go_simp; with_reducible rfl); rotate_left; (· simp only [Act.put, sa_, sz_, ss_, i64_w, i32_w]; rfl)
                       refine pure_ (i := 25) (N := some 3) (v := ?_) (a' := ?_) (b_ 26 67108863) rfl rfl (any_of HT_.out (by kernel_rfl)) (fun _ _ _ h => h) (Or.inl ⟨by rfl, ?_⟩) ?_ ?_; rotate_left; (· intro w'; go_simp; with_reducible rfl); rotate_left; (· simp only [Act.put, sa_, sz_, ss_, i64_w, i32_w]; rfl)
                       refine done_ (done_of HT_.out (by kernel_rfl)) ?_
                       try go_wp2
                       go_roundg k1
                       case measure => have := HK1.out; omega
                       case rel => exact ⟨((((((x3_1 ++ t130) ++ t131) ++ t132) ++ t133) ++ t134) ++ t135), (wrap64 (x4_1 + 1)), (by first | rfl | simp [*]), (by first | rfl | simp [*]), H', ⟨by have := HK1.out; omega⟩, ⟨by (with_reducible repeat (first | apply zn | apply zd | apply za)); exact BK124.out⟩, ⟨by repeat (first | (with_reducible first | exact HB.out | apply pa | apply pd | apply pe | refine zs ?_ GE124.out | refine zs ?_ GE129.out) | exact HB.out)⟩⟩
                     rw [if_neg c27] at H
                     exact absurd H (by simp)
                   rw [if_neg c25] at H
                   exact absurd H (by simp)
                 rw [if_neg c23] at H
                 exact absurd H (by simp)
               rw [if_neg c21] at H
               exact absurd H (by simp)
             rw [if_neg c19] at H
             exact absurd H (by simp)
           rw [if_neg c17] at H
           exact absurd H (by simp)
         rw [if_neg c15] at H
         exact absurd H (by simp)
       rw [if_neg c14] at H
       have c14b0 : decide (x4_1 < (l0_2.length : Int)) = false := df_ c14
       clear c14
       (first | rw [c14b0] | (simp only [i64_w, i32_w]; rw [c14b0]) | skip)
       obtain rfl := Option.some.inj H
       go_wp2
       go_ret
       exact ⟨by first | rfl | simp [*], by repeat (first | (with_reducible first | exact HB.out | apply pa | apply pd | apply pe | refine zs ?_ GE124.out) | exact HB.out)⟩
   rw [if_neg c6] at H
   exact absurd H (by simp)
 rw [if_neg c4] at H
 exact absurd H (by simp)
def uR15_takePlan.f (k : Nat) (a0_0 : ByteArray) (a0_1 a0_2 a0_3 a0_4 : Int) (a0_5 : ByteArray) (a0_6 : Bool) : Option (ByteArray × Int × Int × Int × Int × ByteArray × Bool × Int × Int × Int × Int) :=
 (uR04_TakeN.f k a0_0 a0_1 a0_2 a0_3 a0_4 a0_5 a0_6).bind fun q1 => (uR04_TakeN.f k q1.1 q1.2.1 q1.2.2.1 q1.2.2.2.1 q1.2.2.2.2.1 q1.2.2.2.2.2.1 q1.2.2.2.2.2.2).bind fun q2 =>
 (uR04_TakeN.f k q2.1 q2.2.1 q2.2.2.1 q2.2.2.2.1 q2.2.2.2.2.1 q2.2.2.2.2.2.1 q2.2.2.2.2.2.2).bind fun q3 => (uR04_TakeN.f k q3.1 q3.2.1 q3.2.2.1 q3.2.2.2.1 q3.2.2.2.2.1 q3.2.2.2.2.2.1 q3.2.2.2.2.2.2).bind fun q4 =>
 some (q4.1, q4.2.1, q4.2.2.1, q4.2.2.2.1, q4.2.2.2.2.1, q4.2.2.2.2.2.1, q4.2.2.2.2.2.2, q1.2.2.2.2.1, q2.2.2.2.2.1, q3.2.2.2.2.1, q4.2.2.2.2.1)
structure TPl (T : TypeId) (w W : World) (g1 g2 g3 g4 : Nat) (cs c2 c3 ps : Array Value) : Prop where
 b1 : W.heap[g1]? = some (.cells cs 81 (0, 0))
 b2 : W.heap[g2]? = some (.cells c2 81 (0, 0))
 b3 : W.heap[g3]? = some (.cells c3 T (0, 0))
 b4 : W.heap[g4]? = some (.cells ps T (0, 0))
 bel : Below w.heap.size w W
 l1 : w.heap.size ≤ g1
 l2 : g1 < g2
 l3 : g2 < g3
 l4 : g3 < g4
theorem TPl.call {T : TypeId} {w W W' : World} {g1 g2 g3 g4 : Nat} {cs c2 c3 ps : Array Value} (h : TPl T w W g1 g2 g3 g4 cs c2 c3 ps) (hb : Below W.heap.size W W') : TPl T w W' g1 g2 g3 g4 cs c2 c3 ps :=
 ⟨blk_below h.b1 hb, blk_below h.b2 hb, blk_below h.b3 hb, blk_below h.b4 hb, below_step h.bel hb, h.l1, h.l2, h.l3, h.l4⟩
theorem TPl.put1 {T : TypeId} {w W : World} {g1 g2 g3 g4 : Nat} {cs c2 c3 ps : Array Value} (h : TPl T w W g1 g2 g3 g4 cs c2 c3 ps) (j : Nat) (v : Value) {cs' : Array Value} (e : cs.setIfInBounds j v = cs') : TPl T w (W.setCell ⟨g1, j, none⟩ v) g1 g2 g3 g4 cs' c2 c3 ps :=
 ⟨blk_put h.b1 j v e, blk_far h.b2 (Nat.ne_of_gt h.l2) v, blk_far h.b3 (p := ⟨g1, j, none⟩) (by have := h.l2; have := h.l3; show g3 ≠ g1; omega) v, blk_far h.b4 (p := ⟨g1, j, none⟩) (by have := h.l2; have := h.l3; have := h.l4; show g4 ≠ g1; omega) v, below_set h.bel h.l1, h.l1, h.l2, h.l3, h.l4⟩
theorem TPl.put2 {T : TypeId} {w W : World} {g1 g2 g3 g4 : Nat} {cs c2 c3 ps : Array Value} (h : TPl T w W g1 g2 g3 g4 cs c2 c3 ps) (j : Nat) (v : Value) {cs' : Array Value} (e : c2.setIfInBounds j v = cs') : TPl T w (W.setCell ⟨g2, j, none⟩ v) g1 g2 g3 g4 cs cs' c3 ps :=
 ⟨blk_far h.b1 (p := ⟨g2, j, none⟩) (Nat.ne_of_lt h.l2) v, blk_put h.b2 j v e, blk_far h.b3 (p := ⟨g2, j, none⟩) (Nat.ne_of_gt h.l3) v, blk_far h.b4 (p := ⟨g2, j, none⟩) (by have := h.l3; have := h.l4; show g4 ≠ g2; omega) v, below_set h.bel (by have := h.l1; have := h.l2; omega), h.l1, h.l2, h.l3, h.l4⟩
theorem TPl.put3 {T : TypeId} {w W : World} {g1 g2 g3 g4 : Nat} {cs c2 c3 ps : Array Value} (h : TPl T w W g1 g2 g3 g4 cs c2 c3 ps) (j : Nat) (v : Value) {cs' : Array Value} (e : c3.setIfInBounds j v = cs') : TPl T w (W.setCell ⟨g3, j, none⟩ v) g1 g2 g3 g4 cs c2 cs' ps :=
 ⟨blk_far h.b1 (p := ⟨g3, j, none⟩) (by have := h.l2; have := h.l3; show g1 ≠ g3; omega) v, blk_far h.b2 (p := ⟨g3, j, none⟩) (Nat.ne_of_lt h.l3) v, blk_put h.b3 j v e, blk_far h.b4 (p := ⟨g3, j, none⟩) (Nat.ne_of_gt h.l4) v, below_set h.bel (by have := h.l1; have := h.l2; have := h.l3; omega), h.l1, h.l2, h.l3, h.l4⟩
theorem TPl.put4 {T : TypeId} {w W : World} {g1 g2 g3 g4 : Nat} {cs c2 c3 ps : Array Value} (h : TPl T w W g1 g2 g3 g4 cs c2 c3 ps) (j : Nat) (v : Value) {cs' : Array Value} (e : ps.setIfInBounds j v = cs') : TPl T w (W.setCell ⟨g4, j, none⟩ v) g1 g2 g3 g4 cs c2 c3 cs' :=
 ⟨blk_far h.b1 (p := ⟨g4, j, none⟩) (by have := h.l2; have := h.l3; have := h.l4; show g1 ≠ g4; omega) v, blk_far h.b2 (p := ⟨g4, j, none⟩) (by have := h.l3; have := h.l4; show g2 ≠ g4; omega) v, blk_far h.b3 (p := ⟨g4, j, none⟩) (Nat.ne_of_lt h.l4) v, blk_put h.b4 j v e, below_set h.bel (by have := h.l1; have := h.l2; have := h.l3; have := h.l4; omega), h.l1, h.l2, h.l3, h.l4⟩
theorem uR15_takePlan.calls (k : Nat) (a0_0 : ByteArray) (a0_1 : Int) (a0_2 : Int) (a0_3 : Int) (a0_4 : Int) (a0_5 : ByteArray) (a0_6 : Bool) (r1 : ByteArray) (r2 : Int) (r3 : Int) (r4 : Int) (r5 : Int) (r6 : ByteArray) (r7 : Bool) (r8 : Int) (r9 : Int) (r10 : Int) (r11 : Int) (w : World) (h : uR15_takePlan.f k a0_0 a0_1 a0_2 a0_3 a0_4 a0_5 a0_6 = some (r1, r2, r3, r4, r5, r6, r7, r8, r9, r10, r11)) :
 Calls Tryd.prog 61 #[.agg #[.string a0_0, .int .i64 a0_1, .int .i64 a0_2, .int .i64 a0_3, .int .i64 a0_4, .string a0_5, .bool a0_6]] w fun e w' => e = .returned (.tuple #[.agg #[.string r1, .int .i64 r2, .int .i64 r3, .int .i64 r4, .int .i64 r5, .string r6, .bool r7], .agg #[.int .i64 r8, .int .i64 r9, .int .i64 r10, .int .i64 r11]]) ∧ Below w.heap.size w w' := by
 unfold uR15_takePlan.f at h
 obtain ⟨⟨xa0, xa1, xa2, xa3, xa4, xa5, xa6⟩, hA, h⟩ := ob_ h
 try dsimp only at hA
 have A0 := ak_ hA
 clear hA
 obtain ⟨⟨xb0, xb1, xb2, xb3, xb4, xb5, xb6⟩, hA, h⟩ := ob_ h
 try dsimp only at hA
 have A1 := ak_ hA
 clear hA
 obtain ⟨⟨xc0, xc1, xc2, xc3, xc4, xc5, xc6⟩, hA, h⟩ := ob_ h
 try dsimp only at hA
 have A2 := ak_ hA
 clear hA
 obtain ⟨⟨xd0, xd1, xd2, xd3, xd4, xd5, xd6⟩, hA, h⟩ := ob_ h
 try dsimp only at hA
 have A3 := ak_ hA
 clear hA
 simp only [Option.some.injEq, Prod.mk.injEq] at h
 obtain ⟨rfl, rfl, rfl, rfl, rfl, rfl, rfl, rfl, rfl, rfl, rfl⟩ := h
 have HB := ak_ (Below.refl w.heap.size w)
 go_enter Tryd.func61, Tryd.ntmps61
 go_upto_region 2 with (first | ((with_reducible refine gate_dst (N := 1) rfl ?_); refine box_event ?hg (N := 1) ?hd (cs := #[.string a0_0, .int .i64 a0_1, .int .i64 a0_2, .int .i64 a0_3, .int .i64 a0_4, .string a0_5, .bool a0_6]) (t := 81) ?hr ?_; (case hd | hg => rfl); (case hr => first | (go_simp; done) | (go_simp; rfl)); intro g1 hg w1 hbox hb; have B1 := ak_ hbox; have L1 := ak_ (show w.heap.size ≤ g1 by omega); have HB1 := ak_ (below_step HB.out hb); clear hb hbox hg) | ((with_reducible refine gate_dst (N := 2) rfl ?_); refine box_event ?hg (N := 2) ?hd (cs := #[.string (⟨#[]⟩ : ByteArray), .int .i64 0, .int .i64 0, .int .i64 0, .int .i64 0, .string (⟨#[]⟩ : ByteArray), .bool false]) (t := 81) ?hr ?_; (case hd | hg => rfl); (case hr => first | (go_simp; done) | (go_simp; rfl)); intro g2 hg w2 hbox hb; have B1_2 := ak_ (blk_below B1.out hb); have B2 := ak_ hbox; have L2 := ak_ (show g1 < g2 by rw [hg]; exact blk_lt B1.out); have HB2 := ak_ (below_step HB1.out hb); clear hb hbox hg) | ((with_reducible refine gate_dst (N := 3) rfl ?_); refine box_event ?hg (N := 3) ?hd (cs := #[.int .i64 0, .int .i64 0, .int .i64 0, .int .i64 0]) (t := 59) ?hr ?_; (case hd | hg => rfl); (case hr => first | (go_simp; done) | (go_simp; rfl)); intro g3 hg w3 hbox hb; have B1_3 := ak_ (blk_below B1_2.out hb); have B2_3 := ak_ (blk_below B2.out hb); have B3 := ak_ hbox; have L3 := ak_ (show g2 < g3 by rw [hg]; exact blk_lt B2.out); have HB3 := ak_ (below_step HB2.out hb); clear hb hbox hg) | ((with_reducible refine gate_dst (N := 4) rfl ?_); refine box_event ?hg (N := 4) ?hd (cs := #[.int .i64 0, .int .i64 0, .int .i64 0, .int .i64 0]) (t := 59) ?hr ?_; (case hd | hg => rfl); (case hr => first | (go_simp; done) | (go_simp; rfl)); intro g4 hg w4 hbox hb; have HX0 := ak_ (TPl.mk (blk_below B1_3.out hb) (blk_below B2_3.out hb) (blk_below B3.out hb) hbox (below_step HB3.out hb) L1.out L2.out L3.out (show g3 < g4 by rw [hg]; exact blk_lt B3.out)); clear hb hbox hg; have z0 := (zc HX0.out.b4 0).trans rfl; have f0 := zf HX0.out.b4 0; have z1 := (zc HX0.out.b4 1).trans rfl; have f1 := zf HX0.out.b4 1; have z2 := (zc HX0.out.b4 2).trans rfl; have f2 := zf HX0.out.b4 2; have z3 := (zc HX0.out.b4 3).trans rfl; have f3 := zf HX0.out.b4 3))
 have HX := ak_ ((((HX0.out.put4 0 (.int .i64 0) (cs' := #[.int .i64 0, .int .i64 0, .int .i64 0, .int .i64 0]) rfl).put4 1 (.int .i64 0) (cs' := #[.int .i64 0, .int .i64 0, .int .i64 0, .int .i64 0]) rfl).put4 2 (.int .i64 0) (cs' := #[.int .i64 0, .int .i64 0, .int .i64 0, .int .i64 0]) rfl).put4 3 (.int .i64 0) (cs' := #[.int .i64 0, .int .i64 0, .int .i64 0, .int .i64 0]) rfl)
 clear z0 z1 z2 z3 f0 f1 f2 f3 HX0 B1 B2 B3 B1_2 B1_3 B2_3
 generalize (((w4.setCell ⟨g4, 0, none⟩ (.int .i64 0)).setCell ⟨g4, 1, none⟩ (.int .i64 0)).setCell ⟨g4, 2, none⟩ (.int .i64 0)).setCell ⟨g4, 3, none⟩ (.int .i64 0) = W0 at *
 have z0 := (zc HX.out.b1 0).trans rfl
 have z1 := (zc HX.out.b1 1).trans rfl
 have z2 := (zc HX.out.b1 2).trans rfl
 have z3 := (zc HX.out.b1 3).trans rfl
 have z4 := (zc HX.out.b1 4).trans rfl
 have z5 := (zc HX.out.b1 5).trans rfl
 have z6 := (zc HX.out.b1 6).trans rfl
 have f0 := zf HX.out.b1 0
 have f1 := zf HX.out.b1 1
 have f2 := zf HX.out.b1 2
 have f3 := zf HX.out.b1 3
 have f4 := zf HX.out.b1 4
 have f5 := zf HX.out.b1 5
 have f6 := zf HX.out.b1 6
 go_upto_region 3 with (go_at_call 39; refine (uR04_TakeN.calls k a0_0 a0_1 a0_2 a0_3 a0_4 a0_5 a0_6 xa0 xa1 xa2 xa3 xa4 xa5 xa6 _ A0.out).mono ?_; rintro e V0 ⟨rfl, hb⟩; have HC := ak_ (HX.out.call hb); clear hb HX z0 f0 z1 f1 z2 f2 z3 f3 z4 f4 z5 f5 z6 f6; have z0 := (zc HC.out.b1 0).trans rfl; have z1 := (zc HC.out.b1 1).trans rfl; have z2 := (zc HC.out.b1 2).trans rfl; have z3 := (zc HC.out.b1 3).trans rfl; have z4 := (zc HC.out.b1 4).trans rfl; have z5 := (zc HC.out.b1 5).trans rfl; have z6 := (zc HC.out.b1 6).trans rfl; have f0 := zf HC.out.b1 0; have f1 := zf HC.out.b1 1; have f2 := zf HC.out.b1 2; have f3 := zf HC.out.b1 3; have f4 := zf HC.out.b1 4; have f5 := zf HC.out.b1 5; have f6 := zf HC.out.b1 6)
 have HX := ak_ (((((((((((((((HC.out).put1 0 (.string xa0) (cs' := #[.string xa0, .int .i64 a0_1, .int .i64 a0_2, .int .i64 a0_3, .int .i64 a0_4, .string a0_5, .bool a0_6]) rfl)).put1 1 (.int .i64 xa1) (cs' := #[.string xa0, .int .i64 xa1, .int .i64 a0_2, .int .i64 a0_3, .int .i64 a0_4, .string a0_5, .bool a0_6]) rfl)).put1 2 (.int .i64 xa2) (cs' := #[.string xa0, .int .i64 xa1, .int .i64 xa2, .int .i64 a0_3, .int .i64 a0_4, .string a0_5, .bool a0_6]) rfl)).put1 3 (.int .i64 xa3) (cs' := #[.string xa0, .int .i64 xa1, .int .i64 xa2, .int .i64 xa3, .int .i64 a0_4, .string a0_5, .bool a0_6]) rfl)).put1 4 (.int .i64 xa4) (cs' := #[.string xa0, .int .i64 xa1, .int .i64 xa2, .int .i64 xa3, .int .i64 xa4, .string a0_5, .bool a0_6]) rfl)).put1 5 (.string xa5) (cs' := #[.string xa0, .int .i64 xa1, .int .i64 xa2, .int .i64 xa3, .int .i64 xa4, .string xa5, .bool a0_6]) rfl)).put1 6 (.bool xa6) (cs' := #[.string xa0, .int .i64 xa1, .int .i64 xa2, .int .i64 xa3, .int .i64 xa4, .string xa5, .bool xa6]) rfl))
 clear HC z0 f0 z1 f1 z2 f2 z3 f3 z4 f4 z5 f5 z6 f6
 generalize (((((((V0.setCell ⟨g1, 0, none⟩ (.string xa0)).setCell ⟨g1, 1, none⟩ (.int .i64 xa1)).setCell ⟨g1, 2, none⟩ (.int .i64 xa2)).setCell ⟨g1, 3, none⟩ (.int .i64 xa3)).setCell ⟨g1, 4, none⟩ (.int .i64 xa4)).setCell ⟨g1, 5, none⟩ (.string xa5)).setCell ⟨g1, 6, none⟩ (.bool xa6)) = U0 at *
 have y4 := (zc HX.out.b1 4).trans rfl
 have z4 := (zc HX.out.b4 0).trans rfl
 have f4 := zf HX.out.b4 0
 go_upto_region 4 with (fail)
 have HX2 := ak_ (HX.out.put4 0 (.int .i64 xa4) (cs' := #[.int .i64 xa4, .int .i64 0, .int .i64 0, .int .i64 0]) rfl)
 clear HX y4 z4 f4
 have HX := ak_ HX2.out
 clear HX2
 generalize U0.setCell ⟨g4, 0, none⟩ (.int .i64 xa4) = W1 at *
 have z0 := (zc HX.out.b1 0).trans rfl
 have z1 := (zc HX.out.b1 1).trans rfl
 have z2 := (zc HX.out.b1 2).trans rfl
 have z3 := (zc HX.out.b1 3).trans rfl
 have z4 := (zc HX.out.b1 4).trans rfl
 have z5 := (zc HX.out.b1 5).trans rfl
 have z6 := (zc HX.out.b1 6).trans rfl
 have f0 := zf HX.out.b1 0
 have f1 := zf HX.out.b1 1
 have f2 := zf HX.out.b1 2
 have f3 := zf HX.out.b1 3
 have f4 := zf HX.out.b1 4
 have f5 := zf HX.out.b1 5
 have f6 := zf HX.out.b1 6
 go_upto_region 5 with (go_at_call 39; refine (uR04_TakeN.calls k xa0 xa1 xa2 xa3 xa4 xa5 xa6 xb0 xb1 xb2 xb3 xb4 xb5 xb6 _ A1.out).mono ?_; rintro e V1 ⟨rfl, hb⟩; have HC := ak_ (HX.out.call hb); clear hb HX z0 f0 z1 f1 z2 f2 z3 f3 z4 f4 z5 f5 z6 f6; have z0 := (zc HC.out.b1 0).trans rfl; have z1 := (zc HC.out.b1 1).trans rfl; have z2 := (zc HC.out.b1 2).trans rfl; have z3 := (zc HC.out.b1 3).trans rfl; have z4 := (zc HC.out.b1 4).trans rfl; have z5 := (zc HC.out.b1 5).trans rfl; have z6 := (zc HC.out.b1 6).trans rfl; have f0 := zf HC.out.b1 0; have f1 := zf HC.out.b1 1; have f2 := zf HC.out.b1 2; have f3 := zf HC.out.b1 3; have f4 := zf HC.out.b1 4; have f5 := zf HC.out.b1 5; have f6 := zf HC.out.b1 6)
 have HX := ak_ (((((((((((((((HC.out).put1 0 (.string xb0) (cs' := #[.string xb0, .int .i64 xa1, .int .i64 xa2, .int .i64 xa3, .int .i64 xa4, .string xa5, .bool xa6]) rfl)).put1 1 (.int .i64 xb1) (cs' := #[.string xb0, .int .i64 xb1, .int .i64 xa2, .int .i64 xa3, .int .i64 xa4, .string xa5, .bool xa6]) rfl)).put1 2 (.int .i64 xb2) (cs' := #[.string xb0, .int .i64 xb1, .int .i64 xb2, .int .i64 xa3, .int .i64 xa4, .string xa5, .bool xa6]) rfl)).put1 3 (.int .i64 xb3) (cs' := #[.string xb0, .int .i64 xb1, .int .i64 xb2, .int .i64 xb3, .int .i64 xa4, .string xa5, .bool xa6]) rfl)).put1 4 (.int .i64 xb4) (cs' := #[.string xb0, .int .i64 xb1, .int .i64 xb2, .int .i64 xb3, .int .i64 xb4, .string xa5, .bool xa6]) rfl)).put1 5 (.string xb5) (cs' := #[.string xb0, .int .i64 xb1, .int .i64 xb2, .int .i64 xb3, .int .i64 xb4, .string xb5, .bool xa6]) rfl)).put1 6 (.bool xb6) (cs' := #[.string xb0, .int .i64 xb1, .int .i64 xb2, .int .i64 xb3, .int .i64 xb4, .string xb5, .bool xb6]) rfl))
 clear HC z0 f0 z1 f1 z2 f2 z3 f3 z4 f4 z5 f5 z6 f6
 generalize (((((((V1.setCell ⟨g1, 0, none⟩ (.string xb0)).setCell ⟨g1, 1, none⟩ (.int .i64 xb1)).setCell ⟨g1, 2, none⟩ (.int .i64 xb2)).setCell ⟨g1, 3, none⟩ (.int .i64 xb3)).setCell ⟨g1, 4, none⟩ (.int .i64 xb4)).setCell ⟨g1, 5, none⟩ (.string xb5)).setCell ⟨g1, 6, none⟩ (.bool xb6)) = U1 at *
 have y4 := (zc HX.out.b1 4).trans rfl
 have z4 := (zc HX.out.b4 1).trans rfl
 have f4 := zf HX.out.b4 1
 go_upto_region 6 with (fail)
 have HX2 := ak_ (HX.out.put4 1 (.int .i64 xb4) (cs' := #[.int .i64 xa4, .int .i64 xb4, .int .i64 0, .int .i64 0]) rfl)
 clear HX y4 z4 f4
 have HX := ak_ HX2.out
 clear HX2
 generalize U1.setCell ⟨g4, 1, none⟩ (.int .i64 xb4) = W2 at *
 have z0 := (zc HX.out.b1 0).trans rfl
 have z1 := (zc HX.out.b1 1).trans rfl
 have z2 := (zc HX.out.b1 2).trans rfl
 have z3 := (zc HX.out.b1 3).trans rfl
 have z4 := (zc HX.out.b1 4).trans rfl
 have z5 := (zc HX.out.b1 5).trans rfl
 have z6 := (zc HX.out.b1 6).trans rfl
 have f0 := zf HX.out.b1 0
 have f1 := zf HX.out.b1 1
 have f2 := zf HX.out.b1 2
 have f3 := zf HX.out.b1 3
 have f4 := zf HX.out.b1 4
 have f5 := zf HX.out.b1 5
 have f6 := zf HX.out.b1 6
 go_upto_region 7 with (go_at_call 39; refine (uR04_TakeN.calls k xb0 xb1 xb2 xb3 xb4 xb5 xb6 xc0 xc1 xc2 xc3 xc4 xc5 xc6 _ A2.out).mono ?_; rintro e V2 ⟨rfl, hb⟩; have HC := ak_ (HX.out.call hb); clear hb HX z0 f0 z1 f1 z2 f2 z3 f3 z4 f4 z5 f5 z6 f6; have z0 := (zc HC.out.b1 0).trans rfl; have z1 := (zc HC.out.b1 1).trans rfl; have z2 := (zc HC.out.b1 2).trans rfl; have z3 := (zc HC.out.b1 3).trans rfl; have z4 := (zc HC.out.b1 4).trans rfl; have z5 := (zc HC.out.b1 5).trans rfl; have z6 := (zc HC.out.b1 6).trans rfl; have f0 := zf HC.out.b1 0; have f1 := zf HC.out.b1 1; have f2 := zf HC.out.b1 2; have f3 := zf HC.out.b1 3; have f4 := zf HC.out.b1 4; have f5 := zf HC.out.b1 5; have f6 := zf HC.out.b1 6)
 have HX := ak_ (((((((((((((((HC.out).put1 0 (.string xc0) (cs' := #[.string xc0, .int .i64 xb1, .int .i64 xb2, .int .i64 xb3, .int .i64 xb4, .string xb5, .bool xb6]) rfl)).put1 1 (.int .i64 xc1) (cs' := #[.string xc0, .int .i64 xc1, .int .i64 xb2, .int .i64 xb3, .int .i64 xb4, .string xb5, .bool xb6]) rfl)).put1 2 (.int .i64 xc2) (cs' := #[.string xc0, .int .i64 xc1, .int .i64 xc2, .int .i64 xb3, .int .i64 xb4, .string xb5, .bool xb6]) rfl)).put1 3 (.int .i64 xc3) (cs' := #[.string xc0, .int .i64 xc1, .int .i64 xc2, .int .i64 xc3, .int .i64 xb4, .string xb5, .bool xb6]) rfl)).put1 4 (.int .i64 xc4) (cs' := #[.string xc0, .int .i64 xc1, .int .i64 xc2, .int .i64 xc3, .int .i64 xc4, .string xb5, .bool xb6]) rfl)).put1 5 (.string xc5) (cs' := #[.string xc0, .int .i64 xc1, .int .i64 xc2, .int .i64 xc3, .int .i64 xc4, .string xc5, .bool xb6]) rfl)).put1 6 (.bool xc6) (cs' := #[.string xc0, .int .i64 xc1, .int .i64 xc2, .int .i64 xc3, .int .i64 xc4, .string xc5, .bool xc6]) rfl))
 clear HC z0 f0 z1 f1 z2 f2 z3 f3 z4 f4 z5 f5 z6 f6
 generalize (((((((V2.setCell ⟨g1, 0, none⟩ (.string xc0)).setCell ⟨g1, 1, none⟩ (.int .i64 xc1)).setCell ⟨g1, 2, none⟩ (.int .i64 xc2)).setCell ⟨g1, 3, none⟩ (.int .i64 xc3)).setCell ⟨g1, 4, none⟩ (.int .i64 xc4)).setCell ⟨g1, 5, none⟩ (.string xc5)).setCell ⟨g1, 6, none⟩ (.bool xc6)) = U2 at *
 have y4 := (zc HX.out.b1 4).trans rfl
 have z4 := (zc HX.out.b4 2).trans rfl
 have f4 := zf HX.out.b4 2
 go_upto_region 8 with (fail)
 have HX2 := ak_ (HX.out.put4 2 (.int .i64 xc4) (cs' := #[.int .i64 xa4, .int .i64 xb4, .int .i64 xc4, .int .i64 0]) rfl)
 clear HX y4 z4 f4
 have HX := ak_ HX2.out
 clear HX2
 generalize U2.setCell ⟨g4, 2, none⟩ (.int .i64 xc4) = W3 at *
 have z0 := (zc HX.out.b1 0).trans rfl
 have z1 := (zc HX.out.b1 1).trans rfl
 have z2 := (zc HX.out.b1 2).trans rfl
 have z3 := (zc HX.out.b1 3).trans rfl
 have z4 := (zc HX.out.b1 4).trans rfl
 have z5 := (zc HX.out.b1 5).trans rfl
 have z6 := (zc HX.out.b1 6).trans rfl
 have f0 := zf HX.out.b1 0
 have f1 := zf HX.out.b1 1
 have f2 := zf HX.out.b1 2
 have f3 := zf HX.out.b1 3
 have f4 := zf HX.out.b1 4
 have f5 := zf HX.out.b1 5
 have f6 := zf HX.out.b1 6
 go_upto_region 9 with (go_at_call 39; refine (uR04_TakeN.calls k xc0 xc1 xc2 xc3 xc4 xc5 xc6 xd0 xd1 xd2 xd3 xd4 xd5 xd6 _ A3.out).mono ?_; rintro e V3 ⟨rfl, hb⟩; have HC := ak_ (HX.out.call hb); clear hb HX z0 f0 z1 f1 z2 f2 z3 f3 z4 f4 z5 f5 z6 f6; have z0 := (zc HC.out.b1 0).trans rfl; have z1 := (zc HC.out.b1 1).trans rfl; have z2 := (zc HC.out.b1 2).trans rfl; have z3 := (zc HC.out.b1 3).trans rfl; have z4 := (zc HC.out.b1 4).trans rfl; have z5 := (zc HC.out.b1 5).trans rfl; have z6 := (zc HC.out.b1 6).trans rfl; have f0 := zf HC.out.b1 0; have f1 := zf HC.out.b1 1; have f2 := zf HC.out.b1 2; have f3 := zf HC.out.b1 3; have f4 := zf HC.out.b1 4; have f5 := zf HC.out.b1 5; have f6 := zf HC.out.b1 6)
 have HX := ak_ (((((((((((((((HC.out).put1 0 (.string xd0) (cs' := #[.string xd0, .int .i64 xc1, .int .i64 xc2, .int .i64 xc3, .int .i64 xc4, .string xc5, .bool xc6]) rfl)).put1 1 (.int .i64 xd1) (cs' := #[.string xd0, .int .i64 xd1, .int .i64 xc2, .int .i64 xc3, .int .i64 xc4, .string xc5, .bool xc6]) rfl)).put1 2 (.int .i64 xd2) (cs' := #[.string xd0, .int .i64 xd1, .int .i64 xd2, .int .i64 xc3, .int .i64 xc4, .string xc5, .bool xc6]) rfl)).put1 3 (.int .i64 xd3) (cs' := #[.string xd0, .int .i64 xd1, .int .i64 xd2, .int .i64 xd3, .int .i64 xc4, .string xc5, .bool xc6]) rfl)).put1 4 (.int .i64 xd4) (cs' := #[.string xd0, .int .i64 xd1, .int .i64 xd2, .int .i64 xd3, .int .i64 xd4, .string xc5, .bool xc6]) rfl)).put1 5 (.string xd5) (cs' := #[.string xd0, .int .i64 xd1, .int .i64 xd2, .int .i64 xd3, .int .i64 xd4, .string xd5, .bool xc6]) rfl)).put1 6 (.bool xd6) (cs' := #[.string xd0, .int .i64 xd1, .int .i64 xd2, .int .i64 xd3, .int .i64 xd4, .string xd5, .bool xd6]) rfl))
 clear HC z0 f0 z1 f1 z2 f2 z3 f3 z4 f4 z5 f5 z6 f6
 generalize (((((((V3.setCell ⟨g1, 0, none⟩ (.string xd0)).setCell ⟨g1, 1, none⟩ (.int .i64 xd1)).setCell ⟨g1, 2, none⟩ (.int .i64 xd2)).setCell ⟨g1, 3, none⟩ (.int .i64 xd3)).setCell ⟨g1, 4, none⟩ (.int .i64 xd4)).setCell ⟨g1, 5, none⟩ (.string xd5)).setCell ⟨g1, 6, none⟩ (.bool xd6)) = U3 at *
 have y4 := (zc HX.out.b1 4).trans rfl
 have z4 := (zc HX.out.b4 3).trans rfl
 have f4 := zf HX.out.b4 3
 go_upto_region 10 with (fail)
 have HX2 := ak_ (HX.out.put4 3 (.int .i64 xd4) (cs' := #[.int .i64 xa4, .int .i64 xb4, .int .i64 xc4, .int .i64 xd4]) rfl)
 clear HX y4 z4 f4
 have HX := ak_ HX2.out
 clear HX2
 generalize U3.setCell ⟨g4, 3, none⟩ (.int .i64 xd4) = W4 at *
 have HX2 := ak_ (HX.out.call (below_drew1 (Below.refl _ _)))
 have y0 : W4.cell? ⟨g1, 0, none⟩ = some (.string xd0) := (zc HX.out.b1 0).trans rfl
 have y1 : W4.cell? ⟨g1, 1, none⟩ = some (.int .i64 xd1) := (zc HX.out.b1 1).trans rfl
 have y2 : W4.cell? ⟨g1, 2, none⟩ = some (.int .i64 xd2) := (zc HX.out.b1 2).trans rfl
 have y3 : W4.cell? ⟨g1, 3, none⟩ = some (.int .i64 xd3) := (zc HX.out.b1 3).trans rfl
 have y4 : W4.cell? ⟨g1, 4, none⟩ = some (.int .i64 xd4) := (zc HX.out.b1 4).trans rfl
 have y5 : W4.cell? ⟨g1, 5, none⟩ = some (.string xd5) := (zc HX.out.b1 5).trans rfl
 have y6 : W4.cell? ⟨g1, 6, none⟩ = some (.bool xd6) := (zc HX.out.b1 6).trans rfl
 have p0 : W4.cell? ⟨g4, 0, none⟩ = some (.int .i64 xa4) := (zc HX.out.b4 0).trans rfl
 have p1 : W4.cell? ⟨g4, 1, none⟩ = some (.int .i64 xb4) := (zc HX.out.b4 1).trans rfl
 have p2 : W4.cell? ⟨g4, 2, none⟩ = some (.int .i64 xc4) := (zc HX.out.b4 2).trans rfl
 have p3 : W4.cell? ⟨g4, 3, none⟩ = some (.int .i64 xd4) := (zc HX.out.b4 3).trans rfl
 have z0 : W4.cell? ⟨g2, 0, none⟩ = some (.string (⟨#[]⟩ : ByteArray)) := (zc HX.out.b2 0).trans rfl
 have f0 : W4.frozen? ⟨g2, 0, none⟩ = false := zf HX.out.b2 0
 have z1 : W4.cell? ⟨g2, 1, none⟩ = some (.int .i64 0) := (zc HX.out.b2 1).trans rfl
 have f1 : W4.frozen? ⟨g2, 1, none⟩ = false := zf HX.out.b2 1
 have z2 : W4.cell? ⟨g2, 2, none⟩ = some (.int .i64 0) := (zc HX.out.b2 2).trans rfl
 have f2 : W4.frozen? ⟨g2, 2, none⟩ = false := zf HX.out.b2 2
 have z3 : W4.cell? ⟨g2, 3, none⟩ = some (.int .i64 0) := (zc HX.out.b2 3).trans rfl
 have f3 : W4.frozen? ⟨g2, 3, none⟩ = false := zf HX.out.b2 3
 have z4 : W4.cell? ⟨g2, 4, none⟩ = some (.int .i64 0) := (zc HX.out.b2 4).trans rfl
 have f4 : W4.frozen? ⟨g2, 4, none⟩ = false := zf HX.out.b2 4
 have z5 : W4.cell? ⟨g2, 5, none⟩ = some (.string (⟨#[]⟩ : ByteArray)) := (zc HX.out.b2 5).trans rfl
 have f5 : W4.frozen? ⟨g2, 5, none⟩ = false := zf HX.out.b2 5
 have z6 : W4.cell? ⟨g2, 6, none⟩ = some (.bool false) := (zc HX.out.b2 6).trans rfl
 have f6 : W4.frozen? ⟨g2, 6, none⟩ = false := zf HX.out.b2 6
 have HM := ak_ (((((((((((((((HX.out).put2 0 (.string xd0) (cs' := #[.string xd0, .int .i64 0, .int .i64 0, .int .i64 0, .int .i64 0, .string (⟨#[]⟩ : ByteArray), .bool false]) rfl)).put2 1 (.int .i64 xd1) (cs' := #[.string xd0, .int .i64 xd1, .int .i64 0, .int .i64 0, .int .i64 0, .string (⟨#[]⟩ : ByteArray), .bool false]) rfl)).put2 2 (.int .i64 xd2) (cs' := #[.string xd0, .int .i64 xd1, .int .i64 xd2, .int .i64 0, .int .i64 0, .string (⟨#[]⟩ : ByteArray), .bool false]) rfl)).put2 3 (.int .i64 xd3) (cs' := #[.string xd0, .int .i64 xd1, .int .i64 xd2, .int .i64 xd3, .int .i64 0, .string (⟨#[]⟩ : ByteArray), .bool false]) rfl)).put2 4 (.int .i64 xd4) (cs' := #[.string xd0, .int .i64 xd1, .int .i64 xd2, .int .i64 xd3, .int .i64 xd4, .string (⟨#[]⟩ : ByteArray), .bool false]) rfl)).put2 5 (.string xd5) (cs' := #[.string xd0, .int .i64 xd1, .int .i64 xd2, .int .i64 xd3, .int .i64 xd4, .string xd5, .bool false]) rfl)).put2 6 (.bool xd6) (cs' := #[.string xd0, .int .i64 xd1, .int .i64 xd2, .int .i64 xd3, .int .i64 xd4, .string xd5, .bool xd6]) rfl).call (below_drew1 (Below.refl _ _)))
 clear HX2
 refine start_ (n := 4) (S := fun w' => w'.cell? ⟨g1, 0, none⟩ = some (.string xd0) ∧ w'.cell? ⟨g1, 1, none⟩ = some (.int .i64 xd1) ∧ w'.cell? ⟨g1, 2, none⟩ = some (.int .i64 xd2) ∧ w'.cell? ⟨g1, 3, none⟩ = some (.int .i64 xd3) ∧ w'.cell? ⟨g1, 4, none⟩ = some (.int .i64 xd4) ∧ w'.cell? ⟨g1, 5, none⟩ = some (.string xd5) ∧ w'.cell? ⟨g1, 6, none⟩ = some (.bool xd6) ∧ w'.cell? ⟨g4, 0, none⟩ = some (.int .i64 xa4) ∧ w'.cell? ⟨g4, 1, none⟩ = some (.int .i64 xb4) ∧ w'.cell? ⟨g4, 2, none⟩ = some (.int .i64 xc4) ∧ w'.cell? ⟨g4, 3, none⟩ = some (.int .i64 xd4)) (ds := []) #[false, false, false, false] (by kernel_rfl) rfl rfl ⟨y0, y1, y2, y3, y4, y5, y6, p0, p1, p2, p3⟩ (fun hHeld => ?_)
 refine take_ (i := 0) (N := some 26) (v := ?_) (a' := ?_) #[true, false, false, false] rfl rfl (by kernel_rfl) (fun _ _ _ h => h) (Or.inl ⟨by rfl, ?_⟩) hHeld ?_ ?_
 rotate_left
 · rintro w' ⟨s0, s1, s2, s3, s4, s5, s6, s7, s8, s9, s10⟩
   go_simp
   with_reducible rfl
 rotate_left
 · simp only [Act.put, sa_, sz_, ss_, i64_w, i32_w]
   rfl
 refine take_ (i := 1) (N := some 27) (v := ?_) (a' := ?_) #[true, true, false, false] rfl rfl (by kernel_rfl) (fun _ _ _ h => h) (Or.inl ⟨by rfl, ?_⟩) hHeld ?_ ?_
 rotate_left
 · rintro w' ⟨s0, s1, s2, s3, s4, s5, s6, s7, s8, s9, s10⟩
   go_simp
   with_reducible rfl
 rotate_left
 · simp only [Act.put, sa_, sz_, ss_, i64_w, i32_w]
   rfl
 refine one_ (i := 2) (N := none) #[true, true, true, false] rfl rfl (by kernel_rfl) (by decide) (fun K hK => ?_)
 refine skip_ (w1 := ?_) (by rfl) rfl ?_ ?_
 rotate_left
 · go_simp
   rfl
 refine hK.out _ _ ⟨?_, ?_, ?_, ?_, ?_, ?_, ?_, ?_, ?_, ?_, ?_⟩ (fun hHeld => ?_)
 · exact (zc HM.out.b1 0).trans rfl
 · exact (zc HM.out.b1 1).trans rfl
 · exact (zc HM.out.b1 2).trans rfl
 · exact (zc HM.out.b1 3).trans rfl
 · exact (zc HM.out.b1 4).trans rfl
 · exact (zc HM.out.b1 5).trans rfl
 · exact (zc HM.out.b1 6).trans rfl
 · exact (zc HM.out.b4 0).trans rfl
 · exact (zc HM.out.b4 1).trans rfl
 · exact (zc HM.out.b4 2).trans rfl
 · exact (zc HM.out.b4 3).trans rfl
 clear hK K
 generalize (((((((W4.setCell ⟨g2, 0, none⟩ (.string xd0)).setCell ⟨g2, 1, none⟩ (.int .i64 xd1)).setCell ⟨g2, 2, none⟩ (.int .i64 xd2)).setCell ⟨g2, 3, none⟩ (.int .i64 xd3)).setCell ⟨g2, 4, none⟩ (.int .i64 xd4)).setCell ⟨g2, 5, none⟩ (.string xd5)).setCell ⟨g2, 6, none⟩ (.bool xd6)).drew = Wm at *
 clear z0 f0 y0 z1 f1 y1 z2 f2 y2 z3 f3 y3 z4 f4 y4 z5 f5 y5 z6 f6 y6 p0 p1 p2 p3 HX
 have q0 : Wm.cell? ⟨g3, 0, none⟩ = some (.int .i64 0) := (zc HM.out.b3 0).trans rfl
 have q1 : Wm.cell? ⟨g3, 1, none⟩ = some (.int .i64 0) := (zc HM.out.b3 1).trans rfl
 have q2 : Wm.cell? ⟨g3, 2, none⟩ = some (.int .i64 0) := (zc HM.out.b3 2).trans rfl
 have q3 : Wm.cell? ⟨g3, 3, none⟩ = some (.int .i64 0) := (zc HM.out.b3 3).trans rfl
 have e0 := zf HM.out.b3 0
 have e1 := zf HM.out.b3 1
 have e2 := zf HM.out.b3 2
 have e3 := zf HM.out.b3 3
 have HF := ak_ ((((((((HM.out).put3 0 (.int .i64 xa4) (cs' := #[.int .i64 xa4, .int .i64 0, .int .i64 0, .int .i64 0]) rfl)).put3 1 (.int .i64 xb4) (cs' := #[.int .i64 xa4, .int .i64 xb4, .int .i64 0, .int .i64 0]) rfl)).put3 2 (.int .i64 xc4) (cs' := #[.int .i64 xa4, .int .i64 xb4, .int .i64 xc4, .int .i64 0]) rfl)).put3 3 (.int .i64 xd4) (cs' := #[.int .i64 xa4, .int .i64 xb4, .int .i64 xc4, .int .i64 xd4]) rfl)
 refine one_ (i := 3) (N := none) #[true, true, true, true] rfl rfl (by kernel_rfl) (by decide) (fun K hK => ?_)
 refine skip_ (w1 := ?_) (by rfl) rfl ?_ ?_
 rotate_left
 · go_simp
   rfl
 refine hK.out _ _ ⟨?_, ?_, ?_, ?_, ?_, ?_, ?_, ?_, ?_, ?_, ?_⟩ (fun hHeld => ?_)
 · exact (zc HF.out.b1 0).trans rfl
 · exact (zc HF.out.b1 1).trans rfl
 · exact (zc HF.out.b1 2).trans rfl
 · exact (zc HF.out.b1 3).trans rfl
 · exact (zc HF.out.b1 4).trans rfl
 · exact (zc HF.out.b1 5).trans rfl
 · exact (zc HF.out.b1 6).trans rfl
 · exact (zc HF.out.b4 0).trans rfl
 · exact (zc HF.out.b4 1).trans rfl
 · exact (zc HF.out.b4 2).trans rfl
 · exact (zc HF.out.b4 3).trans rfl
 clear hK K
 refine done_ (by kernel_rfl) ?_
 clear q0 q1 q2 q3 e0 e1 e2 e3
 try go_wp2
 refine bodyPost_ret (results_cc rfl _ _ g2 g3 81 59 #[.string xd0, .int .i64 xd1, .int .i64 xd2, .int .i64 xd3, .int .i64 xd4, .string xd5, .bool xd6] #[.int .i64 xa4, .int .i64 xb4, .int .i64 xc4, .int .i64 xd4] (0, 0) (0, 0) _ _ rfl HF.out.b2 Tryd.underlying81 rfl (by kernel_rfl) rfl HF.out.b3 Tryd.underlying59 rfl (by kernel_rfl)) rfl ?_
 exact ⟨rfl, HF.out.bel⟩
end Go.Proofs.YtcgpbakimkhdpaaDoor.Q
