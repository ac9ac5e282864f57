/- Part 9 of a claim's texts. -/
import Derived.Test.YtcgpbakimkhdpaaDoorPk8
import Derived.Test.YtcgpbakimkhdpaaDoorPk3
import Derived.Test.YtcgpbakimkhdpaaDoorPk4
import Derived.Test.YtcgpbakimkhdpaaDoorPk1
import Derived.Test.YtcgpbakimkhdpaaDoorPk6
import Derived.Test.YtcgpbakimkhdpaaDoorPk2
import Derived.Test.YtcgpbakimkhdpaaDoorPk7
namespace Go.Proofs.YtcgpbakimkhdpaaDoor.Q
open Go.RowKit Go.Proofs.YtcgpbakimkhdpaaDoorW.PrintWords Go.Proofs.YtcgpbakimkhdpaaDoorW.PrintLast Go.Proofs.YtcgpbakimkhdpaaDoorW.PrintMore
attribute [local go_sem] max2_int min2_int max_two min_two max_three min_three max_four min_four
set_option linter.unusedVariables false
set_option linter.unusedSimpArgs false
set_option maxHeartbeats 8000000
set_option maxRecDepth 100000
open Go.Proofs.YtcgpbakimkhdpaaDoor.Q.H_
def uR15_TakeDef.l0 : Nat → Int → Int → ByteArray → Int → Int → Int → Int → ByteArray → Bool → ByteArray → Int → List (S61) → Option (ByteArray × Int × Int × Int × Int × ByteArray × Bool × ByteArray × Int × (List (S61)))
 | 0, _, _, _, _, _, _, _, _, _, _, _, _ => none
 | k + 1, x5, x6, x258000, x258001, x258002, x258003, x258004, x258005, x258006, x261000, x261001, x261002 => if x6 < x5 then ((uR04_TextS.f k x258000 x258001 x258002 x258003 x258004 x258005 x258006 256).bind fun bt284 => ((uR04_TextS.f k bt284.1 bt284.2.1 bt284.2.2.1 bt284.2.2.2.1 bt284.2.2.2.2.1 bt284.2.2.2.2.2.1 bt284.2.2.2.2.2.2 256).bind fun bt291 => ((uR04_TakeN.f k bt291.1 bt291.2.1 bt291.2.2.1 bt291.2.2.2.1 bt291.2.2.2.2.1 bt291.2.2.2.2.2.1 bt291.2.2.2.2.2.2).bind fun bt298 => ((uR15_takePlan.f k bt298.1 bt298.2.1 bt298.2.2.1 bt298.2.2.2.1 bt298.2.2.2.2.1 bt298.2.2.2.2.2.1 bt298.2.2.2.2.2.2).bind fun bt305 => ((uR15_takePlan.f k bt305.1 bt305.2.1 bt305.2.2.1 bt305.2.2.2.1 bt305.2.2.2.2.1 bt305.2.2.2.2.2.1 bt305.2.2.2.2.2.2.1).bind fun bt318 => ((uR04_TakeN.f k bt318.1 bt318.2.1 bt318.2.2.1 bt318.2.2.2.1 bt318.2.2.2.2.1 bt318.2.2.2.2.2.1 bt318.2.2.2.2.2.2.1).bind fun bt331 => (if x261002.length < 1256584717458 then (uR15_TakeDef.l0 k x5 (wrap64 (x6 + 1)) bt331.1 bt331.2.1 bt331.2.2.1 bt331.2.2.2.1 bt331.2.2.2.2.1 bt331.2.2.2.2.2.1 bt331.2.2.2.2.2.2 x261000 x261001 (x261002 ++ [(⟨bt284.2.2.2.2.2.1, bt291.2.2.2.2.2.1, bt298.2.2.2.2.1, (⟨bt305.2.2.2.2.2.2.2.1, bt305.2.2.2.2.2.2.2.2.1, bt305.2.2.2.2.2.2.2.2.2.1, bt305.2.2.2.2.2.2.2.2.2.2⟩ : S59), (⟨bt318.2.2.2.2.2.2.2.1, bt318.2.2.2.2.2.2.2.2.1, bt318.2.2.2.2.2.2.2.2.2.1, bt318.2.2.2.2.2.2.2.2.2.2⟩ : S59), bt331.2.2.2.2.1⟩ : S61)])) else (none)))))))) else (some (x258000, x258001, x258002, x258003, x258004, x258005, x258006, x261000, x261001, x261002))
def uR15_TakeDef.f (k : Nat) (a0_0 : ByteArray) (a0_1 : Int) (a0_2 : Int) (a0_3 : Int) (a0_4 : Int) (a0_5 : ByteArray) (a0_6 : Bool) : Option (ByteArray × Int × Int × Int × Int × ByteArray × Bool × ByteArray × Int × (List (S61))) := (uR04_TextS.f k a0_0 a0_1 a0_2 a0_3 a0_4 a0_5 a0_6 256).bind fun bt261 => ((uR04_TakeN.f k bt261.1 bt261.2.1 bt261.2.2.1 bt261.2.2.2.1 bt261.2.2.2.2.1 bt261.2.2.2.2.2.1 bt261.2.2.2.2.2.2).bind fun bt268 => ((uR04_Count.f k bt268.1 bt268.2.1 bt268.2.2.1 bt268.2.2.2.1 bt268.2.2.2.2.1 bt268.2.2.2.2.2.1 bt268.2.2.2.2.2.2 32 96).bind fun bt275 => (uR15_TakeDef.l0 k bt275.2.2.2.2.2.2.2 0 bt275.1 bt275.2.1 bt275.2.2.1 bt275.2.2.2.1 bt275.2.2.2.2.1 bt275.2.2.2.2.2.1 bt275.2.2.2.2.2.2.1 bt261.2.2.2.2.2.1 bt268.2.2.2.2.1 ([] : List (S61)))))
theorem ne61r {t : Nat} (h : 61 ≠ t) : ∀ q, q ∈ 61 :: k61.E → q ≠ t := by
 intro q hq
 have e : k61.E = [] := rfl
 rw [e, List.mem_singleton] at hq
 rw [hq]
 exact h
structure TDx (w W : World) (g1 g2 g3 g4 gx : Nat) (cs c2 c3 ps xs : Array Value) (v : Value) (l : List S61) : Prop where
 t : TPl 24 w W g1 g2 g3 g4 cs c2 c3 ps
 x : W.heap[gx]? = some (.cells xs 61 (0, 0))
 lx : g4 < gx
 r : Kd.R k61 61 W w.heap.size (fun k => k ≠ gx) v l
theorem TDx.call {w W W' : World} {g1 g2 g3 g4 gx : Nat} {cs c2 c3 ps xs : Array Value} {v : Value} {l : List S61} (h : TDx w W g1 g2 g3 g4 gx cs c2 c3 ps xs v l) (hb : Below W.heap.size W W') : TDx w W' g1 g2 g3 g4 gx cs c2 c3 ps xs v l :=
 ⟨h.t.call hb, blk_below h.x hb, h.lx, Kd.R_below h.r hb⟩
theorem TDx.put1 {w W : World} {g1 g2 g3 g4 gx : Nat} {cs c2 c3 ps xs : Array Value} {v : Value} {l : List S61} (h : TDx w W g1 g2 g3 g4 gx cs c2 c3 ps xs v l) (j : Nat) (u : Value) {cs' : Array Value} (e : cs.setIfInBounds j u = cs') : TDx w (W.setCell ⟨g1, j, none⟩ u) g1 g2 g3 g4 gx cs' c2 c3 ps xs v l :=
 ⟨h.t.put1 j u e, blk_far h.x (p := ⟨g1, j, none⟩) (by have := h.lx; have := h.t.l2; have := h.t.l3; have := h.t.l4; show gx ≠ g1; omega) u, h.lx, Kd.R_set h.r h.t.b1 (ne61r (by decide)) j u⟩
theorem TDx.putx {w W : World} {g1 g2 g3 g4 gx : Nat} {cs c2 c3 ps xs : Array Value} {v : Value} {l : List S61} (h : TDx w W g1 g2 g3 g4 gx cs c2 c3 ps xs v l) (j : Nat) (u : Value) {cs' : Array Value} (e : xs.setIfInBounds j u = cs') : TDx w (W.setCell ⟨gx, j, none⟩ u) g1 g2 g3 g4 gx cs c2 c3 ps cs' v l :=
 ⟨⟨blk_far h.t.b1 (p := ⟨gx, j, none⟩) (by have := h.lx; have := h.t.l2; have := h.t.l3; have := h.t.l4; show g1 ≠ gx; omega) u, blk_far h.t.b2 (p := ⟨gx, j, none⟩) (by have := h.lx; have := h.t.l3; have := h.t.l4; show g2 ≠ gx; omega) u, blk_far h.t.b3 (p := ⟨gx, j, none⟩) (by have := h.lx; have := h.t.l4; show g3 ≠ gx; omega) u, blk_far h.t.b4 (p := ⟨gx, j, none⟩) (Nat.ne_of_lt h.lx) u, below_set h.t.bel (by have := h.t.l1; have := h.lx; have := h.t.l2; have := h.t.l3; have := h.t.l4; omega), h.t.l1, h.t.l2, h.t.l3, h.t.l4⟩, blk_put h.x j u e, h.lx, Kd.R_far h.r (p := ⟨gx, j, none⟩) (fun k hk => hk) u⟩
theorem TPl.grown {T : TypeId} {w W W' : World} {g1 g2 g3 g4 : Nat} {cs c2 c3 ps : Array Value} {row : Option Nat} (h : TPl T w W g1 g2 g3 g4 cs c2 c3 ps) (hg : W.grownBy W' row) (n1 : some g1 ≠ row) (n2 : some g2 ≠ row) (n3 : some g3 ≠ row) (n4 : some g4 ≠ row) (hB : ∀ k, row = some k → w.heap.size ≤ k) : TPl T w W' g1 g2 g3 g4 cs c2 c3 ps :=
 ⟨blk_grown h.b1 hg n1, blk_grown h.b2 hg n2, blk_grown h.b3 hg n3, blk_grown h.b4 hg n4, h.bel.grown hg h.bel.size hB, h.l1, h.l2, h.l3, h.l4⟩
theorem TPl.lt4 {T : TypeId} {w W : World} {g1 g2 g3 g4 : Nat} {cs c2 c3 ps : Array Value} (h : TPl T w W g1 g2 g3 g4 cs c2 c3 ps) : g4 < W.heap.size := blk_lt h.b4
theorem uR15_TakeDef.calls (k : Nat) (a0_0 : ByteArray) (a0_1 : Int) (a0_2 : Int) (a0_3 : Int) (a0_4 : Int) (a0_5 : ByteArray) (a0_6 : Bool) (r1 : ByteArray) (r2 : Int) (r3 : Int) (r4 : Int) (r5 : Int) (r6 : ByteArray) (r7 : Bool) (r8 : ByteArray) (r9 : Int) (r10 : List (S61)) (w : World) (h : uR15_TakeDef.f k a0_0 a0_1 a0_2 a0_3 a0_4 a0_5 a0_6 = some (r1, r2, r3, r4, r5, r6, r7, r8, r9, r10)) :
 Calls Tryd.prog 32 #[.agg #[.string a0_0, .int .i64 a0_1, .int .i64 a0_2, .int .i64 a0_3, .int .i64 a0_4, .string a0_5, .bool a0_6]] w fun e w' => ∃ v9_ : Value, e = .returned (.tuple #[.agg #[.string r1, .int .i64 r2, .int .i64 r3, .int .i64 r4, .int .i64 r5, .string r6, .bool r7], .agg #[.string r8, .int .i64 r9, v9_]]) ∧ Kd.R k61 61 w' w.heap.size (fun _ => True) v9_ r10 ∧ Below w.heap.size w w' := by
 unfold uR15_TakeDef.f at h
 obtain ⟨⟨xa0, xa1, xa2, xa3, xa4, xa5, xa6⟩, hA, h⟩ := ob_ h
 try dsimp only at hA
 have A0 := ak_ hA
 clear hA
 obtain ⟨⟨xb0, xb1, xb2, xb3, xb4, xb5, xb6⟩, hA, h⟩ := ob_ h
 try dsimp only at hA
 have A1 := ak_ hA
 clear hA
 obtain ⟨⟨xc0, xc1, xc2, xc3, xc4, xc5, xc6, N⟩, hA, h⟩ := ob_ h
 try dsimp only at hA
 have A2 := ak_ hA
 clear hA
 have HH := ak_ h
 clear h
 have HB := ak_ (Below.refl w.heap.size w)
 go_enter Tryd.func32, Tryd.ntmps32
 go_upto_region 3 with (first | ((with_reducible refine gate_dst (N := 1) rfl ?_); refine box_event ?hg (N := 1) ?hd (cs := #[.string a0_0, .int .i64 a0_1, .int .i64 a0_2, .int .i64 a0_3, .int .i64 a0_4, .string a0_5, .bool a0_6]) (t := 81) ?hr ?_; (case hd | hg => rfl); (case hr => first | (go_simp; done) | (go_simp; rfl)); intro g1 hg w1 hbox hb; have B1 := ak_ hbox; have L1 := ak_ (show w.heap.size ≤ g1 by omega); have HB1 := ak_ (below_step HB.out hb); clear hb hbox hg) | ((with_reducible refine gate_dst (N := 2) rfl ?_); refine box_event ?hg (N := 2) ?hd (cs := #[.string (⟨#[]⟩ : ByteArray), .int .i64 0, .int .i64 0, .int .i64 0, .int .i64 0, .string (⟨#[]⟩ : ByteArray), .bool false]) (t := 81) ?hr ?_; (case hd | hg => rfl); (case hr => first | (go_simp; done) | (go_simp; rfl)); intro g2 hg w2 hbox hb; have B1_2 := ak_ (blk_below B1.out hb); have B2 := ak_ hbox; have L2 := ak_ (show g1 < g2 by rw [hg]; exact blk_lt B1.out); have HB2 := ak_ (below_step HB1.out hb); clear hb hbox hg) | ((with_reducible refine gate_dst (N := 3) rfl ?_); refine box_event ?hg (N := 3) ?hd (cs := #[.string (⟨#[]⟩ : ByteArray), .int .i64 0, .slice none 0 0]) (t := 24) ?hr ?_; (case hd | hg => rfl); (case hr => first | (go_simp; done) | (go_simp; rfl)); intro g3 hg w3 hbox hb; have B1_3 := ak_ (blk_below B1_2.out hb); have B2_3 := ak_ (blk_below B2.out hb); have B3 := ak_ hbox; have L3 := ak_ (show g2 < g3 by rw [hg]; exact blk_lt B2.out); have HB3 := ak_ (below_step HB2.out hb); clear hb hbox hg) | ((with_reducible refine gate_dst (N := 4) rfl ?_); refine box_event ?hg (N := 4) ?hd (cs := #[.string (⟨#[]⟩ : ByteArray), .int .i64 0, .slice none 0 0]) (t := 24) ?hr ?_; (case hd | hg => rfl); (case hr => first | (go_simp; done) | (go_simp; rfl)); intro g4 hg w4 hbox hb; have HX0 := ak_ (TPl.mk (blk_below B1_3.out hb) (blk_below B2_3.out hb) (blk_below B3.out hb) hbox (below_step HB3.out hb) L1.out L2.out L3.out (show g3 < g4 by rw [hg]; exact blk_lt B3.out)); clear hb hbox hg; have z0 := (zc HX0.out.b4 0).trans rfl; have z1 := (zc HX0.out.b4 1).trans rfl; have z2 := (zc HX0.out.b4 2).trans rfl; have f0 := zf HX0.out.b4 0; have f1 := zf HX0.out.b4 1; have f2 := zf HX0.out.b4 2))
 have HX := ak_ (((((((HX0.out).put4 0 (.string (⟨#[]⟩ : ByteArray)) (cs' := #[.string (⟨#[]⟩ : ByteArray), .int .i64 0, .slice none 0 0]) rfl)).put4 1 (.int .i64 0) (cs' := #[.string (⟨#[]⟩ : ByteArray), .int .i64 0, .slice none 0 0]) rfl)).put4 2 (.slice none 0 0) (cs' := #[.string (⟨#[]⟩ : ByteArray), .int .i64 0, .slice none 0 0]) rfl))
 clear z0 z1 z2 f0 f1 f2 HX0 B1 B2 B3 B1_2 B1_3 B2_3
 generalize (((w4.setCell ⟨g4, 0, none⟩ (.string (⟨#[]⟩ : ByteArray))).setCell ⟨g4, 1, none⟩ (.int .i64 0)).setCell ⟨g4, 2, none⟩ (.slice none 0 0)) = W0 at *
 have z0 := (zc HX.out.b1 0).trans rfl
 have z1 := (zc HX.out.b1 1).trans rfl
 have z2 := (zc HX.out.b1 2).trans rfl
 have z3 := (zc HX.out.b1 3).trans rfl
 have z4 := (zc HX.out.b1 4).trans rfl
 have z5 := (zc HX.out.b1 5).trans rfl
 have z6 := (zc HX.out.b1 6).trans rfl
 have f0 := zf HX.out.b1 0
 have f1 := zf HX.out.b1 1
 have f2 := zf HX.out.b1 2
 have f3 := zf HX.out.b1 3
 have f4 := zf HX.out.b1 4
 have f5 := zf HX.out.b1 5
 have f6 := zf HX.out.b1 6
 go_upto_region 4 with (go_at_call 40; refine (uR04_TextS.calls k a0_0 a0_1 a0_2 a0_3 a0_4 a0_5 a0_6 256 xa0 xa1 xa2 xa3 xa4 xa5 xa6 _ A0.out).mono ?_; rintro e Va ⟨rfl, hb⟩; have HC := ak_ (HX.out.call hb); clear hb HX z0 z1 z2 z3 z4 z5 z6 f0 f1 f2 f3 f4 f5 f6; have z0 := (zc HC.out.b1 0).trans rfl; have z1 := (zc HC.out.b1 1).trans rfl; have z2 := (zc HC.out.b1 2).trans rfl; have z3 := (zc HC.out.b1 3).trans rfl; have z4 := (zc HC.out.b1 4).trans rfl; have z5 := (zc HC.out.b1 5).trans rfl; have z6 := (zc HC.out.b1 6).trans rfl; have f0 := zf HC.out.b1 0; have f1 := zf HC.out.b1 1; have f2 := zf HC.out.b1 2; have f3 := zf HC.out.b1 3; have f4 := zf HC.out.b1 4; have f5 := zf HC.out.b1 5; have f6 := zf HC.out.b1 6)
 have HX := ak_ ((((((((((((((HC.out).put1 0 (.string xa0) (cs' := #[.string xa0, .int .i64 a0_1, .int .i64 a0_2, .int .i64 a0_3, .int .i64 a0_4, .string a0_5, .bool a0_6]) rfl)).put1 1 (.int .i64 xa1) (cs' := #[.string xa0, .int .i64 xa1, .int .i64 a0_2, .int .i64 a0_3, .int .i64 a0_4, .string a0_5, .bool a0_6]) rfl)).put1 2 (.int .i64 xa2) (cs' := #[.string xa0, .int .i64 xa1, .int .i64 xa2, .int .i64 a0_3, .int .i64 a0_4, .string a0_5, .bool a0_6]) rfl)).put1 3 (.int .i64 xa3) (cs' := #[.string xa0, .int .i64 xa1, .int .i64 xa2, .int .i64 xa3, .int .i64 a0_4, .string a0_5, .bool a0_6]) rfl)).put1 4 (.int .i64 xa4) (cs' := #[.string xa0, .int .i64 xa1, .int .i64 xa2, .int .i64 xa3, .int .i64 xa4, .string a0_5, .bool a0_6]) rfl)).put1 5 (.string xa5) (cs' := #[.string xa0, .int .i64 xa1, .int .i64 xa2, .int .i64 xa3, .int .i64 xa4, .string xa5, .bool a0_6]) rfl)).put1 6 (.bool xa6) (cs' := #[.string xa0, .int .i64 xa1, .int .i64 xa2, .int .i64 xa3, .int .i64 xa4, .string xa5, .bool xa6]) rfl)
 clear HC z0 z1 z2 z3 z4 z5 z6 f0 f1 f2 f3 f4 f5 f6
 generalize (((((((Va.setCell ⟨g1, 0, none⟩ (.string xa0)).setCell ⟨g1, 1, none⟩ (.int .i64 xa1)).setCell ⟨g1, 2, none⟩ (.int .i64 xa2)).setCell ⟨g1, 3, none⟩ (.int .i64 xa3)).setCell ⟨g1, 4, none⟩ (.int .i64 xa4)).setCell ⟨g1, 5, none⟩ (.string xa5)).setCell ⟨g1, 6, none⟩ (.bool xa6)) = Ua at *
 have y4 := (zc HX.out.b1 5).trans rfl
 have z4 := (zc HX.out.b4 0).trans rfl
 have f4 := zf HX.out.b4 0
 go_upto_region 5 with (fail)
 have HX2 := ak_ (HX.out.put4 0 (.string xa5) (cs' := #[.string xa5, .int .i64 0, .slice none 0 0]) rfl)
 clear HX y4 z4 f4
 have HX := ak_ HX2.out
 clear HX2
 generalize Ua.setCell ⟨g4, 0, none⟩ (.string xa5) = W1 at *
 have z0 := (zc HX.out.b1 0).trans rfl
 have z1 := (zc HX.out.b1 1).trans rfl
 have z2 := (zc HX.out.b1 2).trans rfl
 have z3 := (zc HX.out.b1 3).trans rfl
 have z4 := (zc HX.out.b1 4).trans rfl
 have z5 := (zc HX.out.b1 5).trans rfl
 have z6 := (zc HX.out.b1 6).trans rfl
 have f0 := zf HX.out.b1 0
 have f1 := zf HX.out.b1 1
 have f2 := zf HX.out.b1 2
 have f3 := zf HX.out.b1 3
 have f4 := zf HX.out.b1 4
 have f5 := zf HX.out.b1 5
 have f6 := zf HX.out.b1 6
 go_upto_region 6 with (go_at_call 39; refine (uR04_TakeN.calls k xa0 xa1 xa2 xa3 xa4 xa5 xa6 xb0 xb1 xb2 xb3 xb4 xb5 xb6 _ A1.out).mono ?_; rintro e Vb ⟨rfl, hb⟩; have HC := ak_ (HX.out.call hb); clear hb HX z0 z1 z2 z3 z4 z5 z6 f0 f1 f2 f3 f4 f5 f6; have z0 := (zc HC.out.b1 0).trans rfl; have z1 := (zc HC.out.b1 1).trans rfl; have z2 := (zc HC.out.b1 2).trans rfl; have z3 := (zc HC.out.b1 3).trans rfl; have z4 := (zc HC.out.b1 4).trans rfl; have z5 := (zc HC.out.b1 5).trans rfl; have z6 := (zc HC.out.b1 6).trans rfl; have f0 := zf HC.out.b1 0; have f1 := zf HC.out.b1 1; have f2 := zf HC.out.b1 2; have f3 := zf HC.out.b1 3; have f4 := zf HC.out.b1 4; have f5 := zf HC.out.b1 5; have f6 := zf HC.out.b1 6)
 have HX := ak_ ((((((((((((((HC.out).put1 0 (.string xb0) (cs' := #[.string xb0, .int .i64 xa1, .int .i64 xa2, .int .i64 xa3, .int .i64 xa4, .string xa5, .bool xa6]) rfl)).put1 1 (.int .i64 xb1) (cs' := #[.string xb0, .int .i64 xb1, .int .i64 xa2, .int .i64 xa3, .int .i64 xa4, .string xa5, .bool xa6]) rfl)).put1 2 (.int .i64 xb2) (cs' := #[.string xb0, .int .i64 xb1, .int .i64 xb2, .int .i64 xa3, .int .i64 xa4, .string xa5, .bool xa6]) rfl)).put1 3 (.int .i64 xb3) (cs' := #[.string xb0, .int .i64 xb1, .int .i64 xb2, .int .i64 xb3, .int .i64 xa4, .string xa5, .bool xa6]) rfl)).put1 4 (.int .i64 xb4) (cs' := #[.string xb0, .int .i64 xb1, .int .i64 xb2, .int .i64 xb3, .int .i64 xb4, .string xa5, .bool xa6]) rfl)).put1 5 (.string xb5) (cs' := #[.string xb0, .int .i64 xb1, .int .i64 xb2, .int .i64 xb3, .int .i64 xb4, .string xb5, .bool xa6]) rfl)).put1 6 (.bool xb6) (cs' := #[.string xb0, .int .i64 xb1, .int .i64 xb2, .int .i64 xb3, .int .i64 xb4, .string xb5, .bool xb6]) rfl)
 clear HC z0 z1 z2 z3 z4 z5 z6 f0 f1 f2 f3 f4 f5 f6
 generalize (((((((Vb.setCell ⟨g1, 0, none⟩ (.string xb0)).setCell ⟨g1, 1, none⟩ (.int .i64 xb1)).setCell ⟨g1, 2, none⟩ (.int .i64 xb2)).setCell ⟨g1, 3, none⟩ (.int .i64 xb3)).setCell ⟨g1, 4, none⟩ (.int .i64 xb4)).setCell ⟨g1, 5, none⟩ (.string xb5)).setCell ⟨g1, 6, none⟩ (.bool xb6)) = Ub at *
 have y4 := (zc HX.out.b1 4).trans rfl
 have z4 := (zc HX.out.b4 1).trans rfl
 have f4 := zf HX.out.b4 1
 go_upto_region 7 with (fail)
 have HX2 := ak_ (HX.out.put4 1 (.int .i64 xb4) (cs' := #[.string xa5, .int .i64 xb4, .slice none 0 0]) rfl)
 clear HX y4 z4 f4
 have HX := ak_ HX2.out
 clear HX2
 generalize Ub.setCell ⟨g4, 1, none⟩ (.int .i64 xb4) = W2 at *
 have z0 := (zc HX.out.b1 0).trans rfl
 have z1 := (zc HX.out.b1 1).trans rfl
 have z2 := (zc HX.out.b1 2).trans rfl
 have z3 := (zc HX.out.b1 3).trans rfl
 have z4 := (zc HX.out.b1 4).trans rfl
 have z5 := (zc HX.out.b1 5).trans rfl
 have z6 := (zc HX.out.b1 6).trans rfl
 have f0 := zf HX.out.b1 0
 have f1 := zf HX.out.b1 1
 have f2 := zf HX.out.b1 2
 have f3 := zf HX.out.b1 3
 have f4 := zf HX.out.b1 4
 have f5 := zf HX.out.b1 5
 have f6 := zf HX.out.b1 6
 go_upto_region 8 with (go_at_call 60; refine (uR04_Count.calls k xb0 xb1 xb2 xb3 xb4 xb5 xb6 32 96 xc0 xc1 xc2 xc3 xc4 xc5 xc6 N _ A2.out).mono ?_; rintro e Vc ⟨rfl, hb⟩; have HC := ak_ (HX.out.call hb); clear hb HX z0 z1 z2 z3 z4 z5 z6 f0 f1 f2 f3 f4 f5 f6; have z0 := (zc HC.out.b1 0).trans rfl; have z1 := (zc HC.out.b1 1).trans rfl; have z2 := (zc HC.out.b1 2).trans rfl; have z3 := (zc HC.out.b1 3).trans rfl; have z4 := (zc HC.out.b1 4).trans rfl; have z5 := (zc HC.out.b1 5).trans rfl; have z6 := (zc HC.out.b1 6).trans rfl; have f0 := zf HC.out.b1 0; have f1 := zf HC.out.b1 1; have f2 := zf HC.out.b1 2; have f3 := zf HC.out.b1 3; have f4 := zf HC.out.b1 4; have f5 := zf HC.out.b1 5; have f6 := zf HC.out.b1 6)
 have HX := ak_ ((((((((((((((HC.out).put1 0 (.string xc0) (cs' := #[.string xc0, .int .i64 xb1, .int .i64 xb2, .int .i64 xb3, .int .i64 xb4, .string xb5, .bool xb6]) rfl)).put1 1 (.int .i64 xc1) (cs' := #[.string xc0, .int .i64 xc1, .int .i64 xb2, .int .i64 xb3, .int .i64 xb4, .string xb5, .bool xb6]) rfl)).put1 2 (.int .i64 xc2) (cs' := #[.string xc0, .int .i64 xc1, .int .i64 xc2, .int .i64 xb3, .int .i64 xb4, .string xb5, .bool xb6]) rfl)).put1 3 (.int .i64 xc3) (cs' := #[.string xc0, .int .i64 xc1, .int .i64 xc2, .int .i64 xc3, .int .i64 xb4, .string xb5, .bool xb6]) rfl)).put1 4 (.int .i64 xc4) (cs' := #[.string xc0, .int .i64 xc1, .int .i64 xc2, .int .i64 xc3, .int .i64 xc4, .string xb5, .bool xb6]) rfl)).put1 5 (.string xc5) (cs' := #[.string xc0, .int .i64 xc1, .int .i64 xc2, .int .i64 xc3, .int .i64 xc4, .string xc5, .bool xb6]) rfl)).put1 6 (.bool xc6) (cs' := #[.string xc0, .int .i64 xc1, .int .i64 xc2, .int .i64 xc3, .int .i64 xc4, .string xc5, .bool xc6]) rfl)
 clear HC z0 z1 z2 z3 z4 z5 z6 f0 f1 f2 f3 f4 f5 f6
 generalize (((((((Vc.setCell ⟨g1, 0, none⟩ (.string xc0)).setCell ⟨g1, 1, none⟩ (.int .i64 xc1)).setCell ⟨g1, 2, none⟩ (.int .i64 xc2)).setCell ⟨g1, 3, none⟩ (.int .i64 xc3)).setCell ⟨g1, 4, none⟩ (.int .i64 xc4)).setCell ⟨g1, 5, none⟩ (.string xc5)).setCell ⟨g1, 6, none⟩ (.bool xc6)) = Uc at *
 go_wp2
 go_loopg [6] k (fun kq v6 W' => ∃ (i : Int) (s0 : ByteArray) (s1 s2 s3 s4 : Int) (s5 : ByteArray) (s6 : Bool) (v : Value) (l : List S61), v6 = .int .i64 i ∧ Aside0 (uR15_TakeDef.l0 kq N i s0 s1 s2 s3 s4 s5 s6 xa5 xb4 l = some (r1, r2, r3, r4, r5, r6, r7, r8, r9, r10)) ∧ Aside0 (kq ≤ k) ∧ Aside0 (TPl 24 w W' g1 g2 g3 g4 #[.string s0, .int .i64 s1, .int .i64 s2, .int .i64 s3, .int .i64 s4, .string s5, .bool s6] #[.string (⟨#[]⟩ : ByteArray), .int .i64 0, .int .i64 0, .int .i64 0, .int .i64 0, .string (⟨#[]⟩ : ByteArray), .bool false] #[.string (⟨#[]⟩ : ByteArray), .int .i64 0, .slice none 0 0] #[.string xa5, .int .i64 xb4, v]) ∧ Aside0 (Kd.R k61 61 W' w.heap.size (fun _ => True) v l))
 case atStart => exact ⟨0, xc0, xc1, xc2, xc3, xc4, xc5, xc6, .slice none 0 0, [], rfl, HH, ⟨Nat.le_refl _⟩, HX, ⟨Kd.R_nil _ _ _ _ _⟩⟩
 case round =>
  clear HX HH
  obtain ⟨i, s0, s1, s2, s3, s4, s5, s6, v, l, rfl, HA, HK1, HX, HR⟩ := hrel
  cases gk with
  | zero => exact absurd HA.out (by simp [uR15_TakeDef.l0])
  | succ k1 =>
   have h := HA.out
   clear HA
   simp only [uR15_TakeDef.l0] at h
   by_cases hlt : i < N
   · rw [if_pos hlt] at h
     have hd1 : decide (i < N) = true := dt_ hlt
     clear hlt
     obtain ⟨⟨ya0, ya1, ya2, ya3, ya4, ya5, ya6⟩, hA, h⟩ := ob_ h
     try dsimp only at hA
     have C0 := ak_ hA
     clear hA
     obtain ⟨⟨yb0, yb1, yb2, yb3, yb4, yb5, yb6⟩, hA, h⟩ := ob_ h
     try dsimp only at hA
     have C1 := ak_ hA
     clear hA
     obtain ⟨⟨yc0, yc1, yc2, yc3, yc4, yc5, yc6⟩, hA, h⟩ := ob_ h
     try dsimp only at hA
     have C2 := ak_ hA
     clear hA
     obtain ⟨⟨yd0, yd1, yd2, yd3, yd4, yd5, yd6, p0, p1, p2, p3⟩, hA, h⟩ := ob_ h
     try dsimp only at hA
     have C3 := ak_ hA
     clear hA
     obtain ⟨⟨ye0, ye1, ye2, ye3, ye4, ye5, ye6, q0, q1, q2, q3⟩, hA, h⟩ := ob_ h
     try dsimp only at hA
     have C4 := ak_ hA
     clear hA
     obtain ⟨⟨yf0, yf1, yf2, yf3, yf4, yf5, yf6⟩, hA, h⟩ := ob_ h
     try dsimp only at hA
     have C5 := ak_ hA
     clear hA
     by_cases hlen : l.length < 1256584717458
     · rw [if_pos hlen] at h
       have HLEN := ak_ hlen
       have HH := ak_ h
       clear h hlen
       go_upto_region 12 with (first | ((with_reducible refine gate_dst (N := 7) rfl ?_); refine box_event ?hg (N := 7) ?hd (cs := #[.string (⟨#[]⟩ : ByteArray), .string (⟨#[]⟩ : ByteArray), .int .i64 0, .int .i64 0, .int .i64 0, .int .i64 0, .int .i64 0, .int .i64 0, .int .i64 0, .int .i64 0, .int .i64 0, .int .i64 0]) (t := 61) ?hr ?_; (case hd | hg => rfl); (case hr => first | (go_simp; done) | (go_simp; rfl)); intro gx hg w7 hbox hb; have HX0 := ak_ (TDx.mk (HX.out.call hb) hbox (show g4 < gx by rw [hg]; exact HX.out.lt4) (Kd.R_below (Kd.R_mono (Kd.R_bound HR.out) (fun k_ hk_ => (show k_ ≠ gx by have := hk_.2.2.1; omega))) hb)); clear hb hbox hg HX HR; have z0 := (zc HX0.out.x 0).trans rfl; have z1 := (zc HX0.out.x 1).trans rfl; have z2 := (zc HX0.out.x 2).trans rfl; have z3 := (zc HX0.out.x 3).trans rfl; have z4 := (zc HX0.out.x 4).trans rfl; have z5 := (zc HX0.out.x 5).trans rfl; have z6 := (zc HX0.out.x 6).trans rfl; have z7 := (zc HX0.out.x 7).trans rfl; have z8 := (zc HX0.out.x 8).trans rfl; have z9 := (zc HX0.out.x 9).trans rfl; have z10 := (zc HX0.out.x 10).trans rfl; have z11 := (zc HX0.out.x 11).trans rfl; have f0 := zf HX0.out.x 0; have f1 := zf HX0.out.x 1; have f2 := zf HX0.out.x 2; have f3 := zf HX0.out.x 3; have f4 := zf HX0.out.x 4; have f5 := zf HX0.out.x 5; have f6 := zf HX0.out.x 6; have f7 := zf HX0.out.x 7; have f8 := zf HX0.out.x 8; have f9 := zf HX0.out.x 9; have f10 := zf HX0.out.x 10; have f11 := zf HX0.out.x 11))
       have HX := ak_ (((((((((((((((((((((((((HX0.out).putx 0 (.string (⟨#[]⟩ : ByteArray)) (cs' := #[.string (⟨#[]⟩ : ByteArray), .string (⟨#[]⟩ : ByteArray), .int .i64 0, .int .i64 0, .int .i64 0, .int .i64 0, .int .i64 0, .int .i64 0, .int .i64 0, .int .i64 0, .int .i64 0, .int .i64 0]) rfl)).putx 1 (.string (⟨#[]⟩ : ByteArray)) (cs' := #[.string (⟨#[]⟩ : ByteArray), .string (⟨#[]⟩ : ByteArray), .int .i64 0, .int .i64 0, .int .i64 0, .int .i64 0, .int .i64 0, .int .i64 0, .int .i64 0, .int .i64 0, .int .i64 0, .int .i64 0]) rfl)).putx 2 (.int .i64 0) (cs' := #[.string (⟨#[]⟩ : ByteArray), .string (⟨#[]⟩ : ByteArray), .int .i64 0, .int .i64 0, .int .i64 0, .int .i64 0, .int .i64 0, .int .i64 0, .int .i64 0, .int .i64 0, .int .i64 0, .int .i64 0]) rfl)).putx 3 (.int .i64 0) (cs' := #[.string (⟨#[]⟩ : ByteArray), .string (⟨#[]⟩ : ByteArray), .int .i64 0, .int .i64 0, .int .i64 0, .int .i64 0, .int .i64 0, .int .i64 0, .int .i64 0, .int .i64 0, .int .i64 0, .int .i64 0]) rfl)).putx 4 (.int .i64 0) (cs' := #[.string (⟨#[]⟩ : ByteArray), .string (⟨#[]⟩ : ByteArray), .int .i64 0, .int .i64 0, .int .i64 0, .int .i64 0, .int .i64 0, .int .i64 0, .int .i64 0, .int .i64 0, .int .i64 0, .int .i64 0]) rfl)).putx 5 (.int .i64 0) (cs' := #[.string (⟨#[]⟩ : ByteArray), .string (⟨#[]⟩ : ByteArray), .int .i64 0, .int .i64 0, .int .i64 0, .int .i64 0, .int .i64 0, .int .i64 0, .int .i64 0, .int .i64 0, .int .i64 0, .int .i64 0]) rfl)).putx 6 (.int .i64 0) (cs' := #[.string (⟨#[]⟩ : ByteArray), .string (⟨#[]⟩ : ByteArray), .int .i64 0, .int .i64 0, .int .i64 0, .int .i64 0, .int .i64 0, .int .i64 0, .int .i64 0, .int .i64 0, .int .i64 0, .int .i64 0]) rfl)).putx 7 (.int .i64 0) (cs' := #[.string (⟨#[]⟩ : ByteArray), .string (⟨#[]⟩ : ByteArray), .int .i64 0, .int .i64 0, .int .i64 0, .int .i64 0, .int .i64 0, .int .i64 0, .int .i64 0, .int .i64 0, .int .i64 0, .int .i64 0]) rfl)).putx 8 (.int .i64 0) (cs' := #[.string (⟨#[]⟩ : ByteArray), .string (⟨#[]⟩ : ByteArray), .int .i64 0, .int .i64 0, .int .i64 0, .int .i64 0, .int .i64 0, .int .i64 0, .int .i64 0, .int .i64 0, .int .i64 0, .int .i64 0]) rfl)).putx 9 (.int .i64 0) (cs' := #[.string (⟨#[]⟩ : ByteArray), .string (⟨#[]⟩ : ByteArray), .int .i64 0, .int .i64 0, .int .i64 0, .int .i64 0, .int .i64 0, .int .i64 0, .int .i64 0, .int .i64 0, .int .i64 0, .int .i64 0]) rfl)).putx 10 (.int .i64 0) (cs' := #[.string (⟨#[]⟩ : ByteArray), .string (⟨#[]⟩ : ByteArray), .int .i64 0, .int .i64 0, .int .i64 0, .int .i64 0, .int .i64 0, .int .i64 0, .int .i64 0, .int .i64 0, .int .i64 0, .int .i64 0]) rfl)).putx 11 (.int .i64 0) (cs' := #[.string (⟨#[]⟩ : ByteArray), .string (⟨#[]⟩ : ByteArray), .int .i64 0, .int .i64 0, .int .i64 0, .int .i64 0, .int .i64 0, .int .i64 0, .int .i64 0, .int .i64 0, .int .i64 0, .int .i64 0]) rfl))
       clear z0 z1 z2 z3 z4 z5 z6 z7 z8 z9 z10 z11 f0 f1 f2 f3 f4 f5 f6 f7 f8 f9 f10 f11 HX0
       generalize ((((((((((((w7.setCell ⟨gx, 0, none⟩ (.string (⟨#[]⟩ : ByteArray))).setCell ⟨gx, 1, none⟩ (.string (⟨#[]⟩ : ByteArray))).setCell ⟨gx, 2, none⟩ (.int .i64 0)).setCell ⟨gx, 3, none⟩ (.int .i64 0)).setCell ⟨gx, 4, none⟩ (.int .i64 0)).setCell ⟨gx, 5, none⟩ (.int .i64 0)).setCell ⟨gx, 6, none⟩ (.int .i64 0)).setCell ⟨gx, 7, none⟩ (.int .i64 0)).setCell ⟨gx, 8, none⟩ (.int .i64 0)).setCell ⟨gx, 9, none⟩ (.int .i64 0)).setCell ⟨gx, 10, none⟩ (.int .i64 0)).setCell ⟨gx, 11, none⟩ (.int .i64 0)) = W3 at *
       have z0 := (zc HX.out.t.b1 0).trans rfl
       have z1 := (zc HX.out.t.b1 1).trans rfl
       have z2 := (zc HX.out.t.b1 2).trans rfl
       have z3 := (zc HX.out.t.b1 3).trans rfl
       have z4 := (zc HX.out.t.b1 4).trans rfl
       have z5 := (zc HX.out.t.b1 5).trans rfl
       have z6 := (zc HX.out.t.b1 6).trans rfl
       have f0 := zf HX.out.t.b1 0
       have f1 := zf HX.out.t.b1 1
       have f2 := zf HX.out.t.b1 2
       have f3 := zf HX.out.t.b1 3
       have f4 := zf HX.out.t.b1 4
       have f5 := zf HX.out.t.b1 5
       have f6 := zf HX.out.t.b1 6
       go_upto_region 13 with (go_at_call 40; refine (uR04_TextS.calls k1 s0 s1 s2 s3 s4 s5 s6 256 ya0 ya1 ya2 ya3 ya4 ya5 ya6 _ C0.out).mono ?_; rintro e V1 ⟨rfl, hb⟩; have HC := ak_ (HX.out.call hb); clear hb HX z0 z1 z2 z3 z4 z5 z6 f0 f1 f2 f3 f4 f5 f6; have z0 := (zc HC.out.t.b1 0).trans rfl; have z1 := (zc HC.out.t.b1 1).trans rfl; have z2 := (zc HC.out.t.b1 2).trans rfl; have z3 := (zc HC.out.t.b1 3).trans rfl; have z4 := (zc HC.out.t.b1 4).trans rfl; have z5 := (zc HC.out.t.b1 5).trans rfl; have z6 := (zc HC.out.t.b1 6).trans rfl; have f0 := zf HC.out.t.b1 0; have f1 := zf HC.out.t.b1 1; have f2 := zf HC.out.t.b1 2; have f3 := zf HC.out.t.b1 3; have f4 := zf HC.out.t.b1 4; have f5 := zf HC.out.t.b1 5; have f6 := zf HC.out.t.b1 6)
       have HX := ak_ ((((((((((((((HC.out).put1 0 (.string ya0) (cs' := #[.string ya0, .int .i64 s1, .int .i64 s2, .int .i64 s3, .int .i64 s4, .string s5, .bool s6]) rfl)).put1 1 (.int .i64 ya1) (cs' := #[.string ya0, .int .i64 ya1, .int .i64 s2, .int .i64 s3, .int .i64 s4, .string s5, .bool s6]) rfl)).put1 2 (.int .i64 ya2) (cs' := #[.string ya0, .int .i64 ya1, .int .i64 ya2, .int .i64 s3, .int .i64 s4, .string s5, .bool s6]) rfl)).put1 3 (.int .i64 ya3) (cs' := #[.string ya0, .int .i64 ya1, .int .i64 ya2, .int .i64 ya3, .int .i64 s4, .string s5, .bool s6]) rfl)).put1 4 (.int .i64 ya4) (cs' := #[.string ya0, .int .i64 ya1, .int .i64 ya2, .int .i64 ya3, .int .i64 ya4, .string s5, .bool s6]) rfl)).put1 5 (.string ya5) (cs' := #[.string ya0, .int .i64 ya1, .int .i64 ya2, .int .i64 ya3, .int .i64 ya4, .string ya5, .bool s6]) rfl)).put1 6 (.bool ya6) (cs' := #[.string ya0, .int .i64 ya1, .int .i64 ya2, .int .i64 ya3, .int .i64 ya4, .string ya5, .bool ya6]) rfl)
       clear HC z0 z1 z2 z3 z4 z5 z6 f0 f1 f2 f3 f4 f5 f6
       generalize (((((((V1.setCell ⟨g1, 0, none⟩ (.string ya0)).setCell ⟨g1, 1, none⟩ (.int .i64 ya1)).setCell ⟨g1, 2, none⟩ (.int .i64 ya2)).setCell ⟨g1, 3, none⟩ (.int .i64 ya3)).setCell ⟨g1, 4, none⟩ (.int .i64 ya4)).setCell ⟨g1, 5, none⟩ (.string ya5)).setCell ⟨g1, 6, none⟩ (.bool ya6)) = U1 at *
       have y4 := (zc HX.out.t.b1 5).trans rfl
       have z4 := (zc HX.out.x 0).trans rfl
       have f4 := zf HX.out.x 0
       go_upto_region 14 with (fail)
       have HX2 := ak_ (HX.out.putx 0 (.string ya5) (cs' := #[.string ya5, .string (⟨#[]⟩ : ByteArray), .int .i64 0, .int .i64 0, .int .i64 0, .int .i64 0, .int .i64 0, .int .i64 0, .int .i64 0, .int .i64 0, .int .i64 0, .int .i64 0]) rfl)
       clear HX y4 z4 f4
       have HX := ak_ HX2.out
       clear HX2
       generalize U1.setCell ⟨gx, 0, none⟩ (.string ya5) = W4 at *
       have z0 := (zc HX.out.t.b1 0).trans rfl
       have z1 := (zc HX.out.t.b1 1).trans rfl
       have z2 := (zc HX.out.t.b1 2).trans rfl
       have z3 := (zc HX.out.t.b1 3).trans rfl
       have z4 := (zc HX.out.t.b1 4).trans rfl
       have z5 := (zc HX.out.t.b1 5).trans rfl
       have z6 := (zc HX.out.t.b1 6).trans rfl
       have f0 := zf HX.out.t.b1 0
       have f1 := zf HX.out.t.b1 1
       have f2 := zf HX.out.t.b1 2
       have f3 := zf HX.out.t.b1 3
       have f4 := zf HX.out.t.b1 4
       have f5 := zf HX.out.t.b1 5
       have f6 := zf HX.out.t.b1 6
       go_upto_region 15 with (go_at_call 40; refine (uR04_TextS.calls k1 ya0 ya1 ya2 ya3 ya4 ya5 ya6 256 yb0 yb1 yb2 yb3 yb4 yb5 yb6 _ C1.out).mono ?_; rintro e V2 ⟨rfl, hb⟩; have HC := ak_ (HX.out.call hb); clear hb HX z0 z1 z2 z3 z4 z5 z6 f0 f1 f2 f3 f4 f5 f6; have z0 := (zc HC.out.t.b1 0).trans rfl; have z1 := (zc HC.out.t.b1 1).trans rfl; have z2 := (zc HC.out.t.b1 2).trans rfl; have z3 := (zc HC.out.t.b1 3).trans rfl; have z4 := (zc HC.out.t.b1 4).trans rfl; have z5 := (zc HC.out.t.b1 5).trans rfl; have z6 := (zc HC.out.t.b1 6).trans rfl; have f0 := zf HC.out.t.b1 0; have f1 := zf HC.out.t.b1 1; have f2 := zf HC.out.t.b1 2; have f3 := zf HC.out.t.b1 3; have f4 := zf HC.out.t.b1 4; have f5 := zf HC.out.t.b1 5; have f6 := zf HC.out.t.b1 6)
       have HX := ak_ ((((((((((((((HC.out).put1 0 (.string yb0) (cs' := #[.string yb0, .int .i64 ya1, .int .i64 ya2, .int .i64 ya3, .int .i64 ya4, .string ya5, .bool ya6]) rfl)).put1 1 (.int .i64 yb1) (cs' := #[.string yb0, .int .i64 yb1, .int .i64 ya2, .int .i64 ya3, .int .i64 ya4, .string ya5, .bool ya6]) rfl)).put1 2 (.int .i64 yb2) (cs' := #[.string yb0, .int .i64 yb1, .int .i64 yb2, .int .i64 ya3, .int .i64 ya4, .string ya5, .bool ya6]) rfl)).put1 3 (.int .i64 yb3) (cs' := #[.string yb0, .int .i64 yb1, .int .i64 yb2, .int .i64 yb3, .int .i64 ya4, .string ya5, .bool ya6]) rfl)).put1 4 (.int .i64 yb4) (cs' := #[.string yb0, .int .i64 yb1, .int .i64 yb2, .int .i64 yb3, .int .i64 yb4, .string ya5, .bool ya6]) rfl)).put1 5 (.string yb5) (cs' := #[.string yb0, .int .i64 yb1, .int .i64 yb2, .int .i64 yb3, .int .i64 yb4, .string yb5, .bool ya6]) rfl)).put1 6 (.bool yb6) (cs' := #[.string yb0, .int .i64 yb1, .int .i64 yb2, .int .i64 yb3, .int .i64 yb4, .string yb5, .bool yb6]) rfl)
       clear HC z0 z1 z2 z3 z4 z5 z6 f0 f1 f2 f3 f4 f5 f6
       generalize (((((((V2.setCell ⟨g1, 0, none⟩ (.string yb0)).setCell ⟨g1, 1, none⟩ (.int .i64 yb1)).setCell ⟨g1, 2, none⟩ (.int .i64 yb2)).setCell ⟨g1, 3, none⟩ (.int .i64 yb3)).setCell ⟨g1, 4, none⟩ (.int .i64 yb4)).setCell ⟨g1, 5, none⟩ (.string yb5)).setCell ⟨g1, 6, none⟩ (.bool yb6)) = U2 at *
       have y4 := (zc HX.out.t.b1 5).trans rfl
       have z4 := (zc HX.out.x 1).trans rfl
       have f4 := zf HX.out.x 1
       go_upto_region 16 with (fail)
       have HX2 := ak_ (HX.out.putx 1 (.string yb5) (cs' := #[.string ya5, .string yb5, .int .i64 0, .int .i64 0, .int .i64 0, .int .i64 0, .int .i64 0, .int .i64 0, .int .i64 0, .int .i64 0, .int .i64 0, .int .i64 0]) rfl)
       clear HX y4 z4 f4
       have HX := ak_ HX2.out
       clear HX2
       generalize U2.setCell ⟨gx, 1, none⟩ (.string yb5) = W5 at *
       have z0 := (zc HX.out.t.b1 0).trans rfl
       have z1 := (zc HX.out.t.b1 1).trans rfl
       have z2 := (zc HX.out.t.b1 2).trans rfl
       have z3 := (zc HX.out.t.b1 3).trans rfl
       have z4 := (zc HX.out.t.b1 4).trans rfl
       have z5 := (zc HX.out.t.b1 5).trans rfl
       have z6 := (zc HX.out.t.b1 6).trans rfl
       have f0 := zf HX.out.t.b1 0
       have f1 := zf HX.out.t.b1 1
       have f2 := zf HX.out.t.b1 2
       have f3 := zf HX.out.t.b1 3
       have f4 := zf HX.out.t.b1 4
       have f5 := zf HX.out.t.b1 5
       have f6 := zf HX.out.t.b1 6
       go_upto_region 17 with (go_at_call 39; refine (uR04_TakeN.calls k1 yb0 yb1 yb2 yb3 yb4 yb5 yb6 yc0 yc1 yc2 yc3 yc4 yc5 yc6 _ C2.out).mono ?_; rintro e V3 ⟨rfl, hb⟩; have HC := ak_ (HX.out.call hb); clear hb HX z0 z1 z2 z3 z4 z5 z6 f0 f1 f2 f3 f4 f5 f6; have z0 := (zc HC.out.t.b1 0).trans rfl; have z1 := (zc HC.out.t.b1 1).trans rfl; have z2 := (zc HC.out.t.b1 2).trans rfl; have z3 := (zc HC.out.t.b1 3).trans rfl; have z4 := (zc HC.out.t.b1 4).trans rfl; have z5 := (zc HC.out.t.b1 5).trans rfl; have z6 := (zc HC.out.t.b1 6).trans rfl; have f0 := zf HC.out.t.b1 0; have f1 := zf HC.out.t.b1 1; have f2 := zf HC.out.t.b1 2; have f3 := zf HC.out.t.b1 3; have f4 := zf HC.out.t.b1 4; have f5 := zf HC.out.t.b1 5; have f6 := zf HC.out.t.b1 6)
       have HX := ak_ ((((((((((((((HC.out).put1 0 (.string yc0) (cs' := #[.string yc0, .int .i64 yb1, .int .i64 yb2, .int .i64 yb3, .int .i64 yb4, .string yb5, .bool yb6]) rfl)).put1 1 (.int .i64 yc1) (cs' := #[.string yc0, .int .i64 yc1, .int .i64 yb2, .int .i64 yb3, .int .i64 yb4, .string yb5, .bool yb6]) rfl)).put1 2 (.int .i64 yc2) (cs' := #[.string yc0, .int .i64 yc1, .int .i64 yc2, .int .i64 yb3, .int .i64 yb4, .string yb5, .bool yb6]) rfl)).put1 3 (.int .i64 yc3) (cs' := #[.string yc0, .int .i64 yc1, .int .i64 yc2, .int .i64 yc3, .int .i64 yb4, .string yb5, .bool yb6]) rfl)).put1 4 (.int .i64 yc4) (cs' := #[.string yc0, .int .i64 yc1, .int .i64 yc2, .int .i64 yc3, .int .i64 yc4, .string yb5, .bool yb6]) rfl)).put1 5 (.string yc5) (cs' := #[.string yc0, .int .i64 yc1, .int .i64 yc2, .int .i64 yc3, .int .i64 yc4, .string yc5, .bool yb6]) rfl)).put1 6 (.bool yc6) (cs' := #[.string yc0, .int .i64 yc1, .int .i64 yc2, .int .i64 yc3, .int .i64 yc4, .string yc5, .bool yc6]) rfl)
       clear HC z0 z1 z2 z3 z4 z5 z6 f0 f1 f2 f3 f4 f5 f6
       generalize (((((((V3.setCell ⟨g1, 0, none⟩ (.string yc0)).setCell ⟨g1, 1, none⟩ (.int .i64 yc1)).setCell ⟨g1, 2, none⟩ (.int .i64 yc2)).setCell ⟨g1, 3, none⟩ (.int .i64 yc3)).setCell ⟨g1, 4, none⟩ (.int .i64 yc4)).setCell ⟨g1, 5, none⟩ (.string yc5)).setCell ⟨g1, 6, none⟩ (.bool yc6)) = U3 at *
       have y4 := (zc HX.out.t.b1 4).trans rfl
       have z4 := (zc HX.out.x 2).trans rfl
       have f4 := zf HX.out.x 2
       go_upto_region 18 with (fail)
       have HX2 := ak_ (HX.out.putx 2 (.int .i64 yc4) (cs' := #[.string ya5, .string yb5, .int .i64 yc4, .int .i64 0, .int .i64 0, .int .i64 0, .int .i64 0, .int .i64 0, .int .i64 0, .int .i64 0, .int .i64 0, .int .i64 0]) rfl)
       clear HX y4 z4 f4
       have HX := ak_ HX2.out
       clear HX2
       generalize U3.setCell ⟨gx, 2, none⟩ (.int .i64 yc4) = W6 at *
       have z0 := (zc HX.out.t.b1 0).trans rfl
       have z1 := (zc HX.out.t.b1 1).trans rfl
       have z2 := (zc HX.out.t.b1 2).trans rfl
       have z3 := (zc HX.out.t.b1 3).trans rfl
       have z4 := (zc HX.out.t.b1 4).trans rfl
       have z5 := (zc HX.out.t.b1 5).trans rfl
       have z6 := (zc HX.out.t.b1 6).trans rfl
       go_upto_region 19 with (first | (go_at_call 61; refine (uR15_takePlan.calls k1 yc0 yc1 yc2 yc3 yc4 yc5 yc6 yd0 yd1 yd2 yd3 yd4 yd5 yd6 p0 p1 p2 p3 _ C3.out).mono ?_; rintro e V1 ⟨rfl, hb⟩; have HC := ak_ (HX.out.call hb); clear hb HX z0 z1 z2 z3 z4 z5 z6) | ((with_reducible refine gate_dst (N := 8) rfl ?_); refine box_event ?hg (N := 8) ?hd (cs := #[.string (⟨#[]⟩ : ByteArray), .int .i64 0, .int .i64 0, .int .i64 0, .int .i64 0, .string (⟨#[]⟩ : ByteArray), .bool false]) (t := 81) ?hr ?_; (case hd | hg => rfl); (case hr => first | (go_simp; done) | (go_simp; rfl)); intro ga1 hg wa1 hbox hb; have HBa := ak_ hb; have GA := ak_ (show V1.heap.size ≤ ga1 by omega); have HAa := ak_ hbox; clear hb hbox hg) | ((with_reducible refine gate_dst (N := 9) rfl ?_); refine box_event ?hg (N := 9) ?hd (cs := #[.int .i64 0, .int .i64 0, .int .i64 0, .int .i64 0]) (t := 59) ?hr ?_; (case hd | hg => rfl); (case hr => first | (go_simp; done) | (go_simp; rfl)); intro gp1 hg wb1 hbox hb; have HBb := ak_ (below_step HBa.out hb); have HAb := ak_ (blk_below HAa.out hb); have HPb := ak_ hbox; have GL := ak_ (show ga1 < gp1 by rw [hg]; exact blk_lt HAa.out); clear hb hbox hg; have z0 := (zc HAb.out 0).trans rfl; have z1 := (zc HAb.out 1).trans rfl; have z2 := (zc HAb.out 2).trans rfl; have z3 := (zc HAb.out 3).trans rfl; have z4 := (zc HAb.out 4).trans rfl; have z5 := (zc HAb.out 5).trans rfl; have z6 := (zc HAb.out 6).trans rfl; have f0 := zf HAb.out 0; have f1 := zf HAb.out 1; have f2 := zf HAb.out 2; have f3 := zf HAb.out 3; have f4 := zf HAb.out 4; have f5 := zf HAb.out 5; have f6 := zf HAb.out 6; have x0 := (zc HPb.out 0).trans rfl; have x1 := (zc HPb.out 1).trans rfl; have x2 := (zc HPb.out 2).trans rfl; have x3 := (zc HPb.out 3).trans rfl; have e0 := zf HPb.out 0; have e1 := zf HPb.out 1; have e2 := zf HPb.out 2; have e3 := zf HPb.out 3; have n1 := GL.out; have n2 : ga1 ≠ gp1 := Nat.ne_of_lt n1; have n3 : gp1 ≠ ga1 := Nat.ne_of_gt n1; clear n1))
       have HBE := ak_ (below_set (g := gp1) (j := 3) (v := .int .i64 p3) (below_set (g := gp1) (j := 2) (v := .int .i64 p2) (below_set (g := gp1) (j := 1) (v := .int .i64 p1) (below_set (g := gp1) (j := 0) (v := .int .i64 p0) (below_set (g := ga1) (j := 6) (v := .bool yd6) (below_set (g := ga1) (j := 5) (v := .string yd5) (below_set (g := ga1) (j := 4) (v := .int .i64 yd4) (below_set (g := ga1) (j := 3) (v := .int .i64 yd3) (below_set (g := ga1) (j := 2) (v := .int .i64 yd2) (below_set (g := ga1) (j := 1) (v := .int .i64 yd1) (below_set (g := ga1) (j := 0) (v := .string yd0) HBb.out GA.out) GA.out) GA.out) GA.out) GA.out) GA.out) GA.out) (Nat.le_of_lt (Nat.lt_of_le_of_lt GA.out GL.out))) (Nat.le_of_lt (Nat.lt_of_le_of_lt GA.out GL.out))) (Nat.le_of_lt (Nat.lt_of_le_of_lt GA.out GL.out))) (Nat.le_of_lt (Nat.lt_of_le_of_lt GA.out GL.out)))
       have HA1 := ak_ (blk_far (blk_far (blk_far (blk_far (blk_put (cs' := #[.string yd0, .int .i64 yd1, .int .i64 yd2, .int .i64 yd3, .int .i64 yd4, .string yd5, .bool yd6]) (blk_put (cs' := #[.string yd0, .int .i64 yd1, .int .i64 yd2, .int .i64 yd3, .int .i64 yd4, .string yd5, .bool false]) (blk_put (cs' := #[.string yd0, .int .i64 yd1, .int .i64 yd2, .int .i64 yd3, .int .i64 yd4, .string (⟨#[]⟩ : ByteArray), .bool false]) (blk_put (cs' := #[.string yd0, .int .i64 yd1, .int .i64 yd2, .int .i64 yd3, .int .i64 0, .string (⟨#[]⟩ : ByteArray), .bool false]) (blk_put (cs' := #[.string yd0, .int .i64 yd1, .int .i64 yd2, .int .i64 0, .int .i64 0, .string (⟨#[]⟩ : ByteArray), .bool false]) (blk_put (cs' := #[.string yd0, .int .i64 yd1, .int .i64 0, .int .i64 0, .int .i64 0, .string (⟨#[]⟩ : ByteArray), .bool false]) (blk_put (cs' := #[.string yd0, .int .i64 0, .int .i64 0, .int .i64 0, .int .i64 0, .string (⟨#[]⟩ : ByteArray), .bool false]) HAb.out 0 (.string yd0) rfl) 1 (.int .i64 yd1) rfl) 2 (.int .i64 yd2) rfl) 3 (.int .i64 yd3) rfl) 4 (.int .i64 yd4) rfl) 5 (.string yd5) rfl) 6 (.bool yd6) rfl) (p := ⟨gp1, 0, none⟩) n2 (.int .i64 p0)) (p := ⟨gp1, 1, none⟩) n2 (.int .i64 p1)) (p := ⟨gp1, 2, none⟩) n2 (.int .i64 p2)) (p := ⟨gp1, 3, none⟩) n2 (.int .i64 p3))
       have HP1 := ak_ (blk_put (cs' := #[.int .i64 p0, .int .i64 p1, .int .i64 p2, .int .i64 p3]) (blk_put (cs' := #[.int .i64 p0, .int .i64 p1, .int .i64 p2, .int .i64 0]) (blk_put (cs' := #[.int .i64 p0, .int .i64 p1, .int .i64 0, .int .i64 0]) (blk_put (cs' := #[.int .i64 p0, .int .i64 0, .int .i64 0, .int .i64 0]) (blk_far (blk_far (blk_far (blk_far (blk_far (blk_far (blk_far HPb.out (p := ⟨ga1, 0, none⟩) n3 (.string yd0)) (p := ⟨ga1, 1, none⟩) n3 (.int .i64 yd1)) (p := ⟨ga1, 2, none⟩) n3 (.int .i64 yd2)) (p := ⟨ga1, 3, none⟩) n3 (.int .i64 yd3)) (p := ⟨ga1, 4, none⟩) n3 (.int .i64 yd4)) (p := ⟨ga1, 5, none⟩) n3 (.string yd5)) (p := ⟨ga1, 6, none⟩) n3 (.bool yd6)) 0 (.int .i64 p0) rfl) 1 (.int .i64 p1) rfl) 2 (.int .i64 p2) rfl) 3 (.int .i64 p3) rfl)
       have HX := ak_ (HC.out.call HBE.out)
       clear z0 z1 z2 z3 z4 z5 z6 f0 f1 f2 f3 f4 f5 f6 x0 x1 x2 x3 e0 e1 e2 e3 n2 n3 HC HBE HBa HBb HAa HAb HPb GA GL
       generalize (((((((((((wb1.setCell ⟨ga1, 0, none⟩ (.string yd0)).setCell ⟨ga1, 1, none⟩ (.int .i64 yd1)).setCell ⟨ga1, 2, none⟩ (.int .i64 yd2)).setCell ⟨ga1, 3, none⟩ (.int .i64 yd3)).setCell ⟨ga1, 4, none⟩ (.int .i64 yd4)).setCell ⟨ga1, 5, none⟩ (.string yd5)).setCell ⟨ga1, 6, none⟩ (.bool yd6)).setCell ⟨gp1, 0, none⟩ (.int .i64 p0)).setCell ⟨gp1, 1, none⟩ (.int .i64 p1)).setCell ⟨gp1, 2, none⟩ (.int .i64 p2)).setCell ⟨gp1, 3, none⟩ (.int .i64 p3)) = X1 at *
       have z0 := (zc HA1.out 0).trans rfl
       have z1 := (zc HA1.out 1).trans rfl
       have z2 := (zc HA1.out 2).trans rfl
       have z3 := (zc HA1.out 3).trans rfl
       have z4 := (zc HA1.out 4).trans rfl
       have z5 := (zc HA1.out 5).trans rfl
       have z6 := (zc HA1.out 6).trans rfl
       go_upto_region 20 with (first | (go_at_call 61; refine (uR15_takePlan.calls k1 yd0 yd1 yd2 yd3 yd4 yd5 yd6 ye0 ye1 ye2 ye3 ye4 ye5 ye6 q0 q1 q2 q3 _ C4.out).mono ?_; rintro e V2 ⟨rfl, hb⟩; have HC := ak_ (HX.out.call hb); have HAm := ak_ (blk_below HA1.out hb); have HPm := ak_ (blk_below HP1.out hb); clear HA1 HP1 hb HX z0 z1 z2 z3 z4 z5 z6) | ((with_reducible refine gate_dst (N := 10) rfl ?_); refine box_event ?hg (N := 10) ?hd (cs := #[.string (⟨#[]⟩ : ByteArray), .int .i64 0, .int .i64 0, .int .i64 0, .int .i64 0, .string (⟨#[]⟩ : ByteArray), .bool false]) (t := 81) ?hr ?_; (case hd | hg => rfl); (case hr => first | (go_simp; done) | (go_simp; rfl)); intro ga2 hg wa2 hbox hb; have HBa := ak_ hb; have GA := ak_ (show V2.heap.size ≤ ga2 by omega); have HAa := ak_ hbox; clear hb hbox hg) | ((with_reducible refine gate_dst (N := 11) rfl ?_); refine box_event ?hg (N := 11) ?hd (cs := #[.int .i64 0, .int .i64 0, .int .i64 0, .int .i64 0]) (t := 59) ?hr ?_; (case hd | hg => rfl); (case hr => first | (go_simp; done) | (go_simp; rfl)); intro gp2 hg wb2 hbox hb; have HBb := ak_ (below_step HBa.out hb); have HAb := ak_ (blk_below HAa.out hb); have HPb := ak_ hbox; have GL := ak_ (show ga2 < gp2 by rw [hg]; exact blk_lt HAa.out); clear hb hbox hg; have z0 := (zc HAb.out 0).trans rfl; have z1 := (zc HAb.out 1).trans rfl; have z2 := (zc HAb.out 2).trans rfl; have z3 := (zc HAb.out 3).trans rfl; have z4 := (zc HAb.out 4).trans rfl; have z5 := (zc HAb.out 5).trans rfl; have z6 := (zc HAb.out 6).trans rfl; have f0 := zf HAb.out 0; have f1 := zf HAb.out 1; have f2 := zf HAb.out 2; have f3 := zf HAb.out 3; have f4 := zf HAb.out 4; have f5 := zf HAb.out 5; have f6 := zf HAb.out 6; have x0 := (zc HPb.out 0).trans rfl; have x1 := (zc HPb.out 1).trans rfl; have x2 := (zc HPb.out 2).trans rfl; have x3 := (zc HPb.out 3).trans rfl; have e0 := zf HPb.out 0; have e1 := zf HPb.out 1; have e2 := zf HPb.out 2; have e3 := zf HPb.out 3; have n1 := GL.out; have n2 : ga2 ≠ gp2 := Nat.ne_of_lt n1; have n3 : gp2 ≠ ga2 := Nat.ne_of_gt n1; clear n1))
       have HBE := ak_ (below_set (g := gp2) (j := 3) (v := .int .i64 q3) (below_set (g := gp2) (j := 2) (v := .int .i64 q2) (below_set (g := gp2) (j := 1) (v := .int .i64 q1) (below_set (g := gp2) (j := 0) (v := .int .i64 q0) (below_set (g := ga2) (j := 6) (v := .bool ye6) (below_set (g := ga2) (j := 5) (v := .string ye5) (below_set (g := ga2) (j := 4) (v := .int .i64 ye4) (below_set (g := ga2) (j := 3) (v := .int .i64 ye3) (below_set (g := ga2) (j := 2) (v := .int .i64 ye2) (below_set (g := ga2) (j := 1) (v := .int .i64 ye1) (below_set (g := ga2) (j := 0) (v := .string ye0) HBb.out GA.out) GA.out) GA.out) GA.out) GA.out) GA.out) GA.out) (Nat.le_of_lt (Nat.lt_of_le_of_lt GA.out GL.out))) (Nat.le_of_lt (Nat.lt_of_le_of_lt GA.out GL.out))) (Nat.le_of_lt (Nat.lt_of_le_of_lt GA.out GL.out))) (Nat.le_of_lt (Nat.lt_of_le_of_lt GA.out GL.out)))
       have HA2 := ak_ (blk_far (blk_far (blk_far (blk_far (blk_put (cs' := #[.string ye0, .int .i64 ye1, .int .i64 ye2, .int .i64 ye3, .int .i64 ye4, .string ye5, .bool ye6]) (blk_put (cs' := #[.string ye0, .int .i64 ye1, .int .i64 ye2, .int .i64 ye3, .int .i64 ye4, .string ye5, .bool false]) (blk_put (cs' := #[.string ye0, .int .i64 ye1, .int .i64 ye2, .int .i64 ye3, .int .i64 ye4, .string (⟨#[]⟩ : ByteArray), .bool false]) (blk_put (cs' := #[.string ye0, .int .i64 ye1, .int .i64 ye2, .int .i64 ye3, .int .i64 0, .string (⟨#[]⟩ : ByteArray), .bool false]) (blk_put (cs' := #[.string ye0, .int .i64 ye1, .int .i64 ye2, .int .i64 0, .int .i64 0, .string (⟨#[]⟩ : ByteArray), .bool false]) (blk_put (cs' := #[.string ye0, .int .i64 ye1, .int .i64 0, .int .i64 0, .int .i64 0, .string (⟨#[]⟩ : ByteArray), .bool false]) (blk_put (cs' := #[.string ye0, .int .i64 0, .int .i64 0, .int .i64 0, .int .i64 0, .string (⟨#[]⟩ : ByteArray), .bool false]) HAb.out 0 (.string ye0) rfl) 1 (.int .i64 ye1) rfl) 2 (.int .i64 ye2) rfl) 3 (.int .i64 ye3) rfl) 4 (.int .i64 ye4) rfl) 5 (.string ye5) rfl) 6 (.bool ye6) rfl) (p := ⟨gp2, 0, none⟩) n2 (.int .i64 q0)) (p := ⟨gp2, 1, none⟩) n2 (.int .i64 q1)) (p := ⟨gp2, 2, none⟩) n2 (.int .i64 q2)) (p := ⟨gp2, 3, none⟩) n2 (.int .i64 q3))
       have HP2 := ak_ (blk_put (cs' := #[.int .i64 q0, .int .i64 q1, .int .i64 q2, .int .i64 q3]) (blk_put (cs' := #[.int .i64 q0, .int .i64 q1, .int .i64 q2, .int .i64 0]) (blk_put (cs' := #[.int .i64 q0, .int .i64 q1, .int .i64 0, .int .i64 0]) (blk_put (cs' := #[.int .i64 q0, .int .i64 0, .int .i64 0, .int .i64 0]) (blk_far (blk_far (blk_far (blk_far (blk_far (blk_far (blk_far HPb.out (p := ⟨ga2, 0, none⟩) n3 (.string ye0)) (p := ⟨ga2, 1, none⟩) n3 (.int .i64 ye1)) (p := ⟨ga2, 2, none⟩) n3 (.int .i64 ye2)) (p := ⟨ga2, 3, none⟩) n3 (.int .i64 ye3)) (p := ⟨ga2, 4, none⟩) n3 (.int .i64 ye4)) (p := ⟨ga2, 5, none⟩) n3 (.string ye5)) (p := ⟨ga2, 6, none⟩) n3 (.bool ye6)) 0 (.int .i64 q0) rfl) 1 (.int .i64 q1) rfl) 2 (.int .i64 q2) rfl) 3 (.int .i64 q3) rfl)
       have HX := ak_ (HC.out.call HBE.out)
       have HA1 := ak_ (blk_below HAm.out HBE.out)
       have HP1 := ak_ (blk_below HPm.out HBE.out)
       clear HAm HPm z0 z1 z2 z3 z4 z5 z6 f0 f1 f2 f3 f4 f5 f6 x0 x1 x2 x3 e0 e1 e2 e3 n2 n3 HC HBE HBa HBb HAa HAb HPb GA GL
       generalize (((((((((((wb2.setCell ⟨ga2, 0, none⟩ (.string ye0)).setCell ⟨ga2, 1, none⟩ (.int .i64 ye1)).setCell ⟨ga2, 2, none⟩ (.int .i64 ye2)).setCell ⟨ga2, 3, none⟩ (.int .i64 ye3)).setCell ⟨ga2, 4, none⟩ (.int .i64 ye4)).setCell ⟨ga2, 5, none⟩ (.string ye5)).setCell ⟨ga2, 6, none⟩ (.bool ye6)).setCell ⟨gp2, 0, none⟩ (.int .i64 q0)).setCell ⟨gp2, 1, none⟩ (.int .i64 q1)).setCell ⟨gp2, 2, none⟩ (.int .i64 q2)).setCell ⟨gp2, 3, none⟩ (.int .i64 q3)) = X2 at *
       have y0 := (zc HA2.out 0).trans rfl
       have y1 := (zc HA2.out 1).trans rfl
       have y2 := (zc HA2.out 2).trans rfl
       have y3 := (zc HA2.out 3).trans rfl
       have y4 := (zc HA2.out 4).trans rfl
       have y5 := (zc HA2.out 5).trans rfl
       have y6 := (zc HA2.out 6).trans rfl
       have z0 := (zc HX.out.t.b1 0).trans rfl
       have z1 := (zc HX.out.t.b1 1).trans rfl
       have z2 := (zc HX.out.t.b1 2).trans rfl
       have z3 := (zc HX.out.t.b1 3).trans rfl
       have z4 := (zc HX.out.t.b1 4).trans rfl
       have z5 := (zc HX.out.t.b1 5).trans rfl
       have z6 := (zc HX.out.t.b1 6).trans rfl
       have f0 := zf HX.out.t.b1 0
       have f1 := zf HX.out.t.b1 1
       have f2 := zf HX.out.t.b1 2
       have f3 := zf HX.out.t.b1 3
       have f4 := zf HX.out.t.b1 4
       have f5 := zf HX.out.t.b1 5
       have f6 := zf HX.out.t.b1 6
       go_upto_region 21 with (fail)
       have HX2 := ak_ ((((((((((((((HX.out).put1 0 (.string ye0) (cs' := #[.string ye0, .int .i64 yc1, .int .i64 yc2, .int .i64 yc3, .int .i64 yc4, .string yc5, .bool yc6]) rfl)).put1 1 (.int .i64 ye1) (cs' := #[.string ye0, .int .i64 ye1, .int .i64 yc2, .int .i64 yc3, .int .i64 yc4, .string yc5, .bool yc6]) rfl)).put1 2 (.int .i64 ye2) (cs' := #[.string ye0, .int .i64 ye1, .int .i64 ye2, .int .i64 yc3, .int .i64 yc4, .string yc5, .bool yc6]) rfl)).put1 3 (.int .i64 ye3) (cs' := #[.string ye0, .int .i64 ye1, .int .i64 ye2, .int .i64 ye3, .int .i64 yc4, .string yc5, .bool yc6]) rfl)).put1 4 (.int .i64 ye4) (cs' := #[.string ye0, .int .i64 ye1, .int .i64 ye2, .int .i64 ye3, .int .i64 ye4, .string yc5, .bool yc6]) rfl)).put1 5 (.string ye5) (cs' := #[.string ye0, .int .i64 ye1, .int .i64 ye2, .int .i64 ye3, .int .i64 ye4, .string ye5, .bool yc6]) rfl)).put1 6 (.bool ye6) (cs' := #[.string ye0, .int .i64 ye1, .int .i64 ye2, .int .i64 ye3, .int .i64 ye4, .string ye5, .bool ye6]) rfl)
       have np1 : gp1 ≠ g1 := fun e => by have h1 := HP1.out; rw [e, HX.out.t.b1] at h1; simp at h1
       have np2 : gp2 ≠ g1 := fun e => by have h1 := HP2.out; rw [e, HX.out.t.b1] at h1; simp at h1
       have HP1b := ak_ (blk_far (blk_far (blk_far (blk_far (blk_far (blk_far (blk_far HP1.out (p := ⟨g1, 0, none⟩) np1 (.string ye0)) (p := ⟨g1, 1, none⟩) np1 (.int .i64 ye1)) (p := ⟨g1, 2, none⟩) np1 (.int .i64 ye2)) (p := ⟨g1, 3, none⟩) np1 (.int .i64 ye3)) (p := ⟨g1, 4, none⟩) np1 (.int .i64 ye4)) (p := ⟨g1, 5, none⟩) np1 (.string ye5)) (p := ⟨g1, 6, none⟩) np1 (.bool ye6))
       have HP2b := ak_ (blk_far (blk_far (blk_far (blk_far (blk_far (blk_far (blk_far HP2.out (p := ⟨g1, 0, none⟩) np2 (.string ye0)) (p := ⟨g1, 1, none⟩) np2 (.int .i64 ye1)) (p := ⟨g1, 2, none⟩) np2 (.int .i64 ye2)) (p := ⟨g1, 3, none⟩) np2 (.int .i64 ye3)) (p := ⟨g1, 4, none⟩) np2 (.int .i64 ye4)) (p := ⟨g1, 5, none⟩) np2 (.string ye5)) (p := ⟨g1, 6, none⟩) np2 (.bool ye6))
       clear y0 y1 y2 y3 y4 y5 y6 z0 z1 z2 z3 z4 z5 z6 f0 f1 f2 f3 f4 f5 f6 np1 np2 HX HA1 HA2 HP1 HP2
       have HX := ak_ HX2.out
       clear HX2
       generalize (((((((X2.setCell ⟨g1, 0, none⟩ (.string ye0)).setCell ⟨g1, 1, none⟩ (.int .i64 ye1)).setCell ⟨g1, 2, none⟩ (.int .i64 ye2)).setCell ⟨g1, 3, none⟩ (.int .i64 ye3)).setCell ⟨g1, 4, none⟩ (.int .i64 ye4)).setCell ⟨g1, 5, none⟩ (.string ye5)).setCell ⟨g1, 6, none⟩ (.bool ye6)) = X3 at *
       have y0 := (zc HP1b.out 0).trans rfl
       have y1 := (zc HP1b.out 1).trans rfl
       have y2 := (zc HP1b.out 2).trans rfl
       have y3 := (zc HP1b.out 3).trans rfl
       have z3 := (zc HX.out.x 3).trans rfl
       have f3 := zf HX.out.x 3
       have z4 := (zc HX.out.x 4).trans rfl
       have f4 := zf HX.out.x 4
       have z5 := (zc HX.out.x 5).trans rfl
       have f5 := zf HX.out.x 5
       have z6 := (zc HX.out.x 6).trans rfl
       have f6 := zf HX.out.x 6
       go_upto_region 22 with (fail)
       have HX2 := ak_ ((((((((HX.out).putx 3 (.int .i64 p0) (cs' := #[.string ya5, .string yb5, .int .i64 yc4, .int .i64 p0, .int .i64 0, .int .i64 0, .int .i64 0, .int .i64 0, .int .i64 0, .int .i64 0, .int .i64 0, .int .i64 0]) rfl)).putx 4 (.int .i64 p1) (cs' := #[.string ya5, .string yb5, .int .i64 yc4, .int .i64 p0, .int .i64 p1, .int .i64 0, .int .i64 0, .int .i64 0, .int .i64 0, .int .i64 0, .int .i64 0, .int .i64 0]) rfl)).putx 5 (.int .i64 p2) (cs' := #[.string ya5, .string yb5, .int .i64 yc4, .int .i64 p0, .int .i64 p1, .int .i64 p2, .int .i64 0, .int .i64 0, .int .i64 0, .int .i64 0, .int .i64 0, .int .i64 0]) rfl)).putx 6 (.int .i64 p3) (cs' := #[.string ya5, .string yb5, .int .i64 yc4, .int .i64 p0, .int .i64 p1, .int .i64 p2, .int .i64 p3, .int .i64 0, .int .i64 0, .int .i64 0, .int .i64 0, .int .i64 0]) rfl)
       have nk : gp2 ≠ gx := fun e => by have h1 := HP2b.out; rw [e, HX.out.x] at h1; simp at h1
       have HP2c := ak_ (blk_far (blk_far (blk_far (blk_far HP2b.out (p := ⟨gx, 3, none⟩) nk (.int .i64 p0)) (p := ⟨gx, 4, none⟩) nk (.int .i64 p1)) (p := ⟨gx, 5, none⟩) nk (.int .i64 p2)) (p := ⟨gx, 6, none⟩) nk (.int .i64 p3))
       clear nk HP2b y0 y1 y2 y3 z3 f3 z4 f4 z5 f5 z6 f6 HX HP1b
       have HX := ak_ HX2.out
       clear HX2
       generalize ((((X3.setCell ⟨gx, 3, none⟩ (.int .i64 p0)).setCell ⟨gx, 4, none⟩ (.int .i64 p1)).setCell ⟨gx, 5, none⟩ (.int .i64 p2)).setCell ⟨gx, 6, none⟩ (.int .i64 p3)) = X4 at *
       have y0 := (zc HP2c.out 0).trans rfl
       have y1 := (zc HP2c.out 1).trans rfl
       have y2 := (zc HP2c.out 2).trans rfl
       have y3 := (zc HP2c.out 3).trans rfl
       have z7 := (zc HX.out.x 7).trans rfl
       have f7 := zf HX.out.x 7
       have z8 := (zc HX.out.x 8).trans rfl
       have f8 := zf HX.out.x 8
       have z9 := (zc HX.out.x 9).trans rfl
       have f9 := zf HX.out.x 9
       have z10 := (zc HX.out.x 10).trans rfl
       have f10 := zf HX.out.x 10
       go_upto_region 23 with (fail)
       have HX2 := ak_ ((((((((HX.out).putx 7 (.int .i64 q0) (cs' := #[.string ya5, .string yb5, .int .i64 yc4, .int .i64 p0, .int .i64 p1, .int .i64 p2, .int .i64 p3, .int .i64 q0, .int .i64 0, .int .i64 0, .int .i64 0, .int .i64 0]) rfl)).putx 8 (.int .i64 q1) (cs' := #[.string ya5, .string yb5, .int .i64 yc4, .int .i64 p0, .int .i64 p1, .int .i64 p2, .int .i64 p3, .int .i64 q0, .int .i64 q1, .int .i64 0, .int .i64 0, .int .i64 0]) rfl)).putx 9 (.int .i64 q2) (cs' := #[.string ya5, .string yb5, .int .i64 yc4, .int .i64 p0, .int .i64 p1, .int .i64 p2, .int .i64 p3, .int .i64 q0, .int .i64 q1, .int .i64 q2, .int .i64 0, .int .i64 0]) rfl)).putx 10 (.int .i64 q3) (cs' := #[.string ya5, .string yb5, .int .i64 yc4, .int .i64 p0, .int .i64 p1, .int .i64 p2, .int .i64 p3, .int .i64 q0, .int .i64 q1, .int .i64 q2, .int .i64 q3, .int .i64 0]) rfl)
       clear y0 y1 y2 y3 z7 f7 z8 f8 z9 f9 z10 f10 HX HP2c
       have HX := ak_ HX2.out
       clear HX2
       generalize ((((X4.setCell ⟨gx, 7, none⟩ (.int .i64 q0)).setCell ⟨gx, 8, none⟩ (.int .i64 q1)).setCell ⟨gx, 9, none⟩ (.int .i64 q2)).setCell ⟨gx, 10, none⟩ (.int .i64 q3)) = X5 at *
       have z0 := (zc HX.out.t.b1 0).trans rfl
       have z1 := (zc HX.out.t.b1 1).trans rfl
       have z2 := (zc HX.out.t.b1 2).trans rfl
       have z3 := (zc HX.out.t.b1 3).trans rfl
       have z4 := (zc HX.out.t.b1 4).trans rfl
       have z5 := (zc HX.out.t.b1 5).trans rfl
       have z6 := (zc HX.out.t.b1 6).trans rfl
       have f0 := zf HX.out.t.b1 0
       have f1 := zf HX.out.t.b1 1
       have f2 := zf HX.out.t.b1 2
       have f3 := zf HX.out.t.b1 3
       have f4 := zf HX.out.t.b1 4
       have f5 := zf HX.out.t.b1 5
       have f6 := zf HX.out.t.b1 6
       go_upto_region 24 with (go_at_call 39; refine (uR04_TakeN.calls k1 ye0 ye1 ye2 ye3 ye4 ye5 ye6 yf0 yf1 yf2 yf3 yf4 yf5 yf6 _ C5.out).mono ?_; rintro e V4 ⟨rfl, hb⟩; have HC := ak_ (HX.out.call hb); clear hb HX z0 z1 z2 z3 z4 z5 z6 f0 f1 f2 f3 f4 f5 f6; have z0 := (zc HC.out.t.b1 0).trans rfl; have z1 := (zc HC.out.t.b1 1).trans rfl; have z2 := (zc HC.out.t.b1 2).trans rfl; have z3 := (zc HC.out.t.b1 3).trans rfl; have z4 := (zc HC.out.t.b1 4).trans rfl; have z5 := (zc HC.out.t.b1 5).trans rfl; have z6 := (zc HC.out.t.b1 6).trans rfl; have f0 := zf HC.out.t.b1 0; have f1 := zf HC.out.t.b1 1; have f2 := zf HC.out.t.b1 2; have f3 := zf HC.out.t.b1 3; have f4 := zf HC.out.t.b1 4; have f5 := zf HC.out.t.b1 5; have f6 := zf HC.out.t.b1 6)
       have HX := ak_ ((((((((((((((HC.out).put1 0 (.string yf0) (cs' := #[.string yf0, .int .i64 ye1, .int .i64 ye2, .int .i64 ye3, .int .i64 ye4, .string ye5, .bool ye6]) rfl)).put1 1 (.int .i64 yf1) (cs' := #[.string yf0, .int .i64 yf1, .int .i64 ye2, .int .i64 ye3, .int .i64 ye4, .string ye5, .bool ye6]) rfl)).put1 2 (.int .i64 yf2) (cs' := #[.string yf0, .int .i64 yf1, .int .i64 yf2, .int .i64 ye3, .int .i64 ye4, .string ye5, .bool ye6]) rfl)).put1 3 (.int .i64 yf3) (cs' := #[.string yf0, .int .i64 yf1, .int .i64 yf2, .int .i64 yf3, .int .i64 ye4, .string ye5, .bool ye6]) rfl)).put1 4 (.int .i64 yf4) (cs' := #[.string yf0, .int .i64 yf1, .int .i64 yf2, .int .i64 yf3, .int .i64 yf4, .string ye5, .bool ye6]) rfl)).put1 5 (.string yf5) (cs' := #[.string yf0, .int .i64 yf1, .int .i64 yf2, .int .i64 yf3, .int .i64 yf4, .string yf5, .bool ye6]) rfl)).put1 6 (.bool yf6) (cs' := #[.string yf0, .int .i64 yf1, .int .i64 yf2, .int .i64 yf3, .int .i64 yf4, .string yf5, .bool yf6]) rfl)
       clear HC z0 z1 z2 z3 z4 z5 z6 f0 f1 f2 f3 f4 f5 f6
       generalize (((((((V4.setCell ⟨g1, 0, none⟩ (.string yf0)).setCell ⟨g1, 1, none⟩ (.int .i64 yf1)).setCell ⟨g1, 2, none⟩ (.int .i64 yf2)).setCell ⟨g1, 3, none⟩ (.int .i64 yf3)).setCell ⟨g1, 4, none⟩ (.int .i64 yf4)).setCell ⟨g1, 5, none⟩ (.string yf5)).setCell ⟨g1, 6, none⟩ (.bool yf6)) = U4 at *
       have y4 := (zc HX.out.t.b1 4).trans rfl
       have z4 := (zc HX.out.x 11).trans rfl
       have f4 := zf HX.out.x 11
       go_upto_region 25 with (fail)
       have HX2 := ak_ (HX.out.putx 11 (.int .i64 yf4) (cs' := #[.string ya5, .string yb5, .int .i64 yc4, .int .i64 p0, .int .i64 p1, .int .i64 p2, .int .i64 p3, .int .i64 q0, .int .i64 q1, .int .i64 q2, .int .i64 q3, .int .i64 yf4]) rfl)
       clear HX y4 z4 f4
       have HX := ak_ HX2.out
       clear HX2
       generalize U4.setCell ⟨gx, 11, none⟩ (.int .i64 yf4) = W9 at *
       have z0 := (zc HX.out.x 0).trans rfl
       have z1 := (zc HX.out.x 1).trans rfl
       have z2 := (zc HX.out.x 2).trans rfl
       have z3 := (zc HX.out.x 3).trans rfl
       have z4 := (zc HX.out.x 4).trans rfl
       have z5 := (zc HX.out.x 5).trans rfl
       have z6 := (zc HX.out.x 6).trans rfl
       have z7 := (zc HX.out.x 7).trans rfl
       have z8 := (zc HX.out.x 8).trans rfl
       have z9 := (zc HX.out.x 9).trans rfl
       have z10 := (zc HX.out.x 10).trans rfl
       have z11 := (zc HX.out.x 11).trans rfl
       have y2 := (zc HX.out.t.b4 2).trans rfl
       go_wp2_with (first | ((with_reducible refine gate_builtin (b := .append) (xs := #[.tmp 70, .tmp 72]) rfl ?_); at_builtin; refine Kd.R_append k61 (w0 := W9) w.heap.size rfl (.tmp 70) (.tmp 72) 22 61 (.agg #[.string ⟨#[]⟩, .string ⟨#[]⟩, .int .i64 0, .int .i64 0, .int .i64 0, .int .i64 0, .int .i64 0, .int .i64 0, .int .i64 0, .int .i64 0, .int .i64 0, .int .i64 0]) 112 rfl Tryd.underlying22 infoStep rfl (by decide) (by decide) v l ⟨ya5, yb5, yc4, ⟨p0, p1, p2, p3⟩, ⟨q0, q1, q2, q3⟩, yf4⟩ (#[.string ya5, .string yb5, .int .i64 yc4, .int .i64 p0, .int .i64 p1, .int .i64 p2, .int .i64 p3, .int .i64 q0, .int .i64 q1, .int .i64 q2, .int .i64 q3, .int .i64 yf4] : Array Value).toList (fun k_ => k_ ≠ gx) (fun _ => False) rfl rfl (k61_mkM _ _ _ _) (fun _ h => h.elim) (fun k_ hk_ => (by have := blk_lt HX.out.x; omega)) HX.out.r (Below.refl _ _) HX.out.t.bel.size (by have := HLEN.out; omega) ?_; intro v7 w8 hR7 hB7 hg7 hat7; obtain ⟨A7, n7, c7, rfl⟩ : ∃ A n c, v7 = .slice A n c := (by obtain ⟨A, c, e, _⟩ := Kd.R_reads hR7; exact ⟨A, _, c, e⟩); have HR7 := ak_ hR7; have HX7 := ak_ (HX.out.t.grown hg7 (Kd.R_ne HX.out.r HX.out.t.b1 (by decide)) (Kd.R_ne HX.out.r HX.out.t.b2 (by decide)) (Kd.R_ne HX.out.r HX.out.t.b3 (by decide)) (Kd.R_ne HX.out.r HX.out.t.b4 (by decide)) (Kd.R_base HX.out.r)); clear hR7 hB7 hg7 hat7 z0 z1 z2 z3 z4 z5 z6 z7 z8 z9 z10 z11 y2; have y2 := (zc HX7.out.b4 2).trans rfl; have fz := zf HX7.out.b4 2))
       go_roundg k1
       case measure => have := HK1.out; omega
       case rel => exact ⟨wrap64 (i + 1), yf0, yf1, yf2, yf3, yf4, yf5, yf6, .slice A7 n7 c7, l ++ [⟨ya5, yb5, yc4, ⟨p0, p1, p2, p3⟩, ⟨q0, q1, q2, q3⟩, yf4⟩], rfl, HH, ⟨by have := HK1.out; omega⟩, ⟨HX7.out.put4 2 (.slice A7 n7 c7) (cs' := #[.string xa5, .int .i64 xb4, .slice A7 n7 c7]) rfl⟩, ⟨Kd.R_mono (Kd.R_set HR7.out HX7.out.b4 (ne61r (by decide)) 2 (.slice A7 n7 c7)) (fun _ _ => trivial)⟩⟩
     · rw [if_neg hlen] at h
       cases h
   · rw [if_neg hlt] at h
     have hd1 : decide (i < N) = false := df_ hlt
     clear hlt
     simp only [Option.some.injEq, Prod.mk.injEq] at h
     obtain ⟨rfl, rfl, rfl, rfl, rfl, rfl, rfl, rfl, rfl, rfl⟩ := h
     obtain ⟨A7, n7, c7, rfl⟩ : ∃ A n c, v = .slice A n c := by obtain ⟨A, c, e, _⟩ := Kd.R_reads HR.out; exact ⟨A, _, c, e⟩
     go_upto_region 26 with (fail)
     have y0 : wr.cell? ⟨g1, 0, none⟩ = some (.string s0) := (zc HX.out.b1 0).trans rfl
     have y1 : wr.cell? ⟨g1, 1, none⟩ = some (.int .i64 s1) := (zc HX.out.b1 1).trans rfl
     have y2 : wr.cell? ⟨g1, 2, none⟩ = some (.int .i64 s2) := (zc HX.out.b1 2).trans rfl
     have y3 : wr.cell? ⟨g1, 3, none⟩ = some (.int .i64 s3) := (zc HX.out.b1 3).trans rfl
     have y4 : wr.cell? ⟨g1, 4, none⟩ = some (.int .i64 s4) := (zc HX.out.b1 4).trans rfl
     have y5 : wr.cell? ⟨g1, 5, none⟩ = some (.string s5) := (zc HX.out.b1 5).trans rfl
     have y6 : wr.cell? ⟨g1, 6, none⟩ = some (.bool s6) := (zc HX.out.b1 6).trans rfl
     have p0 : wr.cell? ⟨g4, 0, none⟩ = some (.string xa5) := (zc HX.out.b4 0).trans rfl
     have p1 : wr.cell? ⟨g4, 1, none⟩ = some (.int .i64 xb4) := (zc HX.out.b4 1).trans rfl
     have p2 : wr.cell? ⟨g4, 2, none⟩ = some (.slice A7 n7 c7) := (zc HX.out.b4 2).trans rfl
     have z0 : wr.cell? ⟨g2, 0, none⟩ = some (.string (⟨#[]⟩ : ByteArray)) := (zc HX.out.b2 0).trans rfl
     have f0 : wr.frozen? ⟨g2, 0, none⟩ = false := zf HX.out.b2 0
     have z1 : wr.cell? ⟨g2, 1, none⟩ = some (.int .i64 0) := (zc HX.out.b2 1).trans rfl
     have f1 : wr.frozen? ⟨g2, 1, none⟩ = false := zf HX.out.b2 1
     have z2 : wr.cell? ⟨g2, 2, none⟩ = some (.int .i64 0) := (zc HX.out.b2 2).trans rfl
     have f2 : wr.frozen? ⟨g2, 2, none⟩ = false := zf HX.out.b2 2
     have z3 : wr.cell? ⟨g2, 3, none⟩ = some (.int .i64 0) := (zc HX.out.b2 3).trans rfl
     have f3 : wr.frozen? ⟨g2, 3, none⟩ = false := zf HX.out.b2 3
     have z4 : wr.cell? ⟨g2, 4, none⟩ = some (.int .i64 0) := (zc HX.out.b2 4).trans rfl
     have f4 : wr.frozen? ⟨g2, 4, none⟩ = false := zf HX.out.b2 4
     have z5 : wr.cell? ⟨g2, 5, none⟩ = some (.string (⟨#[]⟩ : ByteArray)) := (zc HX.out.b2 5).trans rfl
     have f5 : wr.frozen? ⟨g2, 5, none⟩ = false := zf HX.out.b2 5
     have z6 : wr.cell? ⟨g2, 6, none⟩ = some (.bool false) := (zc HX.out.b2 6).trans rfl
     have f6 : wr.frozen? ⟨g2, 6, none⟩ = false := zf HX.out.b2 6
     have HM := ak_ (((((((((((((((HX.out).put2 0 (.string s0) (cs' := #[.string s0, .int .i64 0, .int .i64 0, .int .i64 0, .int .i64 0, .string (⟨#[]⟩ : ByteArray), .bool false]) rfl)).put2 1 (.int .i64 s1) (cs' := #[.string s0, .int .i64 s1, .int .i64 0, .int .i64 0, .int .i64 0, .string (⟨#[]⟩ : ByteArray), .bool false]) rfl)).put2 2 (.int .i64 s2) (cs' := #[.string s0, .int .i64 s1, .int .i64 s2, .int .i64 0, .int .i64 0, .string (⟨#[]⟩ : ByteArray), .bool false]) rfl)).put2 3 (.int .i64 s3) (cs' := #[.string s0, .int .i64 s1, .int .i64 s2, .int .i64 s3, .int .i64 0, .string (⟨#[]⟩ : ByteArray), .bool false]) rfl)).put2 4 (.int .i64 s4) (cs' := #[.string s0, .int .i64 s1, .int .i64 s2, .int .i64 s3, .int .i64 s4, .string (⟨#[]⟩ : ByteArray), .bool false]) rfl)).put2 5 (.string s5) (cs' := #[.string s0, .int .i64 s1, .int .i64 s2, .int .i64 s3, .int .i64 s4, .string s5, .bool false]) rfl)).put2 6 (.bool s6) (cs' := #[.string s0, .int .i64 s1, .int .i64 s2, .int .i64 s3, .int .i64 s4, .string s5, .bool s6]) rfl).call (below_drew1 (Below.refl _ _)))
     have HRM := ak_ (Kd.R_drew (Kd.R_set (Kd.R_set (Kd.R_set (Kd.R_set (Kd.R_set (Kd.R_set (Kd.R_set HR.out HX.out.b2 (ne61r (by decide)) 0 (.string s0)) (HX.out.put2 0 (.string s0) (cs' := #[.string s0, .int .i64 0, .int .i64 0, .int .i64 0, .int .i64 0, .string (⟨#[]⟩ : ByteArray), .bool false]) rfl).b2 (ne61r (by decide)) 1 (.int .i64 s1)) ((HX.out.put2 0 (.string s0) (cs' := #[.string s0, .int .i64 0, .int .i64 0, .int .i64 0, .int .i64 0, .string (⟨#[]⟩ : ByteArray), .bool false]) rfl).put2 1 (.int .i64 s1) (cs' := #[.string s0, .int .i64 s1, .int .i64 0, .int .i64 0, .int .i64 0, .string (⟨#[]⟩ : ByteArray), .bool false]) rfl).b2 (ne61r (by decide)) 2 (.int .i64 s2)) (((HX.out.put2 0 (.string s0) (cs' := #[.string s0, .int .i64 0, .int .i64 0, .int .i64 0, .int .i64 0, .string (⟨#[]⟩ : ByteArray), .bool false]) rfl).put2 1 (.int .i64 s1) (cs' := #[.string s0, .int .i64 s1, .int .i64 0, .int .i64 0, .int .i64 0, .string (⟨#[]⟩ : ByteArray), .bool false]) rfl).put2 2 (.int .i64 s2) (cs' := #[.string s0, .int .i64 s1, .int .i64 s2, .int .i64 0, .int .i64 0, .string (⟨#[]⟩ : ByteArray), .bool false]) rfl).b2 (ne61r (by decide)) 3 (.int .i64 s3)) ((((HX.out.put2 0 (.string s0) (cs' := #[.string s0, .int .i64 0, .int .i64 0, .int .i64 0, .int .i64 0, .string (⟨#[]⟩ : ByteArray), .bool false]) rfl).put2 1 (.int .i64 s1) (cs' := #[.string s0, .int .i64 s1, .int .i64 0, .int .i64 0, .int .i64 0, .string (⟨#[]⟩ : ByteArray), .bool false]) rfl).put2 2 (.int .i64 s2) (cs' := #[.string s0, .int .i64 s1, .int .i64 s2, .int .i64 0, .int .i64 0, .string (⟨#[]⟩ : ByteArray), .bool false]) rfl).put2 3 (.int .i64 s3) (cs' := #[.string s0, .int .i64 s1, .int .i64 s2, .int .i64 s3, .int .i64 0, .string (⟨#[]⟩ : ByteArray), .bool false]) rfl).b2 (ne61r (by decide)) 4 (.int .i64 s4)) (((((HX.out.put2 0 (.string s0) (cs' := #[.string s0, .int .i64 0, .int .i64 0, .int .i64 0, .int .i64 0, .string (⟨#[]⟩ : ByteArray), .bool false]) rfl).put2 1 (.int .i64 s1) (cs' := #[.string s0, .int .i64 s1, .int .i64 0, .int .i64 0, .int .i64 0, .string (⟨#[]⟩ : ByteArray), .bool false]) rfl).put2 2 (.int .i64 s2) (cs' := #[.string s0, .int .i64 s1, .int .i64 s2, .int .i64 0, .int .i64 0, .string (⟨#[]⟩ : ByteArray), .bool false]) rfl).put2 3 (.int .i64 s3) (cs' := #[.string s0, .int .i64 s1, .int .i64 s2, .int .i64 s3, .int .i64 0, .string (⟨#[]⟩ : ByteArray), .bool false]) rfl).put2 4 (.int .i64 s4) (cs' := #[.string s0, .int .i64 s1, .int .i64 s2, .int .i64 s3, .int .i64 s4, .string (⟨#[]⟩ : ByteArray), .bool false]) rfl).b2 (ne61r (by decide)) 5 (.string s5)) ((((((HX.out.put2 0 (.string s0) (cs' := #[.string s0, .int .i64 0, .int .i64 0, .int .i64 0, .int .i64 0, .string (⟨#[]⟩ : ByteArray), .bool false]) rfl).put2 1 (.int .i64 s1) (cs' := #[.string s0, .int .i64 s1, .int .i64 0, .int .i64 0, .int .i64 0, .string (⟨#[]⟩ : ByteArray), .bool false]) rfl).put2 2 (.int .i64 s2) (cs' := #[.string s0, .int .i64 s1, .int .i64 s2, .int .i64 0, .int .i64 0, .string (⟨#[]⟩ : ByteArray), .bool false]) rfl).put2 3 (.int .i64 s3) (cs' := #[.string s0, .int .i64 s1, .int .i64 s2, .int .i64 s3, .int .i64 0, .string (⟨#[]⟩ : ByteArray), .bool false]) rfl).put2 4 (.int .i64 s4) (cs' := #[.string s0, .int .i64 s1, .int .i64 s2, .int .i64 s3, .int .i64 s4, .string (⟨#[]⟩ : ByteArray), .bool false]) rfl).put2 5 (.string s5) (cs' := #[.string s0, .int .i64 s1, .int .i64 s2, .int .i64 s3, .int .i64 s4, .string s5, .bool false]) rfl).b2 (ne61r (by decide)) 6 (.bool s6)))
     refine start_ (n := 4) (S := fun w' => w'.cell? ⟨g1, 0, none⟩ = some (.string s0) ∧ w'.cell? ⟨g1, 1, none⟩ = some (.int .i64 s1) ∧ w'.cell? ⟨g1, 2, none⟩ = some (.int .i64 s2) ∧ w'.cell? ⟨g1, 3, none⟩ = some (.int .i64 s3) ∧ w'.cell? ⟨g1, 4, none⟩ = some (.int .i64 s4) ∧ w'.cell? ⟨g1, 5, none⟩ = some (.string s5) ∧ w'.cell? ⟨g1, 6, none⟩ = some (.bool s6) ∧ w'.cell? ⟨g4, 0, none⟩ = some (.string xa5) ∧ w'.cell? ⟨g4, 1, none⟩ = some (.int .i64 xb4) ∧ w'.cell? ⟨g4, 2, none⟩ = some (.slice A7 n7 c7)) (ds := []) #[false, false, false, false] (by kernel_rfl) rfl rfl ⟨y0, y1, y2, y3, y4, y5, y6, p0, p1, p2⟩ (fun hHeld => ?_)
     refine take_ (i := 0) (N := some 75) (v := ?_) (a' := ?_) #[true, false, false, false] rfl rfl (by kernel_rfl) (fun _ _ _ h => h) (Or.inl ⟨by rfl, ?_⟩) hHeld ?_ ?_
     rotate_left
     · rintro w' ⟨s0, s1, s2, s3, s4, s5, s6, s7, s8, s9⟩
       go_simp
       with_reducible rfl
     rotate_left
     · simp only [Act.put, sa_, sz_, ss_, i64_w, i32_w]
       rfl
     refine take_ (i := 1) (N := some 76) (v := ?_) (a' := ?_) #[true, true, false, false] rfl rfl (by kernel_rfl) (fun _ _ _ h => h) (Or.inl ⟨by rfl, ?_⟩) hHeld ?_ ?_
     rotate_left
     · rintro w' ⟨s0, s1, s2, s3, s4, s5, s6, s7, s8, s9⟩
       go_simp
       with_reducible rfl
     rotate_left
     · simp only [Act.put, sa_, sz_, ss_, i64_w, i32_w]
       rfl
     refine one_ (i := 2) (N := none) #[true, true, true, false] rfl rfl (by kernel_rfl) (by decide) (fun K hK => ?_)
     refine skip_ (w1 := ?_) (by rfl) rfl ?_ ?_
     rotate_left
     · go_simp
       rfl
     refine hK.out _ _ ⟨?_, ?_, ?_, ?_, ?_, ?_, ?_, ?_, ?_, ?_⟩ (fun hHeld => ?_)
     · exact (zc HM.out.b1 0).trans rfl
     · exact (zc HM.out.b1 1).trans rfl
     · exact (zc HM.out.b1 2).trans rfl
     · exact (zc HM.out.b1 3).trans rfl
     · exact (zc HM.out.b1 4).trans rfl
     · exact (zc HM.out.b1 5).trans rfl
     · exact (zc HM.out.b1 6).trans rfl
     · exact (zc HM.out.b4 0).trans rfl
     · exact (zc HM.out.b4 1).trans rfl
     · exact (zc HM.out.b4 2).trans rfl
     clear hK K
     generalize (((((((wr.setCell ⟨g2, 0, none⟩ (.string s0)).setCell ⟨g2, 1, none⟩ (.int .i64 s1)).setCell ⟨g2, 2, none⟩ (.int .i64 s2)).setCell ⟨g2, 3, none⟩ (.int .i64 s3)).setCell ⟨g2, 4, none⟩ (.int .i64 s4)).setCell ⟨g2, 5, none⟩ (.string s5)).setCell ⟨g2, 6, none⟩ (.bool s6)).drew = Wm at *
     clear z0 z1 z2 z3 z4 z5 z6 f0 f1 f2 f3 f4 f5 f6 y0 y1 y2 y3 y4 y5 y6 p0 p1 p2 HX HR
     have q0 : Wm.cell? ⟨g3, 0, none⟩ = some (.string (⟨#[]⟩ : ByteArray)) := (zc HM.out.b3 0).trans rfl
     have e0 := zf HM.out.b3 0
     have q1 : Wm.cell? ⟨g3, 1, none⟩ = some (.int .i64 0) := (zc HM.out.b3 1).trans rfl
     have e1 := zf HM.out.b3 1
     have q2 : Wm.cell? ⟨g3, 2, none⟩ = some (.slice none 0 0) := (zc HM.out.b3 2).trans rfl
     have e2 := zf HM.out.b3 2
     have HF := ak_ ((((((HM.out).put3 0 (.string xa5) (cs' := #[.string xa5, .int .i64 0, .slice none 0 0]) rfl)).put3 1 (.int .i64 xb4) (cs' := #[.string xa5, .int .i64 xb4, .slice none 0 0]) rfl)).put3 2 (.slice A7 n7 c7) (cs' := #[.string xa5, .int .i64 xb4, .slice A7 n7 c7]) rfl)
     have HRF := ak_ (Kd.R_set (Kd.R_set (Kd.R_set HRM.out HM.out.b3 (ne61r (by decide)) 0 (.string xa5)) (HM.out.put3 0 (.string xa5) (cs' := #[.string xa5, .int .i64 0, .slice none 0 0]) rfl).b3 (ne61r (by decide)) 1 (.int .i64 xb4)) ((HM.out.put3 0 (.string xa5) (cs' := #[.string xa5, .int .i64 0, .slice none 0 0]) rfl).put3 1 (.int .i64 xb4) (cs' := #[.string xa5, .int .i64 xb4, .slice none 0 0]) rfl).b3 (ne61r (by decide)) 2 (.slice A7 n7 c7))
     refine one_ (i := 3) (N := none) #[true, true, true, true] rfl rfl (by kernel_rfl) (by decide) (fun K hK => ?_)
     refine skip_ (w1 := ?_) (by rfl) rfl ?_ ?_
     rotate_left
     · go_simp
       rfl
     refine hK.out _ _ ⟨?_, ?_, ?_, ?_, ?_, ?_, ?_, ?_, ?_, ?_⟩ (fun hHeld => ?_)
     · exact (zc HF.out.b1 0).trans rfl
     · exact (zc HF.out.b1 1).trans rfl
     · exact (zc HF.out.b1 2).trans rfl
     · exact (zc HF.out.b1 3).trans rfl
     · exact (zc HF.out.b1 4).trans rfl
     · exact (zc HF.out.b1 5).trans rfl
     · exact (zc HF.out.b1 6).trans rfl
     · exact (zc HF.out.b4 0).trans rfl
     · exact (zc HF.out.b4 1).trans rfl
     · exact (zc HF.out.b4 2).trans rfl
     clear hK K
     refine done_ (by kernel_rfl) ?_
     clear q0 q1 q2 e0 e1 e2
     try go_wp2
     refine bodyPost_ret (results_cc rfl _ _ g2 g3 81 24 #[.string s0, .int .i64 s1, .int .i64 s2, .int .i64 s3, .int .i64 s4, .string s5, .bool s6] #[.string xa5, .int .i64 xb4, .slice A7 n7 c7] (0, 0) (0, 0) _ _ rfl HF.out.b2 Tryd.underlying81 rfl (by kernel_rfl) rfl HF.out.b3 Tryd.underlying24 rfl (by kernel_rfl)) rfl ?_
     exact ⟨_, rfl, HRF.out, HF.out.bel⟩
def uR15_ReadDef.f (k : Nat) (a0 : ByteArray) : Option (ByteArray × Int × (List (S61)) × Int × Int) := (uR15_TakeDef.f k a0 0 0 0 0 (⟨#[]⟩ : ByteArray) false).bind fun bt267 => ((uR04_End.f bt267.1 bt267.2.1 bt267.2.2.1 bt267.2.2.2.1 bt267.2.2.2.2.1 bt267.2.2.2.2.2.1 bt267.2.2.2.2.2.2.1).bind fun bt281 => (if bt281.2.2.1 = 0 then ((uK.f k bt267.2.2.2.2.2.2.2.1 bt267.2.2.2.2.2.2.2.2.1 bt267.2.2.2.2.2.2.2.2.2).bind fun bt288 => (if bt288.2 = 0 then (some (bt267.2.2.2.2.2.2.2.1, bt267.2.2.2.2.2.2.2.2.1, bt267.2.2.2.2.2.2.2.2.2, 0, 0)) else (some ((⟨#[]⟩ : ByteArray), 0, ([] : List (S61)), 0, 11)))) else (some ((⟨#[]⟩ : ByteArray), 0, ([] : List (S61)), bt281.2.2.2.1, bt281.2.2.1))))
def uR15_ReadDef.T4 : Bool × List (List Nat × List Nat) := (true, [([], []), ([], []), ([1], [1]), ([], []), ([3], [3]), ([0, 0], [0]), ([2, 5, 0, 1, 2, 5], [2]), ([4, 6, 0, 1, 2, 3, 4, 5, 6], [4])])
def uR15_ReadDef.B4 : List Nat := [0, 0, 2, 0, 8, 1, 39, 127]
theorem uR15_ReadDef.tab4 : rtab .any (opsOf Tryd.f11 4) = uR15_ReadDef.T4 := by kernel_rfl
theorem uR15_ReadDef.bits4 : waitsOk uR15_ReadDef.T4.2 uR15_ReadDef.B4 = true := by kernel_rfl
theorem uR15_ReadDef.calls (k : Nat) (a0 : ByteArray) (r1 : ByteArray) (r2 : Int) (r3 : List (S61)) (r4 : Int) (r5 : Int) (w : World) (h : uR15_ReadDef.f k a0 = some (r1, r2, r3, r4, r5)) :
 Calls Tryd.prog 11 #[.string a0] w fun e w' => ∃ v2_ : Value, e = .returned (.tuple #[.agg #[.string r1, .int .i64 r2, v2_], .int .i64 r4, .int .i64 r5]) ∧ Kd.R k61 61 w' w.heap.size (fun _ => True) v2_ r3 ∧ Below w.heap.size w w' := by
 have hu24 := Tryd.underlying24
 have hu81 := Tryd.underlying81
 have HB := ak_ (Below.refl w.heap.size w)
 have H : ((uR15_TakeDef.f k a0 0 0 0 0 (⟨#[]⟩ : ByteArray) false).bind fun bt267 => ((uR04_End.f bt267.1 bt267.2.1 bt267.2.2.1 bt267.2.2.2.1 bt267.2.2.2.2.1 bt267.2.2.2.2.2.1 bt267.2.2.2.2.2.2.1).bind fun bt281 => (if bt281.2.2.1 = 0 then ((uK.f k bt267.2.2.2.2.2.2.2.1 bt267.2.2.2.2.2.2.2.2.1 bt267.2.2.2.2.2.2.2.2.2).bind fun bt288 => (if bt288.2 = 0 then (some (bt267.2.2.2.2.2.2.2.1, bt267.2.2.2.2.2.2.2.2.1, bt267.2.2.2.2.2.2.2.2.2, 0, 0)) else (some ((⟨#[]⟩ : ByteArray), 0, ([] : List (S61)), 0, 11)))) else (some ((⟨#[]⟩ : ByteArray), 0, ([] : List (S61)), bt281.2.2.2.1, bt281.2.2.1))))) = some (r1, r2, r3, r4, r5) := h
 clear h
 replace H := ob_ H
 obtain ⟨⟨t267, t268, t269, t270, t271, t272, t273, t274, t275, t276⟩, A20, H⟩ := H
 replace H : ((uR04_End.f t267 t268 t269 t270 t271 t272 t273).bind fun bt281 => (if bt281.2.2.1 = 0 then ((uK.f k t274 t275 t276).bind fun bt288 => (if bt288.2 = 0 then (some (t274, t275, t276, 0, 0)) else (some ((⟨#[]⟩ : ByteArray), 0, ([] : List (S61)), 0, 11)))) else (some ((⟨#[]⟩ : ByteArray), 0, ([] : List (S61)), bt281.2.2.2.1, bt281.2.2.1)))) = some (r1, r2, r3, r4, r5) := H
 have A2 := ak_ A20
 clear A20
 replace H := ob_ H
 obtain ⟨⟨t281, t282, t283, t284, t285, t286, t287⟩, A30, H⟩ := H
 replace H : (if t283 = 0 then ((uK.f k t274 t275 t276).bind fun bt288 => (if bt288.2 = 0 then (some (t274, t275, t276, 0, 0)) else (some ((⟨#[]⟩ : ByteArray), 0, ([] : List (S61)), 0, 11)))) else (some ((⟨#[]⟩ : ByteArray), 0, ([] : List (S61)), t284, t283))) = some (r1, r2, r3, r4, r5) := H
 have A3 := ak_ A30
 clear A30
 have HF4 := ak_ H
 clear H
 go_enter Tryd.func11, Tryd.ntmps11
 go_upto_if 19 with (first | ((with_reducible refine gate_dst (N := 2) rfl ?_); refine box_event ?hg (N := 2) ?hd (cs := #[.string ⟨#[]⟩, .int .i64 0, .slice none 0 0]) (t := 24) ?hr ?_; (case hd | hg => rfl); (case hr => first | (go_simp; done) | (go_simp; rfl)); intro gb266 hg w5 hbox hb; have n0_ := ak_ (ps (by with_reducible repeat first | exact HB.out | apply pa | apply pd | apply pe) hb); have n1_ := ak_ (hbox); have n2_ := ak_ ((by rw [hg]; exact (below_size (by with_reducible repeat first | exact HB.out | apply pa | apply pd | apply pe)) : w.heap.size ≤ gb266)); have n3_ := ak_ ((by rw [hg]; exact (below_size (by with_reducible repeat first | exact HB.out | apply pa | apply pd | apply pe)) : w.heap.size ≤ gb266)); clear HB; have HB := n0_; have BK266 := n1_; have GW266 := n2_; have GE266 := n3_; clear n0_ n1_ n2_ n3_ hb hbox hg) | ((with_reducible refine gate_callee (f := 32) rfl ?_); refine goesL_ (some 12) rfl rfl Tryd.func32 (by kernel_rfl) rfl #[.agg #[.string a0, .int .i64 0, .int .i64 0, .int .i64 0, .int .i64 0, .string ⟨#[]⟩, .bool false]] rfl (by (try simp only [mt_, mc_, mn_]); first | done | rfl) ?_; (with_reducible refine (uR15_TakeDef.calls k a0 0 0 0 0 (⟨#[]⟩ : ByteArray) false t267 t268 t269 t270 t271 t272 t273 t274 t275 t276 _ A2.out).mono ?_); rintro e w6 ⟨v277, rfl, ho0, hb⟩; refine ⟨_, rfl, ?_⟩; have n0_ := ak_ (Kd.R_lower ho0 (below_size (by with_reducible repeat first | exact HB.out | apply pa | apply pd | apply pe | refine zs ?_ GE266.out))); have n1_ := ak_ (blk_below (g := gb266) (o := .cells #[.string ⟨#[]⟩, .int .i64 0, .slice none 0 0] 24 (0, 0)) (by (with_reducible repeat (first | apply zn | apply zd | apply za)); exact BK266.out) hb); have n2_ := ak_ (ps (by with_reducible repeat first | exact HB.out | apply pa | apply pd | apply pe | refine zs ?_ GE266.out) hb); clear BK266 HB; have HO278 := n0_; have BK266 := n1_; have HB := n2_; clear n0_ n1_ n2_) | ((with_reducible refine gate_dst (N := 5) rfl ?_); refine box_event ?hg (N := 5) ?hd (cs := #[.string ⟨#[]⟩, .int .i64 0, .int .i64 0, .int .i64 0, .int .i64 0, .string ⟨#[]⟩, .bool false]) (t := 81) ?hr ?_; (case hd | hg => rfl); (case hr => first | (go_simp; done) | (go_simp; rfl)); intro gb279 hg w7 hbox hb; have n0_ := ak_ (Kd.R_below (by (with_reducible repeat (first | apply Kd.R_alloc | apply Kd.R_drewN | apply Kd.R_drew)); exact HO278.out) hb); have n1_ := ak_ (blk_below (g := gb266) (o := .cells #[.string ⟨#[]⟩, .int .i64 0, .slice none 0 0] 24 (0, 0)) (by (with_reducible repeat (first | apply zn | apply zd | apply za)); exact BK266.out) hb); have n2_ := ak_ (ps (by with_reducible repeat first | exact HB.out | apply pa | apply pd | apply pe | refine zs ?_ GE266.out) hb); have n3_ := ak_ (hbox); have n4_ := ak_ ((by rw [hg]; exact (below_size (by with_reducible repeat first | exact HB.out | apply pa | apply pd | apply pe | refine zs ?_ GE266.out)) : w.heap.size ≤ gb279)); have n5_ := ak_ ((by rw [hg]; exact (below_size (by with_reducible repeat first | exact HB.out | apply pa | apply pd | apply pe | refine zs ?_ GE266.out)) : w.heap.size ≤ gb279)); have n6_ := ak_ ((by rw [hg]; exact Nat.ne_of_lt (blk_lt (g := gb266) (by (with_reducible repeat (first | apply zn | apply zd | apply za)); exact BK266.out)) : gb266 ≠ gb279)); have n7_ := ak_ ((by rw [hg]; exact Nat.ne_of_gt (blk_lt (g := gb266) (by (with_reducible repeat (first | apply zn | apply zd | apply za)); exact BK266.out)) : gb279 ≠ gb266)); clear HO278 BK266 HB; have HO278 := n0_; have BK266 := n1_; have HB := n2_; have BK279 := n3_; have GW279 := n4_; have GE279 := n5_; have NB266_279 := n6_; have NB279_266 := n7_; clear n0_ n1_ n2_ n3_ n4_ n5_ n6_ n7_ hb hbox hg) | ((with_reducible refine gate_dst (N := 6) rfl ?_); refine box_event ?hg (N := 6) ?hd (cs := #[.string ⟨#[]⟩, .int .i64 0, .slice none 0 0]) (t := 24) ?hr ?_; (case hd | hg => rfl); (case hr => first | (go_simp; done) | (go_simp; rfl)); intro gb280 hg w8 hbox hb; have n0_ := ak_ (Kd.R_below (by (with_reducible repeat (first | apply Kd.R_alloc | apply Kd.R_drewN | apply Kd.R_drew)); exact HO278.out) hb); have n1_ := ak_ (blk_below (g := gb266) (o := .cells #[.string ⟨#[]⟩, .int .i64 0, .slice none 0 0] 24 (0, 0)) (by (with_reducible repeat (first | apply zn | apply zd | apply za)); exact BK266.out) hb); have n2_ := ak_ (blk_below (g := gb279) (o := .cells #[.string ⟨#[]⟩, .int .i64 0, .int .i64 0, .int .i64 0, .int .i64 0, .string ⟨#[]⟩, .bool false] 81 (0, 0)) (by (with_reducible repeat (first | apply zn | apply zd | apply za)); exact BK279.out) hb); have n3_ := ak_ (ps (by with_reducible repeat first | exact HB.out | apply pa | apply pd | apply pe | refine zs ?_ GE266.out | refine zs ?_ GE279.out) hb); have n4_ := ak_ (hbox); have n5_ := ak_ ((by rw [hg]; exact (below_size (by with_reducible repeat first | exact HB.out | apply pa | apply pd | apply pe | refine zs ?_ GE266.out | refine zs ?_ GE279.out)) : w.heap.size ≤ gb280)); have n6_ := ak_ ((by rw [hg]; exact (below_size (by with_reducible repeat first | exact HB.out | apply pa | apply pd | apply pe | refine zs ?_ GE266.out | refine zs ?_ GE279.out)) : w.heap.size ≤ gb280)); have n7_ := ak_ ((by rw [hg]; exact Nat.ne_of_lt (blk_lt (g := gb266) (by (with_reducible repeat (first | apply zn | apply zd | apply za)); exact BK266.out)) : gb266 ≠ gb280)); have n8_ := ak_ ((by rw [hg]; exact Nat.ne_of_gt (blk_lt (g := gb266) (by (with_reducible repeat (first | apply zn | apply zd | apply za)); exact BK266.out)) : gb280 ≠ gb266)); have n9_ := ak_ ((by rw [hg]; exact Nat.ne_of_lt (blk_lt (g := gb279) (by (with_reducible repeat (first | apply zn | apply zd | apply za)); exact BK279.out)) : gb279 ≠ gb280)); have n10_ := ak_ ((by rw [hg]; exact Nat.ne_of_gt (blk_lt (g := gb279) (by (with_reducible repeat (first | apply zn | apply zd | apply za)); exact BK279.out)) : gb280 ≠ gb279)); clear HO278 BK266 BK279 HB; have HO278 := n0_; have BK266 := n1_; have BK279 := n2_; have HB := n3_; have BK280 := n4_; have GW280 := n5_; have GE280 := n6_; have NB266_280 := n7_; have NB280_266 := n8_; have NB279_280 := n9_; have NB280_279 := n10_; clear n0_ n1_ n2_ n3_ n4_ n5_ n6_ n7_ n8_ n9_ n10_ hb hbox hg; have hnb9 := NB279_266.out; have hnc9 := NB266_279.out; have hnb10 := NB279_280.out; have hnc10 := NB280_279.out; have hcz11_0 : w8.cell? ⟨gb279, 0, none⟩ = some (.string ⟨#[]⟩) := (zc BK279.out 0).trans rfl; have hcz11_1 : w8.cell? ⟨gb279, 1, none⟩ = some (.int .i64 0) := (zc BK279.out 1).trans rfl; have hcz11_2 : w8.cell? ⟨gb279, 2, none⟩ = some (.int .i64 0) := (zc BK279.out 2).trans rfl; have hcz11_3 : w8.cell? ⟨gb279, 3, none⟩ = some (.int .i64 0) := (zc BK279.out 3).trans rfl; have hcz11_4 : w8.cell? ⟨gb279, 4, none⟩ = some (.int .i64 0) := (zc BK279.out 4).trans rfl; have hcz11_5 : w8.cell? ⟨gb279, 5, none⟩ = some (.string ⟨#[]⟩) := (zc BK279.out 5).trans rfl; have hcz11_6 : w8.cell? ⟨gb279, 6, none⟩ = some (.bool false) := (zc BK279.out 6).trans rfl; have hfz11_0 := zf BK279.out 0; have hfz11_1 := zf BK279.out 1; have hfz11_2 := zf BK279.out 2; have hfz11_3 := zf BK279.out 3; have hfz11_4 := zf BK279.out 4; have hfz11_5 := zf BK279.out 5; have hfz11_6 := zf BK279.out 6; have hnb12 := NB280_266.out; have hnc12 := NB266_280.out; have hcz13_0 : w8.cell? ⟨gb280, 0, none⟩ = some (.string ⟨#[]⟩) := (zc BK280.out 0).trans rfl; have hcz13_1 : w8.cell? ⟨gb280, 1, none⟩ = some (.int .i64 0) := (zc BK280.out 1).trans rfl; have hcz13_2 : w8.cell? ⟨gb280, 2, none⟩ = some (.slice none 0 0) := (zc BK280.out 2).trans rfl; have hfz13_0 := zf BK280.out 0; have hfz13_1 := zf BK280.out 1; have hfz13_2 := zf BK280.out 2; obtain ⟨Ao14, co14, eo14⟩ := Kd.R_slice HO278.out; subst eo14) | ((with_reducible refine gate_callee (f := 33) rfl ?_); refine goesL_ (some 16) rfl rfl Tryd.func33 (by kernel_rfl) rfl #[.agg #[.string t267, .int .i64 t268, .int .i64 t269, .int .i64 t270, .int .i64 t271, .string t272, .bool t273]] rfl (by (try simp only [mt_, mc_, mn_]); first | done | rfl) ?_; (with_reducible refine (uR04_End.calls t267 t268 t269 t270 t271 t272 t273 t281 t282 t283 t284 t285 t286 t287 _ A3.out).mono ?_); rintro e w15 ⟨rfl, hb⟩; refine ⟨_, rfl, ?_⟩; have n0_ := ak_ (Kd.R_below (by (with_reducible repeat (first | apply Kd.R_alloc | apply Kd.R_drewN | apply Kd.R_drew)); exact (Kd.R_mono (Kd.R_mono (Kd.R_far (p := ⟨gb280, 2, none⟩) (Kd.R_far (p := ⟨gb280, 1, none⟩) (Kd.R_far (p := ⟨gb280, 0, none⟩) (Kd.R_far (p := ⟨gb279, 6, none⟩) (Kd.R_far (p := ⟨gb279, 5, none⟩) (Kd.R_far (p := ⟨gb279, 4, none⟩) (Kd.R_far (p := ⟨gb279, 3, none⟩) (Kd.R_far (p := ⟨gb279, 2, none⟩) (Kd.R_far (p := ⟨gb279, 1, none⟩) (Kd.R_far (p := ⟨gb279, 0, none⟩) (Kd.R_types (Kd.R_types HO278.out BK279.out (by decide)) BK280.out (by decide)) (fun _ hk => hk.1.2) (.string t267)) (fun _ hk => hk.1.2) (.int .i64 t268)) (fun _ hk => hk.1.2) (.int .i64 t269)) (fun _ hk => hk.1.2) (.int .i64 t270)) (fun _ hk => hk.1.2) (.int .i64 t271)) (fun _ hk => hk.1.2) (.string t272)) (fun _ hk => hk.1.2) (.bool t273)) (fun _ hk => hk.2) (.string t274)) (fun _ hk => hk.2) (.int .i64 t275)) (fun _ hk => hk.2) (.slice Ao14 t276.length co14)) (fun _ h_ => h_.1)) (fun _ h_ => h_.1))) hb); have n1_ := ak_ (blk_below (g := gb266) (o := .cells #[.string ⟨#[]⟩, .int .i64 0, .slice none 0 0] 24 (0, 0)) (by (repeat (first | (with_reducible first | apply zn | apply zd | apply za) | refine zr ?_ NB266_280.out _)); (repeat (first | (with_reducible first | apply zn | apply zd | apply za) | refine zr ?_ NB266_279.out _)); (with_reducible repeat (first | apply zn | apply zd | apply za)); exact BK266.out) hb); have n2_ := ak_ (blk_below (g := gb279) (o := .cells #[.string t267, .int .i64 t268, .int .i64 t269, .int .i64 t270, .int .i64 t271, .string t272, .bool t273] 81 (0, 0)) (by (repeat (first | (with_reducible first | apply zn | apply zd | apply za) | refine zr ?_ NB279_280.out _)); (with_reducible repeat (first | apply zn | apply zd | apply za)); refine zp (cs := #[.string t267, .int .i64 t268, .int .i64 t269, .int .i64 t270, .int .i64 t271, .string t272, .bool false]) ?_ 6 _ rfl; (with_reducible repeat (first | apply zn | apply zd | apply za)); refine zp (cs := #[.string t267, .int .i64 t268, .int .i64 t269, .int .i64 t270, .int .i64 t271, .string ⟨#[]⟩, .bool false]) ?_ 5 _ rfl; (with_reducible repeat (first | apply zn | apply zd | apply za)); refine zp (cs := #[.string t267, .int .i64 t268, .int .i64 t269, .int .i64 t270, .int .i64 0, .string ⟨#[]⟩, .bool false]) ?_ 4 _ rfl; (with_reducible repeat (first | apply zn | apply zd | apply za)); refine zp (cs := #[.string t267, .int .i64 t268, .int .i64 t269, .int .i64 0, .int .i64 0, .string ⟨#[]⟩, .bool false]) ?_ 3 _ rfl; (with_reducible repeat (first | apply zn | apply zd | apply za)); refine zp (cs := #[.string t267, .int .i64 t268, .int .i64 0, .int .i64 0, .int .i64 0, .string ⟨#[]⟩, .bool false]) ?_ 2 _ rfl; (with_reducible repeat (first | apply zn | apply zd | apply za)); refine zp (cs := #[.string t267, .int .i64 0, .int .i64 0, .int .i64 0, .int .i64 0, .string ⟨#[]⟩, .bool false]) ?_ 1 _ rfl; (with_reducible repeat (first | apply zn | apply zd | apply za)); refine zp (cs := #[.string ⟨#[]⟩, .int .i64 0, .int .i64 0, .int .i64 0, .int .i64 0, .string ⟨#[]⟩, .bool false]) ?_ 0 _ rfl; (with_reducible repeat (first | apply zn | apply zd | apply za)); exact BK279.out) hb); have n3_ := ak_ (blk_below (g := gb280) (o := .cells #[.string t274, .int .i64 t275, .slice Ao14 t276.length co14] 24 (0, 0)) (by (with_reducible repeat (first | apply zn | apply zd | apply za)); refine zp (cs := #[.string t274, .int .i64 t275, .slice none 0 0]) ?_ 2 _ rfl; (with_reducible repeat (first | apply zn | apply zd | apply za)); refine zp (cs := #[.string t274, .int .i64 0, .slice none 0 0]) ?_ 1 _ rfl; (with_reducible repeat (first | apply zn | apply zd | apply za)); refine zp (cs := #[.string ⟨#[]⟩, .int .i64 0, .slice none 0 0]) ?_ 0 _ rfl; (repeat (first | (with_reducible first | apply zn | apply zd | apply za) | refine zr ?_ NB280_279.out _)); (with_reducible repeat (first | apply zn | apply zd | apply za)); exact BK280.out) hb); have n4_ := ak_ (ps (by with_reducible repeat first | exact HB.out | apply pa | apply pd | apply pe | refine zs ?_ GE266.out | refine zs ?_ GE279.out | refine zs ?_ GE280.out) hb); clear HO278 BK266 BK279 BK280 HB; have HO278 := n0_; have BK266 := n1_; have BK279 := n2_; have BK280 := n3_; have HB := n4_; clear n0_ n1_ n2_ n3_ n4_; have hcz16_0 : w15.cell? ⟨gb279, 0, none⟩ = some (.string t267) := (zc BK279.out 0).trans rfl; have hcz16_1 : w15.cell? ⟨gb279, 1, none⟩ = some (.int .i64 t268) := (zc BK279.out 1).trans rfl; have hcz16_2 : w15.cell? ⟨gb279, 2, none⟩ = some (.int .i64 t269) := (zc BK279.out 2).trans rfl; have hcz16_3 : w15.cell? ⟨gb279, 3, none⟩ = some (.int .i64 t270) := (zc BK279.out 3).trans rfl; have hcz16_4 : w15.cell? ⟨gb279, 4, none⟩ = some (.int .i64 t271) := (zc BK279.out 4).trans rfl; have hcz16_5 : w15.cell? ⟨gb279, 5, none⟩ = some (.string t272) := (zc BK279.out 5).trans rfl; have hcz16_6 : w15.cell? ⟨gb279, 6, none⟩ = some (.bool t273) := (zc BK279.out 6).trans rfl; have hfz16_0 := zf BK279.out 0; have hfz16_1 := zf BK279.out 1; have hfz16_2 := zf BK279.out 2; have hfz16_3 := zf BK279.out 3; have hfz16_4 := zf BK279.out 4; have hfz16_5 := zf BK279.out 5; have hfz16_6 := zf BK279.out 6))
 (try simp only [Act.put, sa_, sz_, ss_])
 have H := HF4.out
 clear HF4
 by_cases c17 : t283 = 0
 · rw [if_pos c17] at H
   have c17b0 : (t283 == 0) = true := beq_iff_eq.mpr c17
   have c17b1 : (t283 != 0) = false := bne_eq_false_iff_eq.mpr c17
   clear c17
   (first | rw [c17b0] | (simp only [i64_w, i32_w]; rw [c17b0]) | skip)
   replace H := ob_ H
   obtain ⟨⟨t288, t289⟩, A180, H⟩ := H
   replace H : (if t289 = 0 then (some (t274, t275, t276, 0, 0)) else (some ((⟨#[]⟩ : ByteArray), 0, ([] : List (S61)), 0, 11))) = some (r1, r2, r3, r4, r5) := H
   have A18 := ak_ A180
   clear A180
   have HF19 := ak_ H
   clear H
   have hnb20 := NB280_266.out
   have hnc20 := NB266_280.out
   have hnb21 := NB280_279.out
   have hnc21 := NB279_280.out
   have hcz22_0 : w15.cell? ⟨gb280, 0, none⟩ = some (.string t274) := (zc BK280.out 0).trans rfl
   have hcz22_1 : w15.cell? ⟨gb280, 1, none⟩ = some (.int .i64 t275) := (zc BK280.out 1).trans rfl
   have hcz22_2 : w15.cell? ⟨gb280, 2, none⟩ = some (.slice Ao14 t276.length co14) := (zc BK280.out 2).trans rfl
   have hfz22_0 := zf BK280.out 0
   have hfz22_1 := zf BK280.out 1
   have hfz22_2 := zf BK280.out 2
   go_upto_if 31 with (first | ((with_reducible refine gate_callee (f := 13) rfl ?_); refine goesL_ (some 27) rfl rfl Tryd.func13 (by kernel_rfl) rfl #[.agg #[.string t274, .int .i64 t275, .slice Ao14 t276.length co14]] rfl (by (try simp only [mt_, mc_, mn_]); first | done | rfl) ?_; (with_reducible refine (uK.calls k t274 t275 _ _ t276 t288 t289 _ ?side1 ?side2 A18.out).mono ?_); (case side1 => refine (Kd.R_reads' (e := 61) (base := w.heap.size) (ok := fun k_ => True) (n := t276.length) (c := co14) ?_).2.2; exact (by (with_reducible repeat (first | apply Kd.R_alloc | apply Kd.R_drewN | apply Kd.R_drew)); exact (Kd.R_mono (Kd.R_far (p := ⟨gb279, 6, none⟩) (Kd.R_far (p := ⟨gb279, 5, none⟩) (Kd.R_far (p := ⟨gb279, 4, none⟩) (Kd.R_far (p := ⟨gb279, 3, none⟩) (Kd.R_far (p := ⟨gb279, 2, none⟩) (Kd.R_far (p := ⟨gb279, 1, none⟩) (Kd.R_far (p := ⟨gb279, 0, none⟩) (Kd.R_types HO278.out BK279.out (by decide)) (fun _ hk => hk.2) (.string t281)) (fun _ hk => hk.2) (.int .i64 t282)) (fun _ hk => hk.2) (.int .i64 t283)) (fun _ hk => hk.2) (.int .i64 t284)) (fun _ hk => hk.2) (.int .i64 t285)) (fun _ hk => hk.2) (.string t286)) (fun _ hk => hk.2) (.bool t287)) (fun _ h_ => h_.1)))); (case side2 => exact (Kd.R_reads' HO278.out).2.1); rintro e w23 ⟨rfl, hb⟩; refine ⟨_, rfl, ?_⟩; have n0_ := ak_ (Kd.R_below (by (with_reducible repeat (first | apply Kd.R_alloc | apply Kd.R_drewN | apply Kd.R_drew)); exact (Kd.R_mono (Kd.R_far (p := ⟨gb279, 6, none⟩) (Kd.R_far (p := ⟨gb279, 5, none⟩) (Kd.R_far (p := ⟨gb279, 4, none⟩) (Kd.R_far (p := ⟨gb279, 3, none⟩) (Kd.R_far (p := ⟨gb279, 2, none⟩) (Kd.R_far (p := ⟨gb279, 1, none⟩) (Kd.R_far (p := ⟨gb279, 0, none⟩) (Kd.R_types HO278.out BK279.out (by decide)) (fun _ hk => hk.2) (.string t281)) (fun _ hk => hk.2) (.int .i64 t282)) (fun _ hk => hk.2) (.int .i64 t283)) (fun _ hk => hk.2) (.int .i64 t284)) (fun _ hk => hk.2) (.int .i64 t285)) (fun _ hk => hk.2) (.string t286)) (fun _ hk => hk.2) (.bool t287)) (fun _ h_ => h_.1))) hb); have n1_ := ak_ (blk_below (g := gb266) (o := .cells #[.string ⟨#[]⟩, .int .i64 0, .slice none 0 0] 24 (0, 0)) (by (repeat (first | (with_reducible first | apply zn | apply zd | apply za) | refine zr ?_ NB266_279.out _)); (with_reducible repeat (first | apply zn | apply zd | apply za)); exact BK266.out) hb); have n2_ := ak_ (blk_below (g := gb279) (o := .cells #[.string t281, .int .i64 t282, .int .i64 t283, .int .i64 t284, .int .i64 t285, .string t286, .bool t287] 81 (0, 0)) (by (with_reducible repeat (first | apply zn | apply zd | apply za)); refine zp (cs := #[.string t281, .int .i64 t282, .int .i64 t283, .int .i64 t284, .int .i64 t285, .string t286, .bool t273]) ?_ 6 _ rfl; (with_reducible repeat (first | apply zn | apply zd | apply za)); refine zp (cs := #[.string t281, .int .i64 t282, .int .i64 t283, .int .i64 t284, .int .i64 t285, .string t272, .bool t273]) ?_ 5 _ rfl; (with_reducible repeat (first | apply zn | apply zd | apply za)); refine zp (cs := #[.string t281, .int .i64 t282, .int .i64 t283, .int .i64 t284, .int .i64 t271, .string t272, .bool t273]) ?_ 4 _ rfl; (with_reducible repeat (first | apply zn | apply zd | apply za)); refine zp (cs := #[.string t281, .int .i64 t282, .int .i64 t283, .int .i64 t270, .int .i64 t271, .string t272, .bool t273]) ?_ 3 _ rfl; (with_reducible repeat (first | apply zn | apply zd | apply za)); refine zp (cs := #[.string t281, .int .i64 t282, .int .i64 t269, .int .i64 t270, .int .i64 t271, .string t272, .bool t273]) ?_ 2 _ rfl; (with_reducible repeat (first | apply zn | apply zd | apply za)); refine zp (cs := #[.string t281, .int .i64 t268, .int .i64 t269, .int .i64 t270, .int .i64 t271, .string t272, .bool t273]) ?_ 1 _ rfl; (with_reducible repeat (first | apply zn | apply zd | apply za)); refine zp (cs := #[.string t267, .int .i64 t268, .int .i64 t269, .int .i64 t270, .int .i64 t271, .string t272, .bool t273]) ?_ 0 _ rfl; (with_reducible repeat (first | apply zn | apply zd | apply za)); exact BK279.out) hb); have n3_ := ak_ (blk_below (g := gb280) (o := .cells #[.string t274, .int .i64 t275, .slice Ao14 t276.length co14] 24 (0, 0)) (by (repeat (first | (with_reducible first | apply zn | apply zd | apply za) | refine zr ?_ NB280_279.out _)); (with_reducible repeat (first | apply zn | apply zd | apply za)); exact BK280.out) hb); have n4_ := ak_ (ps (by with_reducible repeat first | exact HB.out | apply pa | apply pd | apply pe | refine zs ?_ GE266.out | refine zs ?_ GE279.out | refine zs ?_ GE280.out) hb); clear HO278 BK266 BK279 BK280 HB; have HO278 := n0_; have BK266 := n1_; have BK279 := n2_; have BK280 := n3_; have HB := n4_; clear n0_ n1_ n2_ n3_ n4_))
   (try simp only [Act.put, sa_, sz_, ss_])
   have H := HF19.out
   clear HF19
   by_cases c24 : t289 = 0
   · rw [if_pos c24] at H
     have c24b0 : (t289 == 0) = true := beq_iff_eq.mpr c24
     have c24b1 : (t289 != 0) = false := bne_eq_false_iff_eq.mpr c24
     clear c24
     (first | rw [c24b0] | (simp only [i64_w, i32_w]; rw [c24b0]) | skip)
     simp only [Option.some.injEq, Prod.mk.injEq] at H
     obtain ⟨rfl, rfl, rfl, rfl, rfl⟩ := H
     have hnb25 := NB280_266.out
     have hnc25 := NB266_280.out
     have hnb26 := NB280_279.out
     have hnc26 := NB279_280.out
     have hcz27_0 : w23.cell? ⟨gb280, 0, none⟩ = some (.string t274) := (zc BK280.out 0).trans rfl
     have hcz27_1 : w23.cell? ⟨gb280, 1, none⟩ = some (.int .i64 t275) := (zc BK280.out 1).trans rfl
     have hcz27_2 : w23.cell? ⟨gb280, 2, none⟩ = some (.slice Ao14 t276.length co14) := (zc BK280.out 2).trans rfl
     have hfz27_0 := zf BK280.out 0
     have hfz27_1 := zf BK280.out 1
     have hfz27_2 := zf BK280.out 2
     have hnb28 := NB266_279.out
     have hnc28 := NB279_266.out
     have hcz29_0 : w23.cell? ⟨gb266, 0, none⟩ = some (.string ⟨#[]⟩) := (zc BK266.out 0).trans rfl
     have hcz29_1 : w23.cell? ⟨gb266, 1, none⟩ = some (.int .i64 0) := (zc BK266.out 1).trans rfl
     have hcz29_2 : w23.cell? ⟨gb266, 2, none⟩ = some (.slice none 0 0) := (zc BK266.out 2).trans rfl
     have hfz29_0 := zf BK266.out 0
     have hfz29_1 := zf BK266.out 1
     have hfz29_2 := zf BK266.out 2
     go_wp2
     refine bodyPost_ret (results_ctt rfl _ _ gb266 24 #[.string t274, .int .i64 t275, .slice Ao14 t276.length co14] (0, 0) _ rfl (by (with_reducible repeat (first | apply zn | apply zd | apply za)); refine zp (cs := #[.string t274, .int .i64 t275, .slice none 0 0]) ?_ 2 _ rfl; (with_reducible repeat (first | apply zn | apply zd | apply za)); refine zp (cs := #[.string t274, .int .i64 0, .slice none 0 0]) ?_ 1 _ rfl; (with_reducible repeat (first | apply zn | apply zd | apply za)); refine zp (cs := #[.string ⟨#[]⟩, .int .i64 0, .slice none 0 0]) ?_ 0 _ rfl; (with_reducible repeat (first | apply zn | apply zd | apply za)); exact BK266.out) Tryd.underlying24 rfl (by kernel_rfl)) rfl ?_
     exact ⟨_, by first | rfl | simp [*], by (with_reducible repeat (first | apply Kd.R_alloc | apply Kd.R_drewN | apply Kd.R_drew)); exact Kd.R_mono (Kd.R_far (p := ⟨gb266, 2, none⟩) (Kd.R_far (p := ⟨gb266, 1, none⟩) (Kd.R_far (p := ⟨gb266, 0, none⟩) (Kd.R_types HO278.out BK266.out (by decide)) (fun _ hk => hk.2) (.string t274)) (fun _ hk => hk.2) (.int .i64 t275)) (fun _ hk => hk.2) (.slice Ao14 t276.length co14)) (fun _ hk => trivial), by repeat (first | (with_reducible first | exact HB.out | apply pa | apply pd | apply pe | refine zs ?_ GE266.out | refine zs ?_ GE279.out | refine zs ?_ GE280.out) | exact HB.out)⟩
   rw [if_neg c24] at H
   have c24b0 : (t289 == 0) = false := beq_eq_false_iff_ne.mpr c24
   have c24b1 : (t289 != 0) = true := bne_iff_ne.mpr c24
   (first | rw [c24b0] | (simp only [i64_w, i32_w]; rw [c24b0]) | skip)
   simp only [Option.some.injEq, Prod.mk.injEq] at H
   obtain ⟨rfl, rfl, rfl, rfl, rfl⟩ := H
   have hnb30 := NB266_279.out
   have hnc30 := NB279_266.out
   have hnb31 := NB266_280.out
   have hnc31 := NB280_266.out
   have hcz32_0 : w23.cell? ⟨gb266, 0, none⟩ = some (.string ⟨#[]⟩) := (zc BK266.out 0).trans rfl
   have hcz32_1 : w23.cell? ⟨gb266, 1, none⟩ = some (.int .i64 0) := (zc BK266.out 1).trans rfl
   have hcz32_2 : w23.cell? ⟨gb266, 2, none⟩ = some (.slice none 0 0) := (zc BK266.out 2).trans rfl
   have hfz32_0 := zf BK266.out 0
   have hfz32_1 := zf BK266.out 1
   have hfz32_2 := zf BK266.out 2
   go_wp2
   refine bodyPost_ret (results_ctt rfl _ _ gb266 24 #[.string ⟨#[]⟩, .int .i64 0, .slice none 0 0] (0, 0) _ rfl (by (with_reducible repeat (first | apply zn | apply zd | apply za)); refine zp (cs := #[.string ⟨#[]⟩, .int .i64 0, .slice none 0 0]) ?_ 2 _ rfl; (with_reducible repeat (first | apply zn | apply zd | apply za)); refine zp (cs := #[.string ⟨#[]⟩, .int .i64 0, .slice none 0 0]) ?_ 1 _ rfl; (with_reducible repeat (first | apply zn | apply zd | apply za)); refine zp (cs := #[.string ⟨#[]⟩, .int .i64 0, .slice none 0 0]) ?_ 0 _ rfl; (with_reducible repeat (first | apply zn | apply zd | apply za)); exact BK266.out) Tryd.underlying24 rfl (by kernel_rfl)) rfl ?_
   exact ⟨_, by first | rfl | simp [*], by first | exact Kd.R_nil _ _ _ _ _ | exact Kd.N_nil _ _ _ _ _ | exact Kd.V_nil _ _ _ _ _ | exact Kd.Q_nil _ _ _ _ _ | exact Kd.S_nil _ _ _ _ _, by repeat (first | (with_reducible first | exact HB.out | apply pa | apply pd | apply pe | refine zs ?_ GE266.out | refine zs ?_ GE279.out | refine zs ?_ GE280.out) | exact HB.out)⟩
 rw [if_neg c17] at H
 have c17b0 : (t283 == 0) = false := beq_eq_false_iff_ne.mpr c17
 have c17b1 : (t283 != 0) = true := bne_iff_ne.mpr c17
 (first | rw [c17b0] | (simp only [i64_w, i32_w]; rw [c17b0]) | skip)
 simp only [Option.some.injEq, Prod.mk.injEq] at H
 obtain ⟨rfl, rfl, rfl, rfl, rfl⟩ := H
 try go_wp2
 have n0_ : Aside0 (Kd.R k61 61 (((((((w15.setCell ⟨gb279, 0, none⟩ (.string t281)).setCell ⟨gb279, 1, none⟩ (.int .i64 t282)).setCell ⟨gb279, 2, none⟩ (.int .i64 t283)).setCell ⟨gb279, 3, none⟩ (.int .i64 t284)).setCell ⟨gb279, 4, none⟩ (.int .i64 t285)).setCell ⟨gb279, 5, none⟩ (.string t286)).setCell ⟨gb279, 6, none⟩ (.bool t287)) w.heap.size (fun _ => True) (.slice Ao14 t276.length co14) t276) := ⟨by (with_reducible repeat (first | apply Kd.R_alloc | apply Kd.R_drewN | apply Kd.R_drew)); exact Kd.R_mono (Kd.R_far (p := ⟨gb279, 6, none⟩) (Kd.R_far (p := ⟨gb279, 5, none⟩) (Kd.R_far (p := ⟨gb279, 4, none⟩) (Kd.R_far (p := ⟨gb279, 3, none⟩) (Kd.R_far (p := ⟨gb279, 2, none⟩) (Kd.R_far (p := ⟨gb279, 1, none⟩) (Kd.R_far (p := ⟨gb279, 0, none⟩) (Kd.R_types HO278.out BK279.out (by decide)) (fun _ hk => hk.2) (.string t281)) (fun _ hk => hk.2) (.int .i64 t282)) (fun _ hk => hk.2) (.int .i64 t283)) (fun _ hk => hk.2) (.int .i64 t284)) (fun _ hk => hk.2) (.int .i64 t285)) (fun _ hk => hk.2) (.string t286)) (fun _ hk => hk.2) (.bool t287)) (fun _ hk => trivial)⟩
 have n1_ : Aside0 ((((((((w15.setCell ⟨gb279, 0, none⟩ (.string t281)).setCell ⟨gb279, 1, none⟩ (.int .i64 t282)).setCell ⟨gb279, 2, none⟩ (.int .i64 t283)).setCell ⟨gb279, 3, none⟩ (.int .i64 t284)).setCell ⟨gb279, 4, none⟩ (.int .i64 t285)).setCell ⟨gb279, 5, none⟩ (.string t286)).setCell ⟨gb279, 6, none⟩ (.bool t287)).heap[gb266]? = some (.cells #[.string ⟨#[]⟩, .int .i64 0, .slice none 0 0] 24 (0, 0))) := ⟨by (repeat (first | (with_reducible first | apply zn | apply zd | apply za) | refine zr ?_ NB266_279.out _)); (with_reducible repeat (first | apply zn | apply zd | apply za)); exact BK266.out⟩
 have n2_ : Aside0 ((((((((w15.setCell ⟨gb279, 0, none⟩ (.string t281)).setCell ⟨gb279, 1, none⟩ (.int .i64 t282)).setCell ⟨gb279, 2, none⟩ (.int .i64 t283)).setCell ⟨gb279, 3, none⟩ (.int .i64 t284)).setCell ⟨gb279, 4, none⟩ (.int .i64 t285)).setCell ⟨gb279, 5, none⟩ (.string t286)).setCell ⟨gb279, 6, none⟩ (.bool t287)).heap[gb279]? = some (.cells #[.string t281, .int .i64 t282, .int .i64 t283, .int .i64 t284, .int .i64 t285, .string t286, .bool t287] 81 (0, 0))) := ⟨by (with_reducible repeat (first | apply zn | apply zd | apply za)); refine zp (cs := #[.string t281, .int .i64 t282, .int .i64 t283, .int .i64 t284, .int .i64 t285, .string t286, .bool t273]) ?_ 6 _ rfl; (with_reducible repeat (first | apply zn | apply zd | apply za)); refine zp (cs := #[.string t281, .int .i64 t282, .int .i64 t283, .int .i64 t284, .int .i64 t285, .string t272, .bool t273]) ?_ 5 _ rfl; (with_reducible repeat (first | apply zn | apply zd | apply za)); refine zp (cs := #[.string t281, .int .i64 t282, .int .i64 t283, .int .i64 t284, .int .i64 t271, .string t272, .bool t273]) ?_ 4 _ rfl; (with_reducible repeat (first | apply zn | apply zd | apply za)); refine zp (cs := #[.string t281, .int .i64 t282, .int .i64 t283, .int .i64 t270, .int .i64 t271, .string t272, .bool t273]) ?_ 3 _ rfl; (with_reducible repeat (first | apply zn | apply zd | apply za)); refine zp (cs := #[.string t281, .int .i64 t282, .int .i64 t269, .int .i64 t270, .int .i64 t271, .string t272, .bool t273]) ?_ 2 _ rfl; (with_reducible repeat (first | apply zn | apply zd | apply za)); refine zp (cs := #[.string t281, .int .i64 t268, .int .i64 t269, .int .i64 t270, .int .i64 t271, .string t272, .bool t273]) ?_ 1 _ rfl; (with_reducible repeat (first | apply zn | apply zd | apply za)); refine zp (cs := #[.string t267, .int .i64 t268, .int .i64 t269, .int .i64 t270, .int .i64 t271, .string t272, .bool t273]) ?_ 0 _ rfl; (with_reducible repeat (first | apply zn | apply zd | apply za)); exact BK279.out⟩
 have n3_ : Aside0 ((((((((w15.setCell ⟨gb279, 0, none⟩ (.string t281)).setCell ⟨gb279, 1, none⟩ (.int .i64 t282)).setCell ⟨gb279, 2, none⟩ (.int .i64 t283)).setCell ⟨gb279, 3, none⟩ (.int .i64 t284)).setCell ⟨gb279, 4, none⟩ (.int .i64 t285)).setCell ⟨gb279, 5, none⟩ (.string t286)).setCell ⟨gb279, 6, none⟩ (.bool t287)).heap[gb280]? = some (.cells #[.string t274, .int .i64 t275, .slice Ao14 t276.length co14] 24 (0, 0))) := ⟨by (repeat (first | (with_reducible first | apply zn | apply zd | apply za) | refine zr ?_ NB280_279.out _)); (with_reducible repeat (first | apply zn | apply zd | apply za)); exact BK280.out⟩
 have n4_ : Aside0 (Below w.heap.size w (((((((w15.setCell ⟨gb279, 0, none⟩ (.string t281)).setCell ⟨gb279, 1, none⟩ (.int .i64 t282)).setCell ⟨gb279, 2, none⟩ (.int .i64 t283)).setCell ⟨gb279, 3, none⟩ (.int .i64 t284)).setCell ⟨gb279, 4, none⟩ (.int .i64 t285)).setCell ⟨gb279, 5, none⟩ (.string t286)).setCell ⟨gb279, 6, none⟩ (.bool t287))) := ⟨by repeat (first | (with_reducible first | exact HB.out | apply pa | apply pd | apply pe | refine zs ?_ GE266.out | refine zs ?_ GE279.out | refine zs ?_ GE280.out) | exact HB.out)⟩
 (try clear HO278)
 generalize (((((((w15.setCell ⟨gb279, 0, none⟩ (.string t281)).setCell ⟨gb279, 1, none⟩ (.int .i64 t282)).setCell ⟨gb279, 2, none⟩ (.int .i64 t283)).setCell ⟨gb279, 3, none⟩ (.int .i64 t284)).setCell ⟨gb279, 4, none⟩ (.int .i64 t285)).setCell ⟨gb279, 5, none⟩ (.string t286)).setCell ⟨gb279, 6, none⟩ (.bool t287)) = w33 at n0_ n1_ n2_ n3_ n4_ ⊢
 have HO278 := n0_
 have BK266 := n1_
 have BK279 := n2_
 have BK280 := n3_
 have HB := n4_
 clear n0_ n1_ n2_ n3_ n4_
 have n0_ := ak_ (Kd.R_drew HO278.out)
 have n1_ := ak_ (zd BK266.out)
 have n2_ := ak_ (zd BK279.out)
 have n3_ := ak_ (zd BK280.out)
 have n4_ := ak_ (pe HB.out)
 clear HO278 BK266 BK279 BK280 HB
 have HO278 := n0_
 have BK266 := n1_
 have BK279 := n2_
 have BK280 := n3_
 have HB := n4_
 clear n0_ n1_ n2_ n3_ n4_
 refine start_ (n := 8) (S := fun w' => w'.cell? ⟨gb279, 0, none⟩ = some (.string t281) ∧ w'.cell? ⟨gb279, 1, none⟩ = some (.int .i64 t282) ∧ w'.cell? ⟨gb279, 2, none⟩ = some (.int .i64 t283) ∧ w'.cell? ⟨gb279, 3, none⟩ = some (.int .i64 t284) ∧ w'.cell? ⟨gb279, 4, none⟩ = some (.int .i64 t285) ∧ w'.cell? ⟨gb279, 5, none⟩ = some (.string t286) ∧ w'.cell? ⟨gb279, 6, none⟩ = some (.bool t287)) (ds := []) #[false, false, false, false, false, false, false, false] (by kernel_rfl) rfl rfl ⟨(zc BK279.out 0).trans rfl, (zc BK279.out 1).trans rfl, (zc BK279.out 2).trans rfl, (zc BK279.out 3).trans rfl, (zc BK279.out 4).trans rfl, (zc BK279.out 5).trans rfl, (zc BK279.out 6).trans rfl⟩ (fun hHeld => ?_); refine with_tabW uR15_ReadDef.tab4 uR15_ReadDef.bits4 (fun HT_ HW_ => ?_)
 generalize w33.drew = w34 at HO278 BK266 BK279 BK280 HB hHeld ⊢
 refine pure_ (i := 0) (N := some 20) (v := ?_) (a' := ?_) (b_ 8 1) rfl rfl (any_of HT_.out (by kernel_rfl)) (fun _ _ _ h => h) (Or.inl ⟨by rfl, ?_⟩) ?_ ?_; rotate_left; (· intro w'; go_simp; with_reducible rfl); rotate_left; (· simp only [Act.put, sa_, sz_, ss_, i64_w, i32_w]; rfl)
 refine pure_ (i := 1) (N := some 21) (v := ?_) (a' := ?_) (b_ 8 3) rfl rfl (any_of HT_.out (by kernel_rfl)) (fun _ _ _ h => h) (Or.inl ⟨by rfl, ?_⟩) ?_ ?_; rotate_left; (· intro w'; go_simp; with_reducible rfl); rotate_left; (· simp only [Act.put, sa_, sz_, ss_, i64_w, i32_w]; rfl)
 refine pure_ (i := 3) (N := some 23) (v := ?_) (a' := ?_) (b_ 8 11) rfl rfl (any_of HT_.out (by kernel_rfl)) (fun _ _ _ h => h) (Or.inl ⟨by rfl, ?_⟩) ?_ ?_; rotate_left; (· intro w'; go_simp; with_reducible rfl); rotate_left; (· simp only [Act.put, sa_, sz_, ss_, i64_w, i32_w]; rfl)
 refine take_ (i := 2) (N := some 22) (v := ?_) (a' := ?_) (b_ 8 15) rfl rfl (take_ofW HT_.out HW_.out (by kernel_rfl)) (fun _ _ _ h => h) (Or.inl ⟨by rfl, ?_⟩) hHeld ?_ ?_
 rotate_left
 · rintro w' ⟨s0, s1, s2, s3, s4, s5, s6⟩
   go_simp
   with_reducible rfl
 rotate_left
 · simp only [Act.put, sa_, sz_, ss_, i64_w, i32_w]
   rfl
 refine take_ (i := 4) (N := some 24) (v := ?_) (a' := ?_) (b_ 8 31) rfl rfl (take_ofW HT_.out HW_.out (by kernel_rfl)) (fun _ _ _ h => h) (Or.inl ⟨by rfl, ?_⟩) hHeld ?_ ?_
 rotate_left
 · rintro w' ⟨s0, s1, s2, s3, s4, s5, s6⟩
   go_simp
   with_reducible rfl
 rotate_left
 · simp only [Act.put, sa_, sz_, ss_, i64_w, i32_w]
   rfl
 refine one_ (i := 5) (N := none) (b_ 8 63) rfl rfl (one_of HT_.out (by kernel_rfl)) (by decide) (fun K hK => ?_)
 have hs35 : w34.cell? ⟨gb266, 0, none⟩ = some (.string ⟨#[]⟩) := (zc BK266.out 0).trans rfl
 have hfs35 := zf BK266.out 0
 have hns35_1 := NB279_266.out
 have hns35_2 := NB280_266.out
 have hms35_1 := NB266_279.out
 have hms35_2 := NB266_280.out
 have hs36 : w34.cell? ⟨gb266, 1, none⟩ = some (.int .i64 0) := (zc BK266.out 1).trans rfl
 have hfs36 := zf BK266.out 1
 have hns36_1 := NB279_266.out
 have hns36_2 := NB280_266.out
 have hms36_1 := NB266_279.out
 have hms36_2 := NB266_280.out
 have hs37 : w34.cell? ⟨gb266, 2, none⟩ = some (.slice none 0 0) := (zc BK266.out 2).trans rfl
 have hfs37 := zf BK266.out 2
 have hns37_1 := NB279_266.out
 have hns37_2 := NB280_266.out
 have hms37_1 := NB266_279.out
 have hms37_2 := NB266_280.out
 refine skip_ (w1 := ?_) (by rfl) rfl ?_ ?_
 rotate_left
 · go_simp
   rfl
 refine hK.out _ _ ⟨((cell_far (p := ⟨gb266, _, none⟩) NB279_266.out _).trans (((cell_far (p := ⟨gb266, _, none⟩) NB279_266.out _).trans (((cell_far (p := ⟨gb266, _, none⟩) NB279_266.out _).trans (hHeld.1)))))), ((cell_far (p := ⟨gb266, _, none⟩) NB279_266.out _).trans (((cell_far (p := ⟨gb266, _, none⟩) NB279_266.out _).trans (((cell_far (p := ⟨gb266, _, none⟩) NB279_266.out _).trans (hHeld.2.1)))))), ((cell_far (p := ⟨gb266, _, none⟩) NB279_266.out _).trans (((cell_far (p := ⟨gb266, _, none⟩) NB279_266.out _).trans (((cell_far (p := ⟨gb266, _, none⟩) NB279_266.out _).trans (hHeld.2.2.1)))))), ((cell_far (p := ⟨gb266, _, none⟩) NB279_266.out _).trans (((cell_far (p := ⟨gb266, _, none⟩) NB279_266.out _).trans (((cell_far (p := ⟨gb266, _, none⟩) NB279_266.out _).trans (hHeld.2.2.2.1)))))), ((cell_far (p := ⟨gb266, _, none⟩) NB279_266.out _).trans (((cell_far (p := ⟨gb266, _, none⟩) NB279_266.out _).trans (((cell_far (p := ⟨gb266, _, none⟩) NB279_266.out _).trans (hHeld.2.2.2.2.1)))))), ((cell_far (p := ⟨gb266, _, none⟩) NB279_266.out _).trans (((cell_far (p := ⟨gb266, _, none⟩) NB279_266.out _).trans (((cell_far (p := ⟨gb266, _, none⟩) NB279_266.out _).trans (hHeld.2.2.2.2.2.1)))))), ((cell_far (p := ⟨gb266, _, none⟩) NB279_266.out _).trans (((cell_far (p := ⟨gb266, _, none⟩) NB279_266.out _).trans (((cell_far (p := ⟨gb266, _, none⟩) NB279_266.out _).trans (hHeld.2.2.2.2.2.2))))))⟩ (fun hHeld => ?_)
 clear hK K
 refine pure_ (i := 6) (N := some 3) (v := ?_) (a' := ?_) (b_ 8 127) rfl rfl (any_of HT_.out (by kernel_rfl)) (fun _ _ _ h => h) (Or.inl ⟨by rfl, ?_⟩) ?_ ?_; rotate_left; (· intro w'; go_simp; with_reducible rfl); rotate_left; (· simp only [Act.put, sa_, sz_, ss_, i64_w, i32_w]; rfl)
 refine pure_ (i := 7) (N := some 4) (v := ?_) (a' := ?_) (b_ 8 255) rfl rfl (any_of HT_.out (by kernel_rfl)) (fun _ _ _ h => h) (Or.inl ⟨by rfl, ?_⟩) ?_ ?_; rotate_left; (· intro w'; go_simp; with_reducible rfl); rotate_left; (· simp only [Act.put, sa_, sz_, ss_, i64_w, i32_w]; rfl)
 refine done_ (done_of HT_.out (by kernel_rfl)) ?_
 try go_wp2
 refine bodyPost_ret (results_ctt rfl _ _ gb266 24 #[.string ⟨#[]⟩, .int .i64 0, .slice none 0 0] (0, 0) _ rfl (by (with_reducible repeat (first | apply zn | apply zd | apply za)); refine zp (cs := #[.string ⟨#[]⟩, .int .i64 0, .slice none 0 0]) ?_ 2 _ rfl; (with_reducible repeat (first | apply zn | apply zd | apply za)); refine zp (cs := #[.string ⟨#[]⟩, .int .i64 0, .slice none 0 0]) ?_ 1 _ rfl; (with_reducible repeat (first | apply zn | apply zd | apply za)); refine zp (cs := #[.string ⟨#[]⟩, .int .i64 0, .slice none 0 0]) ?_ 0 _ rfl; (with_reducible repeat (first | apply zn | apply zd | apply za)); exact BK266.out) Tryd.underlying24 rfl (by kernel_rfl)) rfl ?_
 exact ⟨_, by first | rfl | simp [*], by first | exact Kd.R_nil _ _ _ _ _ | exact Kd.N_nil _ _ _ _ _ | exact Kd.V_nil _ _ _ _ _ | exact Kd.Q_nil _ _ _ _ _ | exact Kd.S_nil _ _ _ _ _, by repeat (first | (with_reducible first | exact HB.out | apply pa | apply pd | apply pe | refine zs ?_ GE266.out | refine zs ?_ GE279.out | refine zs ?_ GE280.out) | exact HB.out)⟩
theorem count_over {b : List Int} {a fa fe : Int} {s : List Int} (hB : BB b) (h : Over b a fa fe s) (k : Nat) (N : Int) (S : ByteArray) (Y : Bool) (m least : Int) (hm : 0 ≤ m) : ∃ r a' f' e', fR_Count.f b a fa fe m least = some (r, a', f', e') ∧ uR04_Count.f (k + 10) (strOfNums b) a fe fa N S Y m least = some (strOfNums b, a', e', f', N, S, Y, r) ∧ Over b a' f' e' (s ++ nbs (clampN r) 8) ∧ 0 ≤ r ∧ r ≤ m ∧ (fe ≠ 0 → e' ≠ 0) := by
  obtain ⟨n, a1, f1, e1, hn, _, ho, n0, n1, hz⟩ := num_over hB h k N S Y
  obtain ⟨r, a', f', e', hc, hr, hx⟩ := count_eq hB h.rd k N S Y m least
  have key : Over b a' f' e' (s ++ nbs (clampN r) 8) ∧ 0 ≤ r ∧ r ≤ m ∧ (fe ≠ 0 → e' ≠ 0) := by
    have hc' := hc
    unfold fR_Count.f at hc'
    rw [hn, bs_] at hc'
    dsimp only at hc'
    rw [okR_f, bs_] at hc'
    dsimp only at hc'
    have hk := ho.rd.ok
    by_cases he : e1 = 0
    · rw [dt_ he] at hk
      have hfe : fe = 0 := by
        by_cases hf : fe = 0
        · exact hf
        · exact absurd he (hz hf)
      rw [if_pos hk] at hc'
      by_cases hq : n > m
      · rw [if_pos hq, fail_ok hk, bs_] at hc'
        simp only [Option.some.injEq, Prod.mk.injEq] at hc'
        obtain ⟨rfl, rfl, rfl, rfl⟩ := hc'
        exact ⟨⟨hr, fun h => absurd h (by decide)⟩, by omega, hm, fun h => absurd hfe h⟩
      · rw [if_neg hq, leftR_f, bs_] at hc'
        dsimp only at hc'
        have hx1 : 1 ≤ mx least 1 := by unfold mx; split <;> omega
        rw [if_neg (by omega)] at hc'
        split at hc'
        · rw [fail_ok hk, bs_] at hc'
          simp only [Option.some.injEq, Prod.mk.injEq] at hc'
          obtain ⟨rfl, rfl, rfl, rfl⟩ := hc'
          exact ⟨⟨hr, fun h => absurd h (by decide)⟩, by omega, hm, fun h => absurd hfe h⟩
        · simp only [Option.some.injEq, Prod.mk.injEq] at hc'
          obtain ⟨rfl, rfl, rfl, rfl⟩ := hc'
          exact ⟨ho, n0, by omega, fun h => absurd hfe h⟩
    · rw [df_ he] at hk
      rw [if_neg (by rw [hk]; decide)] at hc'
      simp only [Option.some.injEq, Prod.mk.injEq] at hc'
      obtain ⟨rfl, rfl, rfl, rfl⟩ := hc'
      exact ⟨⟨hr, fun h => absurd h he⟩, by omega, hm, fun _ => he⟩
  exact ⟨r, a', f', e', hc, hx, key⟩
def PlanN (p : S59) : Prop := (0 ≤ p.f0 ∧ p.f0 ≤ 4611686018427387904) ∧ (0 ≤ p.f1 ∧ p.f1 ≤ 4611686018427387904) ∧ (0 ≤ p.f2 ∧ p.f2 ≤ 4611686018427387904) ∧ (0 ≤ p.f3 ∧ p.f3 ≤ 4611686018427387904)
def StepN (s : S61) : Prop := (0 ≤ s.f2 ∧ s.f2 ≤ 4611686018427387904) ∧ PlanN s.f3 ∧ PlanN s.f4 ∧ (0 ≤ s.f5 ∧ s.f5 ≤ 4611686018427387904)
theorem plan_over {b : List Int} {a fa fe : Int} {s : List Int} (hB : BB b) (h : Over b a fa fe s) (k : Nat) (N : Int) (S : ByteArray) (Y : Bool) : ∃ p a' f' e' N', rPlan b a fa fe = some (p, a', f', e') ∧ uR15_takePlan.f (k + 10) (strOfNums b) a fe fa N S Y = some (strOfNums b, a', e', f', N', S, Y, p.f0, p.f1, p.f2, p.f3) ∧ Over b a' f' e' (s ++ planW p) ∧ PlanN p ∧ (fe ≠ 0 → e' ≠ 0) := by
  obtain ⟨x1, a1, f1, e1, n1, t1, o1, p1, q1, z1⟩ := num_over hB h k N S Y
  obtain ⟨x2, a2, f2, e2, n2, t2, o2, p2, q2, z2⟩ := num_over hB o1 k x1 S Y
  obtain ⟨x3, a3, f3, e3, n3, t3, o3, p3, q3, z3⟩ := num_over hB o2 k x2 S Y
  obtain ⟨x4, a4, f4, e4, n4, t4, o4, p4, q4, z4⟩ := num_over hB o3 k x3 S Y
  refine ⟨⟨x1, x2, x3, x4⟩, a4, f4, e4, x4, ?_, ?_, ?_, ⟨⟨p1, q1⟩, ⟨p2, q2⟩, ⟨p3, q3⟩, ⟨p4, q4⟩⟩, fun h => z4 (z3 (z2 (z1 h)))⟩
  · unfold rPlan
    rw [n1, bs_]
    dsimp only
    rw [n2, bs_]
    dsimp only
    rw [n3, bs_]
    dsimp only
    rw [n4, bs_]
  · unfold uR15_takePlan.f
    rw [t1, bs_]
    dsimp only
    rw [t2, bs_]
    dsimp only
    rw [t3, bs_]
    dsimp only
    rw [t4, bs_]
  · have e : s ++ planW ⟨x1, x2, x3, x4⟩ = s ++ nbs (clampN x1) 8 ++ nbs (clampN x2) 8 ++ nbs (clampN x3) 8 ++ nbs (clampN x4) 8 := by
      simp only [planW, encN, List.flatMap_cons, List.flatMap_nil, List.append_nil, List.append_assoc]
    rw [e]
    exact o4
theorem steps_over {b : List Int} (hB : BB b) (c : Nat) (hc : c ≤ 32) (nm : ByteArray) (dl : Int) : ∀ (d i : Nat) (l : List S61) (a fa fe : Int) (s : List Int) (N : Int) (S : ByteArray) (Y : Bool) (k : Nat), i + d = c → l.length = i → Over b a fa fe s → d + 12 ≤ k →
    ∃ l2 a' f' e' N' S', rSteps b d l a fa fe = some (l ++ l2, a', f', e') ∧ uR15_TakeDef.l0 k (c : Int) (i : Int) (strOfNums b) a fe fa N S Y nm dl l = some (strOfNums b, a', e', f', N', S', Y, nm, dl, l ++ l2) ∧ Over b a' f' e' (s ++ stepsW l2) ∧ NmS 100000 l2 ∧ (∀ x ∈ l2, StepN x) ∧ (fe ≠ 0 → e' ≠ 0) := by
  intro d
  induction d with
  | zero =>
    intro i l a fa fe s N S Y k hi hl ho hk
    obtain ⟨k, rfl⟩ : ∃ j, k = j + 1 := ⟨k - 1, by omega⟩
    refine ⟨[], a, fa, fe, N, S, ?_, ?_, ?_, fun x hx => absurd hx (by simp), fun x hx => absurd hx (by simp), fun h => h⟩
    · rw [rSteps, List.append_nil]
    · rw [uR15_TakeDef.l0, if_neg (by omega), List.append_nil]
    · simpa [stepsW] using ho
  | succ d ih =>
    intro i l a fa fe s N S Y k hi hl ho hk
    obtain ⟨k, rfl⟩ : ∃ j, k = j + 1 := ⟨k - 1, by omega⟩
    obtain ⟨k2, hk2⟩ : ∃ k2, k = k2 + 10 := ⟨k - 10, by omega⟩
    have hl32 : l.length ≤ 32 := by omega
    have hlb : l.length < 1256584717458 := Nat.lt_of_le_of_lt hl32 (by decide)
    have hic : (i : Int) < (c : Int) := by omega
    have hi1 : i + 1 + d = c := by omega
    have hk3 : d + 12 ≤ k := by omega
    have hw : wrap64 ((i : Int) + 1) = ((i + 1 : Nat) : Int) := by unfold wrap64; omega
    obtain ⟨x1, a1, f1, e1, n1, t1, o1, p1, z1⟩ := text_over hB ho k2 N S Y 256 (by omega)
    obtain ⟨x2, a2, f2, e2, n2, t2, o2, p2, z2⟩ := text_over hB o1 k2 N x1 Y 256 (by omega)
    obtain ⟨x3, a3, f3, e3, n3, t3, o3, p3, q3, z3⟩ := num_over hB o2 k2 N x2 Y
    obtain ⟨x4, a4, f4, e4, N4, n4, t4, o4, p4, z4⟩ := plan_over hB o3 k2 x3 x2 Y
    obtain ⟨x5, a5, f5, e5, N5, n5, t5, o5, p5, z5⟩ := plan_over hB o4 k2 N4 x2 Y
    obtain ⟨x6, a6, f6, e6, n6, t6, o6, p6, q6, z6⟩ := num_over hB o5 k2 N5 x2 Y
    rw [← hk2] at t1 t2 t3 t4 t5 t6
    obtain ⟨l2, a', f', e', N', S', h1, h2, h3, h4, h5, h6⟩ := ih (i + 1) (l ++ [⟨x1, x2, x3, x4, x5, x6⟩]) a6 f6 e6 _ x6 x2 Y k hi1 (by rw [List.length_append, hl]; rfl) o6 hk3
    refine ⟨⟨x1, x2, x3, x4, x5, x6⟩ :: l2, a', f', e', N', S', ?_, ?_, ?_, ?_, ?_, fun h => h6 (z6 (z5 (z4 (z3 (z2 (z1 h))))))⟩
    · rw [rSteps]
      unfold rStep
      rw [n1, bs_]
      dsimp only
      rw [n2, bs_]
      dsimp only
      rw [n3, bs_]
      dsimp only
      rw [n4, bs_]
      dsimp only
      rw [n5, bs_]
      dsimp only
      rw [n6, bs_, bs_]
      dsimp only
      rw [h1, List.append_assoc]
      rfl
    · rw [uR15_TakeDef.l0, if_pos hic, t1, bs_]
      dsimp only
      rw [t2, bs_]
      dsimp only
      rw [t3, bs_]
      dsimp only
      rw [t4, bs_]
      dsimp only
      rw [t5, bs_]
      dsimp only
      rw [t6, bs_]
      dsimp only
      rw [if_pos hlb, hw, h2, List.append_assoc]
      rfl
    · have e : s ++ stepsW (⟨x1, x2, x3, x4, x5, x6⟩ :: l2) = s ++ nbs (clampN x1.size) 8 ++ bytesOf x1 ++ nbs (clampN x2.size) 8 ++ bytesOf x2 ++ nbs (clampN x3) 8 ++ planW x4 ++ planW x5 ++ nbs (clampN x6) 8 ++ stepsW l2 := by
        simp only [stepsW, List.flatMap_cons, stepW, List.append_assoc]
      rw [e]
      exact h3
    · intro x hx
      rcases List.mem_cons.1 hx with rfl | hx
      · exact ⟨p1, p2⟩
      · exact h4 x hx
    · intro x hx
      rcases List.mem_cons.1 hx with rfl | hx
      · exact ⟨⟨p3, q3⟩, p4, p5, ⟨p6, q6⟩⟩
      · exact h5 x hx
theorem def_over {b : List Int} {a fa fe : Int} {s : List Int} (hB : BB b) (h : Over b a fa fe s) (k : Nat) (N : Int) (S : ByteArray) (Y : Bool) : ∃ n dl l a' f' e' N' S', rDef b a fa fe = some (n, dl, l, a', f', e') ∧ uR15_TakeDef.f (k + 50) (strOfNums b) a fe fa N S Y = some (strOfNums b, a', e', f', N', S', Y, n, dl, l) ∧ Over b a' f' e' (s ++ defW n dl l) ∧ n.size ≤ 100000 ∧ (0 ≤ dl ∧ dl ≤ 4611686018427387904) ∧ l.length ≤ 32 ∧ NmS 100000 l ∧ (∀ x ∈ l, StepN x) ∧ (fe ≠ 0 → e' ≠ 0) := by
  obtain ⟨x1, a1, f1, e1, n1, t1, o1, p1, z1⟩ := text_over hB h (k + 40) N S Y 256 (by omega)
  obtain ⟨x2, a2, f2, e2, n2, t2, o2, p2, q2, z2⟩ := num_over hB o1 (k + 40) N x1 Y
  obtain ⟨x3, a3, f3, e3, n3, t3, o3, p3, q3, z3⟩ := count_over hB o2 (k + 40) x2 x1 Y 32 96 (by omega)
  obtain ⟨c, rfl⟩ := Int.eq_ofNat_of_zero_le p3
  obtain ⟨l2, a', f', e', N', S', h1, h2, h3, h4, h5, h6⟩ := steps_over hB c (by omega) x1 x2 c 0 [] a3 f3 e3 _ x2 x1 Y (k + 50) (by omega) rfl o3 (by omega)
  have hll : l2.length = c := by
    have := rSteps_len b c [] a3 f3 e3 _ _ h1
    simpa using this
  refine ⟨x1, x2, l2, a', f', e', N', S', ?_, ?_, ?_, p1, ⟨p2, q2⟩, by omega, h4, h5, fun h => h6 (z3 (z2 (z1 h)))⟩
  · unfold rDef
    rw [n1, bs_]
    dsimp only
    rw [n2, bs_]
    dsimp only
    rw [n3, bs_]
    dsimp only
    rw [if_pos ⟨p3, q3⟩, Int.toNat_natCast, h1, bs_]
    rfl
  · unfold uR15_TakeDef.f
    rw [t1, bs_]
    dsimp only
    rw [t2, bs_]
    dsimp only
    rw [t3, bs_]
    dsimp only
    have h0 : ((0 : Nat) : Int) = 0 := rfl
    rw [← h0, h2]
    rfl
  · have e : s ++ defW x1 x2 l2 = s ++ nbs (clampN x1.size) 8 ++ bytesOf x1 ++ nbs (clampN x2) 8 ++ nbs (clampN c) 8 ++ stepsW l2 := by
      simp only [defW, encN, List.flatMap_cons, List.flatMap_nil, List.append_nil, List.append_assoc, hll]
    rw [e]
    exact h3
theorem take_def {b : List Int} (hB : BB b) (hl : b.length ≤ 100000) (k : Nat) (hk : 300000 ≤ k) : ∃ n dl l at_ e, code_TakeDef.f b = some (n, dl, l, at_, e) ∧ uR15_ReadDef.f k (strOfNums b) = some (n, dl, l, at_, e) ∧ n.size ≤ 100000 ∧ NmS 100000 l ∧ l.length ≤ 32 ∧
    (e = 0 → b = defW n dl l ∧ l.length ≤ 32 ∧ (0 ≤ dl ∧ dl ≤ 4611686018427387904) ∧ (∀ x ∈ l, StepN x) ∧ (chkD n dl l).2 = 0) := by
  have h0 : Over b 0 0 0 [] := ⟨⟨hl, by omega, by omega, fun _ => rfl⟩, fun _ => rfl⟩
  obtain ⟨k2, rfl⟩ : ∃ k2, k = k2 + 50 := ⟨k - 50, by omega⟩
  obtain ⟨n, dl, l, a1, f1, e1, N1, S1, n1, t1, o1, p1, p2, p3, p4, p5, _⟩ := def_over hB h0 k2 0 (⟨#[]⟩ : ByteArray) false
  obtain ⟨y, a2, f2, e2, n2, t2, d2, o2, _⟩ := end_over o1 0 N1 S1 false
  unfold code_TakeDef.f code_TakeDefK.f uR15_ReadDef.f
  rw [if_pos (by omega), n1, bs_]
  dsimp only
  rw [n2, bs_]
  dsimp only
  rw [t1, bs_]
  dsimp only
  rw [t2, bs_]
  dsimp only
  by_cases he : e2 = 0
  · rw [dt_ he] at d2
    subst d2
    rw [if_pos rfl, if_pos he, def_check_f n dl l (m := 100000) (by omega) p4 p1 40 (by omega), bs_, ref_check_f n dl l (m := 100000) (by omega) p4 p1 (k2 + 50) (by omega), bs_]
    by_cases hq : (chkD n dl l).2 = 0
    · rw [if_pos hq]
      exact ⟨_, _, _, _, _, rfl, rfl, p1, p4, p3, fun _ => ⟨by simpa using o2 he, p3, p2, p5, hq⟩⟩
    · rw [if_neg hq]
      exact ⟨_, _, _, _, _, rfl, rfl, by decide, fun x hx => absurd hx (by simp), by decide, fun h => absurd h (by decide)⟩
  · rw [df_ he] at d2
    subst d2
    rw [if_neg (by decide), if_neg he]
    exact ⟨_, _, _, _, _, rfl, rfl, by decide, fun x hx => absurd hx (by simp), by decide, fun h => absurd h he⟩
theorem ref_textD (k : Nat) (s : ByteArray) (hs : s.size ≤ 100000) : uR15_text.f (k + 11) s = some (strOfNums (nbs (clampN s.size) 8 ++ bytesOf s)) := by
  unfold uR15_text.f
  rw [ref_num, bs_, if_pos (by rw [strOfNums_len, nbs_len]; omega), strOfNums_append, strOfNums_bytesOf]
theorem sz_ok {x y : List Int} (h : (x ++ y).length ≤ 10000000) : (strOfNums x).size + (strOfNums y).size ≤ 9223372036854775807 := by
  rw [strOfNums_len, strOfNums_len]
  rw [List.length_append] at h
  omega
theorem ref_plan (k : Nat) (p : S59) : uR15_plan.f (k + 11) p.f0 p.f1 p.f2 p.f3 = some (strOfNums (planW p)) := by
  unfold uR15_plan.f
  have l1 : (nbs (clampN p.f0) 8 ++ nbs (clampN p.f1) 8).length ≤ 10000000 := by simp [nbs_len]
  have l2 : (nbs (clampN p.f0) 8 ++ nbs (clampN p.f1) 8 ++ nbs (clampN p.f2) 8).length ≤ 10000000 := by simp [nbs_len]
  have l3 : (nbs (clampN p.f0) 8 ++ nbs (clampN p.f1) 8 ++ nbs (clampN p.f2) 8 ++ nbs (clampN p.f3) 8).length ≤ 10000000 := by simp [nbs_len]
  rw [ref_num, bs_, ref_num, bs_, if_pos (sz_ok l1), ref_num, bs_, ← strOfNums_append, if_pos (sz_ok l2), ref_num, bs_, ← strOfNums_append, if_pos (sz_ok l3), ← strOfNums_append]
  congr 2
theorem ref_steps (n : ByteArray) (dl : Int) (l : List S61) (hl : l.length ≤ 1000) (hn : NmS 100000 l) : ∀ (d i : Nat) (acc : List Int) (k : Nat), l.length - i ≤ d → d + 13 ≤ k → (acc ++ stepsW (l.drop i)).length ≤ 10000000 → uR15_Def.l0 k (strOfNums acc) (i : Int) n dl l = some (strOfNums (acc ++ stepsW (l.drop i)))
  | d, i, acc, 0, _, hk, _ => absurd hk (by omega)
  | d, i, acc, k + 1, hd, hk, hz => by
    rw [uR15_Def.l0]
    by_cases hi : i < l.length
    · obtain ⟨k2, rfl⟩ : ∃ k2, k = k2 + 11 := ⟨k - 11, by omega⟩
      have hs := hn _ (List.getElem_mem hi)
      rw [if_pos (by omega), if_pos (by omega), rd_at61 hi]
      have hdr : stepsW (l.drop i) = stepW l[i] ++ stepsW (l.drop (i + 1)) := by
        unfold stepsW
        rw [List.drop_eq_getElem_cons hi, List.flatMap_cons]
      rw [hdr] at hz ⊢
      generalize l[i] = x at *
      have hz2 : acc.length + (96 + x.f0.size + x.f1.size) ≤ 10000000 := by
        rw [List.length_append, List.length_append, stepW_len] at hz
        omega
      have b0 := bytesOf_length x.f0
      have b1 := bytesOf_length x.f1
      have w1 : (acc ++ (nbs (clampN x.f0.size) 8 ++ bytesOf x.f0)).length ≤ 10000000 := by simp [nbs_len, b0]; omega
      have w2 : (acc ++ (nbs (clampN x.f0.size) 8 ++ bytesOf x.f0) ++ (nbs (clampN x.f1.size) 8 ++ bytesOf x.f1)).length ≤ 10000000 := by simp [nbs_len, b0, b1]; omega
      have w3 : (acc ++ (nbs (clampN x.f0.size) 8 ++ bytesOf x.f0) ++ (nbs (clampN x.f1.size) 8 ++ bytesOf x.f1) ++ nbs (clampN x.f2) 8).length ≤ 10000000 := by simp [nbs_len, b0, b1]; omega
      have w4 : (acc ++ (nbs (clampN x.f0.size) 8 ++ bytesOf x.f0) ++ (nbs (clampN x.f1.size) 8 ++ bytesOf x.f1) ++ nbs (clampN x.f2) 8 ++ planW x.f3).length ≤ 10000000 := by simp [nbs_len, b0, b1, planW_len]; omega
      have w5 : (acc ++ (nbs (clampN x.f0.size) 8 ++ bytesOf x.f0) ++ (nbs (clampN x.f1.size) 8 ++ bytesOf x.f1) ++ nbs (clampN x.f2) 8 ++ planW x.f3 ++ planW x.f4).length ≤ 10000000 := by simp [nbs_len, b0, b1, planW_len]; omega
      have w6 : (acc ++ (nbs (clampN x.f0.size) 8 ++ bytesOf x.f0) ++ (nbs (clampN x.f1.size) 8 ++ bytesOf x.f1) ++ nbs (clampN x.f2) 8 ++ planW x.f3 ++ planW x.f4 ++ nbs (clampN x.f5) 8).length ≤ 10000000 := by simp [nbs_len, b0, b1, planW_len]; omega
      rw [ref_textD k2 _ hs.1, bs_, if_pos (sz_ok w1), ← strOfNums_append, ref_textD k2 _ hs.2, bs_, if_pos (sz_ok w2), ← strOfNums_append, ref_num, bs_, if_pos (sz_ok w3), ← strOfNums_append]
      rw [ref_plan, bs_, if_pos (sz_ok w4), ← strOfNums_append, ref_plan, bs_, if_pos (sz_ok w5), ← strOfNums_append, ref_num, bs_, if_pos (sz_ok w6), ← strOfNums_append]
      have e : acc ++ (nbs (clampN x.f0.size) 8 ++ bytesOf x.f0) ++ (nbs (clampN x.f1.size) 8 ++ bytesOf x.f1) ++ nbs (clampN x.f2) 8 ++ planW x.f3 ++ planW x.f4 ++ nbs (clampN x.f5) 8 = acc ++ stepW x := by
        simp only [stepW, List.append_assoc]
      rw [e, wr1 (by omega) (by omega), ← List.append_assoc]
      cases d with
      | zero => omega
      | succ d => exact ref_steps n dl l hl hn d (i + 1) (acc ++ stepW x) (k2 + 11) (by omega) (by omega) (by rw [List.append_assoc]; exact hz)
    · rw [if_neg (by omega), List.drop_of_length_le (by omega)]
      simp [stepsW]
theorem ref_def (n : ByteArray) (dl : Int) (l : List S61) (hl : l.length ≤ 1000) (hz : n.size ≤ 100000) (hn : NmS 100000 l) (hx : (defW n dl l).length ≤ 10000000) (k : Nat) (hk : 2000 ≤ k) : uR15_Def.f k n dl l = some (strOfNums (defW n dl l)) := by
  unfold uR15_Def.f
  obtain ⟨k2, rfl⟩ : ∃ k2, k = k2 + 11 := ⟨k - 11, by omega⟩
  have b0 := bytesOf_length n
  have hx2 : 24 + n.size + (stepsW l).length ≤ 10000000 := by simp [defW, nbs_len, b0, encN_len] at hx; omega
  have w1 : (nbs (clampN n.size) 8 ++ bytesOf n ++ nbs (clampN dl) 8).length ≤ 10000000 := by simp [nbs_len, b0]; omega
  have w2 : (nbs (clampN n.size) 8 ++ bytesOf n ++ nbs (clampN dl) 8 ++ nbs (clampN (l.length : Int)) 8).length ≤ 10000000 := by simp [nbs_len, b0]; omega
  rw [ref_textD k2 _ hz, bs_, ref_num k2, bs_, if_pos (sz_ok w1), ref_num k2, bs_, ← strOfNums_append, if_pos (sz_ok w2), ← strOfNums_append]
  have h0 : ((0 : Nat) : Int) = 0 := rfl
  rw [← h0, ref_steps n dl l hl hn l.length 0 _ (k2 + 11) (by omega) (by omega) (by simp [nbs_len, b0]; omega)]
  congr 2
  simp only [defW, encN, List.flatMap_cons, List.flatMap_nil, List.append_nil, List.append_assoc, List.drop_zero]
theorem num_bk {b p q : List Int} {m : Int} (h0 : 0 ≤ m) (h1 : m ≤ 4611686018427387904) (hb : b = p ++ (nbs (clampN m) 8 ++ q)) (hl : b.length ≤ 100000) : fR_Num.f b (p.length : Int) 0 0 = some (m, ((p ++ nbs (clampN m) 8).length : Int), 0, 0) := by
  rw [clampN_id h0 h1] at hb ⊢
  rw [← List.append_assoc] at hb
  subst hb
  rw [num_back p q m h0 h1 hl, List.length_append, nbs_len]
theorem text_bk {b p q : List Int} {s : ByteArray} {most : Int} (hs : (s.size : Int) ≤ most) (hb : b = p ++ (nbs (clampN s.size) 8 ++ (bytesOf s ++ q))) (hl : b.length ≤ 100000) : fR_Text.f b (p.length : Int) 0 0 most = some (s, ((p ++ nbs (clampN s.size) 8 ++ bytesOf s).length : Int), 0, 0) := by
  have e : b = p ++ (nbs (clampN s.size) 8 ++ bytesOf s) ++ q := by rw [hb]; simp only [List.append_assoc]
  subst e
  rw [text_back p q s most hs hl, List.length_append, List.length_append, nbs_len, bytesOf_length]
theorem count_bk {b p q : List Int} {c : Nat} (hc : c ≤ 32) (hq : 96 * c ≤ q.length) (hb : b = p ++ (nbs (clampN (c : Int)) 8 ++ q)) (hl : b.length ≤ 100000) : fR_Count.f b (p.length : Int) 0 0 32 96 = some ((c : Int), ((p ++ nbs (clampN (c : Int)) 8).length : Int), 0, 0) := by
  unfold fR_Count.f
  rw [num_bk (by omega) (by omega) hb hl, bs_]
  dsimp only
  rw [okR_f, bs_]
  dsimp only
  rw [if_pos (by rfl), if_neg (by omega), leftR_f, bs_]
  dsimp only
  have hlen : b.length = p.length + 8 + q.length := by rw [hb]; simp [nbs_len]; omega
  have hp : (p ++ nbs (clampN (c : Int)) 8).length = p.length + 8 := by rw [List.length_append, nbs_len]
  have hm : mx (96 : Int) 1 = 96 := by decide
  rw [hm, if_neg (by decide), hp]
  have e1 : wrap64 ((b.length : Int) - ((p.length + 8 : Nat) : Int)) = (q.length : Int) := by unfold wrap64; omega
  rw [e1, Int.tdiv_eq_ediv_of_nonneg (by omega), if_neg (by unfold wrap64; omega)]
theorem plan_bk {b p q : List Int} {x : S59} (hx : PlanN x) (hb : b = p ++ (planW x ++ q)) (hl : b.length ≤ 100000) : rPlan b (p.length : Int) 0 0 = some (x, ((p ++ planW x).length : Int), 0, 0) := by
  obtain ⟨⟨a0, a1⟩, ⟨b0, b1⟩, ⟨c0, c1⟩, ⟨d0, d1⟩⟩ := hx
  obtain ⟨x0, x1, x2, x3⟩ := x
  have e : planW ⟨x0, x1, x2, x3⟩ = nbs (clampN x0) 8 ++ nbs (clampN x1) 8 ++ nbs (clampN x2) 8 ++ nbs (clampN x3) 8 := by
    simp only [planW, encN, List.flatMap_cons, List.flatMap_nil, List.append_nil, List.append_assoc]
  rw [e] at hb ⊢
  unfold rPlan
  rw [num_bk (q := nbs (clampN x1) 8 ++ nbs (clampN x2) 8 ++ nbs (clampN x3) 8 ++ q) a0 a1 (by rw [hb]; simp only [List.append_assoc]) hl, bs_]
  dsimp only
  rw [num_bk (q := nbs (clampN x2) 8 ++ nbs (clampN x3) 8 ++ q) b0 b1 (by rw [hb]; simp only [List.append_assoc]) hl, bs_]
  dsimp only
  rw [num_bk (q := nbs (clampN x3) 8 ++ q) c0 c1 (by rw [hb]; simp only [List.append_assoc]) hl, bs_]
  dsimp only
  rw [num_bk (q := q) d0 d1 (by rw [hb]; simp only [List.append_assoc]) hl, bs_]
  simp only [List.append_assoc]
theorem step_bk {b p q : List Int} {x : S61} (hx : StepN x) (h0 : x.f0.size ≤ 256) (h1 : x.f1.size ≤ 256) (hb : b = p ++ (stepW x ++ q)) (hl : b.length ≤ 100000) : rStep b (p.length : Int) 0 0 = some (x, ((p ++ stepW x).length : Int), 0, 0) := by
  obtain ⟨⟨a0, a1⟩, hp3, hp4, ⟨d0, d1⟩⟩ := hx
  obtain ⟨x0, x1, x2, x3, x4, x5⟩ := x
  have e : stepW ⟨x0, x1, x2, x3, x4, x5⟩ = nbs (clampN x0.size) 8 ++ bytesOf x0 ++ nbs (clampN x1.size) 8 ++ bytesOf x1 ++ nbs (clampN x2) 8 ++ planW x3 ++ planW x4 ++ nbs (clampN x5) 8 := by
    simp only [stepW, List.append_assoc]
  rw [e] at hb ⊢
  unfold rStep
  rw [text_bk (s := x0) (q := nbs (clampN x1.size) 8 ++ bytesOf x1 ++ nbs (clampN x2) 8 ++ planW x3 ++ planW x4 ++ nbs (clampN x5) 8 ++ q) (by dsimp only at h0; omega) (by rw [hb]; simp only [List.append_assoc]) hl, bs_]
  dsimp only
  rw [text_bk (s := x1) (q := nbs (clampN x2) 8 ++ planW x3 ++ planW x4 ++ nbs (clampN x5) 8 ++ q) (by dsimp only at h1; omega) (by rw [hb]; simp only [List.append_assoc]) hl, bs_]
  dsimp only
  rw [num_bk (q := planW x3 ++ planW x4 ++ nbs (clampN x5) 8 ++ q) a0 a1 (by rw [hb]; simp only [List.append_assoc]) hl, bs_]
  dsimp only
  rw [plan_bk (q := planW x4 ++ nbs (clampN x5) 8 ++ q) hp3 (by rw [hb]; simp only [List.append_assoc]) hl, bs_]
  dsimp only
  rw [plan_bk (q := nbs (clampN x5) 8 ++ q) hp4 (by rw [hb]; simp only [List.append_assoc]) hl, bs_]
  dsimp only
  rw [num_bk (q := q) d0 d1 (by rw [hb]; simp only [List.append_assoc]) hl, bs_]
  simp only [List.append_assoc]
theorem steps_bk {b : List Int} (hl : b.length ≤ 100000) : ∀ (l2 l : List S61) (p q : List Int), (∀ x ∈ l2, StepN x ∧ x.f0.size ≤ 256 ∧ x.f1.size ≤ 256) → b = p ++ (stepsW l2 ++ q) → rSteps b l2.length l (p.length : Int) 0 0 = some (l ++ l2, ((p ++ stepsW l2).length : Int), 0, 0)
  | [], l, p, q, _, _ => by
    show rSteps b 0 l _ 0 0 = _
    rw [rSteps, List.append_nil]
    simp [stepsW]
  | x :: l2, l, p, q, hx, hb => by
    have h := hx x (by simp)
    have e : stepsW (x :: l2) = stepW x ++ stepsW l2 := by simp only [stepsW, List.flatMap_cons]
    rw [e] at hb ⊢
    show rSteps b (l2.length + 1) l _ 0 0 = _
    rw [rSteps, step_bk (q := stepsW l2 ++ q) h.1 h.2.1 h.2.2 (by rw [hb]; simp only [List.append_assoc]) hl, bs_]
    dsimp only
    rw [steps_bk hl l2 (l ++ [x]) (p ++ stepW x) q (fun y hy => hx y (by simp [hy])) (by rw [hb]; simp only [List.append_assoc]), List.append_assoc]
    simp only [List.append_assoc, List.cons_append, List.nil_append]
theorem stepsW_len (l : List S61) : 96 * l.length ≤ (stepsW l).length := by
  induction l with
  | nil => simp [stepsW]
  | cons x l ih =>
    have e : stepsW (x :: l) = stepW x ++ stepsW l := by simp only [stepsW, List.flatMap_cons]
    rw [e, List.length_append, stepW_len, List.length_cons]
    omega
theorem def_bk {b p q : List Int} {n : ByteArray} {dl : Int} {l : List S61} (hn : n.size ≤ 256) (hd : 0 ≤ dl ∧ dl ≤ 4611686018427387904) (hl2 : l.length ≤ 32) (hx : ∀ x ∈ l, StepN x ∧ x.f0.size ≤ 256 ∧ x.f1.size ≤ 256) (hb : b = p ++ (defW n dl l ++ q)) (hl : b.length ≤ 100000) : rDef b (p.length : Int) 0 0 = some (n, dl, l, ((p ++ defW n dl l).length : Int), 0, 0) := by
  have e : defW n dl l = nbs (clampN n.size) 8 ++ bytesOf n ++ nbs (clampN dl) 8 ++ nbs (clampN (l.length : Int)) 8 ++ stepsW l := by
    simp only [defW, encN, List.flatMap_cons, List.flatMap_nil, List.append_nil, List.append_assoc]
  rw [e] at hb ⊢
  have hsl := stepsW_len l
  unfold rDef
  rw [text_bk (s := n) (q := nbs (clampN dl) 8 ++ nbs (clampN (l.length : Int)) 8 ++ stepsW l ++ q) (by omega) (by rw [hb]; simp only [List.append_assoc]) hl, bs_]
  dsimp only
  rw [num_bk (q := nbs (clampN (l.length : Int)) 8 ++ stepsW l ++ q) hd.1 hd.2 (by rw [hb]; simp only [List.append_assoc]) hl, bs_]
  dsimp only
  rw [count_bk (c := l.length) (q := stepsW l ++ q) hl2 (by rw [List.length_append]; omega) (by rw [hb]; simp only [List.append_assoc]) hl, bs_]
  dsimp only
  rw [if_pos ⟨by omega, by omega⟩, Int.toNat_natCast, steps_bk hl l [] _ q hx (by rw [hb]; simp only [List.append_assoc]), bs_]
  simp only [List.append_assoc, List.nil_append]
theorem take_back (n : ByteArray) (dl : Int) (l : List S61) (hn : n.size ≤ 256) (hd : 0 ≤ dl ∧ dl ≤ 4611686018427387904) (hl2 : l.length ≤ 32) (hx : ∀ x ∈ l, StepN x ∧ x.f0.size ≤ 256 ∧ x.f1.size ≤ 256) (hl : (defW n dl l).length ≤ 100000) (hc : (chkD n dl l).2 = 0) : code_TakeDef.f (defW n dl l) = some (n, dl, l, 0, 0) := by
  have h1 := def_bk (b := defW n dl l) (p := []) (q := []) hn hd hl2 hx (by simp) hl
  rw [List.nil_append] at h1
  unfold code_TakeDef.f code_TakeDefK.f
  rw [if_pos (by omega), show rDef (defW n dl l) 0 0 0 = _ from h1, bs_]
  dsimp only
  rw [end_back (defW n dl l) 0 hl, bs_]
  dsimp only
  rw [if_pos rfl, def_check_f n dl l (m := 256) (by omega) (fun x hx' => (hx x hx').2) hn 40 (by omega), bs_, if_pos hc]
theorem plan_n {p : S59} (h : planP p = true) : PlanN p := by
  unfold planP at h
  have := of_decide_eq_true h
  unfold PlanN
  omega
theorem stepR_n {l : List S61} {i : Nat} {x : S61} (h : stepR l i x = 0) : StepN x := by
  unfold stepR stepB at h
  split at h
  · exact absurd h (by decide)
  split at h
  · exact absurd h (by decide)
  split at h
  · exact absurd h (by decide)
  split at h
  · exact absurd h (by decide)
  rename_i h1 h2 h3 h4
  have hn : numB x = false := by simpa using h3
  have hp : (planP x.f3 && planP x.f4) = true := by
    cases e : (planP x.f3 && planP x.f4) with
    | true => rfl
    | false => exact absurd e h4
  rw [Bool.and_eq_true] at hp
  unfold numB at hn
  have := of_decide_eq_false hn
  exact ⟨by omega, plan_n hp.1, plan_n hp.2, by omega⟩
theorem chkL_n (l : List S61) : ∀ (d i : Nat), l.length - i ≤ d → (chkL l d i).2 = 0 → ∀ j, i ≤ j → ∀ (hj : j < l.length), StepN l[j]
  | 0, i, hd, _, j, hij, hj => absurd hj (by omega)
  | d + 1, i, hd, h, j, hij, hj => by
    rw [chkL, dif_pos (by omega)] at h
    by_cases h0 : stepR l i (l[i]'(by omega)) = 0
    · rw [if_pos h0] at h
      by_cases e : j = i
      · subst e; exact stepR_n h0
      · exact chkL_n l d (i + 1) (by omega) h j (by omega) hj
    · rw [if_neg h0] at h
      exact absurd h h0
theorem chkD_n {n : ByteArray} {dl : Int} {l : List S61} (h : (chkD n dl l).2 = 0) : (0 ≤ dl ∧ dl ≤ 4611686018427387904) ∧ l.length ≤ 32 ∧ ∀ x ∈ l, StepN x := by
  unfold chkD at h
  split at h
  · exact absurd h (by decide)
  split at h
  · exact absurd h (by decide)
  split at h
  · exact absurd h (by decide)
  split at h
  · exact absurd h (by decide)
  rename_i h1 h2 h3 h4
  refine ⟨?_, by omega, fun x hx => ?_⟩
  · have := Classical.not_not.1 h2
    omega
  · obtain ⟨j, hj, rfl⟩ := List.getElem_of_mem hx
    exact chkL_n l l.length 0 (by omega) h j (by omega) hj
def uL15_awake.l0 : Nat → List Int → Int → Option (Bool)
 | 0, _, _ => none
 | k + 1, x1, x2 => if x2 < (x1.length : Int) then (if 0 ≤ x2 then (if (rd x1 x2) = 0 then (uL15_awake.l0 k x1 (wrap64 (x2 + 1))) else (some false)) else (none)) else (some ((x1.length : Int) == 65))
def uL15_awake.f (k : Nat)  : Option (Bool) := (code_PutSaga.f 0 (⟨#[]⟩ : ByteArray) 0 0 0 0 false 0 0).bind fun t102 => (uL15_awake.l0 k t102 0)
theorem uL15_awake.calls (k : Nat)  (r : Bool) (w : World) (h : uL15_awake.f k  = some r) :
 Calls Tryd.prog 6 #[] w fun e w' => e = .returned (.bool r) ∧ Below w.heap.size w w' := by
 have hu57 := Tryd.underlying57
 have HB := ak_ (Below.refl w.heap.size w)
 have H : ((code_PutSaga.f 0 (⟨#[]⟩ : ByteArray) 0 0 0 0 false 0 0).bind fun t102 => (uL15_awake.l0 k t102 0)) = some r := h
 clear h
 replace H := ob_ H
 obtain ⟨t102, A10, H⟩ := H
 replace H : (uL15_awake.l0 k t102 0) = some r := H
 have A1 := ak_ A10
 clear A10
 have H' := ak_ H
 clear H
 go_enter Tryd.func6, Tryd.ntmps6
 go_wp2_with (first | ((with_reducible refine gate_callee (f := 21) rfl ?_); refine goesL_ (some 4) rfl rfl Tryd.func21 (by kernel_rfl) rfl #[.agg #[.int .i64 0, .string (⟨#[]⟩ : ByteArray), .int .i64 0, .int .i64 0, .int .i64 0, .int .i64 0, .bool false, .int .i64 0, .int .i64 0]] rfl (by (try simp only [mt_, mc_, mn_]); first | done | rfl) ?_; (with_reducible refine (code_PutSaga.calls 0 (⟨#[]⟩ : ByteArray) 0 0 0 0 false 0 0 t102 _ A1.out).mono ?_); rintro e w2 ⟨v103, rfl, ho0, hb⟩; refine ⟨_, rfl, ?_⟩; have n0_ := ak_ (Kd.R_lower ho0 (below_size (by with_reducible repeat first | exact HB.out | apply below_alloc | apply pw_below_drewN | apply below_drew1))); have n1_ := ak_ (below_step (by with_reducible repeat first | exact HB.out | apply below_alloc | apply pw_below_drewN | apply below_drew1) hb); clear HB; have HO104 := n0_; have HB := n1_; clear n0_ n1_))
 go_loopg [2] k (fun kq v2 w' => ∃ (x2_1 : Int), v2 = .int .i64 x2_1 ∧ Aside0 (uL15_awake.l0 kq t102 x2_1 = some r) ∧ Aside0 (kq ≤ k) ∧ Aside0 (Kd.R (Kd.int .u8) 5 w' w.heap.size (fun _ => True) v103 t102) ∧ Aside0 (Below w.heap.size w w'))
 case atStart => exact ⟨(0), (by first | rfl | simp [*]), H', ⟨Nat.le_refl _⟩, ⟨by (with_reducible repeat (first | apply Kd.R_alloc | apply Kd.R_drewN | apply Kd.R_drew)); exact HO104.out⟩, ⟨by repeat (first | (with_reducible first | exact HB.out | apply below_alloc | apply pw_below_drewN | apply below_drew1) | exact HB.out)⟩⟩
 case round =>
  clear H'
  try clear c2
  try clear p2
  obtain ⟨x2_1, rfl, HA, HK1, HO_1, HB⟩ := hrel
  cases gk with
  | zero => exact absurd HA.out (by simp [uL15_awake.l0])
  | succ k1 =>
   have H := HA.out
   clear HA
   simp only [uL15_awake.l0] at H
   have HF3 := ak_ H
   clear H
   obtain ⟨Ao4, co4, eo4⟩ := Kd.R_slice HO_1.out
   subst eo4
   go_upto_if 8 with (fail)
   have H := HF3.out
   clear HF3
   by_cases c5 : x2_1 < (t102.length : Int)
   · rw [if_pos c5] at H
     have c5b0 : decide (x2_1 < (t102.length : Int)) = true := dt_ c5
     clear c5
     (first | rw [c5b0] | (simp only [i64_w, i32_w]; rw [c5b0]) | skip)
     by_cases c6 : 0 ≤ x2_1
     · rw [if_pos c6] at H
       have c6b0 : decide (0 ≤ x2_1) = true := dt_ c6
       clear c6
       have HF7 := ak_ H
       clear H
       have p105 : 0 ≤ (x2_1 : Int) := of_decide_eq_true (by first | (with_reducible assumption) | assumption)
       have q105 : x2_1 < (t102.length : Int) := of_decide_eq_true (by first | (with_reducible assumption) | assumption)
       obtain ⟨ad105, e105, hx105_0⟩ := Kd.at_int (Kd.R_reads' HO_1.out).2.2 x2_1 p105 q105
       cases e105
       replace p105 := eq_true p105
       replace q105 := eq_true q105
       go_upto_if 15 with (fail)
       have H := HF7.out
       clear HF7
       by_cases c8 : (rd t102 x2_1) = 0
       · rw [if_pos c8] at H
         have c8b0 : ((rd t102 x2_1) == 0) = true := beq_iff_eq.mpr c8
         have c8b1 : ((rd t102 x2_1) != 0) = false := bne_eq_false_iff_eq.mpr c8
         clear c8
         (first | rw [c8b0] | (simp only [i64_w, i32_w]; rw [c8b0]) | skip)
         have H' := ak_ H
         clear H
         go_wp2
         go_roundg k1
         case measure => have := HK1.out; omega
         case rel => exact ⟨(wrap64 (x2_1 + 1)), (by first | rfl | simp [*]), H', ⟨by have := HK1.out; omega⟩, ⟨by (with_reducible repeat (first | apply Kd.R_alloc | apply Kd.R_drewN | apply Kd.R_drew)); exact HO_1.out⟩, ⟨by repeat (first | (with_reducible first | exact HB.out | apply below_alloc | apply pw_below_drewN | apply below_drew1) | exact HB.out)⟩⟩
       · rw [if_neg c8] at H
         have c8b0 : ((rd t102 x2_1) == 0) = false := beq_eq_false_iff_ne.mpr c8
         have c8b1 : ((rd t102 x2_1) != 0) = true := bne_iff_ne.mpr c8
         (first | rw [c8b0] | (simp only [i64_w, i32_w]; rw [c8b0]) | skip)
         obtain rfl := Option.some.inj H
         go_wp2
         go_ret
         exact ⟨by first | rfl | simp [*], by repeat (first | (with_reducible first | exact HB.out | apply below_alloc | apply pw_below_drewN | apply below_drew1) | exact HB.out)⟩
     · rw [if_neg c6] at H
       exact absurd H (by simp)
   · rw [if_neg c5] at H
     have c5b0 : decide (x2_1 < (t102.length : Int)) = false := df_ c5
     clear c5
     (first | rw [c5b0] | (simp only [i64_w, i32_w]; rw [c5b0]) | skip)
     obtain rfl := Option.some.inj H
     go_wp2
     go_ret
     exact ⟨by first | rfl | simp [*], by repeat (first | (with_reducible first | exact HB.out | apply below_alloc | apply pw_below_drewN | apply below_drew1) | exact HB.out)⟩
end Go.Proofs.YtcgpbakimkhdpaaDoor.Q
