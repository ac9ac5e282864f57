/- Part 5 of a claim's texts. -/
import Derived.Test.YtcgpbakimkhdpaaDoorPk1
import Derived.Test.YtcgpbakimkhdpaaDoorPk4
import Derived.Test.YtcgpbakimkhdpaaDoorPk3
import Derived.Test.YtcgpbakimkhdpaaDoorPk2
namespace Go.Proofs.YtcgpbakimkhdpaaDoor.Q
open Go.RowKit Go.Proofs.YtcgpbakimkhdpaaDoorW.PrintWords Go.Proofs.YtcgpbakimkhdpaaDoorW.PrintLast Go.Proofs.YtcgpbakimkhdpaaDoorW.PrintMore
attribute [local go_sem] max2_int min2_int max_two min_two max_three min_three max_four min_four
set_option linter.unusedVariables false
set_option linter.unusedSimpArgs false
set_option maxHeartbeats 8000000
set_option maxRecDepth 100000
open Go.Proofs.YtcgpbakimkhdpaaDoor.Q.H_
def encN (ns : List Int) : List Int := ns.flatMap fun n => nbs (clampN n) 8
theorem encN_succ (ns : List Int) (j : Nat) (h : j < ns.length) : encN (ns.take (j + 1)) = encN (ns.take j) ++ nbs (clampN (rd ns (j : Int))) 8 := by
 have e : rd ns (j : Int) = ns[j] := by
  unfold rd
  rw [Int.toNat_natCast, List.getD_eq_getElem?_getD, List.getElem?_eq_getElem h]
  rfl
 rw [e]
 unfold encN
 rw [List.take_succ_eq_append_getElem h, List.flatMap_append]
 simp
theorem encN_len (ns : List Int) : (encN ns).length = 8 * ns.length := by
 unfold encN
 induction ns with
 | nil => rfl
 | cons a l ih => rw [List.flatMap_cons, List.length_append, ih]; simp [nbs]; omega
def ints (ns : List Int) : Array Value := (ns.map (Value.int .i64)).toArray
theorem writer_nums.calls (T : TypeId) (hT : 5 ≠ T) (hT3 : 3 ≠ T) (g : Nat) (v : Value) (xs : List Int) (b : Nat) (ns : List Int) (w0 w : World) (hI : IsWT T w0 w g v xs) (hB : Below w0.heap.size w0 w) (hb : w.heap[b]? = some (.cells (ints ns) 3 (0, 0)))
 (hn : ∀ n ∈ ns, -9223372036854775808 ≤ n ∧ n ≤ 9223372036854775807) (hx : xs.length + 8 * ns.length < 100000000) :
 Calls Tryd.prog 45 #[.pointer (some ⟨g, 0, none⟩), .slice (some ⟨b, 0, none⟩) ns.length ns.length] w fun e w' => ∃ v', e = .returned (.tuple #[]) ∧ IsWT T w0 w' g v' (xs ++ encN ns) ∧ Below w0.heap.size w0 w' ∧ KeepBut w w' g v.ownBlock ∧ OwnNext w v v' := by
 have HI := ak_ hI
 have HB := ak_ hB
 have HBL := ak_ hb
 have HNS := ak_ hn
 have HX := ak_ hx
 have HNE := ak_ (show b ≠ g from blk_ne hb hI.1 hT3)
 clear hI hB hb hn hx
 go_enter Tryd.func45, Tryd.ntmps45
 go_wp2
 go_loopw [8] (fun v8 W => ∃ (j : Nat) (u : Value), j ≤ ns.length ∧ v8 = .int .i64 (j : Int) ∧ Aside0 (IsWT T w0 W g u (xs ++ encN (ns.take j))) ∧ Aside0 (Below w0.heap.size w0 W) ∧ Aside0 (KeepBut w W g v.ownBlock) ∧ Aside0 (OwnNext w v u)) (fun v8 _ => ns.length - (intOf v8).toNat)
 case atStart => exact ⟨0, v, by omega, rfl, ⟨by have := HI.out; simpa [encN] using this⟩, HB, ⟨KeepBut.refl w g _⟩, ⟨.inl rfl⟩⟩
 case round =>
  have HRN := ak_ (Kd.R_ne HI.out.2.2 HBL.out (by decide))
  clear HI HB
  obtain ⟨j, u, hj, rfl, HI, HB, HK, HN⟩ := hrel
  by_cases hlt : j < ns.length
  · have HBW := ak_ (KeepBut.blk HK.out HBL.out HNE.out HRN.out)
    have HS := ak_ (encN_succ ns j hlt)
    have hc : wr.cell? ⟨b, j, none⟩ = some (.int .i64 (rd ns (j : Int))) := (zc HBW.out j).trans (by
     unfold ints rd
     rw [Int.toNat_natCast, List.getD_eq_getElem?_getD, List.getElem?_eq_getElem hlt]
     simp [hlt])
    have HM := ak_ (show -9223372036854775808 ≤ rd ns (j : Int) ∧ rd ns (j : Int) ≤ 9223372036854775807 from by
     unfold rd
     rw [Int.toNat_natCast, List.getD_eq_getElem?_getD, List.getElem?_eq_getElem hlt]
     exact HNS.out _ (List.getElem_mem hlt))
    have HL := ak_ (show (xs ++ encN (ns.take j)).length < 100000000 by have := HX.out; rw [List.length_append, encN_len, List.length_take]; omega)
    generalize rd ns (j : Int) = m at *
    have HW := ak_ (show wrap64 ((j : Int) + 1) = ((j + 1 : Nat) : Int) by unfold wrap64; have := HX.out; omega)
    obtain ⟨i, hi⟩ : ∃ i : Int, (j : Int) = i := ⟨_, rfl⟩
    have hc : wr.cell? ⟨b, i.toNat, none⟩ = some (.int .i64 m) := by rw [← hi, Int.toNat_natCast]; exact hc
    have HJ := ak_ hi
    have q0 : decide (i < (ns.length : Int)) = true := dt_ (by omega)
    have q1 := eq_true (show (0 : Int) ≤ i by omega)
    have q2 := eq_true (show i < (ns.length : Int) by omega)
    rw [hi] at HW ⊢
    clear hi
    go_wp2_with (first | (go_at_call 49; refine (writer_Num.callsT T hT g u _ m w0 _ HI.out HB.out HM.out HL.out).mono ?_; rintro e w5 ⟨u5, rfl, hi, hb, hk, hn⟩; have HI5 := ak_ hi; have HB5 := ak_ hb; have HK5 := ak_ (KeepBut.trans HK.out hk HN.out); have HN5 := ak_ (own_next HK.out.1 HN.out hn); clear hi hb hk hn))
    go_roundw
    case rel => exact ⟨j + 1, u5, by omega, by rw [HW.out], ⟨by rw [HS.out, ← List.append_assoc]; exact HI5.out⟩, HB5, HK5, HN5⟩
    case measure => have := HJ.out; simp [intOf, HW.out]; omega
  · have hjl : j = ns.length := by omega
    subst hjl
    have q0 : decide ((ns.length : Int) < (ns.length : Int)) = false := df_ (by omega)
    go_wp2
    go_end0
    exact ⟨u, rfl, by have := HI.out; rwa [List.take_length] at this, HB.out, HK.out, HN.out⟩
theorem IsWT.drew_ {T : TypeId} {w0 W : World} {g : Nat} {v : Value} {xs : List Int} (h : IsWT T w0 W g v xs) : IsWT T w0 W.drew g v xs := ⟨h.1, h.2.1, Kd.R_drew h.2.2⟩
theorem IsWT.below_ {T : TypeId} {w0 W W1 : World} {g : Nat} {v : Value} {xs : List Int} (h : IsWT T w0 W g v xs) (hb : Below W.heap.size W W1) : IsWT T w0 W1 g v xs :=
 ⟨blk_grown h.1 (grown_of_below hb none) (by simp), h.2.1, Kd.R_below h.2.2 hb⟩
section
variable {P : Program} {ops : Array Oper} {rest : List Oper} {o : Oper} {a : Act} {Q : Exit → Act → World → Prop}
end
abbrev I64_ (n : Int) : Prop := -9223372036854775808 ≤ n ∧ n ≤ 9223372036854775807
def sagaB (a0_0 : Int) (a0_1 : ByteArray) (a0_2 a0_3 a0_4 a0_5 : Int) (a0_6 : Bool) (a0_7 a0_8 : Int) : List Int :=
 [] ++ nbs (clampN a0_0) 8 ++ nbs (clampN a0_1.size) 8 ++ bytesOf a0_1 ++ encN [a0_2, a0_3, a0_4, a0_5] ++ [flagB a0_6] ++ encN [a0_7, a0_8]
def code_PutSaga.f (a0_0 : Int) (a0_1 : ByteArray) (a0_2 : Int) (a0_3 : Int) (a0_4 : Int) (a0_5 : Int) (a0_6 : Bool) (a0_7 : Int) (a0_8 : Int) : Option (List Int) :=
 if (I64_ a0_0 ∧ I64_ a0_2 ∧ I64_ a0_3 ∧ I64_ a0_4 ∧ I64_ a0_5 ∧ I64_ a0_7 ∧ I64_ a0_8) ∧ a0_1.size < 1000000 then some (sagaB a0_0 a0_1 a0_2 a0_3 a0_4 a0_5 a0_6 a0_7 a0_8) else none
theorem code_PutSaga.calls (a0_0 : Int) (a0_1 : ByteArray) (a0_2 : Int) (a0_3 : Int) (a0_4 : Int) (a0_5 : Int) (a0_6 : Bool) (a0_7 : Int) (a0_8 : Int) (r : List Int) (w : World) (h : code_PutSaga.f a0_0 a0_1 a0_2 a0_3 a0_4 a0_5 a0_6 a0_7 a0_8 = some r) :
 Calls Tryd.prog 21 #[.agg #[.int .i64 a0_0, .string a0_1, .int .i64 a0_2, .int .i64 a0_3, .int .i64 a0_4, .int .i64 a0_5, .bool a0_6, .int .i64 a0_7, .int .i64 a0_8]] w fun e w' => ∃ v0_ : Value, e = .returned (v0_) ∧ Kd.R (Kd.int .u8) 5 w' w.heap.size (fun _ => True) v0_ r ∧ Below w.heap.size w w' := by
 unfold code_PutSaga.f at h
 by_cases hc : (I64_ a0_0 ∧ I64_ a0_2 ∧ I64_ a0_3 ∧ I64_ a0_4 ∧ I64_ a0_5 ∧ I64_ a0_7 ∧ I64_ a0_8) ∧ a0_1.size < 1000000
 · rw [if_pos hc] at h
   obtain rfl := Option.some.inj h
   clear h
   obtain ⟨⟨k0, k2, k3, k4, k5, k7, k8⟩, ksz⟩ := hc
   have K0 := ak_ k0
   have K4 := ak_ (show ∀ n ∈ [a0_2, a0_3, a0_4, a0_5], -9223372036854775808 ≤ n ∧ n ≤ 9223372036854775807 from fun n hn => by
    simp only [List.mem_cons, List.not_mem_nil, or_false] at hn
    rcases hn with h | h | h | h <;> subst h <;> assumption)
   have K2 := ak_ (show ∀ n ∈ [a0_7, a0_8], -9223372036854775808 ≤ n ∧ n ≤ 9223372036854775807 from fun n hn => by
    simp only [List.mem_cons, List.not_mem_nil, or_false] at hn
    rcases hn with h | h <;> subst h <;> assumption)
   have hbl := bytesOf_length a0_1
   have L0 := ak_ (show ([] : List Int).length < 100000000 by simp)
   have L1 := ak_ (show ([] ++ nbs (clampN a0_0) 8 : List Int).length + a0_1.size < 100000000 by simp [nbs]; omega)
   have L2 := ak_ (show ([] ++ nbs (clampN a0_0) 8 ++ nbs (clampN a0_1.size) 8 ++ bytesOf a0_1 : List Int).length + 8 * [a0_2, a0_3, a0_4, a0_5].length < 100000000 by simp [nbs, hbl]; omega)
   have L3 := ak_ (show ([] ++ nbs (clampN a0_0) 8 ++ nbs (clampN a0_1.size) 8 ++ bytesOf a0_1 ++ encN [a0_2, a0_3, a0_4, a0_5] : List Int).length < 100000000 by simp [nbs, hbl, encN_len]; omega)
   have L4 := ak_ (show ([] ++ nbs (clampN a0_0) 8 ++ nbs (clampN a0_1.size) 8 ++ bytesOf a0_1 ++ encN [a0_2, a0_3, a0_4, a0_5] ++ [flagB a0_6] : List Int).length + 8 * [a0_7, a0_8].length < 100000000 by simp [nbs, hbl, encN_len]; omega)
   have L5 := ak_ (show (sagaB a0_0 a0_1 a0_2 a0_3 a0_4 a0_5 a0_6 a0_7 a0_8).length < 100000000 by simp [sagaB, nbs, hbl, encN_len]; omega)
   clear k0 k2 k3 k4 k5 k7 k8 ksz hbl
   have HB := ak_ (Below.refl w.heap.size w)
   go_enter Tryd.func21, Tryd.ntmps21
   go_upto_region 2 with (first | ((with_reducible refine gate_dst (N := 1) rfl ?_); refine box_event ?hg (N := 1) ?hd (cs := #[.int .i64 a0_0, .string a0_1, .int .i64 a0_2, .int .i64 a0_3, .int .i64 a0_4, .int .i64 a0_5, .bool a0_6, .int .i64 a0_7, .int .i64 a0_8]) (t := 57) ?hr ?_; (case hd | hg => rfl); (case hr => first | (go_simp; done) | (go_simp; rfl)); intro gs hg w1 hbox hb; have HB1 := ak_ (below_step HB.out hb); have BK1 := ak_ hbox; clear hb hbox hg) | ((with_reducible refine gate_dst (N := 5) rfl ?_); refine box_event ?hg (N := 5) ?hd (cs := #[.slice none 0 0]) (t := 66) ?hr ?_; (case hd | hg => rfl); (case hr => first | (go_simp; done) | (go_simp; rfl)); intro gw hg w2 hbox hb; have NE := ak_ (show gs ≠ gw by rw [hg]; exact Nat.ne_of_lt (blk_lt BK1.out)); have HB2 := ak_ (below_step HB1.out hb); have BK2 := ak_ (blk_below BK1.out hb); have HI2 := ak_ (show IsWT 66 w w2 gw (.slice none 0 0) [] from ⟨hbox, by rw [hg]; exact HB1.out.size, Kd.R_nil _ _ _ _ _⟩); clear hb hbox hg))
   have HC := ak_ (show w2.drew.cell? ⟨gs, 0, none⟩ = some (.int .i64 a0_0) from (zc BK2.out 0).trans rfl)
   refine start_ (n := 6) (S := fun w' => w'.cell? ⟨gs, 0, none⟩ = some (.int .i64 a0_0)) (ds := []) #[false, false, false, false, false, false] (by kernel_rfl) rfl rfl (HC.out) (fun hHeld => ?_)
   refine pure_ (i := 0) (N := some 6) (v := ?_) (a' := ?_) #[true, false, false, false, false, false] rfl rfl (by kernel_rfl) (fun _ _ _ h => h) (Or.inl ⟨by rfl, ?_⟩) ?_ ?_
   rotate_left
   · intro w'
     go_simp
     with_reducible rfl
   rotate_left
   · simp only [Act.put, sa_, sz_, ss_, i64_w, i32_w]
     rfl
   refine pure_ (i := 1) (N := some 7) (v := ?_) (a' := ?_) #[true, true, false, false, false, false] rfl rfl (by kernel_rfl) (fun _ _ _ h => h) (Or.inl ⟨by rfl, ?_⟩) ?_ ?_
   rotate_left
   · intro w'
     go_simp
     with_reducible rfl
   rotate_left
   · simp only [Act.put, sa_, sz_, ss_, i64_w, i32_w]
     rfl
   refine pure_ (i := 2) (N := some 8) (v := ?_) (a' := ?_) #[true, true, true, false, false, false] rfl rfl (by kernel_rfl) (fun _ _ _ h => h) (Or.inl ⟨by rfl, ?_⟩) ?_ ?_
   rotate_left
   · intro w'
     go_simp
     with_reducible rfl
   rotate_left
   · simp only [Act.put, sa_, sz_, ss_, i64_w, i32_w]
     rfl
   refine pure_ (i := 3) (N := some 9) (v := ?_) (a' := ?_) #[true, true, true, true, false, false] rfl rfl (by kernel_rfl) (fun _ _ _ h => h) (Or.inl ⟨by rfl, ?_⟩) ?_ ?_
   rotate_left
   · intro w'
     go_simp
     with_reducible rfl
   rotate_left
   · simp only [Act.put, sa_, sz_, ss_, i64_w, i32_w]
     rfl
   refine take_ (i := 4) (N := some 10) (v := ?_) (a' := ?_) #[true, true, true, true, true, false] rfl rfl (by kernel_rfl) (fun _ _ _ h => h) (Or.inl ⟨by rfl, ?_⟩) hHeld ?_ ?_
   rotate_left
   · intro w' s0
     go_simp
     with_reducible rfl
   rotate_left
   · simp only [Act.put, sa_, sz_, ss_, i64_w, i32_w]
     rfl
   refine one_ (i := 5) (N := some 11) #[true, true, true, true, true, true] rfl rfl (by kernel_rfl) (by decide) (fun K hK => ?_)
   refine goes_ Tryd.func49 (by kernel_rfl) rfl #[.pointer (some ⟨gw, 0, none⟩), .int .i64 a0_0] (by rfl) rfl rfl (by simp only [mt_, mc_, mn_]; rfl) ?_
   with_reducible refine (writer_Num.callsT 66 (by decide) gw _ [] a0_0 w _ (IsWT.drew_ HI2.out) (below_drew1 HB2.out) K0.out L0.out).mono ?_
   rintro e w3 ⟨u3, rfl, hi, hb, hk, hn⟩
   refine ⟨_, rfl, ?_⟩
   have BK3 := ak_ (KeepBut.blk hk (show w2.drew.heap[gs]? = _ from BK2.out) NE.out (Kd.R_ne (Kd.R_drew HI2.out.2.2) (show w2.drew.heap[gs]? = _ from BK2.out) (by decide)))
   have HI3 := ak_ hi
   have HB3 := ak_ hb
   have HC3 := ak_ (show w3.cell? ⟨gs, 0, none⟩ = some (.int .i64 a0_0) from (zc BK3.out 0).trans rfl)
   clear hi hb hk hn
   refine hK.out _ _ HC3.out (fun hHeld => ?_)
   clear hK K
   refine norm_ (a' := ?_) ?_ ?_
   rotate_left
   · show Act.put _ (some 11) _ = _
     simp only [Act.put, sa_, sz_, ss_, i64_w, i32_w]
     rfl
   refine done_ (by kernel_rfl) ?_
   clear HC
   go_upto_region 3 with (fail)
   have HC := ak_ (show w3.drew.cell? ⟨gs, 1, none⟩ = some (.string a0_1) from (zc BK3.out 1).trans rfl)
   refine start_ (n := 6) (S := fun w' => w'.cell? ⟨gs, 1, none⟩ = some (.string a0_1)) (ds := []) #[false, false, false, false, false, false] (by kernel_rfl) rfl rfl (HC.out) (fun hHeld => ?_)
   refine pure_ (i := 0) (N := some 12) (v := ?_) (a' := ?_) #[true, false, false, false, false, false] rfl rfl (by kernel_rfl) (fun _ _ _ h => h) (Or.inl ⟨by rfl, ?_⟩) ?_ ?_
   rotate_left
   · intro w'
     go_simp
     with_reducible rfl
   rotate_left
   · simp only [Act.put, sa_, sz_, ss_, i64_w, i32_w]
     rfl
   refine pure_ (i := 1) (N := some 13) (v := ?_) (a' := ?_) #[true, true, false, false, false, false] rfl rfl (by kernel_rfl) (fun _ _ _ h => h) (Or.inl ⟨by rfl, ?_⟩) ?_ ?_
   rotate_left
   · intro w'
     go_simp
     with_reducible rfl
   rotate_left
   · simp only [Act.put, sa_, sz_, ss_, i64_w, i32_w]
     rfl
   refine pure_ (i := 2) (N := some 14) (v := ?_) (a' := ?_) #[true, true, true, false, false, false] rfl rfl (by kernel_rfl) (fun _ _ _ h => h) (Or.inl ⟨by rfl, ?_⟩) ?_ ?_
   rotate_left
   · intro w'
     go_simp
     with_reducible rfl
   rotate_left
   · simp only [Act.put, sa_, sz_, ss_, i64_w, i32_w]
     rfl
   refine pure_ (i := 3) (N := some 15) (v := ?_) (a' := ?_) #[true, true, true, true, false, false] rfl rfl (by kernel_rfl) (fun _ _ _ h => h) (Or.inl ⟨by rfl, ?_⟩) ?_ ?_
   rotate_left
   · intro w'
     go_simp
     with_reducible rfl
   rotate_left
   · simp only [Act.put, sa_, sz_, ss_, i64_w, i32_w]
     rfl
   refine take_ (i := 4) (N := some 16) (v := ?_) (a' := ?_) #[true, true, true, true, true, false] rfl rfl (by kernel_rfl) (fun _ _ _ h => h) (Or.inl ⟨by rfl, ?_⟩) hHeld ?_ ?_
   rotate_left
   · intro w' s0
     go_simp
     with_reducible rfl
   rotate_left
   · simp only [Act.put, sa_, sz_, ss_, i64_w, i32_w]
     rfl
   refine one_ (i := 5) (N := some 17) #[true, true, true, true, true, true] rfl rfl (by kernel_rfl) (by decide) (fun K hK => ?_)
   refine goes_ Tryd.func46 (by kernel_rfl) rfl #[.pointer (some ⟨gw, 0, none⟩), .string a0_1] (by rfl) rfl rfl (by simp only [mt_, mc_, mn_]; rfl) ?_
   with_reducible refine (writer_Text.callsT 66 (by decide) gw _ _ a0_1 w _ (IsWT.drew_ HI3.out) (below_drew1 HB3.out) L1.out).mono ?_
   rintro e w4 ⟨u4, rfl, hi, hb, hk, hn⟩
   refine ⟨_, rfl, ?_⟩
   have BK4 := ak_ (KeepBut.blk hk (show w3.drew.heap[gs]? = _ from BK3.out) NE.out (Kd.R_ne (Kd.R_drew HI3.out.2.2) (show w3.drew.heap[gs]? = _ from BK3.out) (by decide)))
   have HI4 := ak_ hi
   have HB4 := ak_ hb
   have HC4 := ak_ (show w4.cell? ⟨gs, 1, none⟩ = some (.string a0_1) from (zc BK4.out 1).trans rfl)
   clear hi hb hk hn
   refine hK.out _ _ HC4.out (fun hHeld => ?_)
   clear hK K
   refine norm_ (a' := ?_) ?_ ?_
   rotate_left
   · show Act.put _ (some 17) _ = _
     simp only [Act.put, sa_, sz_, ss_, i64_w, i32_w]
     rfl
   refine done_ (by kernel_rfl) ?_
   clear HC
   have z4_0 : w4.cell? ⟨gs, 0, none⟩ = some (.int .i64 a0_0) := (zc BK4.out 0).trans rfl
   have z4_1 : w4.cell? ⟨gs, 1, none⟩ = some (.string a0_1) := (zc BK4.out 1).trans rfl
   have z4_2 : w4.cell? ⟨gs, 2, none⟩ = some (.int .i64 a0_2) := (zc BK4.out 2).trans rfl
   have z4_3 : w4.cell? ⟨gs, 3, none⟩ = some (.int .i64 a0_3) := (zc BK4.out 3).trans rfl
   have z4_4 : w4.cell? ⟨gs, 4, none⟩ = some (.int .i64 a0_4) := (zc BK4.out 4).trans rfl
   have z4_5 : w4.cell? ⟨gs, 5, none⟩ = some (.int .i64 a0_5) := (zc BK4.out 5).trans rfl
   have z4_6 : w4.cell? ⟨gs, 6, none⟩ = some (.bool a0_6) := (zc BK4.out 6).trans rfl
   have z4_7 : w4.cell? ⟨gs, 7, none⟩ = some (.int .i64 a0_7) := (zc BK4.out 7).trans rfl
   have z4_8 : w4.cell? ⟨gs, 8, none⟩ = some (.int .i64 a0_8) := (zc BK4.out 8).trans rfl
   go_upto_region 5 with (first | (go_at_call 45; refine (writer_nums.calls 66 (by decide) (by decide) gw _ _ _ [a0_2, a0_3, a0_4, a0_5] w _ (IsWT.below_ HI4.out (below_alloc (Below.refl _ _) _)) (below_alloc HB4.out _) (blk_new _ _) K4.out L2.out).mono ?_; rintro e w5 ⟨u5, rfl, hi, hb, hk, hn⟩; have BK5 := ak_ (KeepBut.blk hk (blk_alloc BK4.out _) NE.out (Kd.R_ne HI4.out.2.2 BK4.out (by decide))); have HI5 := ak_ hi; have HB5 := ak_ hb; clear hi hb hk hn))
   have HC := ak_ (show w5.drew.cell? ⟨gs, 6, none⟩ = some (.bool a0_6) from (zc BK5.out 6).trans rfl)
   refine start_ (n := 6) (S := fun w' => w'.cell? ⟨gs, 6, none⟩ = some (.bool a0_6)) (ds := []) #[false, false, false, false, false, false] (by kernel_rfl) rfl rfl (HC.out) (fun hHeld => ?_)
   refine pure_ (i := 0) (N := some 29) (v := ?_) (a' := ?_) #[true, false, false, false, false, false] rfl rfl (by kernel_rfl) (fun _ _ _ h => h) (Or.inl ⟨by rfl, ?_⟩) ?_ ?_
   rotate_left
   · intro w'
     go_simp
     with_reducible rfl
   rotate_left
   · simp only [Act.put, sa_, sz_, ss_, i64_w, i32_w]
     rfl
   refine pure_ (i := 1) (N := some 30) (v := ?_) (a' := ?_) #[true, true, false, false, false, false] rfl rfl (by kernel_rfl) (fun _ _ _ h => h) (Or.inl ⟨by rfl, ?_⟩) ?_ ?_
   rotate_left
   · intro w'
     go_simp
     with_reducible rfl
   rotate_left
   · simp only [Act.put, sa_, sz_, ss_, i64_w, i32_w]
     rfl
   refine pure_ (i := 2) (N := some 31) (v := ?_) (a' := ?_) #[true, true, true, false, false, false] rfl rfl (by kernel_rfl) (fun _ _ _ h => h) (Or.inl ⟨by rfl, ?_⟩) ?_ ?_
   rotate_left
   · intro w'
     go_simp
     with_reducible rfl
   rotate_left
   · simp only [Act.put, sa_, sz_, ss_, i64_w, i32_w]
     rfl
   refine pure_ (i := 3) (N := some 32) (v := ?_) (a' := ?_) #[true, true, true, true, false, false] rfl rfl (by kernel_rfl) (fun _ _ _ h => h) (Or.inl ⟨by rfl, ?_⟩) ?_ ?_
   rotate_left
   · intro w'
     go_simp
     with_reducible rfl
   rotate_left
   · simp only [Act.put, sa_, sz_, ss_, i64_w, i32_w]
     rfl
   refine take_ (i := 4) (N := some 33) (v := ?_) (a' := ?_) #[true, true, true, true, true, false] rfl rfl (by kernel_rfl) (fun _ _ _ h => h) (Or.inl ⟨by rfl, ?_⟩) hHeld ?_ ?_
   rotate_left
   · intro w' s0
     go_simp
     with_reducible rfl
   rotate_left
   · simp only [Act.put, sa_, sz_, ss_, i64_w, i32_w]
     rfl
   refine one_ (i := 5) (N := some 34) #[true, true, true, true, true, true] rfl rfl (by kernel_rfl) (by decide) (fun K hK => ?_)
   refine goes_ Tryd.func50 (by kernel_rfl) rfl #[.pointer (some ⟨gw, 0, none⟩), .bool a0_6] (by rfl) rfl rfl (by simp only [mt_, mc_, mn_]; rfl) ?_
   with_reducible refine (writer_Flag.callsT 66 (by decide) gw _ _ a0_6 w _ (IsWT.drew_ HI5.out) (below_drew1 HB5.out) L3.out).mono ?_
   rintro e w6 ⟨u6, rfl, hi, hb, hk, hn⟩
   refine ⟨_, rfl, ?_⟩
   have BK6 := ak_ (KeepBut.blk hk (show w5.drew.heap[gs]? = _ from BK5.out) NE.out (Kd.R_ne (Kd.R_drew HI5.out.2.2) (show w5.drew.heap[gs]? = _ from BK5.out) (by decide)))
   have HI6 := ak_ hi
   have HB6 := ak_ hb
   have HC6 := ak_ (show w6.cell? ⟨gs, 6, none⟩ = some (.bool a0_6) from (zc BK6.out 6).trans rfl)
   clear hi hb hk hn
   refine hK.out _ _ HC6.out (fun hHeld => ?_)
   clear hK K
   refine norm_ (a' := ?_) ?_ ?_
   rotate_left
   · show Act.put _ (some 34) _ = _
     simp only [Act.put, sa_, sz_, ss_, i64_w, i32_w]
     rfl
   refine done_ (by kernel_rfl) ?_
   clear HC
   have z6_0 : w6.cell? ⟨gs, 0, none⟩ = some (.int .i64 a0_0) := (zc BK6.out 0).trans rfl
   have z6_1 : w6.cell? ⟨gs, 1, none⟩ = some (.string a0_1) := (zc BK6.out 1).trans rfl
   have z6_2 : w6.cell? ⟨gs, 2, none⟩ = some (.int .i64 a0_2) := (zc BK6.out 2).trans rfl
   have z6_3 : w6.cell? ⟨gs, 3, none⟩ = some (.int .i64 a0_3) := (zc BK6.out 3).trans rfl
   have z6_4 : w6.cell? ⟨gs, 4, none⟩ = some (.int .i64 a0_4) := (zc BK6.out 4).trans rfl
   have z6_5 : w6.cell? ⟨gs, 5, none⟩ = some (.int .i64 a0_5) := (zc BK6.out 5).trans rfl
   have z6_6 : w6.cell? ⟨gs, 6, none⟩ = some (.bool a0_6) := (zc BK6.out 6).trans rfl
   have z6_7 : w6.cell? ⟨gs, 7, none⟩ = some (.int .i64 a0_7) := (zc BK6.out 7).trans rfl
   have z6_8 : w6.cell? ⟨gs, 8, none⟩ = some (.int .i64 a0_8) := (zc BK6.out 8).trans rfl
   go_wp2_with (first | (go_at_call 45; refine (writer_nums.calls 66 (by decide) (by decide) gw _ _ _ [a0_7, a0_8] w _ (IsWT.below_ HI6.out (below_alloc (Below.refl _ _) _)) (below_alloc HB6.out _) (blk_new _ _) K2.out L4.out).mono ?_; rintro e w7 ⟨u7, rfl, hi, hb, hk, hn⟩; have HI7 := ak_ hi; have HB7 := ak_ hb; clear hi hb hk hn) | (go_at_call 23; refine (writer_Bytes.callsT 66 gw _ _ w _ HI7.out L5.out).mono ?_; rintro e w8 ⟨v8, rfl, hR, hi, hb⟩; have HR8 := ak_ (Kd.R_lower hR HB7.out.size); have HB8 := ak_ (below_step HB7.out hb); clear hR hi hb))
   go_ret
   exact ⟨_, rfl, HR8.out, HB8.out⟩
 · rw [if_neg hc] at h
   cases h
structure WA (w0 w : World) (g : Nat) (v : Value) (W : World) (xs : List Int) : Prop where
 ex : ∃ u, IsWT 66 w0 W g u xs ∧ KeepBut w W g v.ownBlock ∧ OwnNext w v u
 bel : Below w0.heap.size w0 W
theorem WA.start {w0 w : World} {g : Nat} {v : Value} {xs : List Int} (hI : IsWT 66 w0 w g v xs) (hB : Below w0.heap.size w0 w) : WA w0 w g v w xs := ⟨⟨v, hI, KeepBut.refl _ _ _, .inl rfl⟩, hB⟩
theorem WA.size {w0 w W : World} {g : Nat} {v : Value} {xs : List Int} (h : WA w0 w g v W xs) : w.heap.size ≤ W.heap.size := by
 obtain ⟨⟨u, hi, hk, ho⟩, hb⟩ := h
 exact hk.1
theorem WA.below {w0 w W W1 : World} {g : Nat} {v : Value} {xs : List Int} (h : WA w0 w g v W xs) (hb : Below W.heap.size W W1) : WA w0 w g v W1 xs := by
 obtain ⟨⟨u, hi, hk, ho⟩, hB⟩ := h
 exact ⟨⟨u, hi.below_ hb, hk.trans (KeepBut.of_below hb g v.ownBlock) (.inl rfl), ho⟩, hB.trans (hb.mono hB.size)⟩
theorem WA.drew {w0 w W : World} {g : Nat} {v : Value} {xs : List Int} (h : WA w0 w g v W xs) : WA w0 w g v W.drew xs := h.below (below_drew1 (Below.refl _ _))
theorem WA.blk {w0 w W : World} {g b : Nat} {v : Value} {xs : List Int} {o : Obj} (h : WA w0 w g v W xs) (hb : w.heap[b]? = some o) (hg : b ≠ g) (hr : some b ≠ v.ownBlock) : W.heap[b]? = some o := by
 obtain ⟨⟨u, hi, hk, ho⟩, hB⟩ := h
 exact hk.blk hb hg hr
theorem WA.call {w0 w W W' : World} {g : Nat} {v u u' : Value} {xs ys : List Int} (hk : KeepBut w W g v.ownBlock) (ho : OwnNext w v u) (hi' : IsWT 66 w0 W' g u' ys) (hb' : Below w0.heap.size w0 W') (hk' : KeepBut W W' g u.ownBlock) (ho' : OwnNext W u u') : WA w0 w g v W' ys :=
 ⟨⟨u', hi', hk.trans hk' ho, own_next hk.1 ho ho'⟩, hb'⟩
theorem WA.via {w0 w W W1 W' : World} {g : Nat} {v u : Value} {xs ys : List Int} (hk : KeepBut w W g v.ownBlock) (ho : OwnNext w v u) (hb : Below W.heap.size W W1) (h : WA w0 W1 g u W' ys) : WA w0 w g v W' ys := by
 obtain ⟨⟨u', hi', hk', ho'⟩, hB⟩ := h
 refine WA.call (xs := xs) hk ho hi' hB ((KeepBut.of_below hb g u.ownBlock).trans hk' (.inl rfl)) ?_
 rcases ho' with ho' | ⟨b, h1, h2⟩
 · exact .inl ho'
 · exact .inr ⟨b, h1, Nat.le_trans hb.size h2⟩
theorem wa_num {w0 w W : World} {g : Nat} {v : Value} {xs : List Int} (h : WA w0 w g v W xs) (n : Int) (hn : I64_ n) (hx : xs.length < 100000000) :
 Calls Tryd.prog 49 #[.pointer (some ⟨g, 0, none⟩), .int .i64 n] W fun e w' => e = .returned (.tuple #[]) ∧ WA w0 w g v w' (xs ++ nbs (clampN n) 8) := by
 obtain ⟨⟨u, hi, hk, ho⟩, hb⟩ := h
 refine (writer_Num.callsT 66 (by decide) g u xs n w0 W hi hb hn hx).mono ?_
 rintro e w' ⟨u', rfl, hi', hb', hk', ho'⟩
 exact ⟨rfl, .call (xs := xs) hk ho hi' hb' hk' ho'⟩
theorem wa_text {w0 w W : World} {g : Nat} {v : Value} {xs : List Int} (h : WA w0 w g v W xs) (s : ByteArray) (hx : xs.length + s.size < 100000000) :
 Calls Tryd.prog 46 #[.pointer (some ⟨g, 0, none⟩), .string s] W fun e w' => e = .returned (.tuple #[]) ∧ WA w0 w g v w' (xs ++ nbs (clampN s.size) 8 ++ bytesOf s) := by
 obtain ⟨⟨u, hi, hk, ho⟩, hb⟩ := h
 refine (writer_Text.callsT 66 (by decide) g u xs s w0 W hi hb hx).mono ?_
 rintro e w' ⟨u', rfl, hi', hb', hk', ho'⟩
 exact ⟨rfl, .call (xs := xs) hk ho hi' hb' hk' ho'⟩
theorem wa_nums {w0 w W : World} {g : Nat} {v : Value} {xs : List Int} (h : WA w0 w g v W xs) (b : Nat) (ns : List Int) (hb : W.heap[b]? = some (.cells (ints ns) 3 (0, 0))) (hn : ∀ n ∈ ns, I64_ n) (hx : xs.length + 8 * ns.length < 100000000) :
 Calls Tryd.prog 45 #[.pointer (some ⟨g, 0, none⟩), .slice (some ⟨b, 0, none⟩) ns.length ns.length] W fun e w' => e = .returned (.tuple #[]) ∧ WA w0 w g v w' (xs ++ encN ns) := by
 obtain ⟨⟨u, hi, hk, ho⟩, hB⟩ := h
 refine (writer_nums.calls 66 (by decide) (by decide) g u xs b ns w0 W hi hB hb hn hx).mono ?_
 rintro e w' ⟨u', rfl, hi', hb', hk', ho'⟩
 exact ⟨rfl, .call (xs := xs) hk ho hi' hb' hk' ho'⟩
def planV (p : S59) : Array Value := #[.int .i64 p.f0, .int .i64 p.f1, .int .i64 p.f2, .int .i64 p.f3]
def planW (p : S59) : List Int := encN [p.f0, p.f1, p.f2, p.f3]
def PlanI (p : S59) : Prop := I64_ p.f0 ∧ I64_ p.f1 ∧ I64_ p.f2 ∧ I64_ p.f3
theorem wa_plan {w0 w W : World} {g : Nat} {v : Value} {xs : List Int} (h : WA w0 w g v W xs) (p : S59) (hp : PlanI p) (hx : xs.length < 10000000) :
 Calls Tryd.prog 75 #[.pointer (some ⟨g, 0, none⟩), .agg #[.int .i64 p.f0, .int .i64 p.f1, .int .i64 p.f2, .int .i64 p.f3]] W fun e w' => e = .returned (.tuple #[]) ∧ WA w0 w g v w' (xs ++ planW p) := by
 obtain ⟨⟨u, hi, hk, ho⟩, hB⟩ := h
 have HK := ak_ hk
 have HO := ak_ ho
 have HN := ak_ (show ∀ n ∈ [p.f0, p.f1, p.f2, p.f3], I64_ n from fun n hn => by
  obtain ⟨a, b, c, d⟩ := hp
  simp only [List.mem_cons, List.not_mem_nil, or_false] at hn
  rcases hn with h | h | h | h <;> subst h <;> assumption)
 have HX := ak_ hx
 have HA0 := ak_ (WA.start hi hB)
 clear hk ho hp hx hi hB
 obtain ⟨p0, p1, p2, p3⟩ := p
 dsimp only at *
 go_enter Tryd.func75, Tryd.ntmps75
 go_upto_region 1 with (fail)
 have HZ := ak_ (blk_new W (.cells #[.int .i64 p0, .int .i64 p1, .int .i64 p2, .int .i64 p3] 59))
 have HB1 := ak_ (show Below W.heap.size W (W.alloc (.cells #[.int .i64 p0, .int .i64 p1, .int .i64 p2, .int .i64 p3] 59)) from below_alloc (Below.refl _ _) _)
 generalize W.alloc (.cells #[.int .i64 p0, .int .i64 p1, .int .i64 p2, .int .i64 p3] 59) = W1 at *
 have HA1 := ak_ (HA0.out.below HB1.out)
 generalize W.heap.size = z at HZ ⊢
 have z0 : W1.cell? ⟨z, 0, none⟩ = some (.int .i64 p0) := (zc HZ.out 0).trans rfl
 have z1 : W1.cell? ⟨z, 1, none⟩ = some (.int .i64 p1) := (zc HZ.out 1).trans rfl
 have z2 : W1.cell? ⟨z, 2, none⟩ = some (.int .i64 p2) := (zc HZ.out 2).trans rfl
 have z3 : W1.cell? ⟨z, 3, none⟩ = some (.int .i64 p3) := (zc HZ.out 3).trans rfl
 go_wp2_with (go_at_call 45; (refine (wa_nums (HA1.out.below (below_alloc (Below.refl _ _) _)) W1.heap.size [p0, p1, p2, p3] (blk_new W1 _) HN.out (by have := HX.out; simp; omega)).mono ?_; rintro e w5 ⟨rfl, hA⟩; have HA5 := ak_ hA; clear hA))
 go_end0
 obtain ⟨⟨u', hi', hk', ho'⟩, hB'⟩ := HA5.out
 exact ⟨rfl, .call (xs := xs) HK.out HO.out hi' hB' hk' ho'⟩
def stepW (s : S61) : List Int := nbs (clampN s.f0.size) 8 ++ bytesOf s.f0 ++ (nbs (clampN s.f1.size) 8 ++ bytesOf s.f1) ++ nbs (clampN s.f2) 8 ++ planW s.f3 ++ planW s.f4 ++ nbs (clampN s.f5) 8
def StepI (s : S61) : Prop := s.f0.size < 1000000 ∧ s.f1.size < 1000000 ∧ I64_ s.f2 ∧ PlanI s.f3 ∧ PlanI s.f4 ∧ I64_ s.f5
theorem planW_len (p : S59) : (planW p).length = 32 := by unfold planW; rw [encN_len]; rfl
theorem stepW_len (s : S61) : (stepW s).length = 96 + s.f0.size + s.f1.size := by
 simp [stepW, planW_len, bytesOf_length, nbs]
 omega
def stepV (s : S61) : Array Value := #[.string s.f0, .string s.f1, .int .i64 s.f2, .int .i64 s.f3.f0, .int .i64 s.f3.f1, .int .i64 s.f3.f2, .int .i64 s.f3.f3, .int .i64 s.f4.f0, .int .i64 s.f4.f1, .int .i64 s.f4.f2, .int .i64 s.f4.f3, .int .i64 s.f5]
theorem wa_step {w0 w W : World} {g : Nat} {v : Value} {xs : List Int} (h : WA w0 w g v W xs) (s : S61) (hs : StepI s) (hx : xs.length < 1000000) :
 Calls Tryd.prog 51 #[.pointer (some ⟨g, 0, none⟩), .agg (stepV s)] W fun e w' => e = .returned (.tuple #[]) ∧ WA w0 w g v w' (xs ++ stepW s) := by
 obtain ⟨⟨u, hi, hk, ho⟩, hB⟩ := h
 have HK := ak_ hk
 have HO := ak_ ho
 have HS := ak_ hs
 have HX := ak_ hx
 have HA0 := ak_ (WA.start hi hB)
 have HI0 := ak_ hi
 have HST := ak_ (show stepW s = _ from rfl)
 clear hk ho hx hi hB
 obtain ⟨f0, f1, f2, f3, f4, f5⟩ := s
 have HP3 := ak_ (show PlanI f3 from hs.2.2.2.1)
 have HP4 := ak_ (show PlanI f4 from hs.2.2.2.2.1)
 have HZ0 := ak_ (show f0.size < 1000000 ∧ f1.size < 1000000 from ⟨hs.1, hs.2.1⟩)
 have HN2 := ak_ (show I64_ f2 from hs.2.2.1)
 have HN5 := ak_ (show I64_ f5 from hs.2.2.2.2.2)
 have HX1 := ak_ (show xs.length + f0.size < 100000000 by have := HZ0.out; have := HX.out; omega)
 have hb0 := bytesOf_length f0
 have hb1 := bytesOf_length f1
 have HX2 := ak_ (show (xs ++ nbs (clampN f0.size) 8 ++ bytesOf f0).length + f1.size < 100000000 by have := HZ0.out; have := HX.out; simp [nbs, hb0]; omega)
 have HX3 := ak_ (show (xs ++ nbs (clampN f0.size) 8 ++ bytesOf f0 ++ nbs (clampN f1.size) 8 ++ bytesOf f1).length < 100000000 by have := HZ0.out; have := HX.out; simp [nbs, hb0, hb1]; omega)
 have HX4 := ak_ (show (xs ++ nbs (clampN f0.size) 8 ++ bytesOf f0 ++ nbs (clampN f1.size) 8 ++ bytesOf f1 ++ nbs (clampN f2) 8).length < 10000000 by have := HZ0.out; have := HX.out; simp [nbs, hb0, hb1]; omega)
 have HX5 := ak_ (show (xs ++ nbs (clampN f0.size) 8 ++ bytesOf f0 ++ nbs (clampN f1.size) 8 ++ bytesOf f1 ++ nbs (clampN f2) 8 ++ planW f3).length < 10000000 by have := HZ0.out; have := HX.out; simp [nbs, hb0, hb1, planW_len]; omega)
 have HX6 := ak_ (show (xs ++ nbs (clampN f0.size) 8 ++ bytesOf f0 ++ nbs (clampN f1.size) 8 ++ bytesOf f1 ++ nbs (clampN f2) 8 ++ planW f3 ++ planW f4).length < 100000000 by have := HZ0.out; have := HX.out; simp [nbs, hb0, hb1, planW_len]; omega)
 clear hs hb0 hb1
 obtain ⟨p0, p1, p2, p3⟩ := f3
 obtain ⟨q0, q1, q2, q3⟩ := f4
 unfold stepV
 dsimp only at *
 go_enter Tryd.func51, Tryd.ntmps51
 go_upto_region 1 with (fail)
 have HZ := ak_ (blk_new W (.cells #[.string f0, .string f1, .int .i64 f2, .int .i64 p0, .int .i64 p1, .int .i64 p2, .int .i64 p3, .int .i64 q0, .int .i64 q1, .int .i64 q2, .int .i64 q3, .int .i64 f5] 61))
 have HB1 := ak_ (show Below W.heap.size W (W.alloc (.cells #[.string f0, .string f1, .int .i64 f2, .int .i64 p0, .int .i64 p1, .int .i64 p2, .int .i64 p3, .int .i64 q0, .int .i64 q1, .int .i64 q2, .int .i64 q3, .int .i64 f5] 61)) from below_alloc (Below.refl _ _) _)
 generalize W.alloc (.cells #[.string f0, .string f1, .int .i64 f2, .int .i64 p0, .int .i64 p1, .int .i64 p2, .int .i64 p3, .int .i64 q0, .int .i64 q1, .int .i64 q2, .int .i64 q3, .int .i64 f5] 61) = W1 at *
 have HI1 := ak_ (HI0.out.below_ HB1.out)
 have HA1 := ak_ (WA.start HI1.out (HA0.out.below HB1.out).bel)
 have HLT := ak_ (show W.heap.size ≠ g from by have := blk_lt HI0.out.1; omega)
 generalize W.heap.size = z at HZ HLT ⊢
 have HNE := ak_ (show some z ≠ u.ownBlock from Kd.R_ne HI1.out.2.2 HZ.out (by decide))
 have y1 : W1.cell? ⟨z, 0, none⟩ = some (.string f0) := (zc HZ.out 0).trans rfl
 refine start_ (n := 6) (S := fun w' => w'.cell? ⟨z, 0, none⟩ = some (.string f0)) (ds := []) #[false, false, false, false, false, false] (by kernel_rfl) rfl rfl (y1) (fun hHeld => ?_)
 refine pure_ (i := 0) (N := some 4) (v := ?_) (a' := ?_) #[true, false, false, false, false, false] rfl rfl (by kernel_rfl) (fun _ _ _ h => h) (Or.inl ⟨by rfl, ?_⟩) ?_ ?_
 rotate_left
 · intro w'
   go_simp
   with_reducible rfl
 rotate_left
 · simp only [Act.put, sa_, sz_, ss_, i64_w, i32_w]
   rfl
 refine pure_ (i := 1) (N := some 5) (v := ?_) (a' := ?_) #[true, true, false, false, false, false] rfl rfl (by kernel_rfl) (fun _ _ _ h => h) (Or.inl ⟨by rfl, ?_⟩) ?_ ?_
 rotate_left
 · intro w'
   go_simp
   with_reducible rfl
 rotate_left
 · simp only [Act.put, sa_, sz_, ss_, i64_w, i32_w]
   rfl
 refine pure_ (i := 2) (N := some 6) (v := ?_) (a' := ?_) #[true, true, true, false, false, false] rfl rfl (by kernel_rfl) (fun _ _ _ h => h) (Or.inl ⟨by rfl, ?_⟩) ?_ ?_
 rotate_left
 · intro w'
   go_simp
   with_reducible rfl
 rotate_left
 · simp only [Act.put, sa_, sz_, ss_, i64_w, i32_w]
   rfl
 refine pure_ (i := 3) (N := some 7) (v := ?_) (a' := ?_) #[true, true, true, true, false, false] rfl rfl (by kernel_rfl) (fun _ _ _ h => h) (Or.inl ⟨by rfl, ?_⟩) ?_ ?_
 rotate_left
 · intro w'
   go_simp
   with_reducible rfl
 rotate_left
 · simp only [Act.put, sa_, sz_, ss_, i64_w, i32_w]
   rfl
 refine take_ (i := 4) (N := some 8) (v := ?_) (a' := ?_) #[true, true, true, true, true, false] rfl rfl (by kernel_rfl) (fun _ _ _ h => h) (Or.inl ⟨by rfl, ?_⟩) hHeld ?_ ?_
 rotate_left
 · intro w' s0
   go_simp
   with_reducible rfl
 rotate_left
 · simp only [Act.put, sa_, sz_, ss_, i64_w, i32_w]
   rfl
 refine one_ (i := 5) (N := some 9) #[true, true, true, true, true, true] rfl rfl (by kernel_rfl) (by decide) (fun K hK => ?_)
 refine goes_ Tryd.func46 (by kernel_rfl) rfl #[.pointer (some ⟨g, 0, none⟩), .string f0] (by rfl) rfl rfl (by simp only [mt_, mc_, mn_]; rfl) ?_
 with_reducible refine (wa_text HA1.out.drew f0 HX1.out).mono ?_
 rintro e w2 ⟨rfl, hA⟩
 refine ⟨_, rfl, ?_⟩
 have HA2 := ak_ hA
 have HZ2 := ak_ (HA2.out.blk HZ.out HLT.out HNE.out)
 clear hA
 refine hK.out _ _ ((zc HZ2.out 0).trans rfl) (fun hHeld => ?_)
 clear hK K
 refine norm_ (a' := ?_) ?_ ?_
 rotate_left
 · show Act.put _ (some 9) _ = _
   simp only [Act.put, sa_, sz_, ss_, i64_w, i32_w]
   rfl
 refine done_ (by kernel_rfl) ?_
 clear hHeld y1
 go_upto_region 2 with (fail)
 have y1 : w2.cell? ⟨z, 1, none⟩ = some (.string f1) := (zc HZ2.out 1).trans rfl
 refine start_ (n := 6) (S := fun w' => w'.cell? ⟨z, 1, none⟩ = some (.string f1)) (ds := []) #[false, false, false, false, false, false] (by kernel_rfl) rfl rfl (y1) (fun hHeld => ?_)
 refine pure_ (i := 0) (N := some 10) (v := ?_) (a' := ?_) #[true, false, false, false, false, false] rfl rfl (by kernel_rfl) (fun _ _ _ h => h) (Or.inl ⟨by rfl, ?_⟩) ?_ ?_
 rotate_left
 · intro w'
   go_simp
   with_reducible rfl
 rotate_left
 · simp only [Act.put, sa_, sz_, ss_, i64_w, i32_w]
   rfl
 refine pure_ (i := 1) (N := some 11) (v := ?_) (a' := ?_) #[true, true, false, false, false, false] rfl rfl (by kernel_rfl) (fun _ _ _ h => h) (Or.inl ⟨by rfl, ?_⟩) ?_ ?_
 rotate_left
 · intro w'
   go_simp
   with_reducible rfl
 rotate_left
 · simp only [Act.put, sa_, sz_, ss_, i64_w, i32_w]
   rfl
 refine pure_ (i := 2) (N := some 12) (v := ?_) (a' := ?_) #[true, true, true, false, false, false] rfl rfl (by kernel_rfl) (fun _ _ _ h => h) (Or.inl ⟨by rfl, ?_⟩) ?_ ?_
 rotate_left
 · intro w'
   go_simp
   with_reducible rfl
 rotate_left
 · simp only [Act.put, sa_, sz_, ss_, i64_w, i32_w]
   rfl
 refine pure_ (i := 3) (N := some 13) (v := ?_) (a' := ?_) #[true, true, true, true, false, false] rfl rfl (by kernel_rfl) (fun _ _ _ h => h) (Or.inl ⟨by rfl, ?_⟩) ?_ ?_
 rotate_left
 · intro w'
   go_simp
   with_reducible rfl
 rotate_left
 · simp only [Act.put, sa_, sz_, ss_, i64_w, i32_w]
   rfl
 refine take_ (i := 4) (N := some 14) (v := ?_) (a' := ?_) #[true, true, true, true, true, false] rfl rfl (by kernel_rfl) (fun _ _ _ h => h) (Or.inl ⟨by rfl, ?_⟩) hHeld ?_ ?_
 rotate_left
 · intro w' s0
   go_simp
   with_reducible rfl
 rotate_left
 · simp only [Act.put, sa_, sz_, ss_, i64_w, i32_w]
   rfl
 refine one_ (i := 5) (N := some 15) #[true, true, true, true, true, true] rfl rfl (by kernel_rfl) (by decide) (fun K hK => ?_)
 refine goes_ Tryd.func46 (by kernel_rfl) rfl #[.pointer (some ⟨g, 0, none⟩), .string f1] (by rfl) rfl rfl (by simp only [mt_, mc_, mn_]; rfl) ?_
 with_reducible refine (wa_text HA2.out.drew f1 HX2.out).mono ?_
 rintro e w3 ⟨rfl, hA⟩
 refine ⟨_, rfl, ?_⟩
 have HA3 := ak_ hA
 have HZ3 := ak_ (HA3.out.blk HZ.out HLT.out HNE.out)
 clear hA
 refine hK.out _ _ ((zc HZ3.out 1).trans rfl) (fun hHeld => ?_)
 clear hK K
 refine norm_ (a' := ?_) ?_ ?_
 rotate_left
 · show Act.put _ (some 15) _ = _
   simp only [Act.put, sa_, sz_, ss_, i64_w, i32_w]
   rfl
 refine done_ (by kernel_rfl) ?_
 clear hHeld y1
 go_upto_region 3 with (fail)
 have y1 : w3.cell? ⟨z, 2, none⟩ = some (.int .i64 f2) := (zc HZ3.out 2).trans rfl
 refine start_ (n := 6) (S := fun w' => w'.cell? ⟨z, 2, none⟩ = some (.int .i64 f2)) (ds := []) #[false, false, false, false, false, false] (by kernel_rfl) rfl rfl (y1) (fun hHeld => ?_)
 refine pure_ (i := 0) (N := some 16) (v := ?_) (a' := ?_) #[true, false, false, false, false, false] rfl rfl (by kernel_rfl) (fun _ _ _ h => h) (Or.inl ⟨by rfl, ?_⟩) ?_ ?_
 rotate_left
 · intro w'
   go_simp
   with_reducible rfl
 rotate_left
 · simp only [Act.put, sa_, sz_, ss_, i64_w, i32_w]
   rfl
 refine pure_ (i := 1) (N := some 17) (v := ?_) (a' := ?_) #[true, true, false, false, false, false] rfl rfl (by kernel_rfl) (fun _ _ _ h => h) (Or.inl ⟨by rfl, ?_⟩) ?_ ?_
 rotate_left
 · intro w'
   go_simp
   with_reducible rfl
 rotate_left
 · simp only [Act.put, sa_, sz_, ss_, i64_w, i32_w]
   rfl
 refine pure_ (i := 2) (N := some 18) (v := ?_) (a' := ?_) #[true, true, true, false, false, false] rfl rfl (by kernel_rfl) (fun _ _ _ h => h) (Or.inl ⟨by rfl, ?_⟩) ?_ ?_
 rotate_left
 · intro w'
   go_simp
   with_reducible rfl
 rotate_left
 · simp only [Act.put, sa_, sz_, ss_, i64_w, i32_w]
   rfl
 refine pure_ (i := 3) (N := some 19) (v := ?_) (a' := ?_) #[true, true, true, true, false, false] rfl rfl (by kernel_rfl) (fun _ _ _ h => h) (Or.inl ⟨by rfl, ?_⟩) ?_ ?_
 rotate_left
 · intro w'
   go_simp
   with_reducible rfl
 rotate_left
 · simp only [Act.put, sa_, sz_, ss_, i64_w, i32_w]
   rfl
 refine take_ (i := 4) (N := some 20) (v := ?_) (a' := ?_) #[true, true, true, true, true, false] rfl rfl (by kernel_rfl) (fun _ _ _ h => h) (Or.inl ⟨by rfl, ?_⟩) hHeld ?_ ?_
 rotate_left
 · intro w' s0
   go_simp
   with_reducible rfl
 rotate_left
 · simp only [Act.put, sa_, sz_, ss_, i64_w, i32_w]
   rfl
 refine one_ (i := 5) (N := some 21) #[true, true, true, true, true, true] rfl rfl (by kernel_rfl) (by decide) (fun K hK => ?_)
 refine goes_ Tryd.func49 (by kernel_rfl) rfl #[.pointer (some ⟨g, 0, none⟩), .int .i64 f2] (by rfl) rfl rfl (by simp only [mt_, mc_, mn_]; rfl) ?_
 with_reducible refine (wa_num HA3.out.drew f2 HN2.out HX3.out).mono ?_
 rintro e w4 ⟨rfl, hA⟩
 refine ⟨_, rfl, ?_⟩
 have HA4 := ak_ hA
 have HZ4 := ak_ (HA4.out.blk HZ.out HLT.out HNE.out)
 clear hA
 refine hK.out _ _ ((zc HZ4.out 2).trans rfl) (fun hHeld => ?_)
 clear hK K
 refine norm_ (a' := ?_) ?_ ?_
 rotate_left
 · show Act.put _ (some 21) _ = _
   simp only [Act.put, sa_, sz_, ss_, i64_w, i32_w]
   rfl
 refine done_ (by kernel_rfl) ?_
 clear hHeld y1
 have y3 : w4.cell? ⟨z, 3, none⟩ = some (.int .i64 p0) := (zc HZ4.out 3).trans rfl
 have y4 : w4.cell? ⟨z, 4, none⟩ = some (.int .i64 p1) := (zc HZ4.out 4).trans rfl
 have y5 : w4.cell? ⟨z, 5, none⟩ = some (.int .i64 p2) := (zc HZ4.out 5).trans rfl
 have y6 : w4.cell? ⟨z, 6, none⟩ = some (.int .i64 p3) := (zc HZ4.out 6).trans rfl
 go_upto_region 5 with (go_at_call 75; refine (wa_plan HA4.out ⟨p0, p1, p2, p3⟩ HP3.out HX4.out).mono ?_; rintro e w5 ⟨rfl, hA⟩; have HA5 := ak_ hA; have HZ5 := ak_ (HA5.out.blk HZ.out HLT.out HNE.out); clear hA)
 clear y3 y4 y5 y6
 have y3 : w5.cell? ⟨z, 7, none⟩ = some (.int .i64 q0) := (zc HZ5.out 7).trans rfl
 have y4 : w5.cell? ⟨z, 8, none⟩ = some (.int .i64 q1) := (zc HZ5.out 8).trans rfl
 have y5 : w5.cell? ⟨z, 9, none⟩ = some (.int .i64 q2) := (zc HZ5.out 9).trans rfl
 have y6 : w5.cell? ⟨z, 10, none⟩ = some (.int .i64 q3) := (zc HZ5.out 10).trans rfl
 go_upto_region 6 with (go_at_call 75; refine (wa_plan HA5.out ⟨q0, q1, q2, q3⟩ HP4.out HX5.out).mono ?_; rintro e w6 ⟨rfl, hA⟩; have HA6 := ak_ hA; have HZ6 := ak_ (HA6.out.blk HZ.out HLT.out HNE.out); clear hA)
 clear y3 y4 y5 y6
 have y1 : w6.cell? ⟨z, 11, none⟩ = some (.int .i64 f5) := (zc HZ6.out 11).trans rfl
 refine start_ (n := 6) (S := fun w' => w'.cell? ⟨z, 11, none⟩ = some (.int .i64 f5)) (ds := []) #[false, false, false, false, false, false] (by kernel_rfl) rfl rfl (y1) (fun hHeld => ?_)
 refine pure_ (i := 0) (N := some 30) (v := ?_) (a' := ?_) #[true, false, false, false, false, false] rfl rfl (by kernel_rfl) (fun _ _ _ h => h) (Or.inl ⟨by rfl, ?_⟩) ?_ ?_
 rotate_left
 · intro w'
   go_simp
   with_reducible rfl
 rotate_left
 · simp only [Act.put, sa_, sz_, ss_, i64_w, i32_w]
   rfl
 refine pure_ (i := 1) (N := some 31) (v := ?_) (a' := ?_) #[true, true, false, false, false, false] rfl rfl (by kernel_rfl) (fun _ _ _ h => h) (Or.inl ⟨by rfl, ?_⟩) ?_ ?_
 rotate_left
 · intro w'
   go_simp
   with_reducible rfl
 rotate_left
 · simp only [Act.put, sa_, sz_, ss_, i64_w, i32_w]
   rfl
 refine pure_ (i := 2) (N := some 32) (v := ?_) (a' := ?_) #[true, true, true, false, false, false] rfl rfl (by kernel_rfl) (fun _ _ _ h => h) (Or.inl ⟨by rfl, ?_⟩) ?_ ?_
 rotate_left
 · intro w'
   go_simp
   with_reducible rfl
 rotate_left
 · simp only [Act.put, sa_, sz_, ss_, i64_w, i32_w]
   rfl
 refine pure_ (i := 3) (N := some 33) (v := ?_) (a' := ?_) #[true, true, true, true, false, false] rfl rfl (by kernel_rfl) (fun _ _ _ h => h) (Or.inl ⟨by rfl, ?_⟩) ?_ ?_
 rotate_left
 · intro w'
   go_simp
   with_reducible rfl
 rotate_left
 · simp only [Act.put, sa_, sz_, ss_, i64_w, i32_w]
   rfl
 refine take_ (i := 4) (N := some 34) (v := ?_) (a' := ?_) #[true, true, true, true, true, false] rfl rfl (by kernel_rfl) (fun _ _ _ h => h) (Or.inl ⟨by rfl, ?_⟩) hHeld ?_ ?_
 rotate_left
 · intro w' s0
   go_simp
   with_reducible rfl
 rotate_left
 · simp only [Act.put, sa_, sz_, ss_, i64_w, i32_w]
   rfl
 refine one_ (i := 5) (N := some 35) #[true, true, true, true, true, true] rfl rfl (by kernel_rfl) (by decide) (fun K hK => ?_)
 refine goes_ Tryd.func49 (by kernel_rfl) rfl #[.pointer (some ⟨g, 0, none⟩), .int .i64 f5] (by rfl) rfl rfl (by simp only [mt_, mc_, mn_]; rfl) ?_
 with_reducible refine (wa_num HA6.out.drew f5 HN5.out HX6.out).mono ?_
 rintro e w7 ⟨rfl, hA⟩
 refine ⟨_, rfl, ?_⟩
 have HA7 := ak_ hA
 have HZ7 := ak_ (HA7.out.blk HZ.out HLT.out HNE.out)
 clear hA
 refine hK.out _ _ ((zc HZ7.out 11).trans rfl) (fun hHeld => ?_)
 clear hK K
 refine norm_ (a' := ?_) ?_ ?_
 rotate_left
 · show Act.put _ (some 35) _ = _
   simp only [Act.put, sa_, sz_, ss_, i64_w, i32_w]
   rfl
 refine done_ (by kernel_rfl) ?_
 clear hHeld y1
 go_end0
 refine ⟨rfl, WA.via (xs := xs) HK.out HO.out HB1.out ?_⟩
 have := HA7.out
 unfold stepW
 dsimp only
 simp only [← List.append_assoc] at this ⊢
 exact this
def stepsW (l : List S61) : List Int := l.flatMap stepW
def defW (n : ByteArray) (dl : Int) (l : List S61) : List Int := nbs (clampN n.size) 8 ++ bytesOf n ++ encN [dl, l.length] ++ stepsW l
theorem stepsW_take (l : List S61) (j : Nat) : (stepsW (l.take j)).length ≤ (stepsW l).length := by
 conv => rhs; rw [← List.take_append_drop j l]
 unfold stepsW
 rw [List.flatMap_append, List.length_append]
 omega
theorem stepsW_succ (l : List S61) (j : Nat) (h : j < l.length) : stepsW (l.take (j + 1)) = stepsW (l.take j) ++ stepW l[j] := by
 unfold stepsW
 rw [List.take_succ_eq_append_getElem h, List.flatMap_append]
 simp
theorem rd_at61 {l : List S61} {j : Nat} (h : j < l.length) : rT l (j : Int) = l[j] := by
 unfold rT
 rw [Int.toNat_natCast, List.getD_eq_getElem?_getD, List.getElem?_eq_getElem h]
 rfl
theorem wa_def {w0 w W : World} {g : Nat} {v : Value} {xs : List Int} (h : WA w0 w g v W xs) (n : ByteArray) (dl : Int) (A : Option Addr) (c : Nat) (l : List S61) (hr : Kd.C k61 w0 A l.length l) (hdl : I64_ dl) (hl : l.length < 1000000) (hs : ∀ s ∈ l, StepI s) (hx : (xs ++ defW n dl l).length < 1000000) :
 Calls Tryd.prog 22 #[.pointer (some ⟨g, 0, none⟩), .agg #[.string n, .int .i64 dl, .slice A l.length c]] W fun e w' => e = .returned (.tuple #[]) ∧ WA w0 w g v w' (xs ++ defW n dl l) := by
 obtain ⟨⟨u, hi, hk, ho⟩, hB⟩ := h
 have HK := ak_ hk
 have HO := ak_ ho
 have HR := ak_ hr
 have HS := ak_ hs
 have HL := ak_ hl
 have HI0 := ak_ hi
 have HA0 := ak_ (WA.start hi hB)
 have hb0 := bytesOf_length n
 have HLEN := ak_ (show xs.length + 24 + n.size + (stepsW l).length < 1000000 by simp [defW, nbs, hb0, encN_len] at hx; omega)
 have HX1 := ak_ (show xs.length + n.size < 100000000 by have := HLEN.out; omega)
 have HX2 := ak_ (show (xs ++ nbs (clampN n.size) 8 ++ bytesOf n).length + 8 * [dl, (l.length : Int)].length < 100000000 by have := HLEN.out; simp [nbs, hb0]; omega)
 have HXJ := ak_ (show ∀ j, (xs ++ nbs (clampN n.size) 8 ++ bytesOf n ++ encN [dl, (l.length : Int)] ++ stepsW (l.take j)).length < 1000000 from fun j => by have := HLEN.out; have := stepsW_take l j; simp [nbs, hb0, encN_len]; omega)
 have HN := ak_ (show ∀ m ∈ [dl, (l.length : Int)], I64_ m from fun m hm => by
  simp only [List.mem_cons, List.not_mem_nil, or_false] at hm
  rcases hm with h | h <;> subst h
  · exact hdl
  · unfold I64_; omega)
 clear hk ho hx hi hB hb0 hr hs hl hdl
 go_enter Tryd.func22, Tryd.ntmps22
 go_upto_region 1 with (fail)
 have HZ := ak_ (blk_new W (.cells #[.string n, .int .i64 dl, .slice A l.length c] 24))
 have HB1 := ak_ (show Below W.heap.size W (W.alloc (.cells #[.string n, .int .i64 dl, .slice A l.length c] 24)) from below_alloc (Below.refl _ _) _)
 generalize W.alloc (.cells #[.string n, .int .i64 dl, .slice A l.length c] 24) = W1 at *
 have HI1 := ak_ (HI0.out.below_ HB1.out)
 have HA1 := ak_ (WA.start HI1.out (HA0.out.below HB1.out).bel)
 have HLT := ak_ (show W.heap.size ≠ g from by have := blk_lt HI0.out.1; omega)
 generalize W.heap.size = z at HZ HLT ⊢
 have HNE := ak_ (show some z ≠ u.ownBlock from Kd.R_ne HI1.out.2.2 HZ.out (by decide))
 have y1 : W1.cell? ⟨z, 0, none⟩ = some (.string n) := (zc HZ.out 0).trans rfl
 refine start_ (n := 6) (S := fun w' => w'.cell? ⟨z, 0, none⟩ = some (.string n)) (ds := []) #[false, false, false, false, false, false] (by kernel_rfl) rfl rfl (y1) (fun hHeld => ?_)
 refine pure_ (i := 0) (N := some 6) (v := ?_) (a' := ?_) #[true, false, false, false, false, false] rfl rfl (by kernel_rfl) (fun _ _ _ h => h) (Or.inl ⟨by rfl, ?_⟩) ?_ ?_
 rotate_left
 · intro w'
   go_simp
   with_reducible rfl
 rotate_left
 · simp only [Act.put, sa_, sz_, ss_, i64_w, i32_w]
   rfl
 refine pure_ (i := 1) (N := some 7) (v := ?_) (a' := ?_) #[true, true, false, false, false, false] rfl rfl (by kernel_rfl) (fun _ _ _ h => h) (Or.inl ⟨by rfl, ?_⟩) ?_ ?_
 rotate_left
 · intro w'
   go_simp
   with_reducible rfl
 rotate_left
 · simp only [Act.put, sa_, sz_, ss_, i64_w, i32_w]
   rfl
 refine pure_ (i := 2) (N := some 8) (v := ?_) (a' := ?_) #[true, true, true, false, false, false] rfl rfl (by kernel_rfl) (fun _ _ _ h => h) (Or.inl ⟨by rfl, ?_⟩) ?_ ?_
 rotate_left
 · intro w'
   go_simp
   with_reducible rfl
 rotate_left
 · simp only [Act.put, sa_, sz_, ss_, i64_w, i32_w]
   rfl
 refine pure_ (i := 3) (N := some 9) (v := ?_) (a' := ?_) #[true, true, true, true, false, false] rfl rfl (by kernel_rfl) (fun _ _ _ h => h) (Or.inl ⟨by rfl, ?_⟩) ?_ ?_
 rotate_left
 · intro w'
   go_simp
   with_reducible rfl
 rotate_left
 · simp only [Act.put, sa_, sz_, ss_, i64_w, i32_w]
   rfl
 refine take_ (i := 4) (N := some 10) (v := ?_) (a' := ?_) #[true, true, true, true, true, false] rfl rfl (by kernel_rfl) (fun _ _ _ h => h) (Or.inl ⟨by rfl, ?_⟩) hHeld ?_ ?_
 rotate_left
 · intro w' s0
   go_simp
   with_reducible rfl
 rotate_left
 · simp only [Act.put, sa_, sz_, ss_, i64_w, i32_w]
   rfl
 refine one_ (i := 5) (N := some 11) #[true, true, true, true, true, true] rfl rfl (by kernel_rfl) (by decide) (fun K hK => ?_)
 refine goes_ Tryd.func46 (by kernel_rfl) rfl #[.pointer (some ⟨g, 0, none⟩), .string n] (by rfl) rfl rfl (by simp only [mt_, mc_, mn_]; rfl) ?_
 with_reducible refine (wa_text HA1.out.drew n HX1.out).mono ?_
 rintro e w2 ⟨rfl, hA⟩
 refine ⟨_, rfl, ?_⟩
 have HA2 := ak_ hA
 have HZ2 := ak_ (HA2.out.blk HZ.out HLT.out HNE.out)
 clear hA
 refine hK.out _ _ ((zc HZ2.out 0).trans rfl) (fun hHeld => ?_)
 clear hK K
 refine norm_ (a' := ?_) ?_ ?_
 rotate_left
 · show Act.put _ (some 11) _ = _
   simp only [Act.put, sa_, sz_, ss_, i64_w, i32_w]
   rfl
 refine done_ (by kernel_rfl) ?_
 clear hHeld y1
 have y1 : w2.cell? ⟨z, 1, none⟩ = some (.int .i64 dl) := (zc HZ2.out 1).trans rfl
 have y2 : w2.cell? ⟨z, 2, none⟩ = some (.slice A l.length c) := (zc HZ2.out 2).trans rfl
 go_upto_region 3 with (go_at_call 45; (refine (wa_nums (HA2.out.below (below_alloc (Below.refl _ _) _)) w2.heap.size [dl, (l.length : Int)] (blk_new w2 _) HN.out HX2.out).mono ?_; rintro e w3 ⟨rfl, hA⟩; have HA3 := ak_ hA; have HZ3 := ak_ (HA3.out.blk HZ.out HLT.out HNE.out); clear hA))
 clear y1 y2
 have y2 : w3.cell? ⟨z, 2, none⟩ = some (.slice A l.length c) := (zc HZ3.out 2).trans rfl
 go_wp2
 go_loopw [23] (fun v23 Wj => ∃ j : Nat, j ≤ l.length ∧ v23 = .int .i64 (j : Int) ∧ Aside0 (WA w0 W1 g u Wj (xs ++ nbs (clampN n.size) 8 ++ bytesOf n ++ encN [dl, (l.length : Int)] ++ stepsW (l.take j)))) (fun v23 _ => l.length - (intOf v23).toNat)
 case atStart => exact ⟨0, by omega, rfl, ⟨by have := HA3.out; simpa [stepsW] using this⟩⟩
 case round =>
  clear HA3 HZ3 y2 HA2 HZ2
  obtain ⟨j, hj, rfl, HA⟩ := hrel
  by_cases hlt : j < l.length
  · have HSJ := ak_ (stepsW_succ l j hlt)
    have HSI := ak_ (HS.out _ (List.getElem_mem hlt))
    have HXX := ak_ (HXJ.out j)
    obtain ⟨ad, e, x0, x1, x2, x3, x4, x5, x6, x7, x8, x9, x10, x11⟩ := at_T61 HR.out (j : Int) (by omega) (by omega)
    rw [rd_at61 hlt] at x0 x1 x2 x3 x4 x5 x6 x7 x8 x9 x10 x11
    have HBE := ak_ HA.out.bel
    replace x0 := (HBE.out.cell (World.block_lt_of_cell? w0 _ x0)).trans x0
    replace x1 := (HBE.out.cell (World.block_lt_of_cell? w0 _ x1)).trans x1
    replace x2 := (HBE.out.cell (World.block_lt_of_cell? w0 _ x2)).trans x2
    replace x3 := (HBE.out.cell (World.block_lt_of_cell? w0 _ x3)).trans x3
    replace x4 := (HBE.out.cell (World.block_lt_of_cell? w0 _ x4)).trans x4
    replace x5 := (HBE.out.cell (World.block_lt_of_cell? w0 _ x5)).trans x5
    replace x6 := (HBE.out.cell (World.block_lt_of_cell? w0 _ x6)).trans x6
    replace x7 := (HBE.out.cell (World.block_lt_of_cell? w0 _ x7)).trans x7
    replace x8 := (HBE.out.cell (World.block_lt_of_cell? w0 _ x8)).trans x8
    replace x9 := (HBE.out.cell (World.block_lt_of_cell? w0 _ x9)).trans x9
    replace x10 := (HBE.out.cell (World.block_lt_of_cell? w0 _ x10)).trans x10
    replace x11 := (HBE.out.cell (World.block_lt_of_cell? w0 _ x11)).trans x11
    cases e
    generalize l[j] = d at *
    obtain ⟨i, hi⟩ : ∃ i : Int, (j : Int) = i := ⟨_, rfl⟩
    have HI := ak_ hi
    have hp1 : (0 ≤ i) = True := eq_true (by omega)
    have hq1 : (i < (l.length : Int)) = True := eq_true (by omega)
    have hd1 : decide (i < (l.length : Int)) = true := dt_ (by omega)
    have HKK := ak_ (show wrap64 (i + 1) = ((j + 1 : Nat) : Int) by have := HL.out; unfold wrap64; omega)
    rw [hi] at x0 x1 x2 x3 x4 x5 x6 x7 x8 x9 x10 x11 ⊢
    clear hi
    go_wp2_with (go_at_call 51; refine (wa_step (HA.out.below (below_alloc (Below.refl _ _) _)) d HSI.out HXX.out).mono ?_; rintro e w5 ⟨rfl, hA⟩; have HA5 := ak_ hA; clear hA)
    go_roundw
    case rel => exact ⟨j + 1, by omega, by rw [HKK.out], ⟨by rw [HSJ.out, ← List.append_assoc]; exact HA5.out⟩⟩
    case measure => have := HI.out; simp [intOf, HKK.out]; omega
  · have hjl : j = l.length := by omega
    subst hjl
    have hd1 : decide ((l.length : Int) < (l.length : Int)) = false := df_ (by omega)
    go_wp2
    go_end0
    refine ⟨rfl, WA.via (xs := xs) HK.out HO.out HB1.out ?_⟩
    have := HA.out
    rw [List.take_length] at this
    unfold defW
    simp only [← List.append_assoc] at this ⊢
    exact this
def rPlan (b : List Int) (a fa fe : Int) : Option (S59 × Int × Int × Int) :=
 (fR_Num.f b a fa fe).bind fun q1 => (fR_Num.f b q1.2.1 q1.2.2.1 q1.2.2.2).bind fun q2 => (fR_Num.f b q2.2.1 q2.2.2.1 q2.2.2.2).bind fun q3 => (fR_Num.f b q3.2.1 q3.2.2.1 q3.2.2.2).bind fun q4 =>
 some (⟨q1.1, q2.1, q3.1, q4.1⟩, q4.2)
def rStep (b : List Int) (a fa fe : Int) : Option (S61 × Int × Int × Int) :=
 (fR_Text.f b a fa fe 256).bind fun q1 => (fR_Text.f b q1.2.1 q1.2.2.1 q1.2.2.2 256).bind fun q2 => (fR_Num.f b q2.2.1 q2.2.2.1 q2.2.2.2).bind fun q3 => (rPlan b q3.2.1 q3.2.2.1 q3.2.2.2).bind fun q4 => (rPlan b q4.2.1 q4.2.2.1 q4.2.2.2).bind fun q5 => (fR_Num.f b q5.2.1 q5.2.2.1 q5.2.2.2).bind fun q6 =>
 some (⟨q1.1, q2.1, q3.1, q4.1, q5.1, q6.1⟩, q6.2)
def rSteps (b : List Int) : Nat → List S61 → Int → Int → Int → Option (List S61 × Int × Int × Int)
 | 0, l, a, fa, fe => some (l, a, fa, fe)
 | n + 1, l, a, fa, fe => (rStep b a fa fe).bind fun q => rSteps b n (l ++ [q.1]) q.2.1 q.2.2.1 q.2.2.2
def rDef (b : List Int) (a fa fe : Int) : Option (ByteArray × Int × List S61 × Int × Int × Int) :=
 (fR_Text.f b a fa fe 256).bind fun q1 => (fR_Num.f b q1.2.1 q1.2.2.1 q1.2.2.2).bind fun q2 => (fR_Count.f b q2.2.1 q2.2.2.1 q2.2.2.2 32 96).bind fun q3 =>
 if 0 ≤ q3.1 ∧ q3.1 ≤ 32 then (rSteps b q3.1.toNat [] q3.2.1 q3.2.2.1 q3.2.2.2).bind fun q4 => some (q1.1, q2.1, q4.1, q4.2) else none
structure RA (wb w W : World) (r : Nat) (b : List Int) (a fa fe : Int) : Prop where
 is : IsS108 wb W r b a fa fe
 bel : Below wb.heap.size wb W
 keep : KeepBut w W r none
theorem RA.start {wb W : World} {r : Nat} {b : List Int} {a fa fe : Int} (h : IsS108 wb W r b a fa fe) (hb : Below wb.heap.size wb W) : RA wb W W r b a fa fe := ⟨h, hb, KeepBut.refl _ _ _⟩
theorem RA.below {wb w W W1 : World} {r : Nat} {b : List Int} {a fa fe : Int} (h : RA wb w W r b a fa fe) (hb : Below W.heap.size W W1) : RA wb w W1 r b a fa fe :=
 ⟨h.is.below hb, h.bel.trans (hb.mono h.bel.size), h.keep.trans (KeepBut.of_below hb r none) (.inl rfl)⟩
theorem RA.drew {wb w W : World} {r : Nat} {b : List Int} {a fa fe : Int} (h : RA wb w W r b a fa fe) : RA wb w W.drew r b a fa fe := h.below (below_drew1 (Below.refl _ _))
theorem RA.re {wb w W W' : World} {r : Nat} {b : List Int} {a fa fe a' fa' fe' : Int} (h : RA wb w W r b a fa fe) (h' : RA wb W W' r b a' fa' fe') : RA wb w W' r b a' fa' fe' := ⟨h'.is, h'.bel, h.keep.trans h'.keep (.inl rfl)⟩
theorem ra_num {wb w W : World} {r : Nat} {b : List Int} {a fa fe y a' fa' fe' : Int} (h : RA wb w W r b a fa fe) (hA : fR_Num.f b a fa fe = some (y, a', fa', fe')) :
 Calls Tryd.prog 36 #[.pointer (some ⟨r, 0, none⟩)] W fun e W' => e = .returned (.int .i64 y) ∧ RA wb w W' r b a' fa' fe' ∧ KeepBut W W' r none := by
 refine (fR_Num.calls r b a fa fe y a' fa' fe' wb W h.is h.bel hA).mono ?_
 rintro e W' ⟨rfl, hi, hb, hk⟩
 exact ⟨rfl, ⟨hi, hb, h.keep.trans hk (.inl rfl)⟩, hk⟩
theorem ra_text {wb w W : World} {r : Nat} {b : List Int} {a fa fe m a' fa' fe' : Int} {y : ByteArray} (h : RA wb w W r b a fa fe) (hA : fR_Text.f b a fa fe m = some (y, a', fa', fe')) :
 Calls Tryd.prog 37 #[.pointer (some ⟨r, 0, none⟩), .int .i64 m] W fun e W' => e = .returned (.string y) ∧ RA wb w W' r b a' fa' fe' ∧ KeepBut W W' r none := by
 refine (fR_Text.calls r b a fa fe m y a' fa' fe' wb W h.is h.bel hA).mono ?_
 rintro e W' ⟨rfl, hi, hb, hk⟩
 exact ⟨rfl, ⟨hi, hb, h.keep.trans hk (.inl rfl)⟩, hk⟩
theorem ra_count {wb w W : World} {r : Nat} {b : List Int} {a fa fe m s y a' fa' fe' : Int} (h : RA wb w W r b a fa fe) (hA : fR_Count.f b a fa fe m s = some (y, a', fa', fe')) :
 Calls Tryd.prog 54 #[.pointer (some ⟨r, 0, none⟩), .int .i64 m, .int .i64 s] W fun e W' => e = .returned (.int .i64 y) ∧ RA wb w W' r b a' fa' fe' ∧ KeepBut W W' r none := by
 refine (fR_Count.calls r b a fa fe m s y a' fa' fe' wb W h.is h.bel hA).mono ?_
 rintro e W' ⟨rfl, hi, hb, hk⟩
 exact ⟨rfl, ⟨hi, hb, h.keep.trans hk (.inl rfl)⟩, hk⟩
structure RL (wb w W : World) (r : Nat) (b : List Int) (a fa fe : Int) (bx z : Nat) (t : TypeId) (cs : Array Value) : Prop where
 ra : RA wb w W r b a fa fe
 kb : W.heap[bx]? = some (.cells #[.pointer (some ⟨r, 0, none⟩)] 74 (0, 0))
 kz : W.heap[z]? = some (.cells cs t (0, 0))
 nbr : bx ≠ r
 nzr : z ≠ r
 nbz : bx ≠ z
 gez : w.heap.size ≤ z
 gew : wb.heap.size ≤ w.heap.size
theorem RL.put {wb w W : World} {r : Nat} {b : List Int} {a fa fe : Int} {bx z : Nat} {t : TypeId} {cs : Array Value} (h : RL wb w W r b a fa fe bx z t cs) (j : Nat) (v : Value) {cs' : Array Value} (e : cs.setIfInBounds j v = cs') : RL wb w (W.setCell ⟨z, j, none⟩ v) r b a fa fe bx z t cs' :=
 ⟨⟨h.ra.is.far h.nzr.symm v, h.ra.bel.setCell (p := ⟨z, j, none⟩) (Nat.le_trans h.gew h.gez) v, keep_far h.ra.keep (p := ⟨z, j, none⟩) h.gez v⟩, blk_far h.kb h.nbz v, blk_put h.kz j v e, h.nbr, h.nzr, h.nbz, h.gez, h.gew⟩
theorem RL.call {wb w W W' : World} {r : Nat} {b : List Int} {a fa fe a' fa' fe' : Int} {bx z : Nat} {t : TypeId} {cs : Array Value} (h : RL wb w W r b a fa fe bx z t cs) (hr : RA wb w W' r b a' fa' fe') (hk : KeepBut W W' r none) : RL wb w W' r b a' fa' fe' bx z t cs :=
 ⟨hr, hk.blk h.kb h.nbr (by simp), hk.blk h.kz h.nzr (by simp), h.nbr, h.nzr, h.nbz, h.gez, h.gew⟩
theorem RL.below {wb w W W1 : World} {r : Nat} {b : List Int} {a fa fe : Int} {bx z : Nat} {t : TypeId} {cs : Array Value} (h : RL wb w W r b a fa fe bx z t cs) (hb : Below W.heap.size W W1) : RL wb w W1 r b a fa fe bx z t cs :=
 h.call (h.ra.below hb) (KeepBut.of_below hb r none)
theorem RL.drew {wb w W : World} {r : Nat} {b : List Int} {a fa fe : Int} {bx z : Nat} {t : TypeId} {cs : Array Value} (h : RL wb w W r b a fa fe bx z t cs) : RL wb w W.drew r b a fa fe bx z t cs := h.below (below_drew1 (Below.refl _ _))
theorem RL.ptr {wb w W : World} {r : Nat} {b : List Int} {a fa fe : Int} {bx z : Nat} {t : TypeId} {cs : Array Value} (h : RL wb w W r b a fa fe bx z t cs) : W.cell? ⟨bx, 0, none⟩ = some (.pointer (some ⟨r, 0, none⟩)) := (zc h.kb 0).trans rfl
theorem RL.start {wb w w1 w2 : World} {r : Nat} {b : List Int} {a fa fe : Int} {bx z : Nat} {t : TypeId} {cs : Array Value} (h : RA wb w w r b a fa fe) (hbx : bx = w.heap.size) (h1 : w1.heap[bx]? = some (.cells #[.pointer (some ⟨r, 0, none⟩)] 74 (0, 0))) (hb1 : Below w.heap.size w w1)
 (hz : z = w1.heap.size) (h2 : w2.heap[z]? = some (.cells cs t (0, 0))) (hb2 : Below w1.heap.size w1 w2) : RL wb w w2 r b a fa fe bx z t cs := by
 have hlt := h.is.lt
 have hs := hb1.size
 have h3 := blk_lt h1
 exact ⟨(h.below hb1).below hb2, blk_below h1 hb2, h2, by omega, by omega, by omega, by omega, h.bel.size⟩
theorem ra_plan {wb w W : World} {r : Nat} {b : List Int} {a fa fe a' fa' fe' : Int} {p : S59} (h : RA wb w W r b a fa fe) (hA : rPlan b a fa fe = some (p, a', fa', fe')) :
 Calls Tryd.prog 76 #[.agg #[.pointer (some ⟨r, 0, none⟩)]] W fun e W' => e = .returned (.agg #[.int .i64 p.f0, .int .i64 p.f1, .int .i64 p.f2, .int .i64 p.f3]) ∧ RA wb w W' r b a' fa' fe' ∧ KeepBut W W' r none := by
 unfold rPlan at hA
 obtain ⟨⟨x1, a1, b1, c1⟩, hA1, hA⟩ := ob_ hA
 obtain ⟨⟨x2, a2, b2, c2⟩, hA2, hA⟩ := ob_ hA
 obtain ⟨⟨x3, a3, b3, c3⟩, hA3, hA⟩ := ob_ hA
 obtain ⟨⟨x4, a4, b4, c4⟩, hA4, hA⟩ := ob_ hA
 simp only [Option.some.injEq, Prod.mk.injEq] at hA
 obtain ⟨rfl, rfl, rfl, rfl⟩ := hA
 have A1 := ak_ hA1
 have A2 := ak_ hA2
 have A3 := ak_ hA3
 have A4 := ak_ hA4
 have HRA := ak_ h
 have HR0 := ak_ (RA.start h.is h.bel)
 clear hA1 hA2 hA3 hA4 h
 dsimp only at *
 go_enter Tryd.func76, Tryd.ntmps76
 go_upto_region 1 with (first | ((with_reducible refine gate_dst (N := 1) rfl ?_); refine box_event ?hg (N := 1) ?hd (cs := #[.pointer (some ⟨r, 0, none⟩)]) (t := 74) ?hr ?_; (case hd | hg => rfl); (case hr => first | (go_simp; done) | (go_simp; rfl)); intro bx hg w1 hbox hb; have HB1 := ak_ hb; have BK1 := ak_ hbox; have HG1 := ak_ hg; clear hb hbox hg) | ((with_reducible refine gate_dst (N := 2) rfl ?_); refine box_event ?hg (N := 2) ?hd (cs := #[.int .i64 0, .int .i64 0, .int .i64 0, .int .i64 0]) (t := 59) ?hr ?_; (case hd | hg => rfl); (case hr => first | (go_simp; done) | (go_simp; rfl)); intro z hg w2 hbox hb; have HL2 := ak_ (RL.start HR0.out HG1.out BK1.out HB1.out hg hbox hb); clear hb hbox hg))
 have y0 := HL2.out.ptr
 refine start_ (n := 10) (S := fun w' => w'.cell? ⟨bx, 0, none⟩ = some (.pointer (some ⟨r, 0, none⟩))) (ds := [7, 9]) #[false, false, false, false, false, false, false, false, false, false] (by kernel_rfl) rfl rfl (y0) (fun hHeld => ?_)
 refine pure_ (i := 0) (N := some 3) (v := ?_) (a' := ?_) #[true, false, false, false, false, false, false, false, false, false] rfl rfl (by kernel_rfl) (fun _ _ _ h => h) (Or.inl ⟨by rfl, ?_⟩) ?_ ?_
 rotate_left
 · intro w'
   go_simp
   with_reducible rfl
 rotate_left
 · simp only [Act.put, sa_, sz_, ss_, i64_w, i32_w]
   rfl
 refine pure_ (i := 3) (N := some 6) (v := ?_) (a' := ?_) #[true, false, false, true, false, false, false, false, false, false] rfl rfl (by kernel_rfl) (fun _ _ _ h => h) (Or.inl ⟨by rfl, ?_⟩) ?_ ?_
 rotate_left
 · intro w'
   go_simp
   with_reducible rfl
 rotate_left
 · simp only [Act.put, sa_, sz_, ss_, i64_w, i32_w]
   rfl
 refine take_ (i := 1) (N := some 4) (v := ?_) (a' := ?_) #[true, true, false, true, false, false, false, false, false, false] rfl rfl (by kernel_rfl) (fun _ _ _ h => h) (Or.inl ⟨by rfl, ?_⟩) hHeld ?_ ?_
 rotate_left
 · intro w' s0
   go_simp
   with_reducible rfl
 rotate_left
 · simp only [Act.put, sa_, sz_, ss_, i64_w, i32_w]
   rfl
 refine take_ (i := 4) (N := some 7) (v := ?_) (a' := ?_) #[true, true, false, true, true, false, false, false, false, false] rfl rfl (by kernel_rfl) (fun _ _ _ h => h) (Or.inl ⟨by rfl, ?_⟩) hHeld ?_ ?_
 rotate_left
 · intro w' s0
   go_simp
   with_reducible rfl
 rotate_left
 · simp only [Act.put, sa_, sz_, ss_, i64_w, i32_w]
   rfl
 refine one_ (i := 2) (N := some 5) #[true, true, true, true, true, false, false, false, false, false] rfl rfl (by kernel_rfl) (by decide) (fun K hK => ?_)
 refine goes_ Tryd.func36 (by kernel_rfl) rfl #[.pointer (some ⟨r, 0, none⟩)] (by rfl) rfl rfl (by simp only [mt_, mc_, mn_]; rfl) ?_
 with_reducible refine (ra_num HL2.out.drew.ra A1.out).mono ?_
 rintro e w3 ⟨rfl, hr, hk⟩
 refine ⟨_, rfl, ?_⟩
 have HL3 := ak_ (HL2.out.drew.call hr hk)
 clear hr hk
 refine hK.out _ _ HL3.out.ptr (fun hHeld => ?_)
 clear hK K
 refine norm_ (a' := ?_) ?_ ?_
 rotate_left
 · show Act.put _ (some 5) _ = _
   simp only [Act.put, sa_, sz_, ss_, i64_w, i32_w]
   rfl
 refine pure_ (i := 6) (N := some 9) (v := ?_) (a' := ?_) #[true, true, true, true, true, false, true, false, false, false] rfl rfl (by kernel_rfl) (fun _ _ _ h => h) (Or.inl ⟨by rfl, ?_⟩) ?_ ?_
 rotate_left
 · intro w'
   go_simp
   with_reducible rfl
 rotate_left
 · simp only [Act.put, sa_, sz_, ss_, i64_w, i32_w]
   rfl
 refine one_ (i := 5) (N := some 8) #[true, true, true, true, true, true, true, false, false, false] rfl rfl (by kernel_rfl) (by decide) (fun K hK => ?_)
 refine goes_ Tryd.func36 (by kernel_rfl) rfl #[.pointer (some ⟨r, 0, none⟩)] (by rfl) rfl rfl (by simp only [mt_, mc_, mn_]; rfl) ?_
 with_reducible refine (ra_num HL3.out.ra A2.out).mono ?_
 rintro e w4 ⟨rfl, hr, hk⟩
 refine ⟨_, rfl, ?_⟩
 have HL4 := ak_ (HL3.out.call hr hk)
 have HP4 := ak_ ((HL4.out.put 0 (.int .i64 x1) rfl).put 1 (.int .i64 x2) rfl)
 clear hr hk
 have z0 := (zc HL4.out.kz 0).trans rfl
 have z1 := (zc HL4.out.kz 1).trans rfl
 have f0 := zf HL4.out.kz 0
 have f1 := zf HL4.out.kz 1
 refine hK.out _ _ HL4.out.ptr (fun hHeld => ?_)
 clear hK K
 refine norm_ (a' := ?_) ?_ ?_
 rotate_left
 · show Act.put _ (some 8) _ = _
   simp only [Act.put, sa_, sz_, ss_, i64_w, i32_w]
   rfl
 refine last_ (i := 7) (N := none) #[true, true, true, true, true, true, true, true, false, false] rfl rfl (by kernel_rfl) (by decide) (fun K hK => ?_)
 refine skip_ (w1 := ?_) (by rfl) rfl ?_ ?_
 rotate_left
 · go_simp
   rfl
 refine hK.out _ _ ?_
 clear hK K
 refine pure_ (i := 8) (N := some 10) (v := ?_) (a' := ?_) #[true, true, true, true, true, true, true, true, true, false] rfl rfl (by kernel_rfl) (fun _ _ _ h => h) (Or.inl ⟨by rfl, ?_⟩) ?_ ?_
 rotate_left
 · intro w'
   go_simp
   with_reducible rfl
 rotate_left
 · simp only [Act.put, sa_, sz_, ss_, i64_w, i32_w]
   rfl
 refine last_ (i := 9) (N := none) #[true, true, true, true, true, true, true, true, true, true] rfl rfl (by kernel_rfl) (by decide) (fun K hK => ?_)
 refine skip_ (w1 := ?_) (by rfl) rfl ?_ ?_
 rotate_left
 · go_simp
   rfl
 refine hK.out _ _ ?_
 clear hK K
 refine done_ (by kernel_rfl) ?_
 clear hHeld y0 z0 z1 f0 f1
 generalize (w4.setCell ⟨z, 0, none⟩ (.int .i64 x1)).setCell ⟨z, 1, none⟩ (.int .i64 x2) = w5 at *
 go_upto_region 2 with (fail)
 have y0 := HP4.out.ptr
 refine start_ (n := 10) (S := fun w' => w'.cell? ⟨bx, 0, none⟩ = some (.pointer (some ⟨r, 0, none⟩))) (ds := [7, 9]) #[false, false, false, false, false, false, false, false, false, false] (by kernel_rfl) rfl rfl (y0) (fun hHeld => ?_)
 refine pure_ (i := 0) (N := some 11) (v := ?_) (a' := ?_) #[true, false, false, false, false, false, false, false, false, false] rfl rfl (by kernel_rfl) (fun _ _ _ h => h) (Or.inl ⟨by rfl, ?_⟩) ?_ ?_
 rotate_left
 · intro w'
   go_simp
   with_reducible rfl
 rotate_left
 · simp only [Act.put, sa_, sz_, ss_, i64_w, i32_w]
   rfl
 refine pure_ (i := 3) (N := some 14) (v := ?_) (a' := ?_) #[true, false, false, true, false, false, false, false, false, false] rfl rfl (by kernel_rfl) (fun _ _ _ h => h) (Or.inl ⟨by rfl, ?_⟩) ?_ ?_
 rotate_left
 · intro w'
   go_simp
   with_reducible rfl
 rotate_left
 · simp only [Act.put, sa_, sz_, ss_, i64_w, i32_w]
   rfl
 refine take_ (i := 1) (N := some 12) (v := ?_) (a' := ?_) #[true, true, false, true, false, false, false, false, false, false] rfl rfl (by kernel_rfl) (fun _ _ _ h => h) (Or.inl ⟨by rfl, ?_⟩) hHeld ?_ ?_
 rotate_left
 · intro w' s0
   go_simp
   with_reducible rfl
 rotate_left
 · simp only [Act.put, sa_, sz_, ss_, i64_w, i32_w]
   rfl
 refine take_ (i := 4) (N := some 15) (v := ?_) (a' := ?_) #[true, true, false, true, true, false, false, false, false, false] rfl rfl (by kernel_rfl) (fun _ _ _ h => h) (Or.inl ⟨by rfl, ?_⟩) hHeld ?_ ?_
 rotate_left
 · intro w' s0
   go_simp
   with_reducible rfl
 rotate_left
 · simp only [Act.put, sa_, sz_, ss_, i64_w, i32_w]
   rfl
 refine one_ (i := 2) (N := some 13) #[true, true, true, true, true, false, false, false, false, false] rfl rfl (by kernel_rfl) (by decide) (fun K hK => ?_)
 refine goes_ Tryd.func36 (by kernel_rfl) rfl #[.pointer (some ⟨r, 0, none⟩)] (by rfl) rfl rfl (by simp only [mt_, mc_, mn_]; rfl) ?_
 with_reducible refine (ra_num HP4.out.drew.ra A3.out).mono ?_
 rintro e w6 ⟨rfl, hr, hk⟩
 refine ⟨_, rfl, ?_⟩
 have HL6 := ak_ (HP4.out.drew.call hr hk)
 clear hr hk
 refine hK.out _ _ HL6.out.ptr (fun hHeld => ?_)
 clear hK K
 refine norm_ (a' := ?_) ?_ ?_
 rotate_left
 · show Act.put _ (some 13) _ = _
   simp only [Act.put, sa_, sz_, ss_, i64_w, i32_w]
   rfl
 refine pure_ (i := 6) (N := some 17) (v := ?_) (a' := ?_) #[true, true, true, true, true, false, true, false, false, false] rfl rfl (by kernel_rfl) (fun _ _ _ h => h) (Or.inl ⟨by rfl, ?_⟩) ?_ ?_
 rotate_left
 · intro w'
   go_simp
   with_reducible rfl
 rotate_left
 · simp only [Act.put, sa_, sz_, ss_, i64_w, i32_w]
   rfl
 refine one_ (i := 5) (N := some 16) #[true, true, true, true, true, true, true, false, false, false] rfl rfl (by kernel_rfl) (by decide) (fun K hK => ?_)
 refine goes_ Tryd.func36 (by kernel_rfl) rfl #[.pointer (some ⟨r, 0, none⟩)] (by rfl) rfl rfl (by simp only [mt_, mc_, mn_]; rfl) ?_
 with_reducible refine (ra_num HL6.out.ra A4.out).mono ?_
 rintro e w7 ⟨rfl, hr, hk⟩
 refine ⟨_, rfl, ?_⟩
 have HL7 := ak_ (HL6.out.call hr hk)
 have HP7 := ak_ ((HL7.out.put 2 (.int .i64 x3) rfl).put 3 (.int .i64 x4) rfl)
 clear hr hk
 have z2 := (zc HL7.out.kz 2).trans rfl
 have z3 := (zc HL7.out.kz 3).trans rfl
 have f2 := zf HL7.out.kz 2
 have f3 := zf HL7.out.kz 3
 refine hK.out _ _ HL7.out.ptr (fun hHeld => ?_)
 clear hK K
 refine norm_ (a' := ?_) ?_ ?_
 rotate_left
 · show Act.put _ (some 16) _ = _
   simp only [Act.put, sa_, sz_, ss_, i64_w, i32_w]
   rfl
 refine last_ (i := 7) (N := none) #[true, true, true, true, true, true, true, true, false, false] rfl rfl (by kernel_rfl) (by decide) (fun K hK => ?_)
 refine skip_ (w1 := ?_) (by rfl) rfl ?_ ?_
 rotate_left
 · go_simp
   rfl
 refine hK.out _ _ ?_
 clear hK K
 refine pure_ (i := 8) (N := some 18) (v := ?_) (a' := ?_) #[true, true, true, true, true, true, true, true, true, false] rfl rfl (by kernel_rfl) (fun _ _ _ h => h) (Or.inl ⟨by rfl, ?_⟩) ?_ ?_
 rotate_left
 · intro w'
   go_simp
   with_reducible rfl
 rotate_left
 · simp only [Act.put, sa_, sz_, ss_, i64_w, i32_w]
   rfl
 refine last_ (i := 9) (N := none) #[true, true, true, true, true, true, true, true, true, true] rfl rfl (by kernel_rfl) (by decide) (fun K hK => ?_)
 refine skip_ (w1 := ?_) (by rfl) rfl ?_ ?_
 rotate_left
 · go_simp
   rfl
 refine hK.out _ _ ?_
 clear hK K
 refine done_ (by kernel_rfl) ?_
 clear hHeld y0 z2 z3 f2 f3
 generalize (w7.setCell ⟨z, 2, none⟩ (.int .i64 x3)).setCell ⟨z, 3, none⟩ (.int .i64 x4) = w8 at *
 have z0 := (zc HP7.out.kz 0).trans rfl
 have z1 := (zc HP7.out.kz 1).trans rfl
 have z2 := (zc HP7.out.kz 2).trans rfl
 have z3 := (zc HP7.out.kz 3).trans rfl
 have f0 := zf HP7.out.kz 0
 have f1 := zf HP7.out.kz 1
 have f2 := zf HP7.out.kz 2
 have f3 := zf HP7.out.kz 3
 have HF := ak_ ((((HP7.out.put 0 (.int .i64 x1) rfl).put 1 (.int .i64 x2) rfl).put 2 (.int .i64 x3) rfl).put 3 (.int .i64 x4) rfl)
 go_wp2
 refine bodyPost_ret (results_cell_row rfl _ _ z 59 _ (0, 0) _ rfl HF.out.kz Tryd.underlying59 rfl (by kernel_rfl)) rfl ?_
 exact ⟨rfl, HRA.out.re HF.out.ra, HF.out.ra.keep⟩
theorem ra_step {wb w W : World} {r : Nat} {b : List Int} {a fa fe a' fa' fe' : Int} {s : S61} (h : RA wb w W r b a fa fe) (hA : rStep b a fa fe = some (s, a', fa', fe')) :
 Calls Tryd.prog 55 #[.agg #[.pointer (some ⟨r, 0, none⟩)]] W fun e W' => e = .returned (.agg (stepV s)) ∧ RA wb w W' r b a' fa' fe' ∧ KeepBut W W' r none := by
 unfold rStep at hA
 obtain ⟨⟨x1, a1, b1, c1⟩, hA1, hA⟩ := ob_ hA
 obtain ⟨⟨x2, a2, b2, c2⟩, hA2, hA⟩ := ob_ hA
 obtain ⟨⟨x3, a3, b3, c3⟩, hA3, hA⟩ := ob_ hA
 obtain ⟨⟨⟨p0, p1, p2, p3⟩, a4, b4, c4⟩, hA4, hA⟩ := ob_ hA
 obtain ⟨⟨⟨q0, q1, q2, q3⟩, a5, b5, c5⟩, hA5, hA⟩ := ob_ hA
 obtain ⟨⟨x6, a6, b6, c6⟩, hA6, hA⟩ := ob_ hA
 simp only [Option.some.injEq, Prod.mk.injEq] at hA
 obtain ⟨rfl, rfl, rfl, rfl⟩ := hA
 have A1 := ak_ hA1
 have A2 := ak_ hA2
 have A3 := ak_ hA3
 have A4 := ak_ hA4
 have A5 := ak_ hA5
 have A6 := ak_ hA6
 have HRA := ak_ h
 have HR0 := ak_ (RA.start h.is h.bel)
 clear hA1 hA2 hA3 hA4 hA5 hA6 h
 dsimp only at *
 unfold stepV
 dsimp only
 go_enter Tryd.func55, Tryd.ntmps55
 go_upto_region 1 with (first | ((with_reducible refine gate_dst (N := 1) rfl ?_); refine box_event ?hg (N := 1) ?hd (cs := #[.pointer (some ⟨r, 0, none⟩)]) (t := 74) ?hr ?_; (case hd | hg => rfl); (case hr => first | (go_simp; done) | (go_simp; rfl)); intro bx hg w1 hbox hb; have HB1 := ak_ hb; have BK1 := ak_ hbox; have HG1 := ak_ hg; clear hb hbox hg) | ((with_reducible refine gate_dst (N := 2) rfl ?_); refine box_event ?hg (N := 2) ?hd (cs := #[.string (⟨#[]⟩ : ByteArray), .string (⟨#[]⟩ : ByteArray), .int .i64 0, .int .i64 0, .int .i64 0, .int .i64 0, .int .i64 0, .int .i64 0, .int .i64 0, .int .i64 0, .int .i64 0, .int .i64 0]) (t := 61) ?hr ?_; (case hd | hg => rfl); (case hr => first | (go_simp; done) | (go_simp; rfl)); intro z hg w2 hbox hb; have HL2 := ak_ (RL.start HR0.out HG1.out BK1.out HB1.out hg hbox hb); clear hb hbox hg))
 have y0 := HL2.out.ptr
 refine start_ (n := 10) (S := fun w' => w'.cell? ⟨bx, 0, none⟩ = some (.pointer (some ⟨r, 0, none⟩))) (ds := [7, 9]) #[false, false, false, false, false, false, false, false, false, false] (by kernel_rfl) rfl rfl (y0) (fun hHeld => ?_)
 refine pure_ (i := 0) (N := some 3) (v := ?_) (a' := ?_) #[true, false, false, false, false, false, false, false, false, false] rfl rfl (by kernel_rfl) (fun _ _ _ h => h) (Or.inl ⟨by rfl, ?_⟩) ?_ ?_
 rotate_left
 · intro w'
   go_simp
   with_reducible rfl
 rotate_left
 · simp only [Act.put, sa_, sz_, ss_, i64_w, i32_w]
   rfl
 refine pure_ (i := 3) (N := some 6) (v := ?_) (a' := ?_) #[true, false, false, true, false, false, false, false, false, false] rfl rfl (by kernel_rfl) (fun _ _ _ h => h) (Or.inl ⟨by rfl, ?_⟩) ?_ ?_
 rotate_left
 · intro w'
   go_simp
   with_reducible rfl
 rotate_left
 · simp only [Act.put, sa_, sz_, ss_, i64_w, i32_w]
   rfl
 refine take_ (i := 1) (N := some 4) (v := ?_) (a' := ?_) #[true, true, false, true, false, false, false, false, false, false] rfl rfl (by kernel_rfl) (fun _ _ _ h => h) (Or.inl ⟨by rfl, ?_⟩) hHeld ?_ ?_
 rotate_left
 · intro w' s0
   go_simp
   with_reducible rfl
 rotate_left
 · simp only [Act.put, sa_, sz_, ss_, i64_w, i32_w]
   rfl
 refine take_ (i := 4) (N := some 7) (v := ?_) (a' := ?_) #[true, true, false, true, true, false, false, false, false, false] rfl rfl (by kernel_rfl) (fun _ _ _ h => h) (Or.inl ⟨by rfl, ?_⟩) hHeld ?_ ?_
 rotate_left
 · intro w' s0
   go_simp
   with_reducible rfl
 rotate_left
 · simp only [Act.put, sa_, sz_, ss_, i64_w, i32_w]
   rfl
 refine one_ (i := 2) (N := some 5) #[true, true, true, true, true, false, false, false, false, false] rfl rfl (by kernel_rfl) (by decide) (fun K hK => ?_)
 refine goes_ Tryd.func37 (by kernel_rfl) rfl #[.pointer (some ⟨r, 0, none⟩), .int .i64 256] (by rfl) rfl rfl (by simp only [mt_, mc_, mn_]; rfl) ?_
 with_reducible refine (ra_text HL2.out.drew.ra A1.out).mono ?_
 rintro e w3 ⟨rfl, hr, hk⟩
 refine ⟨_, rfl, ?_⟩
 have HL3 := ak_ (HL2.out.drew.call hr hk)
 clear hr hk
 refine hK.out _ _ HL3.out.ptr (fun hHeld => ?_)
 clear hK K
 refine norm_ (a' := ?_) ?_ ?_
 rotate_left
 · show Act.put _ (some 5) _ = _
   simp only [Act.put, sa_, sz_, ss_, i64_w, i32_w]
   rfl
 refine pure_ (i := 6) (N := some 9) (v := ?_) (a' := ?_) #[true, true, true, true, true, false, true, false, false, false] rfl rfl (by kernel_rfl) (fun _ _ _ h => h) (Or.inl ⟨by rfl, ?_⟩) ?_ ?_
 rotate_left
 · intro w'
   go_simp
   with_reducible rfl
 rotate_left
 · simp only [Act.put, sa_, sz_, ss_, i64_w, i32_w]
   rfl
 refine one_ (i := 5) (N := some 8) #[true, true, true, true, true, true, true, false, false, false] rfl rfl (by kernel_rfl) (by decide) (fun K hK => ?_)
 refine goes_ Tryd.func37 (by kernel_rfl) rfl #[.pointer (some ⟨r, 0, none⟩), .int .i64 256] (by rfl) rfl rfl (by simp only [mt_, mc_, mn_]; rfl) ?_
 with_reducible refine (ra_text HL3.out.ra A2.out).mono ?_
 rintro e w4 ⟨rfl, hr, hk⟩
 refine ⟨_, rfl, ?_⟩
 have HL4 := ak_ (HL3.out.call hr hk)
 have HP4 := ak_ (((((HL4.out).put 0 (.string x1) (cs' := #[.string x1, .string (⟨#[]⟩ : ByteArray), .int .i64 0, .int .i64 0, .int .i64 0, .int .i64 0, .int .i64 0, .int .i64 0, .int .i64 0, .int .i64 0, .int .i64 0, .int .i64 0]) rfl)).put 1 (.string x2) (cs' := #[.string x1, .string x2, .int .i64 0, .int .i64 0, .int .i64 0, .int .i64 0, .int .i64 0, .int .i64 0, .int .i64 0, .int .i64 0, .int .i64 0, .int .i64 0]) rfl))
 clear hr hk
 have z0 := (zc HL4.out.kz 0).trans rfl
 have z1 := (zc HL4.out.kz 1).trans rfl
 have f0 := zf HL4.out.kz 0
 have f1 := zf HL4.out.kz 1
 refine hK.out _ _ HL4.out.ptr (fun hHeld => ?_)
 clear hK K
 refine norm_ (a' := ?_) ?_ ?_
 rotate_left
 · show Act.put _ (some 8) _ = _
   simp only [Act.put, sa_, sz_, ss_, i64_w, i32_w]
   rfl
 refine last_ (i := 7) (N := none) #[true, true, true, true, true, true, true, true, false, false] rfl rfl (by kernel_rfl) (by decide) (fun K hK => ?_)
 refine skip_ (w1 := ?_) (by rfl) rfl ?_ ?_
 rotate_left
 · go_simp
   rfl
 refine hK.out _ _ ?_
 clear hK K
 refine pure_ (i := 8) (N := some 10) (v := ?_) (a' := ?_) #[true, true, true, true, true, true, true, true, true, false] rfl rfl (by kernel_rfl) (fun _ _ _ h => h) (Or.inl ⟨by rfl, ?_⟩) ?_ ?_
 rotate_left
 · intro w'
   go_simp
   with_reducible rfl
 rotate_left
 · simp only [Act.put, sa_, sz_, ss_, i64_w, i32_w]
   rfl
 refine last_ (i := 9) (N := none) #[true, true, true, true, true, true, true, true, true, true] rfl rfl (by kernel_rfl) (by decide) (fun K hK => ?_)
 refine skip_ (w1 := ?_) (by rfl) rfl ?_ ?_
 rotate_left
 · go_simp
   rfl
 refine hK.out _ _ ?_
 clear hK K
 refine done_ (by kernel_rfl) ?_
 clear hHeld y0 z0 z1 f0 f1
 generalize ((w4.setCell ⟨z, 0, none⟩ (.string x1)).setCell ⟨z, 1, none⟩ (.string x2)) = w5 at *
 go_upto_region 2 with (fail)
 have y0 := HP4.out.ptr
 have z2 := (zc HP4.out.kz 2).trans rfl
 have f2 := zf HP4.out.kz 2
 go_upto_region 3 with (go_at_call 36; refine (ra_num HP4.out.ra A3.out).mono ?_; rintro e w6 ⟨rfl, hr, hk⟩; have HL6 := ak_ (HP4.out.call hr hk); clear hr hk y0 z2 f2; have z2 := (zc HL6.out.kz 2).trans rfl; have f2 := zf HL6.out.kz 2)
 have HP6 := ak_ (((HL6.out).put 2 (.int .i64 x3) (cs' := #[.string x1, .string x2, .int .i64 x3, .int .i64 0, .int .i64 0, .int .i64 0, .int .i64 0, .int .i64 0, .int .i64 0, .int .i64 0, .int .i64 0, .int .i64 0]) rfl))
 clear z2 f2
 generalize (w6.setCell ⟨z, 2, none⟩ (.int .i64 x3)) = w7 at *
 have y0 := HP6.out.ptr
 have z3 := (zc HP6.out.kz 3).trans rfl
 have z4 := (zc HP6.out.kz 4).trans rfl
 have z5 := (zc HP6.out.kz 5).trans rfl
 have z6 := (zc HP6.out.kz 6).trans rfl
 have f3 := zf HP6.out.kz 3
 have f4 := zf HP6.out.kz 4
 have f5 := zf HP6.out.kz 5
 have f6 := zf HP6.out.kz 6
 go_upto_region 4 with (go_at_call 76; refine (ra_plan HP6.out.ra A4.out).mono ?_; rintro e w8 ⟨rfl, hr, hk⟩; have HL8 := ak_ (HP6.out.call hr hk); clear hr hk y0 z3 f3 z4 f4 z5 f5 z6 f6; have z3 := (zc HL8.out.kz 3).trans rfl; have z4 := (zc HL8.out.kz 4).trans rfl; have z5 := (zc HL8.out.kz 5).trans rfl; have z6 := (zc HL8.out.kz 6).trans rfl; have f3 := zf HL8.out.kz 3; have f4 := zf HL8.out.kz 4; have f5 := zf HL8.out.kz 5; have f6 := zf HL8.out.kz 6)
 have HP8 := ak_ (((((((((HL8.out).put 3 (.int .i64 p0) (cs' := #[.string x1, .string x2, .int .i64 x3, .int .i64 p0, .int .i64 0, .int .i64 0, .int .i64 0, .int .i64 0, .int .i64 0, .int .i64 0, .int .i64 0, .int .i64 0]) rfl)).put 4 (.int .i64 p1) (cs' := #[.string x1, .string x2, .int .i64 x3, .int .i64 p0, .int .i64 p1, .int .i64 0, .int .i64 0, .int .i64 0, .int .i64 0, .int .i64 0, .int .i64 0, .int .i64 0]) rfl)).put 5 (.int .i64 p2) (cs' := #[.string x1, .string x2, .int .i64 x3, .int .i64 p0, .int .i64 p1, .int .i64 p2, .int .i64 0, .int .i64 0, .int .i64 0, .int .i64 0, .int .i64 0, .int .i64 0]) rfl)).put 6 (.int .i64 p3) (cs' := #[.string x1, .string x2, .int .i64 x3, .int .i64 p0, .int .i64 p1, .int .i64 p2, .int .i64 p3, .int .i64 0, .int .i64 0, .int .i64 0, .int .i64 0, .int .i64 0]) rfl))
 clear z3 f3 z4 f4 z5 f5 z6 f6
 generalize ((((w8.setCell ⟨z, 3, none⟩ (.int .i64 p0)).setCell ⟨z, 4, none⟩ (.int .i64 p1)).setCell ⟨z, 5, none⟩ (.int .i64 p2)).setCell ⟨z, 6, none⟩ (.int .i64 p3)) = w9 at *
 have y0 := HP8.out.ptr
 have z7 := (zc HP8.out.kz 7).trans rfl
 have z8 := (zc HP8.out.kz 8).trans rfl
 have z9 := (zc HP8.out.kz 9).trans rfl
 have z10 := (zc HP8.out.kz 10).trans rfl
 have f7 := zf HP8.out.kz 7
 have f8 := zf HP8.out.kz 8
 have f9 := zf HP8.out.kz 9
 have f10 := zf HP8.out.kz 10
 go_upto_region 5 with (go_at_call 76; refine (ra_plan HP8.out.ra A5.out).mono ?_; rintro e w10 ⟨rfl, hr, hk⟩; have HL10 := ak_ (HP8.out.call hr hk); clear hr hk y0 z7 f7 z8 f8 z9 f9 z10 f10; have z7 := (zc HL10.out.kz 7).trans rfl; have z8 := (zc HL10.out.kz 8).trans rfl; have z9 := (zc HL10.out.kz 9).trans rfl; have z10 := (zc HL10.out.kz 10).trans rfl; have f7 := zf HL10.out.kz 7; have f8 := zf HL10.out.kz 8; have f9 := zf HL10.out.kz 9; have f10 := zf HL10.out.kz 10)
 have HP10 := ak_ (((((((((HL10.out).put 7 (.int .i64 q0) (cs' := #[.string x1, .string x2, .int .i64 x3, .int .i64 p0, .int .i64 p1, .int .i64 p2, .int .i64 p3, .int .i64 q0, .int .i64 0, .int .i64 0, .int .i64 0, .int .i64 0]) rfl)).put 8 (.int .i64 q1) (cs' := #[.string x1, .string x2, .int .i64 x3, .int .i64 p0, .int .i64 p1, .int .i64 p2, .int .i64 p3, .int .i64 q0, .int .i64 q1, .int .i64 0, .int .i64 0, .int .i64 0]) rfl)).put 9 (.int .i64 q2) (cs' := #[.string x1, .string x2, .int .i64 x3, .int .i64 p0, .int .i64 p1, .int .i64 p2, .int .i64 p3, .int .i64 q0, .int .i64 q1, .int .i64 q2, .int .i64 0, .int .i64 0]) rfl)).put 10 (.int .i64 q3) (cs' := #[.string x1, .string x2, .int .i64 x3, .int .i64 p0, .int .i64 p1, .int .i64 p2, .int .i64 p3, .int .i64 q0, .int .i64 q1, .int .i64 q2, .int .i64 q3, .int .i64 0]) rfl))
 clear z7 f7 z8 f8 z9 f9 z10 f10
 generalize ((((w10.setCell ⟨z, 7, none⟩ (.int .i64 q0)).setCell ⟨z, 8, none⟩ (.int .i64 q1)).setCell ⟨z, 9, none⟩ (.int .i64 q2)).setCell ⟨z, 10, none⟩ (.int .i64 q3)) = w11 at *
 have y0 := HP10.out.ptr
 have z11 := (zc HP10.out.kz 11).trans rfl
 have f11 := zf HP10.out.kz 11
 go_upto_region 6 with (go_at_call 36; refine (ra_num HP10.out.ra A6.out).mono ?_; rintro e w12 ⟨rfl, hr, hk⟩; have HL12 := ak_ (HP10.out.call hr hk); clear hr hk y0 z11 f11; have z11 := (zc HL12.out.kz 11).trans rfl; have f11 := zf HL12.out.kz 11)
 have HP12 := ak_ (((HL12.out).put 11 (.int .i64 x6) (cs' := #[.string x1, .string x2, .int .i64 x3, .int .i64 p0, .int .i64 p1, .int .i64 p2, .int .i64 p3, .int .i64 q0, .int .i64 q1, .int .i64 q2, .int .i64 q3, .int .i64 x6]) rfl))
 clear z11 f11
 generalize (w12.setCell ⟨z, 11, none⟩ (.int .i64 x6)) = w13 at *
 have z0 := (zc HP12.out.kz 0).trans rfl
 have z1 := (zc HP12.out.kz 1).trans rfl
 have z2 := (zc HP12.out.kz 2).trans rfl
 have z3 := (zc HP12.out.kz 3).trans rfl
 have z4 := (zc HP12.out.kz 4).trans rfl
 have z5 := (zc HP12.out.kz 5).trans rfl
 have z6 := (zc HP12.out.kz 6).trans rfl
 have z7 := (zc HP12.out.kz 7).trans rfl
 have z8 := (zc HP12.out.kz 8).trans rfl
 have z9 := (zc HP12.out.kz 9).trans rfl
 have z10 := (zc HP12.out.kz 10).trans rfl
 have z11 := (zc HP12.out.kz 11).trans rfl
 have f0 := zf HP12.out.kz 0
 have f1 := zf HP12.out.kz 1
 have f2 := zf HP12.out.kz 2
 have f3 := zf HP12.out.kz 3
 have f4 := zf HP12.out.kz 4
 have f5 := zf HP12.out.kz 5
 have f6 := zf HP12.out.kz 6
 have f7 := zf HP12.out.kz 7
 have f8 := zf HP12.out.kz 8
 have f9 := zf HP12.out.kz 9
 have f10 := zf HP12.out.kz 10
 have f11 := zf HP12.out.kz 11
 have HF := ak_ (((((((((((((((((((((((((HP12.out).put 0 (.string x1) (cs' := #[.string x1, .string x2, .int .i64 x3, .int .i64 p0, .int .i64 p1, .int .i64 p2, .int .i64 p3, .int .i64 q0, .int .i64 q1, .int .i64 q2, .int .i64 q3, .int .i64 x6]) rfl)).put 1 (.string x2) (cs' := #[.string x1, .string x2, .int .i64 x3, .int .i64 p0, .int .i64 p1, .int .i64 p2, .int .i64 p3, .int .i64 q0, .int .i64 q1, .int .i64 q2, .int .i64 q3, .int .i64 x6]) rfl)).put 2 (.int .i64 x3) (cs' := #[.string x1, .string x2, .int .i64 x3, .int .i64 p0, .int .i64 p1, .int .i64 p2, .int .i64 p3, .int .i64 q0, .int .i64 q1, .int .i64 q2, .int .i64 q3, .int .i64 x6]) rfl)).put 3 (.int .i64 p0) (cs' := #[.string x1, .string x2, .int .i64 x3, .int .i64 p0, .int .i64 p1, .int .i64 p2, .int .i64 p3, .int .i64 q0, .int .i64 q1, .int .i64 q2, .int .i64 q3, .int .i64 x6]) rfl)).put 4 (.int .i64 p1) (cs' := #[.string x1, .string x2, .int .i64 x3, .int .i64 p0, .int .i64 p1, .int .i64 p2, .int .i64 p3, .int .i64 q0, .int .i64 q1, .int .i64 q2, .int .i64 q3, .int .i64 x6]) rfl)).put 5 (.int .i64 p2) (cs' := #[.string x1, .string x2, .int .i64 x3, .int .i64 p0, .int .i64 p1, .int .i64 p2, .int .i64 p3, .int .i64 q0, .int .i64 q1, .int .i64 q2, .int .i64 q3, .int .i64 x6]) rfl)).put 6 (.int .i64 p3) (cs' := #[.string x1, .string x2, .int .i64 x3, .int .i64 p0, .int .i64 p1, .int .i64 p2, .int .i64 p3, .int .i64 q0, .int .i64 q1, .int .i64 q2, .int .i64 q3, .int .i64 x6]) rfl)).put 7 (.int .i64 q0) (cs' := #[.string x1, .string x2, .int .i64 x3, .int .i64 p0, .int .i64 p1, .int .i64 p2, .int .i64 p3, .int .i64 q0, .int .i64 q1, .int .i64 q2, .int .i64 q3, .int .i64 x6]) rfl)).put 8 (.int .i64 q1) (cs' := #[.string x1, .string x2, .int .i64 x3, .int .i64 p0, .int .i64 p1, .int .i64 p2, .int .i64 p3, .int .i64 q0, .int .i64 q1, .int .i64 q2, .int .i64 q3, .int .i64 x6]) rfl)).put 9 (.int .i64 q2) (cs' := #[.string x1, .string x2, .int .i64 x3, .int .i64 p0, .int .i64 p1, .int .i64 p2, .int .i64 p3, .int .i64 q0, .int .i64 q1, .int .i64 q2, .int .i64 q3, .int .i64 x6]) rfl)).put 10 (.int .i64 q3) (cs' := #[.string x1, .string x2, .int .i64 x3, .int .i64 p0, .int .i64 p1, .int .i64 p2, .int .i64 p3, .int .i64 q0, .int .i64 q1, .int .i64 q2, .int .i64 q3, .int .i64 x6]) rfl)).put 11 (.int .i64 x6) (cs' := #[.string x1, .string x2, .int .i64 x3, .int .i64 p0, .int .i64 p1, .int .i64 p2, .int .i64 p3, .int .i64 q0, .int .i64 q1, .int .i64 q2, .int .i64 q3, .int .i64 x6]) rfl))
 go_wp2
 refine bodyPost_ret (results_cell_row rfl _ _ z 61 _ (0, 0) _ rfl HF.out.kz Tryd.underlying61 rfl (by kernel_rfl)) rfl ?_
 exact ⟨rfl, HRA.out.re HF.out.ra, HF.out.ra.keep⟩
theorem ne61 {t : Nat} (h : 61 ≠ t) : ∀ q, q ∈ 61 :: k61.E → q ≠ t := by
 intro q hq
 have e : k61.E = [] := rfl
 rw [e, List.mem_singleton] at hq
 rw [hq]
 exact h
theorem IsR_grown {wb W W' : World} {r : Nat} {b : List Int} {a fa fe : Int} {row : Option Nat} (h : IsS108 wb W r b a fa fe) (hg : W.grownBy W' row) (hr : some r ≠ row) : IsS108 wb W' r b a fa fe := by
 obtain ⟨A0, c0, hb, hrest⟩ := h
 exact ⟨A0, c0, blk_grown hb hg hr, hrest⟩
theorem RL.grown {wb w W W' : World} {r : Nat} {b : List Int} {a fa fe : Int} {bx z : Nat} {t : TypeId} {cs : Array Value} {row : Option Nat} (h : RL wb w W r b a fa fe bx z t cs) (hg : W.grownBy W' row) (hr : some r ≠ row) (hx : some bx ≠ row) (hz : some z ≠ row) (hB : ∀ k, row = some k → w.heap.size ≤ k) : RL wb w W' r b a fa fe bx z t cs :=
 ⟨⟨IsR_grown h.ra.is hg hr, h.ra.bel.grown hg h.ra.bel.size (fun q e => Nat.le_trans h.gew (hB q e)), ⟨Nat.le_trans h.ra.keep.1 hg.size, fun i hi hne _ => (hg.block i (Nat.lt_of_lt_of_le hi h.ra.keep.1) (fun e => by have := hB i e.symm; omega)).trans (h.ra.keep.2 i hi hne (by simp))⟩⟩, blk_grown h.kb hg hx, blk_grown h.kz hg hz, h.nbr, h.nzr, h.nbz, h.gez, h.gew⟩
structure DL (wb w W : World) (r : Nat) (b : List Int) (a fa fe : Int) (bx z : Nat) (n : ByteArray) (dl : Int) (v : Value) (l : List S61) : Prop where
 rl : RL wb w W r b a fa fe bx z 24 #[.string n, .int .i64 dl, v]
 rw_ : Kd.R k61 61 W w.heap.size (fun _ => True) v l
theorem RL.rblk {wb w W : World} {r : Nat} {b : List Int} {a fa fe : Int} {bx z : Nat} {t : TypeId} {cs : Array Value} (h : RL wb w W r b a fa fe bx z t cs) : ∃ c, W.heap[r]? = some (.cells c 108 (0, 0)) := by
 obtain ⟨A0, c0, hb, _⟩ := h.ra.is
 exact ⟨_, hb⟩
theorem DL.call {wb w W W' : World} {r : Nat} {b : List Int} {a fa fe a' fa' fe' : Int} {bx z : Nat} {n : ByteArray} {dl : Int} {v : Value} {l : List S61} (h : DL wb w W r b a fa fe bx z n dl v l) (hr : RA wb w W' r b a' fa' fe') (hk : KeepBut W W' r none) : DL wb w W' r b a' fa' fe' bx z n dl v l := by
 obtain ⟨c, hc⟩ := h.rl.rblk
 exact ⟨h.rl.call hr hk, Kd.R_mono (Kd.R_keep (Kd.R_types h.rw_ hc (ne61 (by decide))) hk (fun k h => h.2)) (fun _ _ => trivial)⟩
theorem DL.below {wb w W W1 : World} {r : Nat} {b : List Int} {a fa fe : Int} {bx z : Nat} {n : ByteArray} {dl : Int} {v : Value} {l : List S61} (h : DL wb w W r b a fa fe bx z n dl v l) (hb : Below W.heap.size W W1) : DL wb w W1 r b a fa fe bx z n dl v l :=
 ⟨h.rl.below hb, Kd.R_below h.rw_ hb⟩
theorem DL.drew {wb w W : World} {r : Nat} {b : List Int} {a fa fe : Int} {bx z : Nat} {n : ByteArray} {dl : Int} {v : Value} {l : List S61} (h : DL wb w W r b a fa fe bx z n dl v l) : DL wb w W.drew r b a fa fe bx z n dl v l := h.below (below_drew1 (Below.refl _ _))
theorem DL.push {wb w W W' : World} {r : Nat} {b : List Int} {a fa fe : Int} {bx z : Nat} {n : ByteArray} {dl : Int} {v v' : Value} {l : List S61} {s : S61} (h : DL wb w W r b a fa fe bx z n dl v l) (hg : W.grownBy W' v.ownBlock) (hR : Kd.R k61 61 W' w.heap.size (fun _ => True) v' (l ++ [s])) : DL wb w (W'.setCell ⟨z, 2, none⟩ v') r b a fa fe bx z n dl v' (l ++ [s]) := by
 obtain ⟨c, hc⟩ := h.rl.rblk
 have h1 := h.rl.grown hg (Kd.R_ne h.rw_ hc (by decide)) (Kd.R_ne h.rw_ h.rl.kb (by decide)) (Kd.R_ne h.rw_ h.rl.kz (by decide)) (Kd.R_base h.rw_)
 exact ⟨h1.put 2 v' (cs' := #[.string n, .int .i64 dl, v']) rfl, Kd.R_set hR h1.kz (ne61 (by decide)) 2 v'⟩
theorem DL.zne {wb w W W' : World} {r : Nat} {b : List Int} {a fa fe : Int} {bx z : Nat} {n : ByteArray} {dl : Int} {v : Value} {l : List S61} (h : DL wb w W r b a fa fe bx z n dl v l) (hg : W.grownBy W' v.ownBlock) : W'.heap[z]? = some (.cells #[.string n, .int .i64 dl, v] 24 (0, 0)) := blk_grown h.rl.kz hg (Kd.R_ne h.rw_ h.rl.kz (by decide))
theorem ra_def {wb w W : World} {r : Nat} {b : List Int} {a fa fe a' fa' fe' : Int} {n : ByteArray} {dl : Int} {l : List S61} (h : RA wb w W r b a fa fe) (hA : rDef b a fa fe = some (n, dl, l, a', fa', fe')) :
 Calls Tryd.prog 28 #[.agg #[.pointer (some ⟨r, 0, none⟩)]] W fun e W' => ∃ v : Value, e = .returned (.agg #[.string n, .int .i64 dl, v]) ∧ RA wb w W' r b a' fa' fe' ∧ KeepBut W W' r none ∧ Kd.R k61 61 W' W.heap.size (fun _ => True) v l := by
 unfold rDef at hA
 obtain ⟨⟨x1, a1, b1, c1⟩, hA1, hA⟩ := ob_ hA
 obtain ⟨⟨x2, a2, b2, c2⟩, hA2, hA⟩ := ob_ hA
 obtain ⟨⟨x3, a3, b3, c3⟩, hA3, hA⟩ := ob_ hA
 dsimp only at hA hA1 hA2 hA3
 by_cases hm : 0 ≤ x3 ∧ x3 ≤ 32
 · rw [if_pos hm] at hA
   obtain ⟨⟨l4, a4, b4, c4⟩, hA4, hA⟩ := ob_ hA
   simp only [Option.some.injEq, Prod.mk.injEq] at hA
   obtain ⟨rfl, rfl, rfl, rfl, rfl, rfl⟩ := hA
   obtain ⟨N, hN⟩ : ∃ N : Nat, x3 = (N : Int) := ⟨x3.toNat, by omega⟩
   rw [hN, Int.toNat_natCast] at hA4
   have HN := ak_ hN
   have HM := ak_ hm
   have A1 := ak_ hA1
   have A2 := ak_ hA2
   have A3 := ak_ hA3
   have A4 := ak_ hA4
   have HRA := ak_ h
   have HR0 := ak_ (RA.start h.is h.bel)
   clear hA1 hA2 hA3 hA4 h hm hN
   go_enter Tryd.func28, Tryd.ntmps28
   go_upto_region 1 with (first | ((with_reducible refine gate_dst (N := 1) rfl ?_); refine box_event ?hg (N := 1) ?hd (cs := #[.pointer (some ⟨r, 0, none⟩)]) (t := 74) ?hr ?_; (case hd | hg => rfl); (case hr => first | (go_simp; done) | (go_simp; rfl)); intro bx hg w1 hbox hb; have HB1 := ak_ hb; have BK1 := ak_ hbox; have HG1 := ak_ hg; clear hb hbox hg) | ((with_reducible refine gate_dst (N := 2) rfl ?_); refine box_event ?hg (N := 2) ?hd (cs := #[.string (⟨#[]⟩ : ByteArray), .int .i64 0, .slice none 0 0]) (t := 24) ?hr ?_; (case hd | hg => rfl); (case hr => first | (go_simp; done) | (go_simp; rfl)); intro z hg w2 hbox hb; have HL2 := ak_ (RL.start HR0.out HG1.out BK1.out HB1.out hg hbox hb); clear hb hbox hg))
   have y0 := HL2.out.ptr
   have z0 := (zc HL2.out.kz 0).trans rfl
   have f0 := zf HL2.out.kz 0
   go_upto_region 2 with (go_at_call 37; refine (ra_text HL2.out.ra A1.out).mono ?_; rintro e w3 ⟨rfl, hr, hk⟩; have HL3 := ak_ (HL2.out.call hr hk); clear hr hk y0 z0 f0; have z0 := (zc HL3.out.kz 0).trans rfl; have f0 := zf HL3.out.kz 0)
   have HP3 := ak_ (HL3.out.put 0 (.string x1) (cs' := #[.string x1, .int .i64 0, .slice none 0 0]) rfl)
   clear z0 f0
   generalize w3.setCell ⟨z, 0, none⟩ (.string x1) = w4 at *
   have y0 := HP3.out.ptr
   have z0 := (zc HP3.out.kz 1).trans rfl
   have f0 := zf HP3.out.kz 1
   go_upto_region 3 with (go_at_call 36; refine (ra_num HP3.out.ra A2.out).mono ?_; rintro e w5 ⟨rfl, hr, hk⟩; have HL5 := ak_ (HP3.out.call hr hk); clear hr hk y0 z0 f0; have z0 := (zc HL5.out.kz 1).trans rfl; have f0 := zf HL5.out.kz 1)
   have HP5 := ak_ (HL5.out.put 1 (.int .i64 x2) (cs' := #[.string x1, .int .i64 x2, .slice none 0 0]) rfl)
   clear z0 f0
   generalize w5.setCell ⟨z, 1, none⟩ (.int .i64 x2) = w6 at *
   have y0 := HP5.out.ptr
   go_wp2_with (go_at_call 54; refine (ra_count HP5.out.ra A3.out).mono ?_; rintro e w7 ⟨rfl, hr, hk⟩; have HL7 := ak_ (HP5.out.call hr hk); clear hr hk y0)
   go_loopw [14] (fun v14 Wj => ∃ (k : Nat) (v : Value) (lk : List S61) (ak fk ek : Int), k ≤ N ∧ v14 = .int .i64 (k : Int) ∧ Aside0 (DL wb W Wj r b ak fk ek bx z x1 x2 v lk) ∧ Aside0 (rSteps b (N - k) lk ak fk ek = some (l4, a4, b4, c4)) ∧ Aside0 (lk.length = k)) (fun v14 _ => N - (intOf v14).toNat)
   case atStart => exact ⟨0, _, [], _, _, _, by omega, rfl, ⟨⟨HL7.out, Kd.R_nil _ _ _ _ _⟩⟩, A4, ⟨rfl⟩⟩
   case round =>
    clear HL7 HP5 HL5 HP3 HL3 HL2 A4
    obtain ⟨k, v, lk, ak, fk, ek, hk, rfl, HD, HA, HLK⟩ := hrel
    by_cases hlt : k < N
    · obtain ⟨m, hm⟩ : ∃ m, N - k = m + 1 := ⟨N - k - 1, by omega⟩
      have h2 := HA.out
      rw [hm, rSteps] at h2
      obtain ⟨⟨⟨s0, s1, s2, ⟨p0, p1, p2, p3⟩, ⟨q0, q1, q2, q3⟩, s5⟩, ak1, fk1, ek1⟩, hst, h2⟩ := ob_ h2
      obtain rfl : m = N - (k + 1) := by omega
      have HST := ak_ hst
      have HA2 := ak_ h2
      obtain ⟨i, hi⟩ : ∃ i : Int, (k : Int) = i := ⟨_, rfl⟩
      have HI := ak_ hi
      have hd1 : decide (i < x3) = true := dt_ (by have := HN.out; omega)
      have HKK := ak_ (show wrap64 (i + 1) = ((k + 1 : Nat) : Int) by have := HN.out; have := HM.out; unfold wrap64; omega)
      have HLT := ak_ hlt
      have HLN := ak_ (show lk.length < 40 by have := HLK.out; have := HN.out; have := HM.out; omega)
      rw [hi] at ⊢
      clear hi hlt hk hst h2 hm HA
      go_upto_region 5 with (fail)
      have y0 := HD.out.rl.ptr
      have y2 := (zc HD.out.rl.kz 2).trans rfl
      refine start_ (n := 8) (S := fun w' => w'.cell? ⟨bx, 0, none⟩ = some (.pointer (some ⟨r, 0, none⟩)) ∧ w'.cell? ⟨z, 2, none⟩ = some v) (ds := [7]) #[false, false, false, false, false, false, false, false] (by kernel_rfl) rfl rfl ⟨y0, y2⟩ (fun hHeld => ?_)
      refine pure_ (i := 0) (N := some 16) (v := ?_) (a' := ?_) #[true, false, false, false, false, false, false, false] rfl rfl (by kernel_rfl) (fun _ _ _ h => h) (Or.inl ⟨by rfl, ?_⟩) ?_ ?_
      rotate_left
      · intro w'
        go_simp
        with_reducible rfl
      rotate_left
      · simp only [Act.put, sa_, sz_, ss_, i64_w, i32_w]
        rfl
      refine take_ (i := 1) (N := some 17) (v := ?_) (a' := ?_) #[true, true, false, false, false, false, false, false] rfl rfl (by kernel_rfl) (fun _ _ _ h => h) (Or.inl ⟨by rfl, ?_⟩) hHeld ?_ ?_
      rotate_left
      · rintro w' ⟨s0, s1⟩
        go_simp
        with_reducible rfl
      rotate_left
      · simp only [Act.put, sa_, sz_, ss_, i64_w, i32_w]
        rfl
      refine take_ (i := 2) (N := some 18) (v := ?_) (a' := ?_) #[true, true, true, false, false, false, false, false] rfl rfl (by kernel_rfl) (fun _ _ _ h => h) (Or.inl ⟨by rfl, ?_⟩) hHeld ?_ ?_
      rotate_left
      · rintro w' ⟨s0, s1⟩
        go_simp
        with_reducible rfl
      rotate_left
      · simp only [Act.put, sa_, sz_, ss_, i64_w, i32_w]
        rfl
      refine one_ (i := 3) (N := some 19) #[true, true, true, true, false, false, false, false] rfl rfl (by kernel_rfl) (by decide) (fun K hK => ?_)
      refine goes_ Tryd.func55 (by kernel_rfl) rfl #[.agg #[.pointer (some ⟨r, 0, none⟩)]] (by rfl) rfl rfl (by simp only [mt_, mc_, mn_]; rfl) ?_
      with_reducible refine (ra_step HD.out.drew.rl.ra HST.out).mono ?_
      rintro e W12 ⟨he, hr, hk⟩
      have he2 : e = .returned (.agg #[.string s0, .string s1, .int .i64 s2, .int .i64 p0, .int .i64 p1, .int .i64 p2, .int .i64 p3, .int .i64 q0, .int .i64 q1, .int .i64 q2, .int .i64 q3, .int .i64 s5]) := he
      subst he2
      clear he
      refine ⟨_, rfl, ?_⟩
      have HD2 := ak_ (HD.out.drew.call hr hk)
      have HAL := ak_ (show Below W12.heap.size W12 (W12.alloc (.cells #[.string s0, .string s1, .int .i64 s2, .int .i64 p0, .int .i64 p1, .int .i64 p2, .int .i64 p3, .int .i64 q0, .int .i64 q1, .int .i64 q2, .int .i64 q3, .int .i64 s5] 61)) from below_alloc (Below.refl _ _) _)
      clear hr hk
      refine hK.out _ _ ⟨HD2.out.rl.ptr, (zc HD2.out.rl.kz 2).trans rfl⟩ (fun hHeld => ?_)
      clear hK K
      refine norm_ (a' := ?_) ?_ ?_
      rotate_left
      · show Act.put _ (some 19) _ = _
        simp only [Act.put, sa_, sz_, ss_, i64_w, i32_w]
        rfl
      refine one_ (i := 4) (N := some 20) #[true, true, true, true, true, false, false, false] rfl rfl (by kernel_rfl) (by decide) (fun K hK => ?_)
      refine value_ (w1 := ?_) (v := ?_) (by rfl) rfl ?_ ?_
      rotate_left 2
      · go_simp
        constructor
        · rfl
        · rfl
      refine hK.out _ _ ⟨(HAL.out.cell (p := ⟨bx, 0, none⟩) (blk_lt HD2.out.rl.kb)).trans HD2.out.rl.ptr, (HAL.out.cell (p := ⟨z, 2, none⟩) (blk_lt HD2.out.rl.kz)).trans ((zc HD2.out.rl.kz 2).trans rfl)⟩ (fun hHeld => ?_)
      clear hK K
      refine norm_ (a' := ?_) ?_ ?_
      rotate_left
      · show Act.put _ (some 20) _ = _
        simp only [Act.put, sa_, sz_, ss_, i64_w, i32_w]
        rfl
      refine one_ (i := 5) (N := some 21) #[true, true, true, true, true, true, false, false] rfl rfl (by kernel_rfl) (by decide) (fun K hK => ?_)
      refine Kd.R_append_step k61 (w0 := W12) W.heap.size (by rfl) (.tmp 17) (.tmp 20) 22 61 (.agg #[.string ⟨#[]⟩, .string ⟨#[]⟩, .int .i64 0, .int .i64 0, .int .i64 0, .int .i64 0, .int .i64 0, .int .i64 0, .int .i64 0, .int .i64 0, .int .i64 0, .int .i64 0]) 112 rfl (by rfl) infoStep rfl (by decide) (by decide) v lk ⟨s0, s1, s2, ⟨p0, p1, p2, p3⟩, ⟨q0, q1, q2, q3⟩, s5⟩ (stepV ⟨s0, s1, s2, ⟨p0, p1, p2, p3⟩, ⟨q0, q1, q2, q3⟩, s5⟩).toList (fun _ => True) (fun _ => False) rfl rfl (k61_mkM _ _ _ _) (fun _ h => h.elim) (fun _ _ => trivial) HD2.out.rw_ (Below.refl _ _) (Nat.le_trans HD2.out.rl.gez (Nat.le_of_lt (blk_lt HD2.out.rl.kz))) (by have := HLN.out; omega) ?_
      intro v7 w7 hR7 hB7 hg7 hat7
      obtain ⟨A7, n7, c7, rfl⟩ : ∃ A n c, v7 = .slice A n c := by obtain ⟨A, c, e, _⟩ := Kd.R_reads hR7; exact ⟨A, _, c, e⟩
      have HZ7 := ak_ (HD2.out.zne hg7)
      have HB7 := ak_ (blk_grown HD2.out.rl.kb hg7 (Kd.R_ne HD2.out.rw_ HD2.out.rl.kb (by decide)))
      have fz7 := zf HZ7.out 2
      have HD7 := ak_ (HD2.out.push hg7 hR7)
      clear hR7 hB7 hg7 hat7
      refine hK.out _ _ ⟨(zc HB7.out 0).trans rfl, (zc HZ7.out 2).trans rfl⟩ (fun hHeld => ?_)
      clear hK K
      refine norm_ (a' := ?_) ?_ ?_
      rotate_left
      · show Act.put _ (some 21) _ = _
        simp only [Act.put, sa_, sz_, ss_, i64_w, i32_w]
        rfl
      refine pure_ (i := 6) (N := some 22) (v := ?_) (a' := ?_) #[true, true, true, true, true, true, true, false] rfl rfl (by kernel_rfl) (fun _ _ _ h => h) (Or.inl ⟨by rfl, ?_⟩) ?_ ?_
      rotate_left
      · intro w'
        go_simp
        with_reducible rfl
      rotate_left
      · simp only [Act.put, sa_, sz_, ss_, i64_w, i32_w]
        rfl
      refine last_ (i := 7) (N := none) #[true, true, true, true, true, true, true, true] rfl rfl (by kernel_rfl) (by decide) (fun K hK => ?_)
      refine skip_ (w1 := ?_) (by rfl) rfl ?_ ?_
      rotate_left
      · go_simp
        rfl
      refine hK.out _ _ ?_
      clear hK K
      refine done_ (by kernel_rfl) ?_
      clear hHeld y0 y2 fz7
      generalize w7.setCell ⟨z, 2, none⟩ (.slice A7 n7 c7) = W13 at *
      go_wp2
      go_roundw
      case rel => exact ⟨k + 1, _, _, _, _, _, by have := HLT.out; omega, by rw [HKK.out], HD7, HA2, ⟨by rw [List.length_append, HLK.out]; rfl⟩⟩
      case measure => have := HI.out; have := HLT.out; simp [intOf, HKK.out]; omega
    · have hkN : k = N := by omega
      have h2 := HA.out
      rw [hkN, Nat.sub_self, rSteps] at h2
      simp only [Option.some.injEq, Prod.mk.injEq] at h2
      obtain ⟨rfl, rfl, rfl, rfl⟩ := h2
      obtain ⟨i, hi⟩ : ∃ i : Int, (k : Int) = i := ⟨_, rfl⟩
      have hd1 : decide (i < x3) = false := df_ (by have := HN.out; omega)
      rw [hi] at ⊢
      clear hi hk hlt HA HLK
      obtain ⟨A7, c7, hv7, _⟩ := Kd.R_reads HD.out.rw_
      obtain ⟨n7, hn7⟩ : ∃ n7, lk.length = n7 := ⟨_, rfl⟩
      rw [hn7] at hv7
      subst hv7
      clear hn7
      have z0 := (zc HD.out.rl.kz 0).trans rfl
      have z1 := (zc HD.out.rl.kz 1).trans rfl
      have z2 := (zc HD.out.rl.kz 2).trans rfl
      have f0 := zf HD.out.rl.kz 0
      have f1 := zf HD.out.rl.kz 1
      have f2 := zf HD.out.rl.kz 2
      have HF := ak_ (((HD.out.rl.put 0 (.string x1) (cs' := #[.string x1, .int .i64 x2, .slice A7 n7 c7]) rfl).put 1 (.int .i64 x2) (cs' := #[.string x1, .int .i64 x2, .slice A7 n7 c7]) rfl).put 2 (.slice A7 n7 c7) (cs' := #[.string x1, .int .i64 x2, .slice A7 n7 c7]) rfl)
      have HRW := ak_ (Kd.R_set (Kd.R_set (Kd.R_set HD.out.rw_ HD.out.rl.kz (ne61 (by decide)) 0 (.string x1)) (HD.out.rl.put 0 (.string x1) (cs' := #[.string x1, .int .i64 x2, .slice A7 n7 c7]) rfl).kz (ne61 (by decide)) 1 (.int .i64 x2)) ((HD.out.rl.put 0 (.string x1) (cs' := #[.string x1, .int .i64 x2, .slice A7 n7 c7]) rfl).put 1 (.int .i64 x2) (cs' := #[.string x1, .int .i64 x2, .slice A7 n7 c7]) rfl).kz (ne61 (by decide)) 2 (.slice A7 n7 c7))
      go_wp2
      refine bodyPost_ret (results_cell_row rfl _ _ z 24 _ (0, 0) _ rfl HF.out.kz Tryd.underlying24 rfl (by kernel_rfl)) rfl ?_
      exact ⟨_, rfl, HRA.out.re HF.out.ra, HF.out.ra.keep, HRW.out⟩
 · rw [if_neg hm] at hA
   cases hA
def code_TakeDefK.f (k : Nat) (l0 : List Int) : Option (ByteArray × Int × List S61 × Int × Int) :=
 if l0.length < 140737488355328 then (rDef l0 0 0 0).bind fun q1 => (fR_End.f 1 l0 q1.2.2.2.1 q1.2.2.2.2.1 q1.2.2.2.2.2).bind fun q2 =>
  if q2.1 = true then (def_Check.f k q1.1 q1.2.1 q1.2.2.1).bind fun q3 => if q3.2 = 0 then some (q1.1, q1.2.1, q1.2.2.1, 0, 0) else some ((⟨#[]⟩ : ByteArray), 0, [], 0, 11)
  else some ((⟨#[]⟩ : ByteArray), 0, [], q2.2.2.1, q2.2.2.2)
 else none
theorem RA.both {wb w W : World} {r : Nat} {b : List Int} {a fa fe : Int} {p : Addr} {u : Value} (h : RA wb w W r b a fa fe) (hne : r ≠ p.block) (hc : wb.cell? p = some u) (hu : ∀ x, u ≠ .int .u8 x) (v : Value) : RA (wb.setCell p v) (W.setCell p v) (W.setCell p v) r b a fa fe := RA.start (isR_both h.is hne hc hu v) (below_both h.bel)
theorem ra_end {wb w W : World} {r : Nat} {b : List Int} {a fa fe a' fa' fe' : Int} {k : Nat} {y : Bool} (h : RA wb w W r b a fa fe) (hA : fR_End.f k b a fa fe = some (y, a', fa', fe')) :
 Calls Tryd.prog 29 #[.pointer (some ⟨r, 0, none⟩)] W fun e W' => e = .returned (.bool y) ∧ RA wb w W' r b a' fa' fe' ∧ KeepBut W W' r none := by
 refine (fR_End.calls k r b a fa fe y a' fa' fe' wb W h.is h.bel hA).mono ?_
 rintro e W' ⟨rfl, hi, hb, hk⟩
 exact ⟨rfl, ⟨hi, hb, h.keep.trans hk (.inl rfl)⟩, hk⟩
theorem ra_err {wb w W : World} {r : Nat} {b : List Int} {a fa fe : Int} (h : RA wb w W r b a fa fe) :
 Calls Tryd.prog 30 #[.pointer (some ⟨r, 0, none⟩)] W fun e W' => e = .returned (.tuple #[.int .i64 fa, .int .i64 fe]) ∧ RA wb w W' r b a fa fe ∧ KeepBut W W' r none := by
 refine (fR_Err.calls r b a fa fe fa fe a fa fe wb W h.is h.bel rfl).mono ?_
 rintro e W' ⟨rfl, hi, hb, hk⟩
 exact ⟨rfl, ⟨hi, hb, h.keep.trans hk (.inl rfl)⟩, hk⟩
theorem R61_keep {W W' : World} {base g : Nat} {v : Value} {l : List S61} {c : Array Value} (h : Kd.R k61 61 W base (fun _ => True) v l) (hc : W.heap[g]? = some (.cells c 108 (0, 0))) (hk : KeepBut W W' g none) : Kd.R k61 61 W' base (fun _ => True) v l :=
 Kd.R_mono (Kd.R_keep (Kd.R_types h hc (ne61 (by decide))) hk (fun k h => h.2)) (fun _ _ => trivial)
theorem RA.rblk {wb w W : World} {r : Nat} {b : List Int} {a fa fe : Int} (h : RA wb w W r b a fa fe) : ∃ c, W.heap[r]? = some (.cells c 108 (0, 0)) := by
 obtain ⟨A0, c0, hb, _⟩ := h.is
 exact ⟨_, hb⟩
def code_TakeDef.f (l0 : List Int) : Option (ByteArray × Int × List S61 × Int × Int) := code_TakeDefK.f 40 l0
instance (p : S59) : Decidable (PlanI p) := by unfold PlanI; exact inferInstance
instance (s : S61) : Decidable (StepI s) := by unfold StepI; exact inferInstance
def code_PutDef.f (a0_0 : ByteArray) (a0_1 : Int) (l0_2 : List S61) : Option (List Int) :=
 if I64_ a0_1 ∧ l0_2.length < 1000000 ∧ (∀ s ∈ l0_2, StepI s) ∧ (defW a0_0 a0_1 l0_2).length < 1000000 then some (defW a0_0 a0_1 l0_2) else none
theorem eqA40 (d : Nat) (w : World) (x0 y0 : Int) (x1 y1 : Int) (x2 y2 : Bool) (x3 y3 : Int) (x4 y4 : Bool) :
 (Op.equalIn (d + 2) 40 (.agg #[.int .i64 x0, .int .i64 x1, .bool x2, .int .i64 x3, .bool x4]) (.agg #[.int .i64 y0, .int .i64 y1, .bool y2, .int .i64 y3, .bool y4])).run Tryd.prog w = .ok (x0 == y0 && (x1 == y1 && (x2 == y2 && (x3 == y3 && (x4 == y4))))) w := by
 refine eqA_of Tryd.underlying40 (by kernel_rfl) ?_
 refine eqf_cons (by rfl) (by go_simp; rfl) (by go_simp; rfl) (by go_simp) ?_
 refine eqf_cons (by rfl) (by go_simp; rfl) (by go_simp; rfl) (by go_simp) ?_
 refine eqf_cons (by rfl) (by go_simp; rfl) (by go_simp; rfl) (by go_simp) ?_
 refine eqf_cons (by rfl) (by go_simp; rfl) (by go_simp; rfl) (by go_simp) ?_
 exact eqf_last (by rfl) (by go_simp; rfl) (by go_simp; rfl) (by go_simp)
def code_empty.f (a0_0 : ByteArray) (a0_1 : Int) (l0_2 : List (S61)) : Option (Bool) := if a0_0.toList = ([] : List UInt8) then (if a0_1 = 0 then (some ((l0_2.length : Int) == 0)) else (some false)) else (some false)
theorem code_empty.calls (a0_0 : ByteArray) (a0_1 : Int) (A0_2 : Option Addr) (c0_2 : Nat) (l0_2 : List (S61)) (r : Bool) (w : World) (hr0_2 : Kd.C k61 w A0_2 l0_2.length l0_2) (hc0_2 : l0_2.length ≤ c0_2) (h : code_empty.f a0_0 a0_1 l0_2 = some r) :
 Calls Tryd.prog 43 #[.agg #[.string a0_0, .int .i64 a0_1, .slice A0_2 l0_2.length c0_2]] w fun e w' => e = .returned (.bool r) ∧ Below w.heap.size w w' := by
 have hu24 := Tryd.underlying24
 have HR0_2 := ak_ hr0_2
 have HC0_2 := ak_ hc0_2
 clear hr0_2 hc0_2
 have HB := ak_ (Below.refl w.heap.size w)
 have H : (if a0_0.toList = ([] : List UInt8) then (if a0_1 = 0 then (some ((l0_2.length : Int) == 0)) else (some false)) else (some false)) = some r := h
 clear h
 by_cases c2 : a0_0.toList = ([] : List UInt8)
 · rw [if_pos c2] at H
   have c2b0 : (a0_0.toList == ([] : List UInt8)) = true := beq_iff_eq.mpr c2
   have c2b1 : (a0_0.toList != ([] : List UInt8)) = false := bne_eq_false_iff_eq.mpr c2
   clear c2
   by_cases c3 : a0_1 = 0
   · rw [if_pos c3] at H
     have c3b0 : (a0_1 == 0) = true := beq_iff_eq.mpr c3
     have c3b1 : (a0_1 != 0) = false := bne_eq_false_iff_eq.mpr c3
     clear c3
     obtain rfl := Option.some.inj H
     go_enter Tryd.func43, Tryd.ntmps43
     go_wp2_with (first | ((with_reducible refine gate_dst (N := 1) rfl ?_); (try (refine gate_guard (by rfl) ?_; dsimp only)); refine box_event ?hg (N := 1) ?hd (cs := #[.string a0_0, .int .i64 a0_1, .slice A0_2 l0_2.length c0_2]) (t := 24) ?hr ?_; (case hd | hg => rfl); (case hr => first | (go_simp; done) | (go_simp; rfl)); intro gb332 hg w4 hbox hb; have n0_ := ak_ (below_step (by with_reducible repeat first | exact HB.out | apply below_alloc | apply pw_below_drewN | apply below_drew1) hb); have n1_ := ak_ (hbox); have n2_ := ak_ ((by rw [hg]; exact (below_size (by with_reducible repeat first | exact HB.out | apply below_alloc | apply pw_below_drewN | apply below_drew1)) : w.heap.size ≤ gb332)); have n3_ := ak_ ((by rw [hg]; exact (below_size (by with_reducible repeat first | exact HB.out | apply below_alloc | apply pw_below_drewN | apply below_drew1)) : w.heap.size ≤ gb332)); clear HB; have HB := n0_; have BK332 := n1_; have GW332 := n2_; have GE332 := n3_; clear n0_ n1_ n2_ n3_ hb hbox hg; have hcz5_0 : w4.cell? ⟨gb332, 0, none⟩ = some (.string a0_0) := (zc BK332.out 0).trans rfl; have hcz5_1 : w4.cell? ⟨gb332, 1, none⟩ = some (.int .i64 a0_1) := (zc BK332.out 1).trans rfl; have hcz5_2 : w4.cell? ⟨gb332, 2, none⟩ = some (.slice A0_2 l0_2.length c0_2) := (zc BK332.out 2).trans rfl; have hfz5_0 := zf BK332.out 0; have hfz5_1 := zf BK332.out 1; have hfz5_2 := zf BK332.out 2))
     go_ret
     exact ⟨by first | rfl | simp [*], by repeat (first | (with_reducible first | exact HB.out | apply below_alloc | apply pw_below_drewN | apply below_drew1 | refine below_set ?_ GE332.out) | exact HB.out)⟩
   · rw [if_neg c3] at H
     have c3b0 : (a0_1 == 0) = false := beq_eq_false_iff_ne.mpr c3
     have c3b1 : (a0_1 != 0) = true := bne_iff_ne.mpr c3
     obtain rfl := Option.some.inj H
     go_enter Tryd.func43, Tryd.ntmps43
     go_wp2_with (first | ((with_reducible refine gate_dst (N := 1) rfl ?_); (try (refine gate_guard (by rfl) ?_; dsimp only)); refine box_event ?hg (N := 1) ?hd (cs := #[.string a0_0, .int .i64 a0_1, .slice A0_2 l0_2.length c0_2]) (t := 24) ?hr ?_; (case hd | hg => rfl); (case hr => first | (go_simp; done) | (go_simp; rfl)); intro gb332 hg w6 hbox hb; have n0_ := ak_ (below_step (by with_reducible repeat first | exact HB.out | apply below_alloc | apply pw_below_drewN | apply below_drew1) hb); have n1_ := ak_ (hbox); have n2_ := ak_ ((by rw [hg]; exact (below_size (by with_reducible repeat first | exact HB.out | apply below_alloc | apply pw_below_drewN | apply below_drew1)) : w.heap.size ≤ gb332)); have n3_ := ak_ ((by rw [hg]; exact (below_size (by with_reducible repeat first | exact HB.out | apply below_alloc | apply pw_below_drewN | apply below_drew1)) : w.heap.size ≤ gb332)); clear HB; have HB := n0_; have BK332 := n1_; have GW332 := n2_; have GE332 := n3_; clear n0_ n1_ n2_ n3_ hb hbox hg; have hcz7_0 : w6.cell? ⟨gb332, 0, none⟩ = some (.string a0_0) := (zc BK332.out 0).trans rfl; have hcz7_1 : w6.cell? ⟨gb332, 1, none⟩ = some (.int .i64 a0_1) := (zc BK332.out 1).trans rfl; have hcz7_2 : w6.cell? ⟨gb332, 2, none⟩ = some (.slice A0_2 l0_2.length c0_2) := (zc BK332.out 2).trans rfl; have hfz7_0 := zf BK332.out 0; have hfz7_1 := zf BK332.out 1; have hfz7_2 := zf BK332.out 2))
     go_ret
     exact ⟨by first | rfl | simp [*], by repeat (first | (with_reducible first | exact HB.out | apply below_alloc | apply pw_below_drewN | apply below_drew1 | refine below_set ?_ GE332.out) | exact HB.out)⟩
 · rw [if_neg c2] at H
   have c2b0 : (a0_0.toList == ([] : List UInt8)) = false := beq_eq_false_iff_ne.mpr c2
   have c2b1 : (a0_0.toList != ([] : List UInt8)) = true := bne_iff_ne.mpr c2
   obtain rfl := Option.some.inj H
   go_enter Tryd.func43, Tryd.ntmps43
   go_wp2_with (first | ((with_reducible refine gate_dst (N := 1) rfl ?_); (try (refine gate_guard (by rfl) ?_; dsimp only)); refine box_event ?hg (N := 1) ?hd (cs := #[.string a0_0, .int .i64 a0_1, .slice A0_2 l0_2.length c0_2]) (t := 24) ?hr ?_; (case hd | hg => rfl); (case hr => first | (go_simp; done) | (go_simp; rfl)); intro gb332 hg w8 hbox hb; have n0_ := ak_ (below_step (by with_reducible repeat first | exact HB.out | apply below_alloc | apply pw_below_drewN | apply below_drew1) hb); have n1_ := ak_ (hbox); have n2_ := ak_ ((by rw [hg]; exact (below_size (by with_reducible repeat first | exact HB.out | apply below_alloc | apply pw_below_drewN | apply below_drew1)) : w.heap.size ≤ gb332)); have n3_ := ak_ ((by rw [hg]; exact (below_size (by with_reducible repeat first | exact HB.out | apply below_alloc | apply pw_below_drewN | apply below_drew1)) : w.heap.size ≤ gb332)); clear HB; have HB := n0_; have BK332 := n1_; have GW332 := n2_; have GE332 := n3_; clear n0_ n1_ n2_ n3_ hb hbox hg; have hcz9_0 : w8.cell? ⟨gb332, 0, none⟩ = some (.string a0_0) := (zc BK332.out 0).trans rfl; have hcz9_1 : w8.cell? ⟨gb332, 1, none⟩ = some (.int .i64 a0_1) := (zc BK332.out 1).trans rfl; have hcz9_2 : w8.cell? ⟨gb332, 2, none⟩ = some (.slice A0_2 l0_2.length c0_2) := (zc BK332.out 2).trans rfl; have hfz9_0 := zf BK332.out 0; have hfz9_1 := zf BK332.out 1; have hfz9_2 := zf BK332.out 2))
   go_ret
   exact ⟨by first | rfl | simp [*], by repeat (first | (with_reducible first | exact HB.out | apply below_alloc | apply pw_below_drewN | apply below_drew1 | refine below_set ?_ GE332.out) | exact HB.out)⟩
end Go.Proofs.YtcgpbakimkhdpaaDoor.Q
