/- Part 2 of a claim's texts. -/
import Derived.Test.YtmfddmhomkcikaaDoorPk1
import Derived.Lib.TrimUEq
namespace Go.Proofs.YtmfddmhomkcikaaDoor.Q
open Go.RowKit Go.Proofs.YtmfddmhomkcikaaDoorW.PrintWords Go.Proofs.YtmfddmhomkcikaaDoorW.PrintLast Go.Proofs.YtmfddmhomkcikaaDoorW.PrintMore
attribute [local go_sem] max2_int min2_int max_two min_two max_three min_three max_four min_four
set_option linter.unusedVariables false
set_option linter.unusedSimpArgs false
set_option maxHeartbeats 8000000
set_option maxRecDepth 100000
open Go.Proofs.YtmfddmhomkcikaaDoor.Q.H_
mutual
def uR02_At.j0 : Nat → ByteArray → Int → Int → Int → Int → Int → Bool → Option (Int × Int)
 | 0, _, _, _, _, _, _, _ => none
 | k + 1, x0, x1, x6, x7, x8, x9, x24 => if x24 = true then (uR02_At.j1 k x0 x1 x6 2 (wrap32 ((wrap32 (x6)) - 192)) 128) else (uR02_At.j1 k x0 x1 x6 x7 x8 x9)
def uR02_At.j1 : Nat → ByteArray → Int → Int → Int → Int → Int → Option (Int × Int)
 | 0, _, _, _, _, _, _ => none
 | k + 1, x0, x1, x6, x7, x8, x9 => if x6 ≥ 224 then (uR02_At.j2 k x0 x1 x6 x7 x8 x9 (decide (x6 ≤ 239))) else (uR02_At.j2 k x0 x1 x6 x7 x8 x9 false)
def uR02_At.j2 : Nat → ByteArray → Int → Int → Int → Int → Int → Bool → Option (Int × Int)
 | 0, _, _, _, _, _, _, _ => none
 | k + 1, x0, x1, x6, x7, x8, x9, x33 => if x33 = true then (uR02_At.j3 k x0 x1 x6 3 (wrap32 ((wrap32 (x6)) - 224)) 2048) else (uR02_At.j3 k x0 x1 x6 x7 x8 x9)
def uR02_At.j3 : Nat → ByteArray → Int → Int → Int → Int → Int → Option (Int × Int)
 | 0, _, _, _, _, _, _ => none
 | k + 1, x0, x1, x6, x7, x8, x9 => if x6 ≥ 240 then (uR02_At.j4 k x0 x1 x6 x7 x8 x9 (decide (x6 ≤ 244))) else (uR02_At.j4 k x0 x1 x6 x7 x8 x9 false)
def uR02_At.j4 : Nat → ByteArray → Int → Int → Int → Int → Int → Bool → Option (Int × Int)
 | 0, _, _, _, _, _, _, _ => none
 | k + 1, x0, x1, x6, x7, x8, x9, x42 => if x42 = true then (uR02_At.j5 k x0 x1 4 (wrap32 ((wrap32 (x6)) - 240)) 65536) else (uR02_At.j5 k x0 x1 x7 x8 x9)
def uR02_At.j5 : Nat → ByteArray → Int → Int → Int → Int → Option (Int × Int)
 | 0, _, _, _, _, _ => none
 | k + 1, x0, x1, x7, x8, x9 => if x7 = 0 then (uR02_At.j6 k x0 x1 x7 x8 x9 true) else (uR02_At.j6 k x0 x1 x7 x8 x9 (decide ((wrap64 (x1 + x7)) > (x0.size : Int))))
def uR02_At.j6 : Nat → ByteArray → Int → Int → Int → Int → Bool → Option (Int × Int)
 | 0, _, _, _, _, _, _ => none
 | k + 1, x0, x1, x7, x8, x9, x55 => if x55 = true then (some (0, 0)) else (uR02_At.l0 k x0 x1 x7 x8 x9 1)
def uR02_At.l0 : Nat → ByteArray → Int → Int → Int → Int → Int → Option (Int × Int)
 | 0, _, _, _, _, _, _ => none
 | k + 1, x0, x1, x7, x8, x9, x10 => if x10 < x7 then (if 0 ≤ (wrap64 (x1 + x10)) then (if (wrap64 (x1 + x10)) < (x0.size : Int) then (if (bt x0 (wrap64 (x1 + x10))) < 128 then (some (0, 0)) else (if (bt x0 (wrap64 (x1 + x10))) > 191 then (some (0, 0)) else (uR02_At.l0 k x0 x1 x7 (wrap32 ((wrap32 ((wrap32 (64 * x8)) + (wrap32 (bt x0 (wrap64 (x1 + x10)))))) - 128)) x9 (wrap64 (x10 + 1))))) else (none)) else (none)) else (if x8 < x9 then (some (0, 0)) else (if x8 > 1114111 then (some (0, 0)) else (if x8 ≥ 55296 then (if x8 ≤ 57343 then (some (0, 0)) else (some (x8, x7))) else (some (x8, x7)))))
end
def uR02_At.f (k : Nat) (a0 : ByteArray) (a1 : Int) : Option (Int × Int) := if 0 ≤ a1 then (if a1 < (a0.size : Int) then (if (bt a0 a1) < 128 then (some (wrap32 (bt a0 a1), 1)) else (if (bt a0 a1) ≥ 194 then (uR02_At.j0 k a0 a1 (bt a0 a1) 0 0 0 (decide ((bt a0 a1) ≤ 223))) else (uR02_At.j0 k a0 a1 (bt a0 a1) 0 0 0 false))) else (none)) else (none)
theorem uR02_At.calls (k : Nat) (a0 : ByteArray) (a1 : Int) (r1 : Int) (r2 : Int) (w : World) (h : uR02_At.f k a0 a1 = some (r1, r2)) :
 Calls Tryd.prog 64 #[.string a0, .int .i64 a1] w fun e w' => e = .returned (.tuple #[.int .i32 r1, .int .i64 r2]) ∧ Drawn0 w w' := by
 have H : (if 0 ≤ a1 then (if a1 < (a0.size : Int) then (if (bt a0 a1) < 128 then (some (wrap32 (bt a0 a1), 1)) else (if (bt a0 a1) ≥ 194 then (uR02_At.j0 k a0 a1 (bt a0 a1) 0 0 0 (decide ((bt a0 a1) ≤ 223))) else (uR02_At.j0 k a0 a1 (bt a0 a1) 0 0 0 false))) else (none)) else (none)) = some (r1, r2) := h
 clear h
 by_cases c3 : 0 ≤ a1
 · rw [if_pos c3] at H
   have c3b0 : decide (0 ≤ a1) = true := dt_ c3
   clear c3
   by_cases c4 : a1 < (a0.size : Int)
   · rw [if_pos c4] at H
     have c4b0 : decide (a1 < (a0.size : Int)) = true := dt_ c4
     clear c4
     have HF6 := ak_ H
     clear H
     have p5 : 0 ≤ (a1 : Int) := of_decide_eq_true (by assumption)
     have q5 : a1 < (a0.size : Int) := of_decide_eq_true (by assumption)
     have hx5 := bt_at a0 a1
     replace p5 := eq_true p5
     replace q5 := eq_true q5
     go_enter Tryd.func64, Tryd.ntmps64
     go_upto_if 16 with (fail)
     have H := HF6.out
     clear HF6
     by_cases c7 : (bt a0 a1) < 128
     · rw [if_pos c7] at H
       have c7b0 : decide ((bt a0 a1) < 128) = true := dt_ c7
       clear c7
       (first | rw [c7b0] | (simp only [i64_w, i32_w]; rw [c7b0]) | skip)
       simp only [Option.some.injEq, Prod.mk.injEq] at H
       obtain ⟨rfl, rfl⟩ := H
       go_wp2
       go_ret2
       exact ⟨by first | rfl | simp [*], by repeat (first | exact Drawn0.refl _ | apply Drawn0.step)⟩
     rw [if_neg c7] at H
     have c7b0 : decide ((bt a0 a1) < 128) = false := df_ c7
     clear c7
     (first | rw [c7b0] | (simp only [i64_w, i32_w]; rw [c7b0]) | skip)
     have HC8 := ak_ H
     clear H
     go_upto_region 7 with (fail)
     go_cut [24] (fun v24 wc => ∃ (kq : Nat) (x24_7 : Bool), v24 = .bool x24_7 ∧ Aside0 (uR02_At.j0 kq a0 a1 (bt a0 a1) 0 0 0 x24_7 = some (r1, r2)) ∧ Aside0 (kq ≤ k) ∧ Drawn0 w wc)
     case first =>
      have H := HC8.out
      clear HC8
      by_cases c9 : (bt a0 a1) ≥ 194
      · rw [if_pos c9] at H
        have c9b0 : decide (194 ≤ (bt a0 a1)) = true := dt_ c9
        clear c9
        (first | rw [c9b0] | (simp only [i64_w, i32_w]; rw [c9b0]) | skip)
        have H' := ak_ H
        clear H
        go_wp2
        go_meet
        case rel => exact ⟨_, (decide ((bt a0 a1) ≤ 223)), (by first | rfl | simp [*]), H', ⟨by first | omega | exact Nat.le_refl _⟩, by repeat (first | exact Drawn0.refl _ | apply Drawn0.step)⟩
      rw [if_neg c9] at H
      have c9b0 : decide (194 ≤ (bt a0 a1)) = false := df_ c9
      clear c9
      (first | rw [c9b0] | (simp only [i64_w, i32_w]; rw [c9b0]) | skip)
      have H' := ak_ H
      clear H
      go_wp2
      go_meet
      case rel => exact ⟨_, (false), (by first | rfl | simp [*]), H', ⟨by first | omega | exact Nat.le_refl _⟩, by repeat (first | exact Drawn0.refl _ | apply Drawn0.step)⟩
     case rest =>
      clear HC8
      try clear p2
      try clear c3
      try clear c3b0
      try clear p3
      try clear c4
      try clear c4b0
      try clear p5
      try clear q5
      try clear hx5
      try clear c6
      try clear c7
      try clear c7b0
      try clear c9
      try clear c9b0
      try clear p5
      try clear q5
      obtain ⟨kq, x24_7, rfl, HA, HJ7, ⟨mc7, rfl⟩⟩ := hcut
      cases kq with
      | zero => exact absurd HA.out (by simp [uR02_At.j0])
      | succ kj7 =>
       have H := HA.out
       clear HA
       simp only [uR02_At.j0] at H
       have HC10 := ak_ H
       clear H
       go_upto_if 24 with (fail)
       go_cut [7, 8, 9] (fun v7 v8 v9 wc => ∃ (kq : Nat) (x7_9 : Int) (x8_9 : Int) (x9_9 : Int), v7 = .int .i64 x7_9 ∧ v8 = .int .i32 x8_9 ∧ v9 = .int .i32 x9_9 ∧ Aside0 (uR02_At.j1 kq a0 a1 (bt a0 a1) x7_9 x8_9 x9_9 = some (r1, r2)) ∧ Aside0 (kq ≤ kj7) ∧ Drawn0 w wc)
       case first =>
        have H := HC10.out
        clear HC10
        by_cases c11 : x24_7 = true
        · subst c11
          have H1 : (uR02_At.j1 kj7 a0 a1 (bt a0 a1) 2 (wrap32 ((wrap32 ((bt a0 a1))) - 192)) 128) = some (r1, r2) := by rw [if_pos rfl] at H; exact H
          clear H
          have H := H1
          clear H1
          have H' := ak_ H
          clear H
          go_wp2
          go_meet
          case rel => exact ⟨_, (2), (wrap32 ((wrap32 ((bt a0 a1))) - 192)), (128), (by first | rfl | simp [*]), (by first | rfl | simp [*]), (by first | rfl | simp [*]), H', ⟨by have := HJ7.out; first | omega | exact Nat.le_refl _⟩, by repeat (first | exact Drawn0.refl _ | apply Drawn0.step)⟩
        replace c11 := Bool.eq_false_iff.mpr c11
        subst c11
        have H1 : (uR02_At.j1 kj7 a0 a1 (bt a0 a1) 0 0 0) = some (r1, r2) := by rw [if_neg (show ¬ (false = true) by decide)] at H; exact H
        clear H
        have H := H1
        clear H1
        have H' := ak_ H
        clear H
        go_wp2
        go_meet
        case rel => exact ⟨_, (0), (0), (0), (by first | rfl | simp [*]), (by first | rfl | simp [*]), (by first | rfl | simp [*]), H', ⟨by have := HJ7.out; first | omega | exact Nat.le_refl _⟩, by repeat (first | exact Drawn0.refl _ | apply Drawn0.step)⟩
       case rest =>
        clear HC10
        try clear c1
        try clear p2
        try clear c3
        try clear c3b0
        try clear p3
        try clear c4
        try clear c4b0
        try clear p5
        try clear q5
        try clear hx5
        try clear c6
        try clear c7
        try clear c7b0
        try clear c9
        try clear c9b0
        try clear c11
        try clear p2
        try clear p3
        try clear p5
        try clear q5
        obtain ⟨kq, x7_9, x8_9, x9_9, rfl, rfl, rfl, HA, HJ9, ⟨mc9, rfl⟩⟩ := hcut
        cases kq with
        | zero => exact absurd HA.out (by simp [uR02_At.j1])
        | succ kj9 =>
         have H := HA.out
         clear HA
         simp only [uR02_At.j1] at H
         have HC12 := ak_ H
         clear H
         go_upto_region 11 with (fail)
         go_cut [33] (fun v33 wc => ∃ (kq : Nat) (x33_11 : Bool), v33 = .bool x33_11 ∧ Aside0 (uR02_At.j2 kq a0 a1 (bt a0 a1) x7_9 x8_9 x9_9 x33_11 = some (r1, r2)) ∧ Aside0 (kq ≤ kj9) ∧ Drawn0 w wc)
         case first =>
          have H := HC12.out
          clear HC12
          by_cases c13 : (bt a0 a1) ≥ 224
          · rw [if_pos c13] at H
            have c13b0 : decide (224 ≤ (bt a0 a1)) = true := dt_ c13
            clear c13
            (first | rw [c13b0] | (simp only [i64_w, i32_w]; rw [c13b0]) | skip)
            have H' := ak_ H
            clear H
            go_wp2
            go_meet
            case rel => exact ⟨_, (decide ((bt a0 a1) ≤ 239)), (by first | rfl | simp [*]), H', ⟨by have := HJ7.out; have := HJ9.out; first | omega | exact Nat.le_refl _⟩, by repeat (first | exact Drawn0.refl _ | apply Drawn0.step)⟩
          rw [if_neg c13] at H
          have c13b0 : decide (224 ≤ (bt a0 a1)) = false := df_ c13
          clear c13
          (first | rw [c13b0] | (simp only [i64_w, i32_w]; rw [c13b0]) | skip)
          have H' := ak_ H
          clear H
          go_wp2
          go_meet
          case rel => exact ⟨_, (false), (by first | rfl | simp [*]), H', ⟨by have := HJ7.out; have := HJ9.out; first | omega | exact Nat.le_refl _⟩, by repeat (first | exact Drawn0.refl _ | apply Drawn0.step)⟩
         case rest =>
          clear HC12
          try clear c1
          try clear p2
          try clear c3
          try clear c3b0
          try clear p3
          try clear c4
          try clear c4b0
          try clear p5
          try clear q5
          try clear hx5
          try clear c6
          try clear c7
          try clear c7b0
          try clear c9
          try clear c9b0
          try clear c11
          try clear c13
          try clear c13b0
          try clear p2
          try clear p3
          try clear p5
          try clear q5
          obtain ⟨kq, x33_11, rfl, HA, HJ11, ⟨mc11, rfl⟩⟩ := hcut
          cases kq with
          | zero => exact absurd HA.out (by simp [uR02_At.j2])
          | succ kj11 =>
           have H := HA.out
           clear HA
           simp only [uR02_At.j2] at H
           have HC14 := ak_ H
           clear H
           go_upto_if 33 with (fail)
           go_cut [7, 8, 9] (fun v7 v8 v9 wc => ∃ (kq : Nat) (x7_13 : Int) (x8_13 : Int) (x9_13 : Int), v7 = .int .i64 x7_13 ∧ v8 = .int .i32 x8_13 ∧ v9 = .int .i32 x9_13 ∧ Aside0 (uR02_At.j3 kq a0 a1 (bt a0 a1) x7_13 x8_13 x9_13 = some (r1, r2)) ∧ Aside0 (kq ≤ kj11) ∧ Drawn0 w wc)
           case first =>
            have H := HC14.out
            clear HC14
            by_cases c15 : x33_11 = true
            · subst c15
              have H1 : (uR02_At.j3 kj11 a0 a1 (bt a0 a1) 3 (wrap32 ((wrap32 ((bt a0 a1))) - 224)) 2048) = some (r1, r2) := by rw [if_pos rfl] at H; exact H
              clear H
              have H := H1
              clear H1
              have H' := ak_ H
              clear H
              go_wp2
              go_meet
              case rel => exact ⟨_, (3), (wrap32 ((wrap32 ((bt a0 a1))) - 224)), (2048), (by first | rfl | simp [*]), (by first | rfl | simp [*]), (by first | rfl | simp [*]), H', ⟨by have := HJ7.out; have := HJ9.out; have := HJ11.out; first | omega | exact Nat.le_refl _⟩, by repeat (first | exact Drawn0.refl _ | apply Drawn0.step)⟩
            replace c15 := Bool.eq_false_iff.mpr c15
            subst c15
            have H1 : (uR02_At.j3 kj11 a0 a1 (bt a0 a1) x7_9 x8_9 x9_9) = some (r1, r2) := by rw [if_neg (show ¬ (false = true) by decide)] at H; exact H
            clear H
            have H := H1
            clear H1
            have H' := ak_ H
            clear H
            go_wp2
            go_meet
            case rel => exact ⟨_, (x7_9), (x8_9), (x9_9), (by first | rfl | simp [*]), (by first | rfl | simp [*]), (by first | rfl | simp [*]), H', ⟨by have := HJ7.out; have := HJ9.out; have := HJ11.out; first | omega | exact Nat.le_refl _⟩, by repeat (first | exact Drawn0.refl _ | apply Drawn0.step)⟩
           case rest =>
            clear HC14
            try clear c1
            try clear p2
            try clear c3
            try clear c3b0
            try clear p3
            try clear c4
            try clear c4b0
            try clear p5
            try clear q5
            try clear hx5
            try clear c6
            try clear c7
            try clear c7b0
            try clear c9
            try clear c9b0
            try clear c11
            try clear c13
            try clear c13b0
            try clear c15
            try clear p2
            try clear p3
            try clear p5
            try clear q5
            obtain ⟨kq, x7_13, x8_13, x9_13, rfl, rfl, rfl, HA, HJ13, ⟨mc13, rfl⟩⟩ := hcut
            cases kq with
            | zero => exact absurd HA.out (by simp [uR02_At.j3])
            | succ kj13 =>
             have H := HA.out
             clear HA
             simp only [uR02_At.j3] at H
             have HC16 := ak_ H
             clear H
             go_upto_region 15 with (fail)
             go_cut [42] (fun v42 wc => ∃ (kq : Nat) (x42_15 : Bool), v42 = .bool x42_15 ∧ Aside0 (uR02_At.j4 kq a0 a1 (bt a0 a1) x7_13 x8_13 x9_13 x42_15 = some (r1, r2)) ∧ Aside0 (kq ≤ kj13) ∧ Drawn0 w wc)
             case first =>
              have H := HC16.out
              clear HC16
              by_cases c17 : (bt a0 a1) ≥ 240
              · rw [if_pos c17] at H
                have c17b0 : decide (240 ≤ (bt a0 a1)) = true := dt_ c17
                clear c17
                (first | rw [c17b0] | (simp only [i64_w, i32_w]; rw [c17b0]) | skip)
                have H' := ak_ H
                clear H
                go_wp2
                go_meet
                case rel => exact ⟨_, (decide ((bt a0 a1) ≤ 244)), (by first | rfl | simp [*]), H', ⟨by have := HJ7.out; have := HJ9.out; have := HJ11.out; have := HJ13.out; first | omega | exact Nat.le_refl _⟩, by repeat (first | exact Drawn0.refl _ | apply Drawn0.step)⟩
              rw [if_neg c17] at H
              have c17b0 : decide (240 ≤ (bt a0 a1)) = false := df_ c17
              clear c17
              (first | rw [c17b0] | (simp only [i64_w, i32_w]; rw [c17b0]) | skip)
              have H' := ak_ H
              clear H
              go_wp2
              go_meet
              case rel => exact ⟨_, (false), (by first | rfl | simp [*]), H', ⟨by have := HJ7.out; have := HJ9.out; have := HJ11.out; have := HJ13.out; first | omega | exact Nat.le_refl _⟩, by repeat (first | exact Drawn0.refl _ | apply Drawn0.step)⟩
             case rest =>
              clear HC16
              try clear c1
              try clear p2
              try clear c3
              try clear c3b0
              try clear p3
              try clear c4
              try clear c4b0
              try clear p5
              try clear q5
              try clear hx5
              try clear c6
              try clear c7
              try clear c7b0
              try clear c9
              try clear c9b0
              try clear c11
              try clear c13
              try clear c13b0
              try clear c15
              try clear c17
              try clear c17b0
              try clear p2
              try clear p3
              try clear p5
              try clear q5
              obtain ⟨kq, x42_15, rfl, HA, HJ15, ⟨mc15, rfl⟩⟩ := hcut
              cases kq with
              | zero => exact absurd HA.out (by simp [uR02_At.j4])
              | succ kj15 =>
               have H := HA.out
               clear HA
               simp only [uR02_At.j4] at H
               have HC18 := ak_ H
               clear H
               go_upto_if 42 with (fail)
               go_cut [7, 8, 9] (fun v7 v8 v9 wc => ∃ (kq : Nat) (x7_17 : Int) (x8_17 : Int) (x9_17 : Int), v7 = .int .i64 x7_17 ∧ v8 = .int .i32 x8_17 ∧ v9 = .int .i32 x9_17 ∧ Aside0 (uR02_At.j5 kq a0 a1 x7_17 x8_17 x9_17 = some (r1, r2)) ∧ Aside0 (kq ≤ kj15) ∧ Drawn0 w wc)
               case first =>
                have H := HC18.out
                clear HC18
                by_cases c19 : x42_15 = true
                · subst c19
                  have H1 : (uR02_At.j5 kj15 a0 a1 4 (wrap32 ((wrap32 ((bt a0 a1))) - 240)) 65536) = some (r1, r2) := by rw [if_pos rfl] at H; exact H
                  clear H
                  have H := H1
                  clear H1
                  have H' := ak_ H
                  clear H
                  go_wp2
                  go_meet
                  case rel => exact ⟨_, (4), (wrap32 ((wrap32 ((bt a0 a1))) - 240)), (65536), (by first | rfl | simp [*]), (by first | rfl | simp [*]), (by first | rfl | simp [*]), H', ⟨by have := HJ7.out; have := HJ9.out; have := HJ11.out; have := HJ13.out; have := HJ15.out; first | omega | exact Nat.le_refl _⟩, by repeat (first | exact Drawn0.refl _ | apply Drawn0.step)⟩
                replace c19 := Bool.eq_false_iff.mpr c19
                subst c19
                have H1 : (uR02_At.j5 kj15 a0 a1 x7_13 x8_13 x9_13) = some (r1, r2) := by rw [if_neg (show ¬ (false = true) by decide)] at H; exact H
                clear H
                have H := H1
                clear H1
                have H' := ak_ H
                clear H
                go_wp2
                go_meet
                case rel => exact ⟨_, (x7_13), (x8_13), (x9_13), (by first | rfl | simp [*]), (by first | rfl | simp [*]), (by first | rfl | simp [*]), H', ⟨by have := HJ7.out; have := HJ9.out; have := HJ11.out; have := HJ13.out; have := HJ15.out; first | omega | exact Nat.le_refl _⟩, by repeat (first | exact Drawn0.refl _ | apply Drawn0.step)⟩
               case rest =>
                clear HC18
                try clear c1
                try clear p2
                try clear c3
                try clear c3b0
                try clear p3
                try clear c4
                try clear c4b0
                try clear p5
                try clear q5
                try clear hx5
                try clear c6
                try clear c7
                try clear c7b0
                try clear c9
                try clear c9b0
                try clear c11
                try clear c13
                try clear c13b0
                try clear c15
                try clear c17
                try clear c17b0
                try clear c19
                try clear p2
                try clear p3
                try clear p5
                try clear q5
                obtain ⟨kq, x7_17, x8_17, x9_17, rfl, rfl, rfl, HA, HJ17, ⟨mc17, rfl⟩⟩ := hcut
                cases kq with
                | zero => exact absurd HA.out (by simp [uR02_At.j5])
                | succ kj17 =>
                 have H := HA.out
                 clear HA
                 simp only [uR02_At.j5] at H
                 have HC20 := ak_ H
                 clear H
                 go_upto_region 19 with (fail)
                 go_cut [55] (fun v55 wc => ∃ (kq : Nat) (x55_19 : Bool), v55 = .bool x55_19 ∧ Aside0 (uR02_At.j6 kq a0 a1 x7_17 x8_17 x9_17 x55_19 = some (r1, r2)) ∧ Aside0 (kq ≤ kj17) ∧ Drawn0 w wc)
                 case first =>
                  have H := HC20.out
                  clear HC20
                  by_cases c21 : x7_17 = 0
                  · rw [if_pos c21] at H
                    have c21b0 : (x7_17 == 0) = true := beq_iff_eq.mpr c21
                    have c21b1 : (x7_17 != 0) = false := bne_eq_false_iff_eq.mpr c21
                    clear c21
                    (first | rw [c21b0] | (simp only [i64_w, i32_w]; rw [c21b0]) | skip)
                    have H' := ak_ H
                    clear H
                    go_wp2
                    go_meet
                    case rel => exact ⟨_, (true), (by first | rfl | simp [*]), H', ⟨by have := HJ7.out; have := HJ9.out; have := HJ11.out; have := HJ13.out; have := HJ15.out; have := HJ17.out; first | omega | exact Nat.le_refl _⟩, by repeat (first | exact Drawn0.refl _ | apply Drawn0.step)⟩
                  rw [if_neg c21] at H
                  have c21b0 : (x7_17 == 0) = false := beq_eq_false_iff_ne.mpr c21
                  have c21b1 : (x7_17 != 0) = true := bne_iff_ne.mpr c21
                  (first | rw [c21b0] | (simp only [i64_w, i32_w]; rw [c21b0]) | skip)
                  have H' := ak_ H
                  clear H
                  go_wp2
                  go_meet
                  case rel => exact ⟨_, (decide ((wrap64 (a1 + x7_17)) > (a0.size : Int))), (by first | rfl | simp [*]), H', ⟨by have := HJ7.out; have := HJ9.out; have := HJ11.out; have := HJ13.out; have := HJ15.out; have := HJ17.out; first | omega | exact Nat.le_refl _⟩, by repeat (first | exact Drawn0.refl _ | apply Drawn0.step)⟩
                 case rest =>
                  clear HC20
                  try clear c1
                  try clear c2
                  try clear p2
                  try clear c3
                  try clear c3b0
                  try clear p3
                  try clear c4
                  try clear c4b0
                  try clear p5
                  try clear q5
                  try clear hx5
                  try clear c6
                  try clear p6
                  try clear c7
                  try clear c7b0
                  try clear c9
                  try clear c9b0
                  try clear c11
                  try clear c13
                  try clear c13b0
                  try clear c15
                  try clear c17
                  try clear c17b0
                  try clear c19
                  try clear c21
                  try clear c21b0
                  try clear c21b1
                  try clear p2
                  try clear p3
                  try clear p5
                  try clear q5
                  obtain ⟨kq, x55_19, rfl, HA, HJ19, ⟨mc19, rfl⟩⟩ := hcut
                  cases kq with
                  | zero => exact absurd HA.out (by simp [uR02_At.j6])
                  | succ kj19 =>
                   have H := HA.out
                   clear HA
                   simp only [uR02_At.j6] at H
                   have HF22 := ak_ H
                   clear H
                   go_upto_if 55 with (fail)
                   have H := HF22.out
                   clear HF22
                   by_cases c23 : x55_19 = true
                   · subst c23
                     have H1 : (some (0, 0)) = some (r1, r2) := by rw [if_pos rfl] at H; exact H
                     clear H
                     have H := H1
                     clear H1
                     simp only [Option.some.injEq, Prod.mk.injEq] at H
                     obtain ⟨rfl, rfl⟩ := H
                     go_wp2
                     go_ret2
                     exact ⟨by first | rfl | simp [*], by repeat (first | exact Drawn0.refl _ | apply Drawn0.step)⟩
                   replace c23 := Bool.eq_false_iff.mpr c23
                   subst c23
                   have H1 : (uR02_At.l0 kj19 a0 a1 x7_17 x8_17 x9_17 1) = some (r1, r2) := by rw [if_neg (show ¬ (false = true) by decide)] at H; exact H
                   clear H
                   have H := H1
                   clear H1
                   have H' := ak_ H
                   clear H
                   go_wp2
                   go_loopg [8, 10] kj19 (fun kq v8 v10 w' => ∃ (x8_8 : Int) (x10_8 : Int), v8 = .int .i32 x8_8 ∧ v10 = .int .i64 x10_8 ∧ Aside0 (uR02_At.l0 kq a0 a1 x7_17 x8_8 x9_17 x10_8 = some (r1, r2)) ∧ Aside0 (kq ≤ kj19) ∧ Drawn0 w w')
                   case atStart => exact ⟨(x8_17), (1), (by first | rfl | simp [*]), (by first | rfl | simp [*]), H', ⟨Nat.le_refl _⟩, by repeat (first | exact Drawn0.refl _ | apply Drawn0.step)⟩
                   case round =>
                    clear H'
                    try clear c1
                    try clear c2
                    try clear p2
                    try clear c3
                    try clear c3b0
                    try clear p3
                    try clear c4
                    try clear c4b0
                    try clear p5
                    try clear q5
                    try clear hx5
                    try clear c6
                    try clear p6
                    try clear c7
                    try clear c7b0
                    try clear c9
                    try clear c9b0
                    try clear c11
                    try clear c13
                    try clear c13b0
                    try clear c15
                    try clear c17
                    try clear c17b0
                    try clear c19
                    try clear c21
                    try clear c21b0
                    try clear c21b1
                    try clear c23
                    try clear p2
                    try clear p3
                    try clear p5
                    try clear p6
                    try clear q5
                    obtain ⟨x8_8, x10_8, rfl, rfl, HA, HK8, ⟨m8, rfl⟩⟩ := hrel
                    cases gk with
                    | zero => exact absurd HA.out (by simp [uR02_At.l0])
                    | succ k8 =>
                     have H := HA.out
                     clear HA
                     simp only [uR02_At.l0] at H
                     have HF24 := ak_ H
                     clear H
                     go_upto_if 58 with (fail)
                     have H := HF24.out
                     clear HF24
                     by_cases c25 : x10_8 < x7_17
                     · rw [if_pos c25] at H
                       have c25b0 : decide (x10_8 < x7_17) = true := dt_ c25
                       clear c25
                       (first | rw [c25b0] | (simp only [i64_w, i32_w]; rw [c25b0]) | skip)
                       obtain ⟨ji26, hji26⟩ : ∃ j_ : Int, (wrap64 (a1 + x10_8)) = j_ := ⟨_, rfl⟩
                       replace H : (if 0 ≤ (ji26) then (if (ji26) < (a0.size : Int) then (if (bt a0 (ji26)) < 128 then (some (0, 0)) else (if (bt a0 (ji26)) > 191 then (some (0, 0)) else (uR02_At.l0 k8 a0 a1 x7_17 (wrap32 ((wrap32 ((wrap32 (64 * x8_8)) + (wrap32 (bt a0 (ji26))))) - 128)) x9_17 (wrap64 (x10_8 + 1))))) else (none)) else (none)) = some (r1, r2) := by first | (rw [hji26] at H; exact H) | (simp only [hji26] at H ⊢; exact H)
                       have hji26w : (IntKind.i64.wrap (a1 + x10_8)) = ji26 := (i64_w _).trans hji26
                       by_cases c27 : 0 ≤ (ji26)
                       · rw [if_pos c27] at H
                         have c27b0 : decide (0 ≤ (ji26)) = true := dt_ c27
                         clear c27
                         by_cases c28 : (ji26) < (a0.size : Int)
                         · rw [if_pos c28] at H
                           have c28b0 : decide ((ji26) < (a0.size : Int)) = true := dt_ c28
                           clear c28
                           by_cases c30 : (bt a0 (ji26)) < 128
                           · rw [if_pos c30] at H
                             have c30b0 : decide ((bt a0 (ji26)) < 128) = true := dt_ c30
                             clear c30
                             simp only [Option.some.injEq, Prod.mk.injEq] at H
                             obtain ⟨rfl, rfl⟩ := H
                             have p29 : 0 ≤ ((ji26) : Int) := of_decide_eq_true (by assumption)
                             have q29 : (ji26) < (a0.size : Int) := of_decide_eq_true (by assumption)
                             have hx29 := bt_at a0 (ji26)
                             replace p29 := eq_true p29
                             replace q29 := eq_true q29
                             go_wp2
                             go_ret2
                             exact ⟨by first | rfl | (simp; done) | (simp only [← hji26] <;> (first | rfl | simp)) | (simp [*]; done), by repeat (first | exact Drawn0.refl _ | apply Drawn0.step)⟩
                           rw [if_neg c30] at H
                           have c30b0 : decide ((bt a0 (ji26)) < 128) = false := df_ c30
                           clear c30
                           have HF31 := ak_ H
                           clear H
                           have p29 : 0 ≤ ((ji26) : Int) := of_decide_eq_true (by assumption)
                           have q29 : (ji26) < (a0.size : Int) := of_decide_eq_true (by assumption)
                           have hx29 := bt_at a0 (ji26)
                           replace p29 := eq_true p29
                           replace q29 := eq_true q29
                           go_upto_if 71 with (fail)
                           have H := HF31.out
                           clear HF31
                           by_cases c32 : (bt a0 (ji26)) > 191
                           · rw [if_pos c32] at H
                             have c32b0 : decide (191 < (bt a0 (ji26))) = true := dt_ c32
                             clear c32
                             (first | rw [c32b0] | (simp only [i64_w, i32_w]; rw [c32b0]) | skip)
                             simp only [Option.some.injEq, Prod.mk.injEq] at H
                             obtain ⟨rfl, rfl⟩ := H
                             go_wp2
                             go_ret2
                             exact ⟨by first | rfl | (simp; done) | (simp only [← hji26] <;> (first | rfl | simp)) | (simp [*]; done), by repeat (first | exact Drawn0.refl _ | apply Drawn0.step)⟩
                           rw [if_neg c32] at H
                           have c32b0 : decide (191 < (bt a0 (ji26))) = false := df_ c32
                           clear c32
                           (first | rw [c32b0] | (simp only [i64_w, i32_w]; rw [c32b0]) | skip)
                           have H' := ak_ H
                           clear H
                           go_wp2
                           go_roundg k8
                           case measure => have := HJ7.out; have := HJ9.out; have := HJ11.out; have := HJ13.out; have := HJ15.out; have := HJ17.out; have := HJ19.out; have := HK8.out; omega
                           case rel => exact ⟨(wrap32 ((wrap32 ((wrap32 (64 * x8_8)) + (wrap32 (bt a0 (ji26))))) - 128)), (wrap64 (x10_8 + 1)), (by first | rfl | (simp; done) | (simp only [← hji26] <;> (first | rfl | simp)) | (simp [*]; done)), (by first | rfl | simp [*]), H', ⟨by have := HJ7.out; have := HJ9.out; have := HJ11.out; have := HJ13.out; have := HJ15.out; have := HJ17.out; have := HJ19.out; have := HK8.out; omega⟩, by repeat (first | exact Drawn0.refl _ | apply Drawn0.step)⟩
                         rw [if_neg c28] at H
                         exact absurd H (by simp)
                       rw [if_neg c27] at H
                       exact absurd H (by simp)
                     rw [if_neg c25] at H
                     have c25b0 : decide (x10_8 < x7_17) = false := df_ c25
                     clear c25
                     (first | rw [c25b0] | (simp only [i64_w, i32_w]; rw [c25b0]) | skip)
                     by_cases c33 : x8_8 < x9_17
                     · rw [if_pos c33] at H
                       have c33b0 : decide (x8_8 < x9_17) = true := dt_ c33
                       clear c33
                       simp only [Option.some.injEq, Prod.mk.injEq] at H
                       obtain ⟨rfl, rfl⟩ := H
                       go_wp2
                       go_ret2
                       exact ⟨by first | rfl | simp [*], by repeat (first | exact Drawn0.refl _ | apply Drawn0.step)⟩
                     rw [if_neg c33] at H
                     have c33b0 : decide (x8_8 < x9_17) = false := df_ c33
                     clear c33
                     by_cases c34 : x8_8 > 1114111
                     · rw [if_pos c34] at H
                       have c34b0 : decide (1114111 < x8_8) = true := dt_ c34
                       clear c34
                       simp only [Option.some.injEq, Prod.mk.injEq] at H
                       obtain ⟨rfl, rfl⟩ := H
                       go_wp2
                       go_ret2
                       exact ⟨by first | rfl | simp [*], by repeat (first | exact Drawn0.refl _ | apply Drawn0.step)⟩
                     rw [if_neg c34] at H
                     have c34b0 : decide (1114111 < x8_8) = false := df_ c34
                     clear c34
                     by_cases c35 : x8_8 ≥ 55296
                     · rw [if_pos c35] at H
                       have c35b0 : decide (55296 ≤ x8_8) = true := dt_ c35
                       clear c35
                       have HF36 := ak_ H
                       clear H
                       go_upto_if 92 with (fail)
                       have H := HF36.out
                       clear HF36
                       by_cases c37 : x8_8 ≤ 57343
                       · rw [if_pos c37] at H
                         have c37b0 : decide (x8_8 ≤ 57343) = true := dt_ c37
                         clear c37
                         (first | rw [c37b0] | (simp only [i64_w, i32_w]; rw [c37b0]) | skip)
                         simp only [Option.some.injEq, Prod.mk.injEq] at H
                         obtain ⟨rfl, rfl⟩ := H
                         go_wp2
                         go_ret2
                         exact ⟨by first | rfl | simp [*], by repeat (first | exact Drawn0.refl _ | apply Drawn0.step)⟩
                       rw [if_neg c37] at H
                       have c37b0 : decide (x8_8 ≤ 57343) = false := df_ c37
                       clear c37
                       (first | rw [c37b0] | (simp only [i64_w, i32_w]; rw [c37b0]) | skip)
                       simp only [Option.some.injEq, Prod.mk.injEq] at H
                       obtain ⟨rfl, rfl⟩ := H
                       go_wp2
                       go_ret2
                       exact ⟨by first | rfl | simp [*], by repeat (first | exact Drawn0.refl _ | apply Drawn0.step)⟩
                     rw [if_neg c35] at H
                     have c35b0 : decide (55296 ≤ x8_8) = false := df_ c35
                     clear c35
                     simp only [Option.some.injEq, Prod.mk.injEq] at H
                     obtain ⟨rfl, rfl⟩ := H
                     go_wp2
                     go_ret2
                     exact ⟨by first | rfl | simp [*], by repeat (first | exact Drawn0.refl _ | apply Drawn0.step)⟩
   rw [if_neg c4] at H
   exact absurd H (by simp)
 rw [if_neg c3] at H
 exact absurd H (by simp)
theorem atwr64 {a : Int} (h : -9223372036854775808 ≤ a) (h' : a ≤ 9223372036854775807) : wrap64 a = a := by unfold wrap64; omega
theorem atwr32 {a : Int} (h : -2147483648 ≤ a) (h' : a ≤ 2147483647) : wrap32 a = a := by unfold wrap32; omega
theorem bt_getD (s : ByteArray) (i : Int) (h : i.toNat < s.size) : bt s i = ((s.data.toList.getD i.toNat 0).toNat : Int) := by
  unfold bt
  rw [dif_pos h]
  have hl : i.toNat < s.data.toList.length := by rw [← Lib.size_eq]; exact h
  rw [List.getD_eq_getElem?_getD, List.getElem?_eq_getElem hl, Option.getD_some]
  rfl
def atFin (v least n : Int) : Option (Int × Int) := if v < least ∨ v > 1114111 ∨ (55296 ≤ v ∧ v ≤ 57343) then some (0, 0) else some (v, n)
theorem at_end (k : Nat) (s : ByteArray) (i n v least : Int) : uR02_At.l0 (k + 1) s i n v least n = atFin v least n := by
  rw [uR02_At.l0, if_neg (by omega)]
  unfold atFin
  repeat' split
  all_goals first | rfl | (exfalso; omega)
theorem at_step (k : Nat) (s : ByteArray) (i n v least j : Int) (h0 : 0 ≤ i) (hs : s.size ≤ 140737488351232) (hj : 1 ≤ j) (hjn : j < n) (hn : n ≤ 4) (hi : i + j < (s.size : Int)) (hv : 0 ≤ v) (hv1 : v ≤ 1000000) :
    uR02_At.l0 (k + 1) s i n v least j = if bt s (i + j) < 128 ∨ bt s (i + j) > 191 then some (0, 0) else uR02_At.l0 k s i n (64 * v + bt s (i + j) - 128) least (j + 1) := by
  have hb := bt_range s (i + j)
  rw [uR02_At.l0, if_pos hjn, atwr64 (a := i + j) (by omega) (by omega), if_pos (by omega), if_pos hi, atwr64 (a := j + 1) (by omega) (by omega), atwr32 (a := bt s (i + j)) (by omega) (by omega), atwr32 (a := 64 * v) (by omega) (by omega), atwr32 (a := 64 * v + bt s (i + j)) (by omega) (by omega), atwr32 (a := 64 * v + bt s (i + j) - 128) (by omega) (by omega)]
  repeat' split
  all_goals first | rfl | (exfalso; omega)
theorem at_tail (k : Nat) (s : ByteArray) (i n v least : Int) (h0 : 0 ≤ i) (hs : s.size ≤ 140737488351232) (hi : i < (s.size : Int)) (hn : 0 < n) (hn4 : n ≤ 4) :
    uR02_At.j5 (k + 2) s i n v least = if i + n > (s.size : Int) then some (0, 0) else uR02_At.l0 k s i n v least 1 := by
  rw [uR02_At.j5, if_neg (by omega), atwr64 (a := i + n) (by omega) (by omega), uR02_At.j6]
  by_cases h : i + n > (s.size : Int)
  · rw [dt_ h, if_pos rfl, if_pos h]
  · rw [df_ h, if_neg (by decide), if_neg h]
theorem at_none (k : Nat) (s : ByteArray) (i v least : Int) : uR02_At.j5 (k + 2) s i 0 v least = some (0, 0) := by
  rw [uR02_At.j5, if_pos rfl, uR02_At.j6, if_pos rfl]
def rB (b : Nat) : Prop := 128 ≤ b ∧ b ≤ 191
instance (b : Nat) : Decidable (rB b) := inferInstanceAs (Decidable (_ ∧ _))
theorem dec2 (n b0 b1 b2 b3 : Nat) (h : 194 ≤ b0) (h' : b0 ≤ 223) (h1 : b1 < 256) : Lib.decodeN n b0 b1 b2 b3 = if 1 < n ∧ (128 ≤ b1 ∧ b1 ≤ 191) then (64 * (b0 - 192) + b1 - 128, 2) else (65533, 1) := by
  unfold Lib.decodeN
  repeat' split
  all_goals first | rfl | (exfalso; omega) | (apply Prod.ext <;> simp only <;> omega)
theorem dec3 (n b0 b1 b2 b3 : Nat) (h : 224 ≤ b0) (h' : b0 ≤ 239) (h1 : b1 < 256) (h2 : b2 < 256) : Lib.decodeN n b0 b1 b2 b3 = if 2 < n ∧ (128 ≤ b1 ∧ b1 ≤ 191) ∧ (128 ≤ b2 ∧ b2 ≤ 191) ∧ 2048 ≤ 64 * (64 * (b0 - 224) + b1 - 128) + b2 - 128 ∧ ¬ (55296 ≤ 64 * (64 * (b0 - 224) + b1 - 128) + b2 - 128 ∧ 64 * (64 * (b0 - 224) + b1 - 128) + b2 - 128 ≤ 57343) then (64 * (64 * (b0 - 224) + b1 - 128) + b2 - 128, 3) else (65533, 1) := by
  unfold Lib.decodeN
  repeat' split
  all_goals first | rfl | (exfalso; omega) | (apply Prod.ext <;> simp only <;> omega)
theorem dec4 (n b0 b1 b2 b3 : Nat) (h : 240 ≤ b0) (h' : b0 ≤ 244) (h1 : b1 < 256) (h2 : b2 < 256) (h3 : b3 < 256) : Lib.decodeN n b0 b1 b2 b3 = if 3 < n ∧ (128 ≤ b1 ∧ b1 ≤ 191) ∧ (128 ≤ b2 ∧ b2 ≤ 191) ∧ (128 ≤ b3 ∧ b3 ≤ 191) ∧ 65536 ≤ 64 * (64 * (64 * (b0 - 240) + b1 - 128) + b2 - 128) + b3 - 128 ∧ 64 * (64 * (64 * (b0 - 240) + b1 - 128) + b2 - 128) + b3 - 128 ≤ 1114111 then (64 * (64 * (64 * (b0 - 240) + b1 - 128) + b2 - 128) + b3 - 128, 4) else (65533, 1) := by
  unfold Lib.decodeN
  repeat' split
  all_goals first | rfl | (exfalso; omega) | (apply Prod.ext <;> simp only <;> omega)
def atD (x : Nat × Nat) : Int × Int := if x.1 = 65533 ∧ x.2 = 1 then (0, 0) else ((x.1 : Int), (x.2 : Int))
theorem atD_bad : atD (65533, 1) = (0, 0) := rfl
theorem atD_two (v n : Nat) (h : 2 ≤ n) : atD (v, n) = ((v : Int), (n : Int)) := by
  unfold atD
  rw [if_neg (by simp only; omega)]
theorem at_spec (s : ByteArray) (i : Int) (hs : s.size ≤ 140737488351232) (h0 : 0 ≤ i) (h1 : i < (s.size : Int)) (k : Nat) (hk : 20 ≤ k) : uR02_At.f k s i = some (atD (Utf8.decode s i.toNat)) := by
  obtain ⟨p, rfl⟩ : ∃ p : Nat, i = (p : Int) := ⟨i.toNat, by omega⟩
  rw [Int.toNat_natCast, Lib.decode_N s p, ← Lib.size_eq]
  have hp : p < s.size := by omega
  have hbt : ∀ j : Nat, p + j < s.size → bt s ((p : Int) + (j : Int)) = ((s.data.toList.getD (p + j) 0).toNat : Int) := fun j hj => by
    rw [show ((p : Int) + (j : Int)) = ((p + j : Nat) : Int) by omega, bt_getD s _ (by rw [Int.toNat_natCast]; exact hj), Int.toNat_natCast]
  have e0 : bt s (p : Int) = ((s.data.toList.getD p 0).toNat : Int) := by
    have := hbt 0 (by omega)
    rwa [show ((p : Int) + ((0 : Nat) : Int)) = (p : Int) by omega] at this
  have e1 : p + 1 < s.size → bt s ((p : Int) + 1) = ((s.data.toList.getD (p + 1) 0).toNat : Int) := hbt 1
  have e2 : p + 2 < s.size → bt s ((p : Int) + 2) = ((s.data.toList.getD (p + 2) 0).toNat : Int) := hbt 2
  have e3 : p + 3 < s.size → bt s ((p : Int) + 3) = ((s.data.toList.getD (p + 3) 0).toNat : Int) := hbt 3
  have l0 := (s.data.toList.getD p 0).toNat_lt
  have l1 := (s.data.toList.getD (p + 1) 0).toNat_lt
  have l2 := (s.data.toList.getD (p + 2) 0).toNat_lt
  have l3 := (s.data.toList.getD (p + 3) 0).toNat_lt
  generalize (s.data.toList.getD p 0).toNat = b0 at *
  generalize (s.data.toList.getD (p + 1) 0).toNat = b1 at *
  generalize (s.data.toList.getD (p + 2) 0).toNat = b2 at *
  generalize (s.data.toList.getD (p + 3) 0).toNat = b3 at *
  clear hbt
  obtain ⟨k, rfl⟩ : ∃ q, k = q + 20 := ⟨k - 20, by omega⟩
  unfold uR02_At.f
  rw [if_pos h0, if_pos h1, e0]
  by_cases c0 : b0 < 128
  · rw [if_pos (by omega), Lib.decodeN_ascii _ _ _ _ _ c0, atwr32 (by omega) (by omega)]
    unfold atD
    rw [if_neg (by simp only; omega)]
    rfl
  · rw [if_neg (by omega)]
    by_cases c1 : b0 < 194
    · rw [if_neg (by omega), uR02_At.j0, if_neg (by decide), uR02_At.j1, if_neg (by omega), uR02_At.j2, if_neg (by decide), uR02_At.j3, if_neg (by omega), uR02_At.j4, if_neg (by decide), at_none, Lib.decodeN_bad _ _ _ _ _ (.inl ⟨by omega, c1⟩), atD_bad]
    · rw [if_pos (by omega)]
      by_cases c2 : b0 ≤ 223
      · rw [dt_ (by omega), uR02_At.j0, if_pos rfl, uR02_At.j1, if_neg (by omega), uR02_At.j2, if_neg (by decide), uR02_At.j3, if_neg (by omega), uR02_At.j4, if_neg (by decide), at_tail _ _ _ _ _ _ h0 hs h1 (by omega) (by omega), atwr32 (a := (b0 : Int)) (by omega) (by omega), atwr32 (by omega) (by omega), dec2 _ _ _ _ _ (by omega) c2 l1]
        by_cases hn : 1 < s.size - p
        · rw [if_neg (by omega), at_step _ _ _ _ _ _ _ h0 hs (by omega) (by omega) (by omega) (by omega) (by omega) (by omega), e1 (by omega)]
          by_cases hb : 128 ≤ b1 ∧ b1 ≤ 191
          · rw [if_neg (by omega), if_pos ⟨hn, hb⟩, atD_two _ _ (by omega), show ((1 : Int) + 1) = 2 from rfl, at_end, atFin, if_neg (by omega)]
            exact congrArg some (Prod.ext (by simp only; omega) rfl)
          · rw [if_pos (by omega), if_neg (fun h => hb h.2), atD_bad]
        · rw [if_pos (by omega), if_neg (fun h => hn h.1), atD_bad]
      · rw [df_ (by omega), uR02_At.j0, if_neg (by decide), uR02_At.j1, if_pos (by omega)]
        by_cases c3 : b0 ≤ 239
        · rw [dt_ (by omega), uR02_At.j2, if_pos rfl, uR02_At.j3, if_neg (by omega), uR02_At.j4, if_neg (by decide), at_tail _ _ _ _ _ _ h0 hs h1 (by omega) (by omega), atwr32 (a := (b0 : Int)) (by omega) (by omega), atwr32 (by omega) (by omega), dec3 _ _ _ _ _ (by omega) c3 l1 l2]
          by_cases hn : 2 < s.size - p
          · rw [if_neg (by omega), at_step _ _ _ _ _ _ _ h0 hs (by omega) (by omega) (by omega) (by omega) (by omega) (by omega), e1 (by omega)]
            by_cases hb : 128 ≤ b1 ∧ b1 ≤ 191
            · rw [if_neg (by omega), show ((1 : Int) + 1) = 2 from rfl, at_step _ _ _ _ _ _ _ h0 hs (by omega) (by omega) (by omega) (by omega) (by omega) (by omega), e2 (by omega)]
              by_cases hb2 : 128 ≤ b2 ∧ b2 ≤ 191
              · rw [if_neg (by omega), show ((2 : Int) + 1) = 3 from rfl, at_end, atFin]
                split
                · rw [if_neg (by omega), atD_bad]
                · rw [if_pos ⟨hn, hb, hb2, by omega, by omega⟩, atD_two _ _ (by omega)]
                  exact congrArg some (Prod.ext (by simp only; omega) rfl)
              · rw [if_pos (by omega), if_neg (fun h => hb2 h.2.2.1), atD_bad]
            · rw [if_pos (by omega), if_neg (fun h => hb h.2.1), atD_bad]
          · rw [if_pos (by omega), if_neg (fun h => hn h.1), atD_bad]
        · rw [df_ (by omega), uR02_At.j2, if_neg (by decide), uR02_At.j3, if_pos (by omega)]
          by_cases c4 : b0 ≤ 244
          · rw [dt_ (by omega), uR02_At.j4, if_pos rfl, at_tail _ _ _ _ _ _ h0 hs h1 (by omega) (by omega), atwr32 (a := (b0 : Int)) (by omega) (by omega), atwr32 (by omega) (by omega), dec4 _ _ _ _ _ (by omega) c4 l1 l2 l3]
            by_cases hn : 3 < s.size - p
            · rw [if_neg (by omega), at_step _ _ _ _ _ _ _ h0 hs (by omega) (by omega) (by omega) (by omega) (by omega) (by omega), e1 (by omega)]
              by_cases hb : 128 ≤ b1 ∧ b1 ≤ 191
              · rw [if_neg (by omega), show ((1 : Int) + 1) = 2 from rfl, at_step _ _ _ _ _ _ _ h0 hs (by omega) (by omega) (by omega) (by omega) (by omega) (by omega), e2 (by omega)]
                by_cases hb2 : 128 ≤ b2 ∧ b2 ≤ 191
                · rw [if_neg (by omega), show ((2 : Int) + 1) = 3 from rfl, at_step _ _ _ _ _ _ _ h0 hs (by omega) (by omega) (by omega) (by omega) (by omega) (by omega), e3 (by omega)]
                  by_cases hb3 : 128 ≤ b3 ∧ b3 ≤ 191
                  · rw [if_neg (by omega), show ((3 : Int) + 1) = 4 from rfl, at_end, atFin]
                    split
                    · rw [if_neg (by omega), atD_bad]
                    · rw [if_pos ⟨hn, hb, hb2, hb3, by omega, by omega⟩, atD_two _ _ (by omega)]
                      exact congrArg some (Prod.ext (by simp only; omega) rfl)
                  · rw [if_pos (by omega), if_neg (fun h => hb3 h.2.2.2.1), atD_bad]
                · rw [if_pos (by omega), if_neg (fun h => hb2 h.2.2.1), atD_bad]
              · rw [if_pos (by omega), if_neg (fun h => hb h.2.1), atD_bad]
            · rw [if_pos (by omega), if_neg (fun h => hn h.1), atD_bad]
          · rw [df_ (by omega), uR02_At.j4, if_neg (by decide), at_none, Lib.decodeN_bad _ _ _ _ _ (.inr ⟨by omega, l0⟩), atD_bad]
def uR02_letter.f (a0 : Int) : Option (Bool) := if a0 ≥ 65 then (if a0 ≤ 90 then (some true) else (if a0 ≥ 97 then (if a0 ≤ 122 then (some true) else (some (decide (a0 ≥ 128)))) else (some (decide (a0 ≥ 128))))) else (if a0 ≥ 97 then (if a0 ≤ 122 then (some true) else (some (decide (a0 ≥ 128)))) else (some (decide (a0 ≥ 128))))
theorem uR02_letter.calls (a0 : Int) (r : Bool) (w : World) (h : uR02_letter.f a0 = some r) :
 Calls Tryd.prog 66 #[.int .i32 a0] w fun e w' => e = .returned (.bool r) ∧ Drawn0 w w' := by
 have H : (if a0 ≥ 65 then (if a0 ≤ 90 then (some true) else (if a0 ≥ 97 then (if a0 ≤ 122 then (some true) else (some (decide (a0 ≥ 128)))) else (some (decide (a0 ≥ 128))))) else (if a0 ≥ 97 then (if a0 ≤ 122 then (some true) else (some (decide (a0 ≥ 128)))) else (some (decide (a0 ≥ 128))))) = some r := h
 clear h
 by_cases c2 : a0 ≥ 65
 · rw [if_pos c2] at H
   have c2b0 : decide (65 ≤ a0) = true := dt_ c2
   clear c2
   by_cases c3 : a0 ≤ 90
   · rw [if_pos c3] at H
     have c3b0 : decide (a0 ≤ 90) = true := dt_ c3
     clear c3
     obtain rfl := Option.some.inj H
     go_enter Tryd.func66, Tryd.ntmps66
     go_wp2
     go_ret
     exact ⟨by first | rfl | simp [*], by repeat (first | exact Drawn0.refl _ | apply Drawn0.step)⟩
   · rw [if_neg c3] at H
     have c3b0 : decide (a0 ≤ 90) = false := df_ c3
     clear c3
     by_cases c4 : a0 ≥ 97
     · rw [if_pos c4] at H
       have c4b0 : decide (97 ≤ a0) = true := dt_ c4
       clear c4
       by_cases c5 : a0 ≤ 122
       · rw [if_pos c5] at H
         have c5b0 : decide (a0 ≤ 122) = true := dt_ c5
         clear c5
         obtain rfl := Option.some.inj H
         go_enter Tryd.func66, Tryd.ntmps66
         go_wp2
         go_ret
         exact ⟨by first | rfl | simp [*], by repeat (first | exact Drawn0.refl _ | apply Drawn0.step)⟩
       · rw [if_neg c5] at H
         have c5b0 : decide (a0 ≤ 122) = false := df_ c5
         clear c5
         obtain rfl := Option.some.inj H
         go_enter Tryd.func66, Tryd.ntmps66
         go_wp2
         go_ret
         exact ⟨by first | rfl | simp [*], by repeat (first | exact Drawn0.refl _ | apply Drawn0.step)⟩
     · rw [if_neg c4] at H
       have c4b0 : decide (97 ≤ a0) = false := df_ c4
       clear c4
       obtain rfl := Option.some.inj H
       go_enter Tryd.func66, Tryd.ntmps66
       go_wp2
       go_ret
       exact ⟨by first | rfl | simp [*], by repeat (first | exact Drawn0.refl _ | apply Drawn0.step)⟩
 · rw [if_neg c2] at H
   have c2b0 : decide (65 ≤ a0) = false := df_ c2
   clear c2
   by_cases c6 : a0 ≥ 97
   · rw [if_pos c6] at H
     have c6b0 : decide (97 ≤ a0) = true := dt_ c6
     clear c6
     by_cases c7 : a0 ≤ 122
     · rw [if_pos c7] at H
       have c7b0 : decide (a0 ≤ 122) = true := dt_ c7
       clear c7
       obtain rfl := Option.some.inj H
       go_enter Tryd.func66, Tryd.ntmps66
       go_wp2
       go_ret
       exact ⟨by first | rfl | simp [*], by repeat (first | exact Drawn0.refl _ | apply Drawn0.step)⟩
     · rw [if_neg c7] at H
       have c7b0 : decide (a0 ≤ 122) = false := df_ c7
       clear c7
       obtain rfl := Option.some.inj H
       go_enter Tryd.func66, Tryd.ntmps66
       go_wp2
       go_ret
       exact ⟨by first | rfl | simp [*], by repeat (first | exact Drawn0.refl _ | apply Drawn0.step)⟩
   · rw [if_neg c6] at H
     have c6b0 : decide (97 ≤ a0) = false := df_ c6
     clear c6
     obtain rfl := Option.some.inj H
     go_enter Tryd.func66, Tryd.ntmps66
     go_wp2
     go_ret
     exact ⟨by first | rfl | simp [*], by repeat (first | exact Drawn0.refl _ | apply Drawn0.step)⟩
def uR02_may.f (a0 : Int) : Option (Bool) := (uR02_letter.f a0).bind fun t342 => (if t342 = true then (some true) else (if a0 ≥ 48 then (if a0 ≤ 57 then (some true) else (if a0 = 45 then (some true) else (some (a0 == 95)))) else (if a0 = 45 then (some true) else (some (a0 == 95)))))
theorem uR02_may.calls (a0 : Int) (r : Bool) (w : World) (h : uR02_may.f a0 = some r) :
 Calls Tryd.prog 65 #[.int .i32 a0] w fun e w' => e = .returned (.bool r) ∧ Drawn0 w w' := by
 have H : ((uR02_letter.f a0).bind fun t342 => (if t342 = true then (some true) else (if a0 ≥ 48 then (if a0 ≤ 57 then (some true) else (if a0 = 45 then (some true) else (some (a0 == 95)))) else (if a0 = 45 then (some true) else (some (a0 == 95)))))) = some r := h
 clear h
 replace H := ob_ H
 obtain ⟨t342, A20, H⟩ := H
 replace H : (if t342 = true then (some true) else (if a0 ≥ 48 then (if a0 ≤ 57 then (some true) else (if a0 = 45 then (some true) else (some (a0 == 95)))) else (if a0 = 45 then (some true) else (some (a0 == 95))))) = some r := H
 have A2 := ak_ A20
 clear A20
 by_cases c3 : t342 = true
 · subst c3
   have H1 : (some true) = some r := by rw [if_pos rfl] at H; exact H
   clear H
   have H := H1
   clear H1
   obtain rfl := Option.some.inj H
   go_enter Tryd.func65, Tryd.ntmps65
   go_wp2_with (first | ((with_reducible refine gate_callee (f := 66) rfl ?_); refine goesL_ (some 4) rfl rfl Tryd.func66 (by kernel_rfl) rfl #[.int .i32 a0] rfl (by (try simp only [mt_, mc_, mn_]); first | done | rfl) ?_; (with_reducible refine (uR02_letter.calls a0 true _ A2.out).mono ?_); rintro e w' ⟨rfl, ⟨nd, rfl⟩⟩; refine ⟨_, rfl, ?_⟩))
   go_ret
   exact ⟨by first | rfl | simp [*], by repeat (first | exact Drawn0.refl _ | apply Drawn0.step)⟩
 · replace c3 := Bool.eq_false_iff.mpr c3
   subst c3
   have H1 : (if a0 ≥ 48 then (if a0 ≤ 57 then (some true) else (if a0 = 45 then (some true) else (some (a0 == 95)))) else (if a0 = 45 then (some true) else (some (a0 == 95)))) = some r := by rw [if_neg (show ¬ (false = true) by decide)] at H; exact H
   clear H
   have H := H1
   clear H1
   by_cases c4 : a0 ≥ 48
   · rw [if_pos c4] at H
     have c4b0 : decide (48 ≤ a0) = true := dt_ c4
     clear c4
     by_cases c5 : a0 ≤ 57
     · rw [if_pos c5] at H
       have c5b0 : decide (a0 ≤ 57) = true := dt_ c5
       clear c5
       obtain rfl := Option.some.inj H
       go_enter Tryd.func65, Tryd.ntmps65
       go_wp2_with (first | ((with_reducible refine gate_callee (f := 66) rfl ?_); refine goesL_ (some 4) rfl rfl Tryd.func66 (by kernel_rfl) rfl #[.int .i32 a0] rfl (by (try simp only [mt_, mc_, mn_]); first | done | rfl) ?_; (with_reducible refine (uR02_letter.calls a0 false _ A2.out).mono ?_); rintro e w' ⟨rfl, ⟨nd, rfl⟩⟩; refine ⟨_, rfl, ?_⟩))
       go_ret
       exact ⟨by first | rfl | simp [*], by repeat (first | exact Drawn0.refl _ | apply Drawn0.step)⟩
     · rw [if_neg c5] at H
       have c5b0 : decide (a0 ≤ 57) = false := df_ c5
       clear c5
       by_cases c6 : a0 = 45
       · rw [if_pos c6] at H
         have c6b0 : (a0 == 45) = true := beq_iff_eq.mpr c6
         have c6b1 : (a0 != 45) = false := bne_eq_false_iff_eq.mpr c6
         clear c6
         obtain rfl := Option.some.inj H
         go_enter Tryd.func65, Tryd.ntmps65
         go_wp2_with (first | ((with_reducible refine gate_callee (f := 66) rfl ?_); refine goesL_ (some 4) rfl rfl Tryd.func66 (by kernel_rfl) rfl #[.int .i32 a0] rfl (by (try simp only [mt_, mc_, mn_]); first | done | rfl) ?_; (with_reducible refine (uR02_letter.calls a0 false _ A2.out).mono ?_); rintro e w' ⟨rfl, ⟨nd, rfl⟩⟩; refine ⟨_, rfl, ?_⟩))
         go_ret
         exact ⟨by first | rfl | simp [*], by repeat (first | exact Drawn0.refl _ | apply Drawn0.step)⟩
       · rw [if_neg c6] at H
         have c6b0 : (a0 == 45) = false := beq_eq_false_iff_ne.mpr c6
         have c6b1 : (a0 != 45) = true := bne_iff_ne.mpr c6
         obtain rfl := Option.some.inj H
         go_enter Tryd.func65, Tryd.ntmps65
         go_wp2_with (first | ((with_reducible refine gate_callee (f := 66) rfl ?_); refine goesL_ (some 4) rfl rfl Tryd.func66 (by kernel_rfl) rfl #[.int .i32 a0] rfl (by (try simp only [mt_, mc_, mn_]); first | done | rfl) ?_; (with_reducible refine (uR02_letter.calls a0 false _ A2.out).mono ?_); rintro e w' ⟨rfl, ⟨nd, rfl⟩⟩; refine ⟨_, rfl, ?_⟩))
         go_ret
         exact ⟨by first | rfl | simp [*], by repeat (first | exact Drawn0.refl _ | apply Drawn0.step)⟩
   · rw [if_neg c4] at H
     have c4b0 : decide (48 ≤ a0) = false := df_ c4
     clear c4
     by_cases c7 : a0 = 45
     · rw [if_pos c7] at H
       have c7b0 : (a0 == 45) = true := beq_iff_eq.mpr c7
       have c7b1 : (a0 != 45) = false := bne_eq_false_iff_eq.mpr c7
       clear c7
       obtain rfl := Option.some.inj H
       go_enter Tryd.func65, Tryd.ntmps65
       go_wp2_with (first | ((with_reducible refine gate_callee (f := 66) rfl ?_); refine goesL_ (some 4) rfl rfl Tryd.func66 (by kernel_rfl) rfl #[.int .i32 a0] rfl (by (try simp only [mt_, mc_, mn_]); first | done | rfl) ?_; (with_reducible refine (uR02_letter.calls a0 false _ A2.out).mono ?_); rintro e w' ⟨rfl, ⟨nd, rfl⟩⟩; refine ⟨_, rfl, ?_⟩))
       go_ret
       exact ⟨by first | rfl | simp [*], by repeat (first | exact Drawn0.refl _ | apply Drawn0.step)⟩
     · rw [if_neg c7] at H
       have c7b0 : (a0 == 45) = false := beq_eq_false_iff_ne.mpr c7
       have c7b1 : (a0 != 45) = true := bne_iff_ne.mpr c7
       obtain rfl := Option.some.inj H
       go_enter Tryd.func65, Tryd.ntmps65
       go_wp2_with (first | ((with_reducible refine gate_callee (f := 66) rfl ?_); refine goesL_ (some 4) rfl rfl Tryd.func66 (by kernel_rfl) rfl #[.int .i32 a0] rfl (by (try simp only [mt_, mc_, mn_]); first | done | rfl) ?_; (with_reducible refine (uR02_letter.calls a0 false _ A2.out).mono ?_); rintro e w' ⟨rfl, ⟨nd, rfl⟩⟩; refine ⟨_, rfl, ?_⟩))
       go_ret
       exact ⟨by first | rfl | simp [*], by repeat (first | exact Drawn0.refl _ | apply Drawn0.step)⟩
def uR02_Runes.l0 : Nat → ByteArray → Int → Int → Option (Int)
 | 0, _, _, _ => none
 | k + 1, x0, x3, x4 => if x4 < (x0.size : Int) then ((uR02_At.f k x0 x4).bind fun bt343 => (if bt343.2 = 0 then (uR02_Runes.l0 k x0 (wrap64 (x3 + 1)) (wrap64 (x4 + 1))) else (uR02_Runes.l0 k x0 (wrap64 (x3 + 1)) (wrap64 (x4 + bt343.2))))) else (some x3)
def uR02_Runes.f (k : Nat) (a0 : ByteArray) : Option (Int) := uR02_Runes.l0 k a0 0 0
theorem uR02_Runes.calls (k : Nat) (a0 : ByteArray) (r : Int) (w : World) (h : uR02_Runes.f k a0 = some r) :
 Calls Tryd.prog 67 #[.string a0] w fun e w' => e = .returned (.int .i64 r) ∧ Drawn0 w w' := by
 have H : (uR02_Runes.l0 k a0 0 0) = some r := h
 clear h
 have H' := ak_ H
 clear H
 go_enter Tryd.func67, Tryd.ntmps67
 go_wp2
 go_loopg [3, 4] k (fun kq v3 v4 w' => ∃ (x3_1 : Int) (x4_1 : Int), v3 = .int .i64 x3_1 ∧ v4 = .int .i64 x4_1 ∧ Aside0 (uR02_Runes.l0 kq a0 x3_1 x4_1 = some r) ∧ Aside0 (kq ≤ k) ∧ Drawn0 w w')
 case atStart => exact ⟨(0), (0), (by first | rfl | simp [*]), (by first | rfl | simp [*]), H', ⟨Nat.le_refl _⟩, by repeat (first | exact Drawn0.refl _ | apply Drawn0.step)⟩
 case round =>
  clear H'
  obtain ⟨x3_1, x4_1, rfl, rfl, HA, HK1, ⟨m1, rfl⟩⟩ := hrel
  cases gk with
  | zero => exact absurd HA.out (by simp [uR02_Runes.l0])
  | succ k1 =>
   have H := HA.out
   clear HA
   simp only [uR02_Runes.l0] at H
   have HF2 := ak_ H
   clear H
   go_upto_if 10 with (fail)
   have H := HF2.out
   clear HF2
   by_cases c3 : x4_1 < (a0.size : Int)
   · rw [if_pos c3] at H
     have c3b0 : decide (x4_1 < (a0.size : Int)) = true := dt_ c3
     clear c3
     (first | rw [c3b0] | (simp only [i64_w, i32_w]; rw [c3b0]) | skip)
     replace H := ob_ H
     obtain ⟨⟨t343, t344⟩, A40, H⟩ := H
     replace H : (if t344 = 0 then (uR02_Runes.l0 k1 a0 (wrap64 (x3_1 + 1)) (wrap64 (x4_1 + 1))) else (uR02_Runes.l0 k1 a0 (wrap64 (x3_1 + 1)) (wrap64 (x4_1 + t344)))) = some r := H
     have A4 := ak_ A40
     clear A40
     have HF5 := ak_ H
     clear H
     go_upto_if 18 with (first | ((with_reducible refine gate_callee (f := 64) rfl ?_); refine goesL_ (some 14) rfl rfl Tryd.func64 (by kernel_rfl) rfl #[.string a0, .int .i64 x4_1] rfl (by (try simp only [mt_, mc_, mn_]); first | done | rfl) ?_; (with_reducible refine (uR02_At.calls k1 a0 x4_1 t343 t344 _ A4.out).mono ?_); rintro e w' ⟨rfl, ⟨nd, rfl⟩⟩; refine ⟨_, rfl, ?_⟩))
     (try simp only [Act.put, sa_, sz_, ss_])
     have H := HF5.out
     clear HF5
     by_cases c6 : t344 = 0
     · rw [if_pos c6] at H
       have c6b0 : (t344 == 0) = true := beq_iff_eq.mpr c6
       have c6b1 : (t344 != 0) = false := bne_eq_false_iff_eq.mpr c6
       clear c6
       (first | rw [c6b0] | (simp only [i64_w, i32_w]; rw [c6b0]) | skip)
       have H' := ak_ H
       clear H
       go_wp2
       go_roundg k1
       case measure => have := HK1.out; omega
       case rel => exact ⟨(wrap64 (x3_1 + 1)), (wrap64 (x4_1 + 1)), (by first | rfl | simp [*]), (by first | rfl | simp [*]), H', ⟨by have := HK1.out; omega⟩, by repeat (first | exact Drawn0.refl _ | apply Drawn0.step)⟩
     · rw [if_neg c6] at H
       have c6b0 : (t344 == 0) = false := beq_eq_false_iff_ne.mpr c6
       have c6b1 : (t344 != 0) = true := bne_iff_ne.mpr c6
       (first | rw [c6b0] | (simp only [i64_w, i32_w]; rw [c6b0]) | skip)
       have H' := ak_ H
       clear H
       go_wp2
       go_roundg k1
       case measure => have := HK1.out; omega
       case rel => exact ⟨(wrap64 (x3_1 + 1)), (wrap64 (x4_1 + t344)), (by first | rfl | simp [*]), (by first | rfl | simp [*]), H', ⟨by have := HK1.out; omega⟩, by repeat (first | exact Drawn0.refl _ | apply Drawn0.step)⟩
   · rw [if_neg c3] at H
     have c3b0 : decide (x4_1 < (a0.size : Int)) = false := df_ c3
     clear c3
     (first | rw [c3b0] | (simp only [i64_w, i32_w]; rw [c3b0]) | skip)
     obtain rfl := Option.some.inj H
     go_wp2
     go_ret
     exact ⟨by first | rfl | simp [*], by repeat (first | exact Drawn0.refl _ | apply Drawn0.step)⟩
def uR02_Good.l0 : Nat → ByteArray → Int → Option (Bool)
 | 0, _, _ => none
 | k + 1, x0, x3 => if x3 < (x0.size : Int) then ((uR02_At.f k x0 x3).bind fun bt346 => (if bt346.2 = 0 then (some false) else ((uR02_may.f bt346.1).bind fun t348 => (if t348 = true then (if x3 = 0 then ((uR02_letter.f bt346.1).bind fun t349 => (if t349 = true then (uR02_Good.l0 k x0 (wrap64 (x3 + bt346.2))) else (some false))) else (uR02_Good.l0 k x0 (wrap64 (x3 + bt346.2)))) else (some false))))) else (if x0.toList = ([] : List UInt8) then (some false) else ((uR02_Runes.f k x0).bind fun t345 => (some (decide (t345 ≤ 64)))))
def uR02_Good.f (k : Nat) (a0 : ByteArray) : Option (Bool) := uR02_Good.l0 k a0 0
theorem uR02_Good.calls (k : Nat) (a0 : ByteArray) (r : Bool) (w : World) (h : uR02_Good.f k a0 = some r) :
 Calls Tryd.prog 31 #[.string a0] w fun e w' => e = .returned (.bool r) ∧ Drawn0 w w' := by
 have H : (uR02_Good.l0 k a0 0) = some r := h
 clear h
 have H' := ak_ H
 clear H
 go_enter Tryd.func31, Tryd.ntmps31
 go_wp2
 go_loopg [3] k (fun kq v3 w' => ∃ (x3_1 : Int), v3 = .int .i64 x3_1 ∧ Aside0 (uR02_Good.l0 kq a0 x3_1 = some r) ∧ Aside0 (kq ≤ k) ∧ Drawn0 w w')
 case atStart => exact ⟨(0), (by first | rfl | simp [*]), H', ⟨Nat.le_refl _⟩, by repeat (first | exact Drawn0.refl _ | apply Drawn0.step)⟩
 case round =>
  clear H'
  obtain ⟨x3_1, rfl, HA, HK1, ⟨m1, rfl⟩⟩ := hrel
  cases gk with
  | zero => exact absurd HA.out (by simp [uR02_Good.l0])
  | succ k1 =>
   have H := HA.out
   clear HA
   simp only [uR02_Good.l0] at H
   have HF2 := ak_ H
   clear H
   go_upto_if 9 with (fail)
   have H := HF2.out
   clear HF2
   by_cases c3 : x3_1 < (a0.size : Int)
   · rw [if_pos c3] at H
     have c3b0 : decide (x3_1 < (a0.size : Int)) = true := dt_ c3
     clear c3
     (first | rw [c3b0] | (simp only [i64_w, i32_w]; rw [c3b0]) | skip)
     replace H := ob_ H
     obtain ⟨⟨t346, t347⟩, A40, H⟩ := H
     replace H : (if t347 = 0 then (some false) else ((uR02_may.f t346).bind fun t348 => (if t348 = true then (if x3_1 = 0 then ((uR02_letter.f t346).bind fun t349 => (if t349 = true then (uR02_Good.l0 k1 a0 (wrap64 (x3_1 + t347))) else (some false))) else (uR02_Good.l0 k1 a0 (wrap64 (x3_1 + t347)))) else (some false)))) = some r := H
     have A4 := ak_ A40
     clear A40
     by_cases c5 : t347 = 0
     · rw [if_pos c5] at H
       have c5b0 : (t347 == 0) = true := beq_iff_eq.mpr c5
       have c5b1 : (t347 != 0) = false := bne_eq_false_iff_eq.mpr c5
       clear c5
       obtain rfl := Option.some.inj H
       go_wp2_with (first | ((with_reducible refine gate_callee (f := 64) rfl ?_); refine goesL_ (some 13) rfl rfl Tryd.func64 (by kernel_rfl) rfl #[.string a0, .int .i64 x3_1] rfl (by simp only [mt_, mc_, mn_] <;> rfl) ?_; (with_reducible refine (uR02_At.calls k1 a0 x3_1 t346 t347 _ A4.out).mono ?_); rintro e w' ⟨rfl, ⟨nd, rfl⟩⟩; refine ⟨_, rfl, ?_⟩))
       go_ret
       exact ⟨by first | rfl | simp [*], by repeat (first | exact Drawn0.refl _ | apply Drawn0.step)⟩
     rw [if_neg c5] at H
     have c5b0 : (t347 == 0) = false := beq_eq_false_iff_ne.mpr c5
     have c5b1 : (t347 != 0) = true := bne_iff_ne.mpr c5
     replace H := ob_ H
     obtain ⟨t348, A60, H⟩ := H
     replace H : (if t348 = true then (if x3_1 = 0 then ((uR02_letter.f t346).bind fun t349 => (if t349 = true then (uR02_Good.l0 k1 a0 (wrap64 (x3_1 + t347))) else (some false))) else (uR02_Good.l0 k1 a0 (wrap64 (x3_1 + t347)))) else (some false)) = some r := H
     have A6 := ak_ A60
     clear A60
     by_cases c7 : t348 = true
     · subst c7
       have H1 : (if x3_1 = 0 then ((uR02_letter.f t346).bind fun t349 => (if t349 = true then (uR02_Good.l0 k1 a0 (wrap64 (x3_1 + t347))) else (some false))) else (uR02_Good.l0 k1 a0 (wrap64 (x3_1 + t347)))) = some r := by rw [if_pos rfl] at H; exact H
       clear H
       have H := H1
       clear H1
       by_cases c8 : x3_1 = 0
       · rw [if_pos c8] at H
         have c8b0 : (x3_1 == 0) = true := beq_iff_eq.mpr c8
         have c8b1 : (x3_1 != 0) = false := bne_eq_false_iff_eq.mpr c8
         clear c8
         replace H := ob_ H
         obtain ⟨t349, A90, H⟩ := H
         replace H : (if t349 = true then (uR02_Good.l0 k1 a0 (wrap64 (x3_1 + t347))) else (some false)) = some r := H
         have A9 := ak_ A90
         clear A90
         have HF10 := ak_ H
         clear H
         go_upto_if 31 with (first | ((with_reducible refine gate_callee (f := 64) rfl ?_); refine goesL_ (some 13) rfl rfl Tryd.func64 (by kernel_rfl) rfl #[.string a0, .int .i64 x3_1] rfl (by simp only [mt_, mc_, mn_] <;> rfl) ?_; (with_reducible refine (uR02_At.calls k1 a0 x3_1 t346 t347 _ A4.out).mono ?_); rintro e w' ⟨rfl, ⟨nd, rfl⟩⟩; refine ⟨_, rfl, ?_⟩) | (go_at_call 65; (with_reducible refine (uR02_may.calls t346 true _ A6.out).mono ?_); rintro e w' ⟨rfl, ⟨nd, rfl⟩⟩) | (go_at_call 66; (with_reducible refine (uR02_letter.calls t346 t349 _ A9.out).mono ?_); rintro e w' ⟨rfl, ⟨nd, rfl⟩⟩))
         (try simp only [Act.put, sa_, sz_, ss_])
         have H := HF10.out
         clear HF10
         by_cases c11 : t349 = true
         · subst c11
           have H1 : (uR02_Good.l0 k1 a0 (wrap64 (x3_1 + t347))) = some r := by rw [if_pos rfl] at H; exact H
           clear H
           have H := H1
           clear H1
           have H' := ak_ H
           clear H
           go_wp2
           go_roundg k1
           case measure => have := HK1.out; omega
           case rel => exact ⟨(wrap64 (x3_1 + t347)), (by first | rfl | simp [*]), H', ⟨by have := HK1.out; omega⟩, by repeat (first | exact Drawn0.refl _ | apply Drawn0.step)⟩
         replace c11 := Bool.eq_false_iff.mpr c11
         subst c11
         have H1 : (some false) = some r := by rw [if_neg (show ¬ (false = true) by decide)] at H; exact H
         clear H
         have H := H1
         clear H1
         obtain rfl := Option.some.inj H
         go_wp2
         go_ret
         exact ⟨by first | rfl | simp [*], by repeat (first | exact Drawn0.refl _ | apply Drawn0.step)⟩
       rw [if_neg c8] at H
       have c8b0 : (x3_1 == 0) = false := beq_eq_false_iff_ne.mpr c8
       have c8b1 : (x3_1 != 0) = true := bne_iff_ne.mpr c8
       have H' := ak_ H
       clear H
       go_wp2_with (first | ((with_reducible refine gate_callee (f := 64) rfl ?_); refine goesL_ (some 13) rfl rfl Tryd.func64 (by kernel_rfl) rfl #[.string a0, .int .i64 x3_1] rfl (by simp only [mt_, mc_, mn_] <;> rfl) ?_; (with_reducible refine (uR02_At.calls k1 a0 x3_1 t346 t347 _ A4.out).mono ?_); rintro e w' ⟨rfl, ⟨nd, rfl⟩⟩; refine ⟨_, rfl, ?_⟩) | (go_at_call 65; (with_reducible refine (uR02_may.calls t346 true _ A6.out).mono ?_); rintro e w' ⟨rfl, ⟨nd, rfl⟩⟩))
       go_roundg k1
       case measure => have := HK1.out; omega
       case rel => exact ⟨(wrap64 (x3_1 + t347)), (by first | rfl | simp [*]), H', ⟨by have := HK1.out; omega⟩, by repeat (first | exact Drawn0.refl _ | apply Drawn0.step)⟩
     replace c7 := Bool.eq_false_iff.mpr c7
     subst c7
     have H1 : (some false) = some r := by rw [if_neg (show ¬ (false = true) by decide)] at H; exact H
     clear H
     have H := H1
     clear H1
     obtain rfl := Option.some.inj H
     go_wp2_with (first | ((with_reducible refine gate_callee (f := 64) rfl ?_); refine goesL_ (some 13) rfl rfl Tryd.func64 (by kernel_rfl) rfl #[.string a0, .int .i64 x3_1] rfl (by simp only [mt_, mc_, mn_] <;> rfl) ?_; (with_reducible refine (uR02_At.calls k1 a0 x3_1 t346 t347 _ A4.out).mono ?_); rintro e w' ⟨rfl, ⟨nd, rfl⟩⟩; refine ⟨_, rfl, ?_⟩) | (go_at_call 65; (with_reducible refine (uR02_may.calls t346 false _ A6.out).mono ?_); rintro e w' ⟨rfl, ⟨nd, rfl⟩⟩))
     go_ret
     exact ⟨by first | rfl | simp [*], by repeat (first | exact Drawn0.refl _ | apply Drawn0.step)⟩
   rw [if_neg c3] at H
   have c3b0 : decide (x3_1 < (a0.size : Int)) = false := df_ c3
   clear c3
   (first | rw [c3b0] | (simp only [i64_w, i32_w]; rw [c3b0]) | skip)
   by_cases c12 : a0.toList = ([] : List UInt8)
   · rw [if_pos c12] at H
     have c12b0 : (a0.toList == ([] : List UInt8)) = true := beq_iff_eq.mpr c12
     have c12b1 : (a0.toList != ([] : List UInt8)) = false := bne_eq_false_iff_eq.mpr c12
     clear c12
     obtain rfl := Option.some.inj H
     go_wp2
     go_ret
     exact ⟨by first | rfl | simp [*], by repeat (first | exact Drawn0.refl _ | apply Drawn0.step)⟩
   rw [if_neg c12] at H
   have c12b0 : (a0.toList == ([] : List UInt8)) = false := beq_eq_false_iff_ne.mpr c12
   have c12b1 : (a0.toList != ([] : List UInt8)) = true := bne_iff_ne.mpr c12
   replace H := ob_ H
   obtain ⟨t345, A130, H⟩ := H
   replace H : (some (decide (t345 ≤ 64))) = some r := H
   have A13 := ak_ A130
   clear A130
   obtain rfl := Option.some.inj H
   go_wp2_with (first | (go_at_call 67; (with_reducible refine (uR02_Runes.calls k1 a0 t345 _ A13.out).mono ?_); rintro e w' ⟨rfl, ⟨nd, rfl⟩⟩))
   go_ret
   exact ⟨by first | rfl | simp [*], by repeat (first | exact Drawn0.refl _ | apply Drawn0.step)⟩
theorem ref_letter_f (c : Int) : uR02_letter.f c = some (Utf.letterP c) := by
  unfold uR02_letter.f Utf.letterP
  repeat' split
  all_goals (refine congrArg some ?_; rw [Bool.eq_iff_iff]; simp only [decide_eq_true_eq, true_iff, false_iff]; omega)
theorem ref_may_f (c : Int) : uR02_may.f c = some (Utf.mayP c) := by
  unfold uR02_may.f
  rw [ref_letter_f, bs_]
  unfold Utf.letterP Utf.mayP
  repeat' split
  all_goals (refine congrArg some ?_; rw [Bool.eq_iff_iff]; simp only [decide_eq_true_eq, beq_iff_eq, true_iff, false_iff] at *; omega)
inductive StepAt (s : ByteArray) (p : Nat) : Int × Int → Prop
  | bad : Utf.first (s.data.toList.drop p) = none → (Utf8.decode s p).2 = 1 → StepAt s p (0, 0)
  | rune (c w : Nat) : Utf.first (s.data.toList.drop p) = some c → (Utf8.decode s p).1 = c → (Utf8.decode s p).2 = w → 1 ≤ w → w ≤ 4 → p + w ≤ s.size → StepAt s p ((c : Int), (w : Int))
theorem decode_w4 (s : ByteArray) (p : Nat) : (Utf8.decode s p).2 ≤ 4 := by
  rw [Lib.decode_N]
  unfold Lib.decodeN
  repeat' split
  all_goals simp
theorem step_at (s : ByteArray) (p : Nat) (hp : p < s.size) : StepAt s p (atD (Utf8.decode s p)) := by
  have hf := first_at s p
  unfold atD
  by_cases hb : (Utf8.decode s p).1 = 65533 ∧ (Utf8.decode s p).2 = 1
  · rw [if_pos hb] at hf ⊢
    exact .bad hf hb.2
  · rw [if_neg hb] at hf ⊢
    have hne : s.data.toList.drop p ≠ [] := by
      intro e
      have := congrArg List.length e
      rw [List.length_drop, drop_size] at this
      simp at this
      omega
    have hle := Lib.decodeL_le _ hne
    rw [Lib.decodeL_drop, List.length_drop, drop_size] at hle
    exact .rune _ _ hf rfl rfl (Lib.width_pos s p) (decode_w4 s p) (by omega)
theorem at_step_f (s : ByteArray) (p : Nat) (hs : s.size ≤ 140737488351232) (hp : p < s.size) (k : Nat) (hk : 20 ≤ k) : ∃ x, uR02_At.f k s (p : Int) = some x ∧ StepAt s p x := by
  have h := at_spec s (p : Int) hs (by omega) (by omega) k hk
  rw [Int.toNat_natCast] at h
  exact ⟨_, h, step_at s p hp⟩
theorem ref_runes_l (s : ByteArray) (hs : s.size ≤ 140737488351232) : ∀ (d : Nat) (k p n : Nat), s.size - p ≤ d → n ≤ p → p ≤ s.size + 4 → d + 25 ≤ k →
    uR02_Runes.l0 k s (n : Int) (p : Int) = some (((n + (Utf.runes (s.data.toList.drop p)).length : Nat) : Int)) := by
  intro d
  induction d with
  | zero =>
    intro k p n hd hn hp hk
    obtain ⟨k, rfl⟩ : ∃ q, k = q + 1 := ⟨k - 1, by omega⟩
    rw [uR02_Runes.l0, if_neg (by omega), runes_end s p (by omega)]
    rfl
  | succ d ih =>
    intro k p n hd hn hp hk
    obtain ⟨k, rfl⟩ : ∃ q, k = q + 1 := ⟨k - 1, by omega⟩
    by_cases hlt : p < s.size
    · obtain ⟨x, hx, hst⟩ := at_step_f s p hs hlt k (by omega)
      rw [uR02_Runes.l0, if_pos (by omega), hx, bs_, runes_at s p hlt]
      have e1 : wrap64 ((n : Int) + 1) = ((n + 1 : Nat) : Int) := by unfold wrap64; omega
      cases hst with
      | bad hf hw =>
        dsimp only
        rw [if_pos rfl, e1, show wrap64 ((p : Int) + 1) = ((p + 1 : Nat) : Int) by unfold wrap64; omega, ih k (p + 1) (n + 1) (by omega) (by omega) (by omega) (by omega), hw]
        simp only [List.length_cons]
        congr 2
        omega
      | rune c w hf hc hw w1 w4 hle =>
        dsimp only
        rw [if_neg (by omega), e1, show wrap64 ((p : Int) + (w : Int)) = ((p + w : Nat) : Int) by unfold wrap64; omega, ih k (p + w) (n + 1) (by omega) (by omega) (by omega) (by omega), hw]
        simp only [List.length_cons]
        congr 2
        omega
    · rw [uR02_Runes.l0, if_neg (by omega), runes_end s p hlt]
      rfl
theorem ref_runes (s : ByteArray) (hs : s.size ≤ 140737488351232) (k : Nat) (hk : s.size + 25 ≤ k) : uR02_Runes.f k s = some ((Utf.runes s.data.toList).length : Int) := by
  unfold uR02_Runes.f
  have := ref_runes_l s hs s.size k 0 0 (by omega) (by omega) (by omega) hk
  rw [List.drop_zero, Nat.zero_add] at this
  exact this
theorem ref_good_l (s : ByteArray) (hs : s.size ≤ 140737488351232) (h0 : 0 < s.size) : ∀ (d : Nat) (k p : Nat), 0 < p → s.size - p ≤ d → d + s.size + 30 ≤ k →
    uR02_Good.l0 k s (p : Int) = some ((Utf.runes (s.data.toList.drop p)).all Utf.okRune && decide ((Utf.runes s.data.toList).length ≤ 64)) := by
  have hend : ∀ k p : Nat, ¬ p < s.size → s.size + 30 ≤ k → uR02_Good.l0 k s (p : Int) = some ((Utf.runes (s.data.toList.drop p)).all Utf.okRune && decide ((Utf.runes s.data.toList).length ≤ 64)) := by
    intro k p hp hk
    obtain ⟨k, rfl⟩ : ∃ q, k = q + 1 := ⟨k - 1, by omega⟩
    have hne : ¬ s.toList = ([] : List UInt8) := by
      rw [Lib.toList_data]
      intro e
      have := congrArg List.length e
      rw [drop_size, List.length_nil] at this
      omega
    rw [uR02_Good.l0, if_neg (by omega), if_neg hne, ref_runes s hs k (by omega), bs_, runes_end s p hp, List.all_nil, Bool.true_and]
    refine congrArg some (decide_eq_decide.2 ⟨fun h => by omega, fun h => by omega⟩)
  intro d
  induction d with
  | zero =>
    intro k p hp hd hk
    exact hend k p (by omega) (by omega)
  | succ d ih =>
    intro k p hp hd hk
    by_cases hlt : p < s.size
    · obtain ⟨k, rfl⟩ : ∃ q, k = q + 1 := ⟨k - 1, by omega⟩
      obtain ⟨x, hx, hst⟩ := at_step_f s p hs hlt k (by omega)
      rw [uR02_Good.l0, if_pos (by omega), hx, bs_, runes_at s p hlt, List.all_cons]
      cases hst with
      | bad hf hw =>
        dsimp only
        rw [if_pos rfl, hf]
        rfl
      | rune c w hf hc hw w1 w4 hle =>
        dsimp only
        rw [if_neg (by omega), ref_may_f, bs_, hf, show Utf.okRune (some c) = Utf.mayP (c : Int) from rfl]
        cases hm : Utf.mayP (c : Int) with
        | false => rfl
        | true =>
          rw [if_pos rfl, if_neg (by omega), show wrap64 ((p : Int) + (w : Int)) = ((p + w : Nat) : Int) by unfold wrap64; omega, ih k (p + w) (by omega) (by omega) (by omega), hw, Bool.true_and]
    · exact hend k p hlt (by omega)
theorem ref_good (s : ByteArray) (hs : s.size ≤ 140737488351232) (k : Nat) (hk : 2 * s.size + 40 ≤ k) : uR02_Good.f k s = some (Utf.goodD s.data.toList) := by
  unfold uR02_Good.f
  obtain ⟨k, rfl⟩ : ∃ q, k = q + 1 := ⟨k - 1, by omega⟩
  by_cases h0 : 0 < s.size
  · obtain ⟨x, hx, hst⟩ := at_step_f s 0 hs h0 k (by omega)
    rw [uR02_Good.l0, if_pos (by omega), show (0 : Int) = ((0 : Nat) : Int) from rfl, hx, bs_]
    have e := runes_at s 0 h0
    rw [List.drop_zero] at e
    unfold Utf.goodD
    cases hst with
    | bad hf hw =>
      dsimp only
      rw [List.drop_zero] at hf
      rw [if_pos rfl, e, hf]
      rfl
    | rune c w hf hc hw w1 w4 hle =>
      dsimp only
      rw [List.drop_zero] at hf
      rw [if_neg (by omega), ref_may_f, bs_]
      have hall : (Utf.runes s.data.toList).all Utf.okRune = (Utf.mayP (c : Int) && (Utf.runes (s.data.toList.drop w)).all Utf.okRune) := by
        rw [e, List.all_cons, hf, hw, Nat.zero_add]
        rfl
      have hhead : (Utf.runes s.data.toList).head? = some (some c) := by rw [e, List.head?_cons, hf]
      rw [hall, hhead]
      cases hm : Utf.mayP (c : Int) with
      | false => rfl
      | true =>
        rw [if_pos rfl, if_pos rfl, ref_letter_f, bs_]
        cases hl : Utf.letterP (c : Int) with
        | false => simp [hl]
        | true =>
          rw [if_pos rfl, show wrap64 (((0 : Nat) : Int) + (w : Int)) = ((w : Nat) : Int) by unfold wrap64; omega, ref_good_l s hs h0 s.size k w (by omega) (by omega) (by omega)]
          simp [hl]
  · have hz : s.data.toList = [] := List.eq_nil_of_length_eq_zero (by rw [drop_size]; omega)
    rw [uR02_Good.l0, if_neg (by omega), if_pos (by rw [Lib.toList_data]; exact hz), hz]
    rfl
def def_Check.l0 : Nat → Int → Int → ByteArray → Int → List (S70) → Option (Int × Int)
 | 0, _, _, _, _, _ => none
 | k + 1, x28, x29, x115000, x115001, x115002 => if x29 < x28 then ((def_step.f x115002 x29).bind fun t117 => (if t117 = 0 then (def_Check.l0 k x28 (wrap64 (x29 + 1)) x115000 x115001 x115002) else (some (x29, t117)))) else (some ((-1), 0))
def def_Check.f (k : Nat) (a0_0 : ByteArray) (a0_1 : Int) (l0_2 : List (S70)) : Option (Int × Int) := (label_Good.f a0_0).bind fun t115 => (if t115 = true then ((tick_Good.f a0_1).bind fun t116 => (if t116 = true then (if (l0_2.length : Int) = 0 then (some ((-1), 2)) else (if (l0_2.length : Int) > 32 then (some ((-1), 4)) else (def_Check.l0 k (l0_2.length : Int) 0 a0_0 a0_1 l0_2))) else (some ((-1), 1)))) else (some ((-1), 10)))
theorem def_Check.calls (k : Nat) (a0_0 : ByteArray) (a0_1 : Int) (A0_2 : Option Addr) (c0_2 : Nat) (l0_2 : List (S70)) (r1 : Int) (r2 : Int) (w : World) (hr0_2 : Kd.C k70 w A0_2 l0_2.length l0_2) (hc0_2 : l0_2.length ≤ c0_2) (hTab_ : Tabs_ w) (h : def_Check.f k a0_0 a0_1 l0_2 = some (r1, r2)) :
 Calls Tryd.prog 50 #[.agg #[.string a0_0, .int .i64 a0_1, .slice A0_2 l0_2.length c0_2]] w fun e w' => e = .returned (.tuple #[.int .i64 r1, .int .i64 r2]) ∧ Below w.heap.size w w' := by
 have HT := ak_ hTab_
 clear hTab_
 have hu24 := Tryd.underlying24
 have HR0_2 := ak_ hr0_2
 have HC0_2 := ak_ hc0_2
 clear hr0_2 hc0_2
 have HB := ak_ (Below.refl w.heap.size w)
 have H : ((label_Good.f a0_0).bind fun t115 => (if t115 = true then ((tick_Good.f a0_1).bind fun t116 => (if t116 = true then (if (l0_2.length : Int) = 0 then (some ((-1), 2)) else (if (l0_2.length : Int) > 32 then (some ((-1), 4)) else (def_Check.l0 k (l0_2.length : Int) 0 a0_0 a0_1 l0_2))) else (some ((-1), 1)))) else (some ((-1), 10)))) = some (r1, r2) := h
 clear h
 replace H := ob_ H
 obtain ⟨t115, A20, H⟩ := H
 replace H : (if t115 = true then ((tick_Good.f a0_1).bind fun t116 => (if t116 = true then (if (l0_2.length : Int) = 0 then (some ((-1), 2)) else (if (l0_2.length : Int) > 32 then (some ((-1), 4)) else (def_Check.l0 k (l0_2.length : Int) 0 a0_0 a0_1 l0_2))) else (some ((-1), 1)))) else (some ((-1), 10))) = some (r1, r2) := H
 have A2 := ak_ A20
 clear A20
 have HF3 := ak_ H
 clear H
 go_enter Tryd.func50, Tryd.ntmps50
 go_upto_if 6 with (first | ((with_reducible refine gate_dst (N := 1) rfl ?_); refine box_event ?hg (N := 1) ?hd (cs := #[.string a0_0, .int .i64 a0_1, .slice A0_2 l0_2.length c0_2]) (t := 24) ?hr ?_; (case hd | hg => rfl); (case hr => first | (go_simp; done) | (go_simp; rfl)); intro gb114 hg w4 hbox hb; have n0_ := ak_ (ps (by with_reducible repeat first | exact HB.out | apply pa | apply pd | apply pe) hb); have n1_ := ak_ (hbox); have n2_ := ak_ ((by rw [hg]; exact (below_size (by with_reducible repeat first | exact HB.out | apply pa | apply pd | apply pe)) : w.heap.size ≤ gb114)); have n3_ := ak_ ((by rw [hg]; exact (below_size (by with_reducible repeat first | exact HB.out | apply pa | apply pd | apply pe)) : w.heap.size ≤ gb114)); clear HB; have HB := n0_; have BK114 := n1_; have GW114 := n2_; have GE114 := n3_; clear n0_ n1_ n2_ n3_ hb hbox hg; have hcz5_0 : w4.cell? ⟨gb114, 0, none⟩ = some (.string a0_0) := (zc BK114.out 0).trans rfl; have hcz5_1 : w4.cell? ⟨gb114, 1, none⟩ = some (.int .i64 a0_1) := (zc BK114.out 1).trans rfl; have hcz5_2 : w4.cell? ⟨gb114, 2, none⟩ = some (.slice A0_2 l0_2.length c0_2) := (zc BK114.out 2).trans rfl; have hfz5_0 := zf BK114.out 0; have hfz5_1 := zf BK114.out 1; have hfz5_2 := zf BK114.out 2) | ((with_reducible refine gate_callee (f := 75) rfl ?_); refine goesL_ (some 9) rfl rfl Tryd.func75 (by kernel_rfl) rfl #[.string a0_0] rfl (by simp only [mt_, mc_, mn_] <;> rfl) ?_; (with_reducible refine (label_Good.calls a0_0 t115 _ ?tab_ A2.out).mono ?_); (case tab_ => first | exact HT.out | exact Tabs_.below HT.out (by with_reducible repeat first | exact HB.out | apply pa | apply pd | apply pe)); rintro e w6 ⟨rfl, hb⟩; refine ⟨_, rfl, ?_⟩; have n0_ := ak_ (blk_below (g := gb114) (o := .cells #[.string a0_0, .int .i64 a0_1, .slice A0_2 l0_2.length c0_2] 24 (0, 0)) (by (with_reducible repeat (first | apply zn | apply zd | apply za)); exact BK114.out) hb); have n1_ := ak_ (ps (by with_reducible repeat first | exact HB.out | apply pa | apply pd | apply pe | refine zs ?_ GE114.out) hb); clear BK114 HB; have BK114 := n0_; have HB := n1_; clear n0_ n1_))
 (try simp only [Act.put, sa_, sz_, ss_])
 have H := HF3.out
 clear HF3
 by_cases c7 : t115 = true
 · subst c7
   have H1 : ((tick_Good.f a0_1).bind fun t116 => (if t116 = true then (if (l0_2.length : Int) = 0 then (some ((-1), 2)) else (if (l0_2.length : Int) > 32 then (some ((-1), 4)) else (def_Check.l0 k (l0_2.length : Int) 0 a0_0 a0_1 l0_2))) else (some ((-1), 1)))) = some (r1, r2) := by rw [if_pos rfl] at H; exact H
   clear H
   have H := H1
   clear H1
   replace H := ob_ H
   obtain ⟨t116, A80, H⟩ := H
   replace H : (if t116 = true then (if (l0_2.length : Int) = 0 then (some ((-1), 2)) else (if (l0_2.length : Int) > 32 then (some ((-1), 4)) else (def_Check.l0 k (l0_2.length : Int) 0 a0_0 a0_1 l0_2))) else (some ((-1), 1))) = some (r1, r2) := H
   have A8 := ak_ A80
   clear A80
   have HF9 := ak_ H
   clear H
   have hcz10_0 : w6.cell? ⟨gb114, 0, none⟩ = some (.string a0_0) := (zc BK114.out 0).trans rfl
   have hcz10_1 : w6.cell? ⟨gb114, 1, none⟩ = some (.int .i64 a0_1) := (zc BK114.out 1).trans rfl
   have hcz10_2 : w6.cell? ⟨gb114, 2, none⟩ = some (.slice A0_2 l0_2.length c0_2) := (zc BK114.out 2).trans rfl
   have hfz10_0 := zf BK114.out 0
   have hfz10_1 := zf BK114.out 1
   have hfz10_2 := zf BK114.out 2
   go_upto_if 11 with (first | ((with_reducible refine gate_callee (f := 51) rfl ?_); refine goesL_ (some 14) rfl rfl Tryd.func51 (by kernel_rfl) rfl #[.int .i64 a0_1] rfl (by simp only [mt_, mc_, mn_] <;> rfl) ?_; (with_reducible refine (tick_Good.calls a0_1 t116 _ A8.out).mono ?_); rintro e w' ⟨rfl, ⟨nd, rfl⟩⟩; refine ⟨_, rfl, ?_⟩))
   (try simp only [Act.put, sa_, sz_, ss_])
   have H := HF9.out
   clear HF9
   by_cases c11 : t116 = true
   · subst c11
     have H1 : (if (l0_2.length : Int) = 0 then (some ((-1), 2)) else (if (l0_2.length : Int) > 32 then (some ((-1), 4)) else (def_Check.l0 k (l0_2.length : Int) 0 a0_0 a0_1 l0_2))) = some (r1, r2) := by rw [if_pos rfl] at H; exact H
     clear H
     have H := H1
     clear H1
     have HF12 := ak_ H
     clear H
     have hcz13_0 : w6.cell? ⟨gb114, 0, none⟩ = some (.string a0_0) := (zc BK114.out 0).trans rfl
     have hcz13_1 : w6.cell? ⟨gb114, 1, none⟩ = some (.int .i64 a0_1) := (zc BK114.out 1).trans rfl
     have hcz13_2 : w6.cell? ⟨gb114, 2, none⟩ = some (.slice A0_2 l0_2.length c0_2) := (zc BK114.out 2).trans rfl
     have hfz13_0 := zf BK114.out 0
     have hfz13_1 := zf BK114.out 1
     have hfz13_2 := zf BK114.out 2
     go_upto_if 16 with (fail)
     have H := HF12.out
     clear HF12
     by_cases c14 : (l0_2.length : Int) = 0
     · rw [if_pos c14] at H
       have c14b0 : ((l0_2.length : Int) == 0) = true := beq_iff_eq.mpr c14
       have c14b1 : ((l0_2.length : Int) != 0) = false := bne_eq_false_iff_eq.mpr c14
       clear c14
       (first | rw [c14b0] | (simp only [i64_w, i32_w]; rw [c14b0]) | skip)
       simp only [Option.some.injEq, Prod.mk.injEq] at H
       obtain ⟨rfl, rfl⟩ := H
       go_wp2
       go_ret2
       exact ⟨by first | rfl | simp [*], by repeat (first | (with_reducible first | exact HB.out | apply pa | apply pd | apply pe | refine zs ?_ GE114.out) | exact HB.out)⟩
     rw [if_neg c14] at H
     have c14b0 : ((l0_2.length : Int) == 0) = false := beq_eq_false_iff_ne.mpr c14
     have c14b1 : ((l0_2.length : Int) != 0) = true := bne_iff_ne.mpr c14
     have c14b2 : ¬ (l0_2 = []) := fun h_ => c14 (by rw [h_]; rfl)
     (first | rw [c14b0] | (simp only [i64_w, i32_w]; rw [c14b0]) | skip)
     have HF15 := ak_ H
     clear H
     have hcz16_0 : w6.cell? ⟨gb114, 0, none⟩ = some (.string a0_0) := (zc BK114.out 0).trans rfl
     have hcz16_1 : w6.cell? ⟨gb114, 1, none⟩ = some (.int .i64 a0_1) := (zc BK114.out 1).trans rfl
     have hcz16_2 : w6.cell? ⟨gb114, 2, none⟩ = some (.slice A0_2 l0_2.length c0_2) := (zc BK114.out 2).trans rfl
     have hfz16_0 := zf BK114.out 0
     have hfz16_1 := zf BK114.out 1
     have hfz16_2 := zf BK114.out 2
     go_upto_if 21 with (fail)
     have H := HF15.out
     clear HF15
     by_cases c17 : (l0_2.length : Int) > 32
     · rw [if_pos c17] at H
       have c17b0 : decide (32 < (l0_2.length : Int)) = true := dt_ c17
       have c17b1 : decide (32 < l0_2.length) = true := dt_ (by omega)
       clear c17
       (first | rw [c17b0] | (simp only [i64_w, i32_w]; rw [c17b0]) | skip)
       simp only [Option.some.injEq, Prod.mk.injEq] at H
       obtain ⟨rfl, rfl⟩ := H
       go_wp2
       go_ret2
       exact ⟨by first | rfl | simp [*], by repeat (first | (with_reducible first | exact HB.out | apply pa | apply pd | apply pe | refine zs ?_ GE114.out) | exact HB.out)⟩
     rw [if_neg c17] at H
     have c17b0 : decide (32 < (l0_2.length : Int)) = false := df_ c17
     have c17b1 : decide (32 < l0_2.length) = false := df_ (by omega)
     clear c17
     (first | rw [c17b0] | (simp only [i64_w, i32_w]; rw [c17b0]) | skip)
     have H' := ak_ H
     clear H
     have hcz18_0 : w6.cell? ⟨gb114, 0, none⟩ = some (.string a0_0) := (zc BK114.out 0).trans rfl
     have hcz18_1 : w6.cell? ⟨gb114, 1, none⟩ = some (.int .i64 a0_1) := (zc BK114.out 1).trans rfl
     have hcz18_2 : w6.cell? ⟨gb114, 2, none⟩ = some (.slice A0_2 l0_2.length c0_2) := (zc BK114.out 2).trans rfl
     have hfz18_0 := zf BK114.out 0
     have hfz18_1 := zf BK114.out 1
     have hfz18_2 := zf BK114.out 2
     go_wp2
     go_loopg [29] k (fun kq v29 w' => ∃ (x29_1 : Int), v29 = .int .i64 x29_1 ∧ Aside0 (def_Check.l0 kq (l0_2.length : Int) x29_1 a0_0 a0_1 l0_2 = some (r1, r2)) ∧ Aside0 (kq ≤ k) ∧ Aside0 (w'.heap[gb114]? = some (.cells #[.string a0_0, .int .i64 a0_1, (.slice A0_2 l0_2.length c0_2)] 24 (0, 0))) ∧ Aside0 (Below w.heap.size w w'))
     case atStart => exact ⟨(0), (by first | rfl | simp [*]), H', ⟨Nat.le_refl _⟩, ⟨by (with_reducible repeat (first | apply zn | apply zd | apply za)); exact BK114.out⟩, ⟨by repeat (first | (with_reducible first | exact HB.out | apply pa | apply pd | apply pe | refine zs ?_ GE114.out) | exact HB.out)⟩⟩
     case round =>
      clear H'
      try clear c1
      try clear p2
      try clear c5
      try clear c7
      try clear c11
      try clear c14
      try clear c14b0
      try clear c14b1
      try clear c14b2
      try clear c17
      try clear c17b0
      try clear c17b1
      try clear hcz10_0
      try clear hcz10_1
      try clear hcz10_2
      try clear hcz13_0
      try clear hcz13_1
      try clear hcz13_2
      try clear hcz16_0
      try clear hcz16_1
      try clear hcz16_2
      try clear hcz18_0
      try clear hcz18_1
      try clear hcz18_2
      try clear hcz5_0
      try clear hcz5_1
      try clear hcz5_2
      try clear hfz10_0
      try clear hfz10_1
      try clear hfz10_2
      try clear hfz13_0
      try clear hfz13_1
      try clear hfz13_2
      try clear hfz16_0
      try clear hfz16_1
      try clear hfz16_2
      try clear hfz18_0
      try clear hfz18_1
      try clear hfz18_2
      try clear hfz5_0
      try clear hfz5_1
      try clear hfz5_2
      obtain ⟨x29_1, rfl, HA, HK1, BK114, HB⟩ := hrel
      cases gk with
      | zero => exact absurd HA.out (by simp [def_Check.l0])
      | succ k1 =>
       have H := HA.out
       clear HA
       simp only [def_Check.l0] at H
       have HF19 := ak_ H
       clear H
       go_upto_if 30 with (fail)
       have H := HF19.out
       clear HF19
       by_cases c20 : x29_1 < (l0_2.length : Int)
       · rw [if_pos c20] at H
         have c20b0 : decide (x29_1 < (l0_2.length : Int)) = true := dt_ c20
         clear c20
         (first | rw [c20b0] | (simp only [i64_w, i32_w]; rw [c20b0]) | skip)
         replace H := ob_ H
         obtain ⟨t117, A210, H⟩ := H
         replace H : (if t117 = 0 then (def_Check.l0 k1 (l0_2.length : Int) (wrap64 (x29_1 + 1)) a0_0 a0_1 l0_2) else (some (x29_1, t117))) = some (r1, r2) := H
         have A21 := ak_ A210
         clear A210
         have HF22 := ak_ H
         clear H
         have hcz23_0 : wr.cell? ⟨gb114, 0, none⟩ = some (.string a0_0) := (zc BK114.out 0).trans rfl
         have hcz23_1 : wr.cell? ⟨gb114, 1, none⟩ = some (.int .i64 a0_1) := (zc BK114.out 1).trans rfl
         have hcz23_2 : wr.cell? ⟨gb114, 2, none⟩ = some (.slice A0_2 l0_2.length c0_2) := (zc BK114.out 2).trans rfl
         have hfz23_0 := zf BK114.out 0
         have hfz23_1 := zf BK114.out 1
         have hfz23_2 := zf BK114.out 2
         go_upto_if 37 with (first | ((with_reducible refine gate_callee (f := 76) rfl ?_); refine goesL_ (some 35) rfl rfl Tryd.func76 (by kernel_rfl) rfl #[.slice A0_2 l0_2.length c0_2, .int .i64 x29_1] rfl (by (try simp only [mt_, mc_, mn_]); first | done | rfl) ?_; (with_reducible refine (def_step.calls _ _ l0_2 x29_1 t117 _ ?side1 ?side2 ?tab_ A21.out).mono ?_); (case tab_ => first | exact HT.out | exact Tabs_.below HT.out (by with_reducible repeat first | exact HB.out | apply pa | apply pd | apply pe)); (case side1 => repeat (first | exact (Kd.C_below HR0_2.out HB.out) | (with_reducible refine Kd.C_alloc ?_ _) | (with_reducible refine Kd.C_drewN ?_ _) | (with_reducible refine Kd.C_drew ?_))); (case side2 => exact HC0_2.out); rintro e w24 ⟨rfl, hb⟩; refine ⟨_, rfl, ?_⟩; have n0_ := ak_ (blk_below (g := gb114) (o := .cells #[.string a0_0, .int .i64 a0_1, .slice A0_2 l0_2.length c0_2] 24 (0, 0)) (by (with_reducible repeat (first | apply zn | apply zd | apply za)); exact BK114.out) hb); have n1_ := ak_ (ps (by with_reducible repeat first | exact HB.out | apply pa | apply pd | apply pe | refine zs ?_ GE114.out) hb); clear BK114 HB; have BK114 := n0_; have HB := n1_; clear n0_ n1_))
         (try simp only [Act.put, sa_, sz_, ss_])
         have H := HF22.out
         clear HF22
         by_cases c25 : t117 = 0
         · rw [if_pos c25] at H
           have c25b0 : (t117 == 0) = true := beq_iff_eq.mpr c25
           have c25b1 : (t117 != 0) = false := bne_eq_false_iff_eq.mpr c25
           clear c25
           (first | rw [c25b0] | (simp only [i64_w, i32_w]; rw [c25b0]) | skip)
           have H' := ak_ H
           clear H
           go_wp2
           go_roundg k1
           case measure => have := HK1.out; omega
           case rel => exact ⟨(wrap64 (x29_1 + 1)), (by first | rfl | simp [*]), H', ⟨by have := HK1.out; omega⟩, ⟨by (with_reducible repeat (first | apply zn | apply zd | apply za)); exact BK114.out⟩, ⟨by repeat (first | (with_reducible first | exact HB.out | apply pa | apply pd | apply pe | refine zs ?_ GE114.out) | exact HB.out)⟩⟩
         rw [if_neg c25] at H
         have c25b0 : (t117 == 0) = false := beq_eq_false_iff_ne.mpr c25
         have c25b1 : (t117 != 0) = true := bne_iff_ne.mpr c25
         (first | rw [c25b0] | (simp only [i64_w, i32_w]; rw [c25b0]) | skip)
         simp only [Option.some.injEq, Prod.mk.injEq] at H
         obtain ⟨rfl, rfl⟩ := H
         go_wp2
         go_ret2
         exact ⟨by first | rfl | simp [*], by repeat (first | (with_reducible first | exact HB.out | apply pa | apply pd | apply pe | refine zs ?_ GE114.out) | exact HB.out)⟩
       rw [if_neg c20] at H
       have c20b0 : decide (x29_1 < (l0_2.length : Int)) = false := df_ c20
       clear c20
       (first | rw [c20b0] | (simp only [i64_w, i32_w]; rw [c20b0]) | skip)
       simp only [Option.some.injEq, Prod.mk.injEq] at H
       obtain ⟨rfl, rfl⟩ := H
       go_wp2
       go_ret2
       exact ⟨by first | rfl | simp [*], by repeat (first | (with_reducible first | exact HB.out | apply pa | apply pd | apply pe | refine zs ?_ GE114.out) | exact HB.out)⟩
   replace c11 := Bool.eq_false_iff.mpr c11
   subst c11
   have H1 : (some ((-1), 1)) = some (r1, r2) := by rw [if_neg (show ¬ (false = true) by decide)] at H; exact H
   clear H
   have H := H1
   clear H1
   simp only [Option.some.injEq, Prod.mk.injEq] at H
   obtain ⟨rfl, rfl⟩ := H
   go_wp2
   go_ret2
   exact ⟨by first | rfl | simp [*], by repeat (first | (with_reducible first | exact HB.out | apply pa | apply pd | apply pe | refine zs ?_ GE114.out) | exact HB.out)⟩
 replace c7 := Bool.eq_false_iff.mpr c7
 subst c7
 have H1 : (some ((-1), 10)) = some (r1, r2) := by rw [if_neg (show ¬ (false = true) by decide)] at H; exact H
 clear H
 have H := H1
 clear H1
 simp only [Option.some.injEq, Prod.mk.injEq] at H
 obtain ⟨rfl, rfl⟩ := H
 go_wp2
 go_ret2
 exact ⟨by first | rfl | simp [*], by repeat (first | (with_reducible first | exact HB.out | apply pa | apply pd | apply pe | refine zs ?_ GE114.out) | exact HB.out)⟩
def uR11_Good.f (a0_0 : Int) (a0_1 : Int) (a0_2 : Int) (a0_3 : Int) : Option (Bool) := if a0_0 ≥ 0 then (if a0_0 ≤ 1000 then (if a0_1 ≥ 1 then (if a0_1 ≤ 1099511627776 then (if a0_2 ≥ 1 then (if a0_2 ≤ 16 then (if a0_3 ≥ a0_1 then (some (decide (a0_3 ≤ 1099511627776))) else (some false)) else (some false)) else (some false)) else (some false)) else (some false)) else (some false)) else (some false)
theorem uR11_Good.calls (a0_0 : Int) (a0_1 : Int) (a0_2 : Int) (a0_3 : Int) (r : Bool) (w : World) (h : uR11_Good.f a0_0 a0_1 a0_2 a0_3 = some r) :
 Calls Tryd.prog 32 #[.agg #[.int .i64 a0_0, .int .i64 a0_1, .int .i64 a0_2, .int .i64 a0_3]] w fun e w' => e = .returned (.bool r) ∧ Below w.heap.size w w' := by
 have hu54 := Tryd.underlying54
 have HB := ak_ (Below.refl w.heap.size w)
 have H : (if a0_0 ≥ 0 then (if a0_0 ≤ 1000 then (if a0_1 ≥ 1 then (if a0_1 ≤ 1099511627776 then (if a0_2 ≥ 1 then (if a0_2 ≤ 16 then (if a0_3 ≥ a0_1 then (some (decide (a0_3 ≤ 1099511627776))) else (some false)) else (some false)) else (some false)) else (some false)) else (some false)) else (some false)) else (some false)) = some r := h
 clear h
 by_cases c2 : a0_0 ≥ 0
 · rw [if_pos c2] at H
   have c2b0 : decide (0 ≤ a0_0) = true := dt_ c2
   clear c2
   by_cases c3 : a0_0 ≤ 1000
   · rw [if_pos c3] at H
     have c3b0 : decide (a0_0 ≤ 1000) = true := dt_ c3
     clear c3
     by_cases c4 : a0_1 ≥ 1
     · rw [if_pos c4] at H
       have c4b0 : decide (1 ≤ a0_1) = true := dt_ c4
       clear c4
       by_cases c5 : a0_1 ≤ 1099511627776
       · rw [if_pos c5] at H
         have c5b0 : decide (a0_1 ≤ 1099511627776) = true := dt_ c5
         clear c5
         by_cases c6 : a0_2 ≥ 1
         · rw [if_pos c6] at H
           have c6b0 : decide (1 ≤ a0_2) = true := dt_ c6
           clear c6
           by_cases c7 : a0_2 ≤ 16
           · rw [if_pos c7] at H
             have c7b0 : decide (a0_2 ≤ 16) = true := dt_ c7
             clear c7
             by_cases c8 : a0_3 ≥ a0_1
             · rw [if_pos c8] at H
               have c8b0 : decide (a0_1 ≤ a0_3) = true := dt_ c8
               clear c8
               obtain rfl := Option.some.inj H
               go_enter Tryd.func32, Tryd.ntmps32
               go_wp2_with (first | ((with_reducible refine gate_dst (N := 1) rfl ?_); refine box_event ?hg (N := 1) ?hd (cs := #[.int .i64 a0_0, .int .i64 a0_1, .int .i64 a0_2, .int .i64 a0_3]) (t := 54) ?hr ?_; (case hd | hg => rfl); (case hr => first | (go_simp; done) | (go_simp; rfl)); intro gb350 hg w9 hbox hb; have n0_ := ak_ (ps (by with_reducible repeat first | exact HB.out | apply pa | apply pd | apply pe) hb); have n1_ := ak_ (hbox); have n2_ := ak_ ((by rw [hg]; exact (below_size (by with_reducible repeat first | exact HB.out | apply pa | apply pd | apply pe)) : w.heap.size ≤ gb350)); have n3_ := ak_ ((by rw [hg]; exact (below_size (by with_reducible repeat first | exact HB.out | apply pa | apply pd | apply pe)) : w.heap.size ≤ gb350)); clear HB; have HB := n0_; have BK350 := n1_; have GW350 := n2_; have GE350 := n3_; clear n0_ n1_ n2_ n3_ hb hbox hg; have hcz10_0 : w9.cell? ⟨gb350, 0, none⟩ = some (.int .i64 a0_0) := (zc BK350.out 0).trans rfl; have hcz10_1 : w9.cell? ⟨gb350, 1, none⟩ = some (.int .i64 a0_1) := (zc BK350.out 1).trans rfl; have hcz10_2 : w9.cell? ⟨gb350, 2, none⟩ = some (.int .i64 a0_2) := (zc BK350.out 2).trans rfl; have hcz10_3 : w9.cell? ⟨gb350, 3, none⟩ = some (.int .i64 a0_3) := (zc BK350.out 3).trans rfl; have hfz10_0 := zf BK350.out 0; have hfz10_1 := zf BK350.out 1; have hfz10_2 := zf BK350.out 2; have hfz10_3 := zf BK350.out 3))
               go_ret
               exact ⟨by first | rfl | simp [*], by repeat (first | (with_reducible first | exact HB.out | apply pa | apply pd | apply pe | refine zs ?_ GE350.out) | exact HB.out)⟩
             rw [if_neg c8] at H
             have c8b0 : decide (a0_1 ≤ a0_3) = false := df_ c8
             clear c8
             obtain rfl := Option.some.inj H
             go_enter Tryd.func32, Tryd.ntmps32
             go_wp2_with (first | ((with_reducible refine gate_dst (N := 1) rfl ?_); refine box_event ?hg (N := 1) ?hd (cs := #[.int .i64 a0_0, .int .i64 a0_1, .int .i64 a0_2, .int .i64 a0_3]) (t := 54) ?hr ?_; (case hd | hg => rfl); (case hr => first | (go_simp; done) | (go_simp; rfl)); intro gb350 hg w11 hbox hb; have n0_ := ak_ (ps (by with_reducible repeat first | exact HB.out | apply pa | apply pd | apply pe) hb); have n1_ := ak_ (hbox); have n2_ := ak_ ((by rw [hg]; exact (below_size (by with_reducible repeat first | exact HB.out | apply pa | apply pd | apply pe)) : w.heap.size ≤ gb350)); have n3_ := ak_ ((by rw [hg]; exact (below_size (by with_reducible repeat first | exact HB.out | apply pa | apply pd | apply pe)) : w.heap.size ≤ gb350)); clear HB; have HB := n0_; have BK350 := n1_; have GW350 := n2_; have GE350 := n3_; clear n0_ n1_ n2_ n3_ hb hbox hg; have hcz12_0 : w11.cell? ⟨gb350, 0, none⟩ = some (.int .i64 a0_0) := (zc BK350.out 0).trans rfl; have hcz12_1 : w11.cell? ⟨gb350, 1, none⟩ = some (.int .i64 a0_1) := (zc BK350.out 1).trans rfl; have hcz12_2 : w11.cell? ⟨gb350, 2, none⟩ = some (.int .i64 a0_2) := (zc BK350.out 2).trans rfl; have hcz12_3 : w11.cell? ⟨gb350, 3, none⟩ = some (.int .i64 a0_3) := (zc BK350.out 3).trans rfl; have hfz12_0 := zf BK350.out 0; have hfz12_1 := zf BK350.out 1; have hfz12_2 := zf BK350.out 2; have hfz12_3 := zf BK350.out 3))
             go_ret
             exact ⟨by first | rfl | simp [*], by repeat (first | (with_reducible first | exact HB.out | apply pa | apply pd | apply pe | refine zs ?_ GE350.out) | exact HB.out)⟩
           rw [if_neg c7] at H
           have c7b0 : decide (a0_2 ≤ 16) = false := df_ c7
           clear c7
           obtain rfl := Option.some.inj H
           go_enter Tryd.func32, Tryd.ntmps32
           go_wp2_with (first | ((with_reducible refine gate_dst (N := 1) rfl ?_); refine box_event ?hg (N := 1) ?hd (cs := #[.int .i64 a0_0, .int .i64 a0_1, .int .i64 a0_2, .int .i64 a0_3]) (t := 54) ?hr ?_; (case hd | hg => rfl); (case hr => first | (go_simp; done) | (go_simp; rfl)); intro gb350 hg w13 hbox hb; have n0_ := ak_ (ps (by with_reducible repeat first | exact HB.out | apply pa | apply pd | apply pe) hb); have n1_ := ak_ (hbox); have n2_ := ak_ ((by rw [hg]; exact (below_size (by with_reducible repeat first | exact HB.out | apply pa | apply pd | apply pe)) : w.heap.size ≤ gb350)); have n3_ := ak_ ((by rw [hg]; exact (below_size (by with_reducible repeat first | exact HB.out | apply pa | apply pd | apply pe)) : w.heap.size ≤ gb350)); clear HB; have HB := n0_; have BK350 := n1_; have GW350 := n2_; have GE350 := n3_; clear n0_ n1_ n2_ n3_ hb hbox hg; have hcz14_0 : w13.cell? ⟨gb350, 0, none⟩ = some (.int .i64 a0_0) := (zc BK350.out 0).trans rfl; have hcz14_1 : w13.cell? ⟨gb350, 1, none⟩ = some (.int .i64 a0_1) := (zc BK350.out 1).trans rfl; have hcz14_2 : w13.cell? ⟨gb350, 2, none⟩ = some (.int .i64 a0_2) := (zc BK350.out 2).trans rfl; have hcz14_3 : w13.cell? ⟨gb350, 3, none⟩ = some (.int .i64 a0_3) := (zc BK350.out 3).trans rfl; have hfz14_0 := zf BK350.out 0; have hfz14_1 := zf BK350.out 1; have hfz14_2 := zf BK350.out 2; have hfz14_3 := zf BK350.out 3))
           go_ret
           exact ⟨by first | rfl | simp [*], by repeat (first | (with_reducible first | exact HB.out | apply pa | apply pd | apply pe | refine zs ?_ GE350.out) | exact HB.out)⟩
         rw [if_neg c6] at H
         have c6b0 : decide (1 ≤ a0_2) = false := df_ c6
         clear c6
         obtain rfl := Option.some.inj H
         go_enter Tryd.func32, Tryd.ntmps32
         go_wp2_with (first | ((with_reducible refine gate_dst (N := 1) rfl ?_); refine box_event ?hg (N := 1) ?hd (cs := #[.int .i64 a0_0, .int .i64 a0_1, .int .i64 a0_2, .int .i64 a0_3]) (t := 54) ?hr ?_; (case hd | hg => rfl); (case hr => first | (go_simp; done) | (go_simp; rfl)); intro gb350 hg w15 hbox hb; have n0_ := ak_ (ps (by with_reducible repeat first | exact HB.out | apply pa | apply pd | apply pe) hb); have n1_ := ak_ (hbox); have n2_ := ak_ ((by rw [hg]; exact (below_size (by with_reducible repeat first | exact HB.out | apply pa | apply pd | apply pe)) : w.heap.size ≤ gb350)); have n3_ := ak_ ((by rw [hg]; exact (below_size (by with_reducible repeat first | exact HB.out | apply pa | apply pd | apply pe)) : w.heap.size ≤ gb350)); clear HB; have HB := n0_; have BK350 := n1_; have GW350 := n2_; have GE350 := n3_; clear n0_ n1_ n2_ n3_ hb hbox hg; have hcz16_0 : w15.cell? ⟨gb350, 0, none⟩ = some (.int .i64 a0_0) := (zc BK350.out 0).trans rfl; have hcz16_1 : w15.cell? ⟨gb350, 1, none⟩ = some (.int .i64 a0_1) := (zc BK350.out 1).trans rfl; have hcz16_2 : w15.cell? ⟨gb350, 2, none⟩ = some (.int .i64 a0_2) := (zc BK350.out 2).trans rfl; have hcz16_3 : w15.cell? ⟨gb350, 3, none⟩ = some (.int .i64 a0_3) := (zc BK350.out 3).trans rfl; have hfz16_0 := zf BK350.out 0; have hfz16_1 := zf BK350.out 1; have hfz16_2 := zf BK350.out 2; have hfz16_3 := zf BK350.out 3))
         go_ret
         exact ⟨by first | rfl | simp [*], by repeat (first | (with_reducible first | exact HB.out | apply pa | apply pd | apply pe | refine zs ?_ GE350.out) | exact HB.out)⟩
       rw [if_neg c5] at H
       have c5b0 : decide (a0_1 ≤ 1099511627776) = false := df_ c5
       clear c5
       obtain rfl := Option.some.inj H
       go_enter Tryd.func32, Tryd.ntmps32
       go_wp2_with (first | ((with_reducible refine gate_dst (N := 1) rfl ?_); refine box_event ?hg (N := 1) ?hd (cs := #[.int .i64 a0_0, .int .i64 a0_1, .int .i64 a0_2, .int .i64 a0_3]) (t := 54) ?hr ?_; (case hd | hg => rfl); (case hr => first | (go_simp; done) | (go_simp; rfl)); intro gb350 hg w17 hbox hb; have n0_ := ak_ (ps (by with_reducible repeat first | exact HB.out | apply pa | apply pd | apply pe) hb); have n1_ := ak_ (hbox); have n2_ := ak_ ((by rw [hg]; exact (below_size (by with_reducible repeat first | exact HB.out | apply pa | apply pd | apply pe)) : w.heap.size ≤ gb350)); have n3_ := ak_ ((by rw [hg]; exact (below_size (by with_reducible repeat first | exact HB.out | apply pa | apply pd | apply pe)) : w.heap.size ≤ gb350)); clear HB; have HB := n0_; have BK350 := n1_; have GW350 := n2_; have GE350 := n3_; clear n0_ n1_ n2_ n3_ hb hbox hg; have hcz18_0 : w17.cell? ⟨gb350, 0, none⟩ = some (.int .i64 a0_0) := (zc BK350.out 0).trans rfl; have hcz18_1 : w17.cell? ⟨gb350, 1, none⟩ = some (.int .i64 a0_1) := (zc BK350.out 1).trans rfl; have hcz18_2 : w17.cell? ⟨gb350, 2, none⟩ = some (.int .i64 a0_2) := (zc BK350.out 2).trans rfl; have hcz18_3 : w17.cell? ⟨gb350, 3, none⟩ = some (.int .i64 a0_3) := (zc BK350.out 3).trans rfl; have hfz18_0 := zf BK350.out 0; have hfz18_1 := zf BK350.out 1; have hfz18_2 := zf BK350.out 2; have hfz18_3 := zf BK350.out 3))
       go_ret
       exact ⟨by first | rfl | simp [*], by repeat (first | (with_reducible first | exact HB.out | apply pa | apply pd | apply pe | refine zs ?_ GE350.out) | exact HB.out)⟩
     rw [if_neg c4] at H
     have c4b0 : decide (1 ≤ a0_1) = false := df_ c4
     clear c4
     obtain rfl := Option.some.inj H
     go_enter Tryd.func32, Tryd.ntmps32
     go_wp2_with (first | ((with_reducible refine gate_dst (N := 1) rfl ?_); refine box_event ?hg (N := 1) ?hd (cs := #[.int .i64 a0_0, .int .i64 a0_1, .int .i64 a0_2, .int .i64 a0_3]) (t := 54) ?hr ?_; (case hd | hg => rfl); (case hr => first | (go_simp; done) | (go_simp; rfl)); intro gb350 hg w19 hbox hb; have n0_ := ak_ (ps (by with_reducible repeat first | exact HB.out | apply pa | apply pd | apply pe) hb); have n1_ := ak_ (hbox); have n2_ := ak_ ((by rw [hg]; exact (below_size (by with_reducible repeat first | exact HB.out | apply pa | apply pd | apply pe)) : w.heap.size ≤ gb350)); have n3_ := ak_ ((by rw [hg]; exact (below_size (by with_reducible repeat first | exact HB.out | apply pa | apply pd | apply pe)) : w.heap.size ≤ gb350)); clear HB; have HB := n0_; have BK350 := n1_; have GW350 := n2_; have GE350 := n3_; clear n0_ n1_ n2_ n3_ hb hbox hg; have hcz20_0 : w19.cell? ⟨gb350, 0, none⟩ = some (.int .i64 a0_0) := (zc BK350.out 0).trans rfl; have hcz20_1 : w19.cell? ⟨gb350, 1, none⟩ = some (.int .i64 a0_1) := (zc BK350.out 1).trans rfl; have hcz20_2 : w19.cell? ⟨gb350, 2, none⟩ = some (.int .i64 a0_2) := (zc BK350.out 2).trans rfl; have hcz20_3 : w19.cell? ⟨gb350, 3, none⟩ = some (.int .i64 a0_3) := (zc BK350.out 3).trans rfl; have hfz20_0 := zf BK350.out 0; have hfz20_1 := zf BK350.out 1; have hfz20_2 := zf BK350.out 2; have hfz20_3 := zf BK350.out 3))
     go_ret
     exact ⟨by first | rfl | simp [*], by repeat (first | (with_reducible first | exact HB.out | apply pa | apply pd | apply pe | refine zs ?_ GE350.out) | exact HB.out)⟩
   rw [if_neg c3] at H
   have c3b0 : decide (a0_0 ≤ 1000) = false := df_ c3
   clear c3
   obtain rfl := Option.some.inj H
   go_enter Tryd.func32, Tryd.ntmps32
   go_wp2_with (first | ((with_reducible refine gate_dst (N := 1) rfl ?_); refine box_event ?hg (N := 1) ?hd (cs := #[.int .i64 a0_0, .int .i64 a0_1, .int .i64 a0_2, .int .i64 a0_3]) (t := 54) ?hr ?_; (case hd | hg => rfl); (case hr => first | (go_simp; done) | (go_simp; rfl)); intro gb350 hg w21 hbox hb; have n0_ := ak_ (ps (by with_reducible repeat first | exact HB.out | apply pa | apply pd | apply pe) hb); have n1_ := ak_ (hbox); have n2_ := ak_ ((by rw [hg]; exact (below_size (by with_reducible repeat first | exact HB.out | apply pa | apply pd | apply pe)) : w.heap.size ≤ gb350)); have n3_ := ak_ ((by rw [hg]; exact (below_size (by with_reducible repeat first | exact HB.out | apply pa | apply pd | apply pe)) : w.heap.size ≤ gb350)); clear HB; have HB := n0_; have BK350 := n1_; have GW350 := n2_; have GE350 := n3_; clear n0_ n1_ n2_ n3_ hb hbox hg; have hcz22_0 : w21.cell? ⟨gb350, 0, none⟩ = some (.int .i64 a0_0) := (zc BK350.out 0).trans rfl; have hcz22_1 : w21.cell? ⟨gb350, 1, none⟩ = some (.int .i64 a0_1) := (zc BK350.out 1).trans rfl; have hcz22_2 : w21.cell? ⟨gb350, 2, none⟩ = some (.int .i64 a0_2) := (zc BK350.out 2).trans rfl; have hcz22_3 : w21.cell? ⟨gb350, 3, none⟩ = some (.int .i64 a0_3) := (zc BK350.out 3).trans rfl; have hfz22_0 := zf BK350.out 0; have hfz22_1 := zf BK350.out 1; have hfz22_2 := zf BK350.out 2; have hfz22_3 := zf BK350.out 3))
   go_ret
   exact ⟨by first | rfl | simp [*], by repeat (first | (with_reducible first | exact HB.out | apply pa | apply pd | apply pe | refine zs ?_ GE350.out) | exact HB.out)⟩
 rw [if_neg c2] at H
 have c2b0 : decide (0 ≤ a0_0) = false := df_ c2
 clear c2
 obtain rfl := Option.some.inj H
 go_enter Tryd.func32, Tryd.ntmps32
 go_wp2_with (first | ((with_reducible refine gate_dst (N := 1) rfl ?_); refine box_event ?hg (N := 1) ?hd (cs := #[.int .i64 a0_0, .int .i64 a0_1, .int .i64 a0_2, .int .i64 a0_3]) (t := 54) ?hr ?_; (case hd | hg => rfl); (case hr => first | (go_simp; done) | (go_simp; rfl)); intro gb350 hg w23 hbox hb; have n0_ := ak_ (ps (by with_reducible repeat first | exact HB.out | apply pa | apply pd | apply pe) hb); have n1_ := ak_ (hbox); have n2_ := ak_ ((by rw [hg]; exact (below_size (by with_reducible repeat first | exact HB.out | apply pa | apply pd | apply pe)) : w.heap.size ≤ gb350)); have n3_ := ak_ ((by rw [hg]; exact (below_size (by with_reducible repeat first | exact HB.out | apply pa | apply pd | apply pe)) : w.heap.size ≤ gb350)); clear HB; have HB := n0_; have BK350 := n1_; have GW350 := n2_; have GE350 := n3_; clear n0_ n1_ n2_ n3_ hb hbox hg; have hcz24_0 : w23.cell? ⟨gb350, 0, none⟩ = some (.int .i64 a0_0) := (zc BK350.out 0).trans rfl; have hcz24_1 : w23.cell? ⟨gb350, 1, none⟩ = some (.int .i64 a0_1) := (zc BK350.out 1).trans rfl; have hcz24_2 : w23.cell? ⟨gb350, 2, none⟩ = some (.int .i64 a0_2) := (zc BK350.out 2).trans rfl; have hcz24_3 : w23.cell? ⟨gb350, 3, none⟩ = some (.int .i64 a0_3) := (zc BK350.out 3).trans rfl; have hfz24_0 := zf BK350.out 0; have hfz24_1 := zf BK350.out 1; have hfz24_2 := zf BK350.out 2; have hfz24_3 := zf BK350.out 3))
 go_ret
 exact ⟨by first | rfl | simp [*], by repeat (first | (with_reducible first | exact HB.out | apply pa | apply pd | apply pe | refine zs ?_ GE350.out) | exact HB.out)⟩
end Go.Proofs.YtmfddmhomkcikaaDoor.Q
