/- Whether a number is among some, as the document has it (printed by print.sh for VcpuReads). -/
import Derived.Test.YtkbaghblchlcnaaB20
namespace Go.Proofs.Ytkbaghblchlcnaa.Lr
open Go.RowKit Go.Proofs.YtkbaghblchlcnaaW.PrintWords Go.Proofs.YtkbaghblchlcnaaW.PrintLast Go.Proofs.YtkbaghblchlcnaaW.PrintMore Go.Proofs.Ytkbaghblchlcnaa.IAll
section
attribute [local go_sem] max2_int min2_int max_two min_two max_three min_three max_four min_four
def crierref01_Has.l0 : Nat → List Int → Int → Int → Option (Bool)
  | 0, _, _, _ => none
  | k + 1, x0, x1, x5 => if x5 < (x0.length : Int) then (if 0 ≤ x5 then (if (rd x0 x5) = x1 then (some true) else (crierref01_Has.l0 k x0 x1 (wrap64 (x5 + 1)))) else (none)) else (some false)
def crierref01_Has.f (k : Nat) (l0 : List Int) (a1 : Int) : Option (Bool) := crierref01_Has.l0 k l0 a1 0
set_option maxHeartbeats 8000000 in
set_option maxRecDepth 100000 in
theorem crierref01_Has.calls (k : Nat) (A0 : Option Addr) (c0 : Nat) (l0 : List Int) (a1 : Int) (r : Bool) (w : World) (hr0 : Kd.C (Kd.int .i64) w A0 l0.length l0) (hc0 : l0.length ≤ c0) (h : crierref01_Has.f k l0 a1 = some r) :
    Calls Try.prog 29 #[.slice A0 l0.length c0, .int .i64 a1] w fun e w' => e = .returned (.bool r) ∧ Drawn0 w w' := by
  have HR0 := Aside0.mk hr0
  have HC0 := Aside0.mk hc0
  clear hr0 hc0
  have H : (crierref01_Has.l0 k l0 a1 0) = some r := h
  clear h
  have H' := Aside0.mk H
  clear H
  go_enter Try.func29, Try.ntmps29
  go_wp2
  go_loopg [5] k (fun kq v5 w' => ∃ (x5_1 : Int), v5 = .int .i64 x5_1 ∧ Aside0 (crierref01_Has.l0 kq l0 a1 x5_1 = some r) ∧ Aside0 (kq ≤ k) ∧ Drawn0 w w')
  case atStart => exact ⟨(0), (by first | rfl | (simp; done) | (simp [*]; done)), H', ⟨Nat.le_refl _⟩, by repeat (first | exact Drawn0.refl _ | apply Drawn0.step)⟩
  case round =>
    clear H'
    try clear c2
    try clear p2
    obtain ⟨x5_1, rfl, HA, HK1, ⟨m1, rfl⟩⟩ := hrel
    cases gk with
    | zero => exact absurd HA.out (by simp [crierref01_Has.l0])
    | succ k1 =>
      have H := HA.out
      clear HA
      simp only [crierref01_Has.l0] at H
      by_cases c3 : x5_1 < (l0.length : Int)
      · rw [if_pos c3] at H
        have c3b0 : decide (x5_1 < (l0.length : Int)) = true := decide_eq_true c3
        clear c3
        by_cases c4 : 0 ≤ x5_1
        · rw [if_pos c4] at H
          have c4b0 : decide (0 ≤ x5_1) = true := decide_eq_true c4
          clear c4
          by_cases c5 : (rd l0 x5_1) = a1
          · rw [if_pos c5] at H
            have c5b0 : ((rd l0 x5_1) == a1) = true := beq_iff_eq.mpr c5
            have c5b1 : ((rd l0 x5_1) != a1) = false := bne_eq_false_iff_eq.mpr c5
            clear c5
            obtain rfl := Option.some.inj H
            have p132 : 0 ≤ (x5_1 : Int) := of_decide_eq_true (by first | (with_reducible assumption) | assumption)
            have q132 : x5_1 < (l0.length : Int) := of_decide_eq_true (by first | (with_reducible assumption) | assumption)
            obtain ⟨ad132, e132, hx132_0⟩ := Kd.at_int HR0.out x5_1 p132 q132
            cases e132
            replace p132 := eq_true p132
            replace q132 := eq_true q132
            go_wp2
            go_ret
            exact ⟨by first | rfl | (simp; done) | (simp [*]; done), by repeat (first | exact Drawn0.refl _ | apply Drawn0.step)⟩
          · rw [if_neg c5] at H
            have c5b0 : ((rd l0 x5_1) == a1) = false := beq_eq_false_iff_ne.mpr c5
            have c5b1 : ((rd l0 x5_1) != a1) = true := bne_iff_ne.mpr c5
            have H' := Aside0.mk H
            clear H
            have p132 : 0 ≤ (x5_1 : Int) := of_decide_eq_true (by first | (with_reducible assumption) | assumption)
            have q132 : x5_1 < (l0.length : Int) := of_decide_eq_true (by first | (with_reducible assumption) | assumption)
            obtain ⟨ad132, e132, hx132_0⟩ := Kd.at_int HR0.out x5_1 p132 q132
            cases e132
            replace p132 := eq_true p132
            replace q132 := eq_true q132
            go_wp2
            go_roundg k1
            case measure => have := HK1.out; omega
            case rel => exact ⟨(wrap64 (x5_1 + 1)), (by first | rfl | (simp; done) | (simp [*]; done)), H', ⟨by have := HK1.out; omega⟩, by repeat (first | exact Drawn0.refl _ | apply Drawn0.step)⟩
        · rw [if_neg c4] at H
          exact absurd H (by simp)
      · rw [if_neg c3] at H
        have c3b0 : decide (x5_1 < (l0.length : Int)) = false := decide_eq_false c3
        clear c3
        obtain rfl := Option.some.inj H
        go_wp2
        go_ret
        exact ⟨by first | rfl | (simp; done) | (simp [*]; done), by repeat (first | exact Drawn0.refl _ | apply Drawn0.step)⟩
end
theorem has_c {w : World} {bl : Nat} (h : isRow w bl) (h' : rowAt w bl = #[.int .i64 6, .int .i64 7, .int .i64 8]) (r : Int) (h6 : ¬ r = 6) (h7 : ¬ r = 7) (h8 : ¬ r = 8) :
    Calls Try.prog 29 #[.slice (some ⟨bl, 0, none⟩) 3 3, .int .i64 r] w fun e w' => e = .returned (.bool false) ∧ Below w.heap.size w w' := by
  have hC : Kd.C (Kd.int .i64) w (some ⟨bl, 0, none⟩) [6, 7, 8].length ([6, 7, 8] : List Int) := ⟨rfl, by decide, fun _ => ⟨⟨bl, 0, none⟩, rfl, fun j p hp => ⟨[.int .i64 p], rfl, rfl, fun i u hu => by
    have hj : j < 3 := (List.getElem?_eq_some_iff.1 hp).1
    have hi : i < 1 := (List.getElem?_eq_some_iff.1 hu).1
    obtain rfl : i = 0 := by omega
    have ea : (⟨bl, 0, none⟩ : Addr).add (j * 1 + 0) = ⟨bl, j, none⟩ := by rw [addr_at]; simp
    show w.cell? ((⟨bl, 0, none⟩ : Addr).add (j * 1 + 0)) = _
    rw [ea, cell_row h, h', ← hu]
    rcases (show j = 0 ∨ j = 1 ∨ j = 2 by omega) with rfl | rfl | rfl <;> (injection hp with hp; subst hp; rfl)⟩⟩⟩
  have hf : crierref01_Has.f 4 [6, 7, 8] r = some false := by
    have g6 : ¬ (6 : Int) = r := fun e => h6 e.symm
    have g7 : ¬ (7 : Int) = r := fun e => h7 e.symm
    have g8 : ¬ (8 : Int) = r := fun e => h8 e.symm
    have e1 : wrap64 (0 + 1) = 1 := w64 _ (by omega)
    have e2 : wrap64 (1 + 1) = 2 := w64 _ (by omega)
    have e3 : wrap64 (2 + 1) = 3 := w64 _ (by omega)
    have r0 : rd ([6, 7, 8] : List Int) 0 = 6 := rfl
    have r1 : rd ([6, 7, 8] : List Int) 1 = 7 := rfl
    have r2 : rd ([6, 7, 8] : List Int) 2 = 8 := rfl
    unfold crierref01_Has.f
    rw [crierref01_Has.l0, if_pos (by decide), if_pos (by decide), r0, if_neg g6, e1, crierref01_Has.l0, if_pos (by decide), if_pos (by decide), r1, if_neg g7, e2, crierref01_Has.l0, if_pos (by decide), if_pos (by decide), r2, if_neg g8, e3, crierref01_Has.l0, if_neg (by decide)]
  exact (crierref01_Has.calls 4 _ 3 [6, 7, 8] r false w hC (Nat.le_refl _) hf).mono fun _ _ q => ⟨q.1, below_drawn0 q.2⟩
end Go.Proofs.Ytkbaghblchlcnaa.Lr
