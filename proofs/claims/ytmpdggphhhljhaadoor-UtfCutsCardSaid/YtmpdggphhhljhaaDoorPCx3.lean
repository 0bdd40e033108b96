/- Written by this session's own program (xprint, made over the kit's print): Lean functions with the same answers as the Go functions, and the proofs of that. Not trusted: Lean checks it. -/
import Derived.Test.YtmpdggphhhljhaaDoorPCx0
namespace Go.Proofs.YtmpdggphhhljhaaDoor.PC
open Go.RowKit Go.Proofs.YtmpdggphhhljhaaDoorW.PrintWords Go.Proofs.YtmpdggphhhljhaaDoorW.PrintLast Go.Proofs.YtmpdggphhhljhaaDoorW.PrintMore
attribute [local go_sem] max2_int min2_int max_two min_two max_three min_three max_four min_four   -- for this text's walks alone
set_option linter.unusedVariables false
set_option linter.unusedSimpArgs false

/-! ### utf_sized: function 25 -/
def utf_sized.l0 : Nat → List Int → Int → Int → Int → Option (Bool)
 | 0, _, _, _, _ => none
 | k + 1, x0, x2, x12, x13 => if x13 < x12 then (if 0 ≤ x13 then (if x13 < (x0.length : Int) then (if (((rd x0 x13) != 0) != (x13 == x2)) = true then (some false) else (utf_sized.l0 k x0 x2 x12 (wrap64 (x13 + 1)))) else (none)) else (none)) else (some true)
def utf_sized.f (k : Nat) (l0 : List Int) (a1 : Int) (a2 : Int) : Option (Bool) := if (l0.length : Int) < a1 then (some false) else (utf_sized.l0 k l0 a2 a1 0)
theorem utf_sized.mono_l : ∀ k, (∀ y0 y1 y2 y3, LeO (utf_sized.l0 k y0 y1 y2 y3) (utf_sized.l0 (k + 1) y0 y1 y2 y3))
 | 0 => fun _ _ _ _ r h => by simp [utf_sized.l0] at h
 | k + 1 => by
  have ih0 := utf_sized.mono_l k
  ·intro y0 y1 y2 y3
   unfold utf_sized.l0
   repeat' first
   | (with_reducible exact ih0 _ _ _ _)
   | (with_reducible exact LeO.refl _)
   | (with_reducible exact LeO.none _)
   | (with_reducible refine LeO.ite ?_ ?_)
   | (with_reducible refine LeO.bind ?_ (fun _ => ?_))
   | exact ih0 _ _ _ _
   | exact LeO.none _
   | refine LeO.ite ?_ ?_
   | refine LeO.bind ?_ (fun _ => ?_)
theorem utf_sized.mono : ∀ a0 a1 a2 k, LeO (utf_sized.f k a0 a1 a2) (utf_sized.f (k + 1) a0 a1 a2) := by
 intro a0 a1 a2 k
 have ih0 := utf_sized.mono_l k
 unfold utf_sized.f
 repeat' first
   | (with_reducible exact ih0 _ _ _ _)
   | (with_reducible exact LeO.refl _)
   | (with_reducible exact LeO.none _)
   | (with_reducible refine LeO.ite ?_ ?_)
   | (with_reducible refine LeO.bind ?_ (fun _ => ?_))
   | exact ih0 _ _ _ _
   | exact LeO.none _
   | refine LeO.ite ?_ ?_
   | refine LeO.bind ?_ (fun _ => ?_)
set_option maxHeartbeats 8000000 in
set_option maxRecDepth 100000 in
theorem utf_sized.calls (k : Nat) (A0 : Option Addr) (c0 : Nat) (l0 : List Int) (a1 : Int) (a2 : Int) (r : Bool) (w : World) (hr0 : Kd.C (Kd.int .u8) w A0 l0.length l0) (hc0 : l0.length ≤ c0) (h : utf_sized.f k l0 a1 a2 = some r) :
  Calls Tryd.prog 25 #[.slice A0 l0.length c0, .int .i64 a1, .int .i64 a2] w fun e w' => e = .returned (.bool r) ∧ Drawn0 w w' := by
 have HR0 := Aside0.mk hr0
 have HC0 := Aside0.mk hc0
 clear hr0 hc0
 have H : (if (l0.length : Int) < a1 then (some false) else (utf_sized.l0 k l0 a2 a1 0)) = some r := h
 clear h
 by_cases c4 : (l0.length : Int) < a1
 ·rw [if_pos c4] at H
  have c4b0 : decide ((l0.length : Int) < a1) = true := decide_eq_true c4
  clear c4
  obtain rfl := Option.some.inj H
  go_enter Tryd.func25, Tryd.ntmps25
  go_wp2
  go_ret
  exact ⟨by first | rfl | (simp; done) | (simp [*]; done) | (simp [wrap64]; done), by repeat (first | exact Drawn0.refl _ | apply Drawn0.step)⟩
 ·rw [if_neg c4] at H
  have c4b0 : decide ((l0.length : Int) < a1) = false := decide_eq_false c4
  clear c4
  have H' := Aside0.mk H
  clear H
  go_enter Tryd.func25, Tryd.ntmps25
  go_wp2
  go_loopg [13] k (fun kq v13 w' => ∃ (x13_1 : Int), v13 = .int .i64 x13_1 ∧ Aside0 (utf_sized.l0 kq l0 a2 a1 x13_1 = some r) ∧ Aside0 (kq ≤ k) ∧ Drawn0 w w')
  case atStart => exact ⟨(0), (by first | rfl | (simp; done) | (simp [*]; done) | (simp [wrap64]; done)), H', ⟨Nat.le_refl _⟩, by repeat (first | exact Drawn0.refl _ | apply Drawn0.step)⟩
  case round =>
   clear H'
   try clear c2; try clear p2; try clear c4; try clear c4b0
   obtain ⟨x13_1, rfl, HA, HK1, ⟨m1, rfl⟩⟩ := hrel
   cases gk with
   | zero => exact absurd HA.out (by simp [utf_sized.l0])
   | succ k1 =>
    have H := HA.out
    clear HA
    simp only [utf_sized.l0] at H
    by_cases c5 : x13_1 < a1
    ·rw [if_pos c5] at H
     have c5b0 : decide (x13_1 < a1) = true := decide_eq_true c5
     clear c5
     by_cases c6 : 0 ≤ x13_1
     ·rw [if_pos c6] at H
      have c6b0 : decide (0 ≤ x13_1) = true := decide_eq_true c6
      clear c6
      by_cases c7 : x13_1 < (l0.length : Int)
      ·rw [if_pos c7] at H
       have c7b0 : decide (x13_1 < (l0.length : Int)) = true := decide_eq_true c7
       clear c7
       by_cases c8 : (((rd l0 x13_1) != 0) != (x13_1 == a2)) = true
       ·rw [if_pos c8] at H
        have c8b0 : (((rd l0 x13_1) != 0) != (x13_1 == a2)) = true := c8
        (try (have c8b1 : decide (((rd l0 x13_1) != 0) = (x13_1 == a2)) = false := by simpa using c8))
        (try (have c8b2 : (((rd l0 x13_1) != 0) == (x13_1 == a2)) = false := by simpa using c8))
        (try (have c8b3 : ¬ (((rd l0 x13_1) != 0) = (x13_1 == a2)) := by simpa using c8))
        clear c8
        obtain rfl := Option.some.inj H
        have p101 : 0 ≤ (x13_1 : Int) := of_decide_eq_true (by first | (with_reducible assumption) | assumption)
        have q101 : x13_1 < (l0.length : Int) := of_decide_eq_true (by first | (with_reducible assumption) | assumption)
        obtain ⟨ad101, e101, hx101_0⟩ := Kd.at_int HR0.out x13_1 p101 q101
        cases e101
        replace p101 := eq_true p101
        replace q101 := eq_true q101
        go_wp2
        go_ret
        exact ⟨by first | rfl | (simp; done) | (simp [*]; done) | (simp [wrap64]; done), by repeat (first | exact Drawn0.refl _ | apply Drawn0.step)⟩
       ·rw [if_neg c8] at H
        have c8b0 : (((rd l0 x13_1) != 0) != (x13_1 == a2)) = false := by simpa using c8
        (try (have c8b1 : decide (((rd l0 x13_1) != 0) = (x13_1 == a2)) = true := by simpa using c8))
        (try (have c8b2 : (((rd l0 x13_1) != 0) == (x13_1 == a2)) = true := by simpa using c8))
        clear c8
        have H' := Aside0.mk H
        clear H
        have p101 : 0 ≤ (x13_1 : Int) := of_decide_eq_true (by first | (with_reducible assumption) | assumption)
        have q101 : x13_1 < (l0.length : Int) := of_decide_eq_true (by first | (with_reducible assumption) | assumption)
        obtain ⟨ad101, e101, hx101_0⟩ := Kd.at_int HR0.out x13_1 p101 q101
        cases e101
        replace p101 := eq_true p101
        replace q101 := eq_true q101
        go_wp2
        go_roundg k1
        case measure => have := HK1.out; omega
        case rel => exact ⟨(wrap64 (x13_1 + 1)), (by first | rfl | (simp; done) | (simp [*]; done) | (simp [wrap64]; done)), H', ⟨by have := HK1.out; omega⟩, by repeat (first | exact Drawn0.refl _ | apply Drawn0.step)⟩
      ·rw [if_neg c7] at H
       exact absurd H (by simp)
     ·rw [if_neg c6] at H
      exact absurd H (by simp)
    ·rw [if_neg c5] at H
     have c5b0 : decide (x13_1 < a1) = false := decide_eq_false c5
     clear c5
     obtain rfl := Option.some.inj H
     go_wp2
     go_ret
     exact ⟨by first | rfl | (simp; done) | (simp [*]; done) | (simp [wrap64]; done), by repeat (first | exact Drawn0.refl _ | apply Drawn0.step)⟩

/-! ### utf_Detect: function 11 -/

def utf_Detect.dB (m0 m1 m2 m3 m4 m5 m6 m7 m8 : Bool) : Int × Int := if m0 = true then (4, 4) else if m1 = true then (4, 0) else if m2 = true then (5, 4) else if m3 = true then (5, 0) else if m4 = true then (2, 2) else if m5 = true then (2, 0) else if m6 = true then (3, 2) else if m7 = true then (3, 0) else if m8 = true then (1, 3) else (1, 0)
def utf_Detect.sizedB (l : List Int) (n at_ : Nat) : Bool := decide (n ≤ l.length) && (List.range n).all fun j => ((rd l (j : Int) != 0) == (j == at_))
def utf_Detect.det (l0 : List Int) : Int × Int := utf_Detect.dB (Lib.hasPrefix (Lib.bytesOf l0) (Lib.bytesOf [0, 0, 254, 255])) (utf_Detect.sizedB l0 4 3) (Lib.hasPrefix (Lib.bytesOf l0) (Lib.bytesOf [255, 254, 0, 0])) (utf_Detect.sizedB l0 4 0) (Lib.hasPrefix (Lib.bytesOf l0) (Lib.bytesOf [254, 255])) (utf_Detect.sizedB l0 2 1) (Lib.hasPrefix (Lib.bytesOf l0) (Lib.bytesOf [255, 254])) (utf_Detect.sizedB l0 2 0) (Lib.hasPrefix (Lib.bytesOf l0) (Lib.bytesOf [239, 187, 191]))
def utf_Detect.f (k : Nat) (l0 : List Int) : Option (Int × Int) := if 6 ≤ k then some (utf_Detect.det l0) else none
theorem utf_Detect.mono : ∀ a0 k, LeO (utf_Detect.f k a0) (utf_Detect.f (k + 1) a0) := by
 intro a0 k r h
 unfold utf_Detect.f at h ⊢
 split at h
 · rw [if_pos (by omega)]; exact h
 · cases h
theorem utf_Detect.sized_l (l : List Int) (n at_ : Nat) (hn : n ≤ 4) (hl : n ≤ l.length) : ∀ (d i k : Nat), i + d = n → d < k → utf_sized.l0 k l (at_ : Int) (n : Int) (i : Int) = some ((List.range' i d).all fun j => ((rd l (j : Int) != 0) == (j == at_)))
 | 0, i, k, hi, hk => by
  obtain ⟨k, rfl⟩ : ∃ m, k = m + 1 := ⟨k - 1, by omega⟩
  simp only [utf_sized.l0]
  rw [if_neg (by omega)]; rfl
 | d + 1, i, k, hi, hk => by
  obtain ⟨k, rfl⟩ : ∃ m, k = m + 1 := ⟨k - 1, by omega⟩
  simp only [utf_sized.l0]
  rw [if_pos (by omega), if_pos (by omega), if_pos (by omega)]
  have hw : wrap64 ((i : Int) + 1) = ((i + 1 : Nat) : Int) := by unfold wrap64; omega
  rw [hw, utf_Detect.sized_l l n at_ hn hl d (i + 1) k (by omega) (by omega)]
  have he : (((i : Nat) : Int) == ((at_ : Nat) : Int)) = (i == at_) := by rw [Bool.eq_iff_iff, beq_iff_eq, beq_iff_eq]; omega
  rw [he, List.range'_succ, List.all_cons]
  cases (rd l (i : Int) != 0) <;> cases (i == at_) <;> rfl
theorem utf_Detect.sized_eq (k : Nat) (hk : 6 ≤ k) (l : List Int) (n at_ : Nat) (hn : n ≤ 4) : utf_sized.f k l (n : Int) (at_ : Int) = some (utf_Detect.sizedB l n at_) := by
 unfold utf_sized.f utf_Detect.sizedB
 by_cases h : (l.length : Int) < (n : Int)
 · rw [if_pos h, decide_eq_false (by omega)]; rfl
 · rw [if_neg h, decide_eq_true (by omega), Bool.true_and]
   have := utf_Detect.sized_l l n at_ hn (by omega) n 0 k (by omega) (by omega)
   rw [← List.range_eq_range'] at this
   exact this
theorem utf_Detect.bytesIn {w : World} {A : Option Addr} {l : List Int} (h : Kd.C (Kd.int .u8) w A l.length l) : Lib.BytesIn w A l.length l := fun hp => by
 obtain ⟨ad, rfl, _⟩ := Kd.at_int h 0 (by omega) (by omega)
 refine Lib.BytesIn.of_cells (a := ad) (fun i hi => ?_) hp
 obtain ⟨ad', e, hc⟩ := Kd.at_int h (i : Int) (by omega) (by omega)
 obtain rfl := Option.some.inj e
 exact hc
theorem utf_Detect.newBytes (W : World) (xs : List Int) : Lib.BytesIn (W.alloc (.cells (xs.map (Value.int .u8)).toArray 5)) (some ⟨W.heap.size, 0, none⟩) xs.length xs := by
 refine fun hp => ⟨_, _, rfl, fun i hi => ?_⟩
 have e : (W.alloc (.cells (xs.map (Value.int .u8)).toArray 5)).heap[W.heap.size]? = some (.cells (xs.map (Value.int .u8)).toArray 5) := by
  show (W.heap.push _)[W.heap.size]? = _
  simp
 unfold World.cell?
 rw [e]
 simp [List.getElem?_eq_getElem hi, List.getD_eq_getElem?_getD]
theorem utf_Detect.isNew (W : World) (o : Obj) : (W.alloc o).heap[W.heap.size]? = some o := by
 show (W.heap.push _)[W.heap.size]? = _
 simp
set_option maxRecDepth 100000 in
theorem utf_Detect.marked (A0 : Option Addr) (c0 : Nat) (l0 : List Int) (A1 : Option Addr) (n1 c1 : Nat) (l1 : List Int) (p : Nat) (w : World) (hb : w.heap[p]? = some (.cells #[.slice A0 l0.length c0] 22 (0, 0))) (hr0 : Kd.C (Kd.int .u8) w A0 l0.length l0) (hc0 : l0.length ≤ c0) (hn : l1.length = n1) (h1 : Lib.BytesIn w A1 n1 l1) :
  Calls Tryd.prog 23 #[.slice A1 n1 c1, .pointer (some ⟨p, 0, none⟩)] w fun e w' => e = .returned (.bool (Lib.hasPrefix (Lib.bytesOf l0) (Lib.bytesOf l1))) ∧ Drawn0 w w' := by
 have hcell := cell_of_one hb
 obtain ⟨R, hR⟩ : ∃ R, Lib.hasPrefix (Lib.bytesOf l0) (Lib.bytesOf l1) = R := ⟨_, rfl⟩
 have C1 := Tryd.bytes_HasPrefix_all A0 A1 l0.length c0 n1 c1 l0 l1 w rfl hn hc0 (utf_Detect.bytesIn hr0) h1
 rw [hR] at C1 ⊢
 go_enter Tryd.func23, Tryd.ntmps23
 go_wp2_with (go_at_call 24; refine C1.mono ?_; rintro e w' ⟨rfl, rfl⟩)
 go_ret
 exact ⟨rfl, Drawn0.refl _⟩
def utf_Detect.Inv (A0 : Option Addr) (c0 : Nat) (l0 : List Int) (w W : World) : Prop := W.heap[w.heap.size]? = some (.cells #[.slice A0 l0.length c0] 22 (0, 0)) ∧ Kd.C (Kd.int .u8) W A0 l0.length l0 ∧ Below w.heap.size w W
theorem utf_Detect.marked_inv {A0 : Option Addr} {c0 : Nat} {l0 : List Int} {w W : World} (hI : Aside0 (utf_Detect.Inv A0 c0 l0 w W)) (hc0 : l0.length ≤ c0) (g : Nat) (hg : g = W.heap.size) (l1 : List Int) (vs : List Value) (hv : l1.map (Value.int .u8) = vs) (n : Nat) (hn : l1.length = n) (m : Bool) (hm : Lib.hasPrefix (Lib.bytesOf l0) (Lib.bytesOf l1) = m) :
  Calls Tryd.prog 23 #[.slice (some ⟨g, 0, none⟩) n n, .pointer (some ⟨w.heap.size, 0, none⟩)] (W.alloc (.cells vs.toArray 5)) fun e w' => e = .returned (.bool m) ∧ utf_Detect.Inv A0 c0 l0 w w' := by
 subst hn hv hm hg
 obtain ⟨h1, h2, h3⟩ := hI.out
 refine (utf_Detect.marked A0 c0 l0 _ _ _ l1 w.heap.size _ (blk_alloc h1 _) (Kd.C_alloc h2 _) hc0 rfl (utf_Detect.newBytes W l1)).mono ?_
 rintro e w' ⟨rfl, ⟨nd, rfl⟩⟩
 exact ⟨rfl, blk_drewN (blk_alloc h1 _) nd, Kd.C_drewN (Kd.C_alloc h2 _) nd, pw_below_drewN (h3.alloc h3.size _) nd⟩
theorem utf_Detect.sized_inv {A0 : Option Addr} {c0 : Nat} {l0 : List Int} {w W : World} (hI : Aside0 (utf_Detect.Inv A0 c0 l0 w W)) (hc0 : l0.length ≤ c0) (k : Nat) (a1 a2 : Int) (m : Bool) (hm : utf_sized.f k l0 a1 a2 = some m) :
  Calls Tryd.prog 25 #[.slice A0 l0.length c0, .int .i64 a1, .int .i64 a2] W fun e w' => e = .returned (.bool m) ∧ utf_Detect.Inv A0 c0 l0 w w' := by
 obtain ⟨h1, h2, h3⟩ := hI.out
 refine (utf_sized.calls k A0 c0 l0 a1 a2 m W h2 hc0 hm).mono ?_
 rintro e w' ⟨rfl, ⟨nd, rfl⟩⟩
 exact ⟨rfl, blk_drewN h1 nd, Kd.C_drewN h2 nd, pw_below_drewN h3 nd⟩
set_option maxHeartbeats 8000000 in
set_option maxRecDepth 100000 in
theorem utf_Detect.calls (k : Nat) (A0 : Option Addr) (c0 : Nat) (l0 : List Int) (r1 : Int) (r2 : Int) (w : World) (hr0 : Kd.C (Kd.int .u8) w A0 l0.length l0) (hc0 : l0.length ≤ c0) (h : utf_Detect.f k l0 = some (r1, r2)) :
  Calls Tryd.prog 11 #[.slice A0 l0.length c0] w fun e w' => e = .returned (.tuple #[.int .i64 r1, .int .i64 r2]) ∧ Below w.heap.size w w' := by
 have hmf : ∀ (fn : Fn) (first cap : Array Value) (w : World), (Instr.makeFunc fn first cap).run Tryd.prog w = .ok (.func fn first cap) w := fun _ _ _ _ => rfl
 have HC := Aside0.mk hc0
 have I : Aside0 (utf_Detect.Inv A0 c0 l0 w (w.alloc (.cells #[.slice A0 l0.length c0] 22))) := ⟨utf_Detect.isNew _ _, Kd.C_alloc hr0 _, (Below.refl _ _).alloc (Nat.le_refl _) _⟩
 clear hr0 hc0
 unfold utf_Detect.f at h
 split at h
 case isFalse => cases h
 rename_i hk
 have H := Option.some.inj h
 clear h
 unfold utf_Detect.det at H
 obtain ⟨m0, M0⟩ : ∃ m, Lib.hasPrefix (Lib.bytesOf l0) (Lib.bytesOf [0, 0, 254, 255]) = m := ⟨_, rfl⟩
 obtain ⟨m1, M1⟩ : ∃ m, utf_Detect.sizedB l0 4 3 = m := ⟨_, rfl⟩
 obtain ⟨m2, M2⟩ : ∃ m, Lib.hasPrefix (Lib.bytesOf l0) (Lib.bytesOf [255, 254, 0, 0]) = m := ⟨_, rfl⟩
 obtain ⟨m3, M3⟩ : ∃ m, utf_Detect.sizedB l0 4 0 = m := ⟨_, rfl⟩
 obtain ⟨m4, M4⟩ : ∃ m, Lib.hasPrefix (Lib.bytesOf l0) (Lib.bytesOf [254, 255]) = m := ⟨_, rfl⟩
 obtain ⟨m5, M5⟩ : ∃ m, utf_Detect.sizedB l0 2 1 = m := ⟨_, rfl⟩
 obtain ⟨m6, M6⟩ : ∃ m, Lib.hasPrefix (Lib.bytesOf l0) (Lib.bytesOf [255, 254]) = m := ⟨_, rfl⟩
 obtain ⟨m7, M7⟩ : ∃ m, utf_Detect.sizedB l0 2 0 = m := ⟨_, rfl⟩
 obtain ⟨m8, M8⟩ : ∃ m, Lib.hasPrefix (Lib.bytesOf l0) (Lib.bytesOf [239, 187, 191]) = m := ⟨_, rfl⟩
 rw [M0, M1, M2, M3, M4, M5, M6, M7, M8] at H
 replace M0 := Aside0.mk M0
 replace M1 := Aside0.mk (M1 ▸ utf_Detect.sized_eq k hk l0 4 3 (by decide))
 replace M2 := Aside0.mk M2
 replace M3 := Aside0.mk (M3 ▸ utf_Detect.sized_eq k hk l0 4 0 (by decide))
 replace M4 := Aside0.mk M4
 replace M5 := Aside0.mk (M5 ▸ utf_Detect.sized_eq k hk l0 2 1 (by decide))
 replace M6 := Aside0.mk M6
 replace M7 := Aside0.mk (M7 ▸ utf_Detect.sized_eq k hk l0 2 0 (by decide))
 replace M8 := Aside0.mk M8
 clear hk
 have HH := Aside0.mk H
 clear H
 go_enter Tryd.func11, Tryd.ntmps11
 go_wp2_with (first | (go_at_call 23; have z_ := M0; clear z_; (refine (utf_Detect.marked_inv I HC.out _ (by first | rfl | simp) [0, 0, 254, 255] [.int .u8 0, .int .u8 0, .int .u8 254, .int .u8 255] rfl 4 rfl m0 M0.out).mono ?_); rintro e W0 ⟨rfl, I_⟩; clear I M0; have I := Aside0.mk I_; have c_ := cell_of_one I_.1; clear I_) | (go_at_call 25; have z_ := M1; clear z_; (refine (utf_Detect.sized_inv I HC.out k 4 3 m1 M1.out).mono ?_); rintro e W1 ⟨rfl, I_⟩; clear I M1; have I := Aside0.mk I_; have c_ := cell_of_one I_.1; clear I_) | (go_at_call 23; have z_ := M2; clear z_; (refine (utf_Detect.marked_inv I HC.out _ (by first | rfl | simp) [255, 254, 0, 0] [.int .u8 255, .int .u8 254, .int .u8 0, .int .u8 0] rfl 4 rfl m2 M2.out).mono ?_); rintro e W2 ⟨rfl, I_⟩; clear I M2; have I := Aside0.mk I_; have c_ := cell_of_one I_.1; clear I_) | (go_at_call 25; have z_ := M3; clear z_; (refine (utf_Detect.sized_inv I HC.out k 4 0 m3 M3.out).mono ?_); rintro e W3 ⟨rfl, I_⟩; clear I M3; have I := Aside0.mk I_; have c_ := cell_of_one I_.1; clear I_) | (go_at_call 23; have z_ := M4; clear z_; (refine (utf_Detect.marked_inv I HC.out _ (by first | rfl | simp) [254, 255] [.int .u8 254, .int .u8 255] rfl 2 rfl m4 M4.out).mono ?_); rintro e W4 ⟨rfl, I_⟩; clear I M4; have I := Aside0.mk I_; have c_ := cell_of_one I_.1; clear I_) | (go_at_call 25; have z_ := M5; clear z_; (refine (utf_Detect.sized_inv I HC.out k 2 1 m5 M5.out).mono ?_); rintro e W5 ⟨rfl, I_⟩; clear I M5; have I := Aside0.mk I_; have c_ := cell_of_one I_.1; clear I_) | (go_at_call 23; have z_ := M6; clear z_; (refine (utf_Detect.marked_inv I HC.out _ (by first | rfl | simp) [255, 254] [.int .u8 255, .int .u8 254] rfl 2 rfl m6 M6.out).mono ?_); rintro e W6 ⟨rfl, I_⟩; clear I M6; have I := Aside0.mk I_; have c_ := cell_of_one I_.1; clear I_) | (go_at_call 25; have z_ := M7; clear z_; (refine (utf_Detect.sized_inv I HC.out k 2 0 m7 M7.out).mono ?_); rintro e W7 ⟨rfl, I_⟩; clear I M7; have I := Aside0.mk I_; have c_ := cell_of_one I_.1; clear I_) | (go_at_call 23; have z_ := M8; clear z_; (refine (utf_Detect.marked_inv I HC.out _ (by first | rfl | simp) [239, 187, 191] [.int .u8 239, .int .u8 187, .int .u8 191] rfl 3 rfl m8 M8.out).mono ?_); rintro e W8 ⟨rfl, I_⟩; clear I M8; have I := Aside0.mk I_; have c_ := cell_of_one I_.1; clear I_))
 all_goals (subst_vars; have e_ := HH.out; simp only [utf_Detect.dB, if_true, Bool.false_eq_true, if_false, Prod.mk.injEq] at e_; obtain ⟨rfl, rfl⟩ := e_; go_ret2; exact ⟨rfl, I.out.2.2⟩)

/-! ### utf_width: function 31 -/
mutual
def utf_width.j0 : Nat → Int → Int → Bool → Option (Int)
 | 0, _, _, _ => none
 | k + 1, x3, x4, x5 => if x5 = true then (some (wrap64 ((wrap64 ((wrap64 (x3 + 2)) + 1)) + 1))) else (if x4 = 2 then (utf_width.j1 k x3 x4 (x4 == 2)) else (utf_width.j1 k x3 x4 (x4 == 3)))
def utf_width.j1 : Nat → Int → Int → Bool → Option (Int)
 | 0, _, _, _ => none
 | k + 1, x3, x4, x8 => if x8 = true then (some (wrap64 ((wrap64 (x3 + 1)) + 1))) else (if x4 = 1 then (some (wrap64 (x3 + 1))) else (some x3))
end
def utf_width.f (k : Nat) (a0 : Int) : Option (Int) := if a0 = 4 then (utf_width.j0 k 0 a0 (a0 == 4)) else (utf_width.j0 k 0 a0 (a0 == 5))
theorem utf_width.mono_l : ∀ k, (∀ y0 y1 y2, LeO (utf_width.j0 k y0 y1 y2) (utf_width.j0 (k + 1) y0 y1 y2)) ∧ (∀ y0 y1 y2, LeO (utf_width.j1 k y0 y1 y2) (utf_width.j1 (k + 1) y0 y1 y2))
 | 0 => ⟨fun _ _ _ r h => by simp [utf_width.j0] at h, fun _ _ _ r h => by simp [utf_width.j1] at h⟩
 | k + 1 => by
  obtain ⟨ih0, ih1⟩ := utf_width.mono_l k
  refine ⟨?_, ?_⟩
  ·intro y0 y1 y2
   unfold utf_width.j0
   repeat' first
   | (with_reducible exact ih0 _ _ _)
   | (with_reducible exact ih1 _ _ _)
   | (with_reducible exact LeO.refl _)
   | (with_reducible exact LeO.none _)
   | (with_reducible refine LeO.ite ?_ ?_)
   | (with_reducible refine LeO.bind ?_ (fun _ => ?_))
   | exact ih0 _ _ _
   | exact ih1 _ _ _
   | exact LeO.none _
   | refine LeO.ite ?_ ?_
   | refine LeO.bind ?_ (fun _ => ?_)
  ·intro y0 y1 y2
   unfold utf_width.j1
   repeat' first
   | (with_reducible exact ih0 _ _ _)
   | (with_reducible exact ih1 _ _ _)
   | (with_reducible exact LeO.refl _)
   | (with_reducible exact LeO.none _)
   | (with_reducible refine LeO.ite ?_ ?_)
   | (with_reducible refine LeO.bind ?_ (fun _ => ?_))
   | exact ih0 _ _ _
   | exact ih1 _ _ _
   | exact LeO.none _
   | refine LeO.ite ?_ ?_
   | refine LeO.bind ?_ (fun _ => ?_)
theorem utf_width.mono : ∀ a0 k, LeO (utf_width.f k a0) (utf_width.f (k + 1) a0) := by
 intro a0 k
 obtain ⟨ih0, ih1⟩ := utf_width.mono_l k
 unfold utf_width.f
 repeat' first
   | (with_reducible exact ih0 _ _ _)
   | (with_reducible exact ih1 _ _ _)
   | (with_reducible exact LeO.refl _)
   | (with_reducible exact LeO.none _)
   | (with_reducible refine LeO.ite ?_ ?_)
   | (with_reducible refine LeO.bind ?_ (fun _ => ?_))
   | exact ih0 _ _ _
   | exact ih1 _ _ _
   | exact LeO.none _
   | refine LeO.ite ?_ ?_
   | refine LeO.bind ?_ (fun _ => ?_)
set_option maxHeartbeats 8000000 in
set_option maxRecDepth 100000 in
theorem utf_width.calls (k : Nat) (a0 : Int) (r : Int) (w : World) (h : utf_width.f k a0 = some r) :
  Calls Tryd.prog 31 #[.int .i64 a0] w fun e w' => e = .returned (.int .i64 r) ∧ Drawn0 w w' := by
 have H : (if a0 = 4 then (utf_width.j0 k 0 a0 (a0 == 4)) else (utf_width.j0 k 0 a0 (a0 == 5))) = some r := h
 clear h
 have HC2 := Aside0.mk H
 clear H
 go_enter Tryd.func31, Tryd.ntmps31
 go_upto_if 5 with (fail)
 go_cut [5] (fun v5 wc => ∃ (kq : Nat) (x5_1 : Bool), v5 = .bool x5_1 ∧ Aside0 (utf_width.j0 kq 0 a0 x5_1 = some r) ∧ Aside0 (kq ≤ k) ∧ Drawn0 w wc)
 case first =>
  have H := HC2.out
  clear HC2
  by_cases c3 : a0 = 4
  ·rw [if_pos c3] at H
   have c3b0 : (a0 == 4) = true := beq_iff_eq.mpr c3
   have c3b1 : (a0 != 4) = false := bne_eq_false_iff_eq.mpr c3
   clear c3
   (first | rw [c3b0] | (simp only [i64_w, i32_w]; rw [c3b0]) | skip)
   have H' := Aside0.mk H
   clear H
   go_wp2
   go_meet
   case rel => exact ⟨_, ((a0 == 4)), (by first | rfl | (simp; done) | (simp [*]; done) | (simp [wrap64]; done)), H', ⟨by first | omega | exact Nat.le_refl _⟩, by repeat (first | exact Drawn0.refl _ | apply Drawn0.step)⟩
  ·rw [if_neg c3] at H
   have c3b0 : (a0 == 4) = false := beq_eq_false_iff_ne.mpr c3
   have c3b1 : (a0 != 4) = true := bne_iff_ne.mpr c3
   (first | rw [c3b0] | (simp only [i64_w, i32_w]; rw [c3b0]) | skip)
   have H' := Aside0.mk H
   clear H
   go_wp2
   go_meet
   case rel => exact ⟨_, ((a0 == 5)), (by first | rfl | (simp; done) | (simp [*]; done) | (simp [wrap64]; done)), H', ⟨by first | omega | exact Nat.le_refl _⟩, by repeat (first | exact Drawn0.refl _ | apply Drawn0.step)⟩
 case rest =>
  clear HC2
  try clear p2; try clear c3; try clear c3b0; try clear c3b1
  obtain ⟨kq, x5_1, rfl, HA, HJ1, ⟨mc1, rfl⟩⟩ := hcut
  cases kq with
  | zero => exact absurd HA.out (by simp [utf_width.j0])
  | succ kj1 =>
   have H := HA.out
   clear HA
   simp only [utf_width.j0] at H
   by_cases c4 : x5_1 = true
   ·subst c4
    have H1 : (some (wrap64 ((wrap64 ((wrap64 (0 + 2)) + 1)) + 1))) = some r := by rw [if_pos rfl] at H; exact H
    clear H
    have H := H1
    clear H1
    obtain rfl := Option.some.inj H
    go_wp2
    go_ret
    exact ⟨by first | rfl | (simp; done) | (simp [*]; done) | (simp [wrap64]; done), by repeat (first | exact Drawn0.refl _ | apply Drawn0.step)⟩
   ·replace c4 := Bool.eq_false_iff.mpr c4
    subst c4
    have H1 : (if a0 = 2 then (utf_width.j1 kj1 0 a0 (a0 == 2)) else (utf_width.j1 kj1 0 a0 (a0 == 3))) = some r := by rw [if_neg (show ¬ (false = true) by decide)] at H; exact H
    clear H
    have H := H1
    clear H1
    have HC5 := Aside0.mk H
    clear H
    go_upto_if 8 with (fail)
    go_cut [8] (fun v8 wc => ∃ (kq : Nat) (x8_4 : Bool), v8 = .bool x8_4 ∧ Aside0 (utf_width.j1 kq 0 a0 x8_4 = some r) ∧ Aside0 (kq ≤ kj1) ∧ Drawn0 w wc)
    case first =>
     have H := HC5.out
     clear HC5
     by_cases c6 : a0 = 2
     ·rw [if_pos c6] at H
      have c6b0 : (a0 == 2) = true := beq_iff_eq.mpr c6
      have c6b1 : (a0 != 2) = false := bne_eq_false_iff_eq.mpr c6
      clear c6
      (first | rw [c6b0] | (simp only [i64_w, i32_w]; rw [c6b0]) | skip)
      have H' := Aside0.mk H
      clear H
      go_wp2
      go_meet
      case rel => exact ⟨_, ((a0 == 2)), (by first | rfl | (simp; done) | (simp [*]; done) | (simp [wrap64]; done)), H', ⟨by have := HJ1.out; first | omega | exact Nat.le_refl _⟩, by repeat (first | exact Drawn0.refl _ | apply Drawn0.step)⟩
     ·rw [if_neg c6] at H
      have c6b0 : (a0 == 2) = false := beq_eq_false_iff_ne.mpr c6
      have c6b1 : (a0 != 2) = true := bne_iff_ne.mpr c6
      (first | rw [c6b0] | (simp only [i64_w, i32_w]; rw [c6b0]) | skip)
      have H' := Aside0.mk H
      clear H
      go_wp2
      go_meet
      case rel => exact ⟨_, ((a0 == 3)), (by first | rfl | (simp; done) | (simp [*]; done) | (simp [wrap64]; done)), H', ⟨by have := HJ1.out; first | omega | exact Nat.le_refl _⟩, by repeat (first | exact Drawn0.refl _ | apply Drawn0.step)⟩
    case rest =>
     clear HC5
     try clear c1; try clear p2; try clear c3; try clear c3b0; try clear c3b1; try clear c4; try clear c6; try clear c6b0; try clear c6b1; try clear p6; try clear p2
     obtain ⟨kq, x8_4, rfl, HA, HJ4, ⟨mc4, rfl⟩⟩ := hcut
     cases kq with
     | zero => exact absurd HA.out (by simp [utf_width.j1])
     | succ kj4 =>
      have H := HA.out
      clear HA
      simp only [utf_width.j1] at H
      by_cases c7 : x8_4 = true
      ·subst c7
       have H1 : (some (wrap64 ((wrap64 (0 + 1)) + 1))) = some r := by rw [if_pos rfl] at H; exact H
       clear H
       have H := H1
       clear H1
       obtain rfl := Option.some.inj H
       go_wp2
       go_ret
       exact ⟨by first | rfl | (simp; done) | (simp [*]; done) | (simp [wrap64]; done), by repeat (first | exact Drawn0.refl _ | apply Drawn0.step)⟩
      ·replace c7 := Bool.eq_false_iff.mpr c7
       subst c7
       have H1 : (if a0 = 1 then (some (wrap64 (0 + 1))) else (some 0)) = some r := by rw [if_neg (show ¬ (false = true) by decide)] at H; exact H
       clear H
       have H := H1
       clear H1
       by_cases c8 : a0 = 1
       ·rw [if_pos c8] at H
        have c8b0 : (a0 == 1) = true := beq_iff_eq.mpr c8
        have c8b1 : (a0 != 1) = false := bne_eq_false_iff_eq.mpr c8
        clear c8
        obtain rfl := Option.some.inj H
        go_wp2
        go_ret
        exact ⟨by first | rfl | (simp; done) | (simp [*]; done) | (simp [wrap64]; done), by repeat (first | exact Drawn0.refl _ | apply Drawn0.step)⟩
       ·rw [if_neg c8] at H
        have c8b0 : (a0 == 1) = false := beq_eq_false_iff_ne.mpr c8
        have c8b1 : (a0 != 1) = true := bne_iff_ne.mpr c8
        obtain rfl := Option.some.inj H
        go_wp2
        go_ret
        exact ⟨by first | rfl | (simp; done) | (simp [*]; done) | (simp [wrap64]; done), by repeat (first | exact Drawn0.refl _ | apply Drawn0.step)⟩

/-! ### utf8_DecodeRune: function 38 -/

def utf8_DecodeRune.f (l0 : List Int) : Option (Int × Int) := if 0 < l0.length ∧ (l0.all fun x => decide (0 ≤ x ∧ x ≤ 255)) = true then some ((Lib.decodeGo (strOfNums l0)).1, ((Lib.decodeGo (strOfNums l0)).2 : Int)) else none
theorem utf8_DecodeRune.calls (A0 : Option Addr) (c0 : Nat) (l0 : List Int) (r1 : Int) (r2 : Int) (w : World) (hr0 : Kd.C (Kd.int .u8) w A0 l0.length l0) (hc0 : l0.length ≤ c0) (hG : Lib.Utf8Tabs 0 1 w) (h : utf8_DecodeRune.f l0 = some (r1, r2)) :
  Calls Tryd.prog 38 #[.slice A0 l0.length c0] w fun e w' => e = .returned (.tuple #[.int .i32 r1, .int .i64 r2]) ∧ Below w.heap.size w w' := by
 unfold utf8_DecodeRune.f at h
 split at h
 ·rename_i hc
  obtain ⟨hpos, hall⟩ := hc
  simp only [Option.some.injEq, Prod.mk.injEq] at h
  obtain ⟨rfl, rfl⟩ := h
  have hb : ∀ x ∈ l0, 0 ≤ x ∧ x ≤ 255 := fun x hx => of_decide_eq_true (List.all_eq_true.1 hall x hx)
  have hsz : (strOfNums l0).size = l0.length := strOfNums_size l0
  have hcell : ∀ j : Nat, j < l0.length → ∃ ad, A0 = some ad ∧ w.cell? (ad.add j) = some (.int .u8 (rd l0 (j : Int))) := fun j hj => Kd.at_int hr0 (j : Int) (by omega) (by omega)
  obtain ⟨⟨b, off, sp⟩, rfl, h0⟩ := hcell 0 hpos
  have hsp : sp = none := by
   cases sp with
   | none => rfl
   | some z => simp [Addr.add, World.cell?] at h0; split at h0 <;> simp at h0
  subst hsp
  rw [← hsz]
  exact Any7.utf8_DecodeRune Tryd.lays7_32 (strOfNums l0) b off c0 w hG (fun j hj => by
   rw [hsz] at hj
   obtain ⟨ad, he, hc⟩ := hcell j hj
   obtain rfl := Option.some.inj he
   have e1 : (⟨b, off + j, none⟩ : Addr) = (⟨b, off, none⟩ : Addr).add j := by
    unfold Addr.add
    split
    ·rename_i hz; subst hz; rfl
    ·rfl
   rw [e1, hc]
   have hlt : j < (strOfNums l0).size := by rw [hsz]; exact hj
   have e2 : (strOfNums l0).get! j = UInt8.ofNat (l0[j]).toNat := by
    rw [Go.Proofs.Utf8W.get!_of_lt _ _ hlt]
    show (strOfNums l0).data[j] = _
    have h : (strOfNums l0).data.toList[j]? = some (UInt8.ofNat (l0[j]).toNat) := by
     rw [strOfNums_data, List.getElem?_map, List.getElem?_eq_getElem hj]; rfl
    rw [Array.getElem?_toList, Array.getElem?_eq_getElem (by exact hlt)] at h
    exact Option.some.inj h
   have e3 : rd l0 (j : Int) = l0[j] := by
    unfold rd
    rw [Int.toNat_natCast, List.getD_eq_getElem?_getD, List.getElem?_eq_getElem hj]; rfl
   have := hb l0[j] (List.getElem_mem hj)
   rw [e2, e3]
   congr 2
   rw [UInt8.toNat_ofNat']
   omega)
 ·cases h

/-! ### utf_turned: function 45 -/
def utf_turned.f (a0 : Int) : Option (Bool) := if a0 = 3 then (some true) else (some (a0 == 5))
set_option maxHeartbeats 8000000 in
set_option maxRecDepth 100000 in
theorem utf_turned.calls (a0 : Int) (r : Bool) (w : World) (h : utf_turned.f a0 = some r) :
  Calls Tryd.prog 45 #[.int .i64 a0] w fun e w' => e = .returned (.bool r) ∧ Drawn0 w w' := by
 have H : (if a0 = 3 then (some true) else (some (a0 == 5))) = some r := h
 clear h
 by_cases c2 : a0 = 3
 ·rw [if_pos c2] at H
  have c2b0 : (a0 == 3) = true := beq_iff_eq.mpr c2
  have c2b1 : (a0 != 3) = false := bne_eq_false_iff_eq.mpr c2
  clear c2
  obtain rfl := Option.some.inj H
  go_enter Tryd.func45, Tryd.ntmps45
  go_wp2
  go_ret
  exact ⟨by first | rfl | (simp; done) | (simp [*]; done) | (simp [wrap64]; done), by repeat (first | exact Drawn0.refl _ | apply Drawn0.step)⟩
 ·rw [if_neg c2] at H
  have c2b0 : (a0 == 3) = false := beq_eq_false_iff_ne.mpr c2
  have c2b1 : (a0 != 3) = true := bne_iff_ne.mpr c2
  obtain rfl := Option.some.inj H
  go_enter Tryd.func45, Tryd.ntmps45
  go_wp2
  go_ret
  exact ⟨by first | rfl | (simp; done) | (simp [*]; done) | (simp [wrap64]; done), by repeat (first | exact Drawn0.refl _ | apply Drawn0.step)⟩

/-! ### utf_unit: function 39 -/
def utf_unit.l0 : Nat → Int → List Int → Int → Int → Int → Int → Option (Int)
 | 0, _, _, _, _, _, _ => none
 | k + 1, x0, x1, x5, x6, x15, x16 => if x16 < x15 then ((utf_turned.f x0).bind fun t103 => (if t103 = true then (if 0 ≤ (wrap64 ((wrap64 (x5 - 1)) - x16)) then (if (wrap64 ((wrap64 (x5 - 1)) - x16)) < (x1.length : Int) then (utf_unit.l0 k x0 x1 x5 (Go.bits .or .i64 (wrap64 (x6 * 256)) (wrap64 (rd x1 (wrap64 ((wrap64 (x5 - 1)) - x16))))) x15 (wrap64 (x16 + 1))) else (none)) else (none)) else (if 0 ≤ x16 then (if x16 < (x1.length : Int) then (utf_unit.l0 k x0 x1 x5 (Go.bits .or .i64 (wrap64 (x6 * 256)) (wrap64 (rd x1 x16))) x15 (wrap64 (x16 + 1))) else (none)) else (none)))) else (some x6)
def utf_unit.f (k : Nat) (a0 : Int) (l1 : List Int) : Option (Int) := (utf_width.f k a0).bind fun t102 => (if (l1.length : Int) < t102 then (some (-1)) else (utf_unit.l0 k a0 l1 t102 0 t102 0))
theorem utf_unit.mono_l : ∀ k, (∀ y0 y1 y2 y3 y4 y5, LeO (utf_unit.l0 k y0 y1 y2 y3 y4 y5) (utf_unit.l0 (k + 1) y0 y1 y2 y3 y4 y5))
 | 0 => fun _ _ _ _ _ _ r h => by simp [utf_unit.l0] at h
 | k + 1 => by
  have ih0 := utf_unit.mono_l k
  ·intro y0 y1 y2 y3 y4 y5
   unfold utf_unit.l0
   repeat' first
   | (with_reducible exact ih0 _ _ _ _ _ _)
   | (with_reducible exact utf_width.mono _ _)
   | (with_reducible exact LeO.refl _)
   | (with_reducible exact LeO.none _)
   | (with_reducible refine LeO.ite ?_ ?_)
   | (with_reducible refine LeO.bind ?_ (fun _ => ?_))
   | exact ih0 _ _ _ _ _ _
   | exact utf_width.mono _ _
   | exact LeO.none _
   | refine LeO.ite ?_ ?_
   | refine LeO.bind ?_ (fun _ => ?_)
theorem utf_unit.mono : ∀ a0 a1 k, LeO (utf_unit.f k a0 a1) (utf_unit.f (k + 1) a0 a1) := by
 intro a0 a1 k
 have ih0 := utf_unit.mono_l k
 unfold utf_unit.f
 repeat' first
   | (with_reducible exact ih0 _ _ _ _ _ _)
   | (with_reducible exact utf_width.mono _ _)
   | (with_reducible exact LeO.refl _)
   | (with_reducible exact LeO.none _)
   | (with_reducible refine LeO.ite ?_ ?_)
   | (with_reducible refine LeO.bind ?_ (fun _ => ?_))
   | exact ih0 _ _ _ _ _ _
   | exact utf_width.mono _ _
   | exact LeO.none _
   | refine LeO.ite ?_ ?_
   | refine LeO.bind ?_ (fun _ => ?_)
set_option maxHeartbeats 8000000 in
set_option maxRecDepth 100000 in
theorem utf_unit.calls (k : Nat) (a0 : Int) (A1 : Option Addr) (c1 : Nat) (l1 : List Int) (r : Int) (w : World) (hr1 : Kd.C (Kd.int .u8) w A1 l1.length l1) (hc1 : l1.length ≤ c1) (h : utf_unit.f k a0 l1 = some r) :
  Calls Tryd.prog 39 #[.int .i64 a0, .slice A1 l1.length c1] w fun e w' => e = .returned (.int .i64 r) ∧ Drawn0 w w' := by
 have HR1 := Aside0.mk hr1
 have HC1 := Aside0.mk hc1
 clear hr1 hc1
 have H : ((utf_width.f k a0).bind fun t102 => (if (l1.length : Int) < t102 then (some (-1)) else (utf_unit.l0 k a0 l1 t102 0 t102 0))) = some r := h
 clear h
 replace H := Option.bind_eq_some_iff.mp H
 obtain ⟨t102, A30, H⟩ := H
 replace H : (if (l1.length : Int) < t102 then (some (-1)) else (utf_unit.l0 k a0 l1 t102 0 t102 0)) = some r := H
 have A3 := Aside0.mk A30
 clear A30
 by_cases c4 : (l1.length : Int) < t102
 ·rw [if_pos c4] at H
  have c4b0 : decide ((l1.length : Int) < t102) = true := decide_eq_true c4
  clear c4
  obtain rfl := Option.some.inj H
  go_enter Tryd.func39, Tryd.ntmps39
  go_wp2_with (first | ((with_reducible refine gate_callee (f := 31) rfl ?_); refine goesL_ (some 10) rfl rfl Tryd.func31 (by kernel_rfl) rfl #[.int .i64 a0] rfl (by (try simp only [List.map_toArray, List.map_cons, List.map_nil]); first | done | rfl | (simp only [List.length_drop, List.length_take]; rfl)) ?_; (with_reducible refine (utf_width.calls k a0 t102 _ A3.out).mono ?_); rintro e w' ⟨rfl, ⟨nd, rfl⟩⟩; refine ⟨_, rfl, ?_⟩))
  go_ret
  exact ⟨by first | rfl | (simp; done) | (simp [*]; done) | (simp [wrap64]; done), by repeat (first | exact Drawn0.refl _ | apply Drawn0.step)⟩
 ·rw [if_neg c4] at H
  have c4b0 : decide ((l1.length : Int) < t102) = false := decide_eq_false c4
  clear c4
  have H' := Aside0.mk H
  clear H
  go_enter Tryd.func39, Tryd.ntmps39
  go_wp2_with (first | ((with_reducible refine gate_callee (f := 31) rfl ?_); refine goesL_ (some 10) rfl rfl Tryd.func31 (by kernel_rfl) rfl #[.int .i64 a0] rfl (by (try simp only [List.map_toArray, List.map_cons, List.map_nil]); first | done | rfl | (simp only [List.length_drop, List.length_take]; rfl)) ?_; (with_reducible refine (utf_width.calls k a0 t102 _ A3.out).mono ?_); rintro e w' ⟨rfl, ⟨nd, rfl⟩⟩; refine ⟨_, rfl, ?_⟩))
  go_loopg [6, 16] k (fun kq v6 v16 w' => ∃ (x6_1 : Int) (x16_1 : Int), v6 = .int .i64 x6_1 ∧ v16 = .int .i64 x16_1 ∧ Aside0 (utf_unit.l0 kq a0 l1 t102 x6_1 t102 x16_1 = some r) ∧ Aside0 (kq ≤ k) ∧ Drawn0 w w')
  case atStart => exact ⟨(0), (0), (by first | rfl | (simp; done) | (simp [*]; done) | (simp [wrap64]; done)), (by first | rfl | (simp; done) | (simp [*]; done) | (simp [wrap64]; done)), H', ⟨Nat.le_refl _⟩, by repeat (first | exact Drawn0.refl _ | apply Drawn0.step)⟩
  case round =>
   clear H'
   try clear c1; try clear p2; try clear c3; try clear c4; try clear c4b0
   obtain ⟨x6_1, x16_1, rfl, rfl, HA, HK1, ⟨m1, rfl⟩⟩ := hrel
   cases gk with
   | zero => exact absurd HA.out (by simp [utf_unit.l0])
   | succ k1 =>
    have H := HA.out
    clear HA
    simp only [utf_unit.l0] at H
    by_cases c5 : x16_1 < t102
    ·rw [if_pos c5] at H
     have c5b0 : decide (x16_1 < t102) = true := decide_eq_true c5
     clear c5
     replace H := Option.bind_eq_some_iff.mp H
     obtain ⟨t103, A60, H⟩ := H
     replace H : (if t103 = true then (if 0 ≤ (wrap64 ((wrap64 (t102 - 1)) - x16_1)) then (if (wrap64 ((wrap64 (t102 - 1)) - x16_1)) < (l1.length : Int) then (utf_unit.l0 k1 a0 l1 t102 (Go.bits .or .i64 (wrap64 (x6_1 * 256)) (wrap64 (rd l1 (wrap64 ((wrap64 (t102 - 1)) - x16_1))))) t102 (wrap64 (x16_1 + 1))) else (none)) else (none)) else (if 0 ≤ x16_1 then (if x16_1 < (l1.length : Int) then (utf_unit.l0 k1 a0 l1 t102 (Go.bits .or .i64 (wrap64 (x6_1 * 256)) (wrap64 (rd l1 x16_1))) t102 (wrap64 (x16_1 + 1))) else (none)) else (none))) = some r := H
     have A6 := Aside0.mk A60
     clear A60
     by_cases c7 : t103 = true
     ·subst c7
      have H1 : (if 0 ≤ (wrap64 ((wrap64 (t102 - 1)) - x16_1)) then (if (wrap64 ((wrap64 (t102 - 1)) - x16_1)) < (l1.length : Int) then (utf_unit.l0 k1 a0 l1 t102 (Go.bits .or .i64 (wrap64 (x6_1 * 256)) (wrap64 (rd l1 (wrap64 ((wrap64 (t102 - 1)) - x16_1))))) t102 (wrap64 (x16_1 + 1))) else (none)) else (none)) = some r := by rw [if_pos rfl] at H; exact H
      clear H
      have H := H1
      clear H1
      obtain ⟨ji8, hji8⟩ : ∃ j_ : Int, (wrap64 ((wrap64 (t102 - 1)) - x16_1)) = j_ := ⟨_, rfl⟩
      replace H : (if 0 ≤ (ji8) then (if (ji8) < (l1.length : Int) then (utf_unit.l0 k1 a0 l1 t102 (Go.bits .or .i64 (wrap64 (x6_1 * 256)) (wrap64 (rd l1 (ji8)))) t102 (wrap64 (x16_1 + 1))) else (none)) else (none)) = some r := by first | (rw [hji8] at H; exact H) | (simp only [hji8] at H ⊢; exact H)
      (try rw [hji8] at A6)
      have hji8w : (IntKind.i64.wrap ((wrap64 (t102 - 1)) - x16_1)) = ji8 := (i64_w _).trans hji8
      by_cases c9 : 0 ≤ (ji8)
      ·rw [if_pos c9] at H
       have c9b0 : decide (0 ≤ (ji8)) = true := decide_eq_true c9
       clear c9
       by_cases c10 : (ji8) < (l1.length : Int)
       ·rw [if_pos c10] at H
        have c10b0 : decide ((ji8) < (l1.length : Int)) = true := decide_eq_true c10
        clear c10
        have H' := Aside0.mk H
        clear H
        go_wp2_with (first | ((with_reducible refine gate_callee (f := 45) rfl ?_); refine goesL_ (some 21) rfl rfl Tryd.func45 (by kernel_rfl) rfl #[.int .i64 a0] rfl (by (try simp only [List.map_toArray, List.map_cons, List.map_nil]); first | done | rfl | (simp only [List.length_drop, List.length_take]; rfl)) ?_; (with_reducible refine (utf_turned.calls a0 true _ A6.out).mono ?_); rintro e w' ⟨rfl, ⟨nd, rfl⟩⟩; refine ⟨_, rfl, ?_⟩; have p104 : 0 ≤ ((ji8) : Int) := of_decide_eq_true (by first | (with_reducible assumption) | assumption); have q104 : (ji8) < (l1.length : Int) := of_decide_eq_true (by first | (with_reducible assumption) | assumption); obtain ⟨ad104, e104, hx104_0⟩ := Kd.at_int HR1.out (ji8) p104 q104; cases e104; replace p104 := eq_true p104; replace q104 := eq_true q104))
        go_roundg k1
        case measure => have := HK1.out; omega
        case rel => exact ⟨(Go.bits .or .i64 (wrap64 (x6_1 * 256)) (wrap64 (rd l1 (ji8)))), (wrap64 (x16_1 + 1)), (by first | rfl | (simp; done) | (simp only [← hji8] <;> (first | rfl | simp)) | (simp [*]; done)), (by first | rfl | (simp; done) | (simp [*]; done) | (simp [wrap64]; done)), H', ⟨by have := HK1.out; omega⟩, by repeat (first | exact Drawn0.refl _ | apply Drawn0.step)⟩
       ·rw [if_neg c10] at H
        exact absurd H (by simp)
      ·rw [if_neg c9] at H
       exact absurd H (by simp)
     ·replace c7 := Bool.eq_false_iff.mpr c7
      subst c7
      have H1 : (if 0 ≤ x16_1 then (if x16_1 < (l1.length : Int) then (utf_unit.l0 k1 a0 l1 t102 (Go.bits .or .i64 (wrap64 (x6_1 * 256)) (wrap64 (rd l1 x16_1))) t102 (wrap64 (x16_1 + 1))) else (none)) else (none)) = some r := by rw [if_neg (show ¬ (false = true) by decide)] at H; exact H
      clear H
      have H := H1
      clear H1
      by_cases c11 : 0 ≤ x16_1
      ·rw [if_pos c11] at H
       have c11b0 : decide (0 ≤ x16_1) = true := decide_eq_true c11
       clear c11
       by_cases c12 : x16_1 < (l1.length : Int)
       ·rw [if_pos c12] at H
        have c12b0 : decide (x16_1 < (l1.length : Int)) = true := decide_eq_true c12
        clear c12
        have H' := Aside0.mk H
        clear H
        go_wp2_with (first | ((with_reducible refine gate_callee (f := 45) rfl ?_); refine goesL_ (some 21) rfl rfl Tryd.func45 (by kernel_rfl) rfl #[.int .i64 a0] rfl (by (try simp only [List.map_toArray, List.map_cons, List.map_nil]); first | done | rfl | (simp only [List.length_drop, List.length_take]; rfl)) ?_; (with_reducible refine (utf_turned.calls a0 false _ A6.out).mono ?_); rintro e w' ⟨rfl, ⟨nd, rfl⟩⟩; refine ⟨_, rfl, ?_⟩; have p105 : 0 ≤ (x16_1 : Int) := of_decide_eq_true (by first | (with_reducible assumption) | assumption); have q105 : x16_1 < (l1.length : Int) := of_decide_eq_true (by first | (with_reducible assumption) | assumption); obtain ⟨ad105, e105, hx105_0⟩ := Kd.at_int HR1.out x16_1 p105 q105; cases e105; replace p105 := eq_true p105; replace q105 := eq_true q105))
        go_roundg k1
        case measure => have := HK1.out; omega
        case rel => exact ⟨(Go.bits .or .i64 (wrap64 (x6_1 * 256)) (wrap64 (rd l1 x16_1))), (wrap64 (x16_1 + 1)), (by first | rfl | (simp; done) | (simp [*]; done) | (simp [wrap64]; done)), (by first | rfl | (simp; done) | (simp [*]; done) | (simp [wrap64]; done)), H', ⟨by have := HK1.out; omega⟩, by repeat (first | exact Drawn0.refl _ | apply Drawn0.step)⟩
       ·rw [if_neg c12] at H
        exact absurd H (by simp)
      ·rw [if_neg c11] at H
       exact absurd H (by simp)
    ·rw [if_neg c5] at H
     have c5b0 : decide (x16_1 < t102) = false := decide_eq_false c5
     clear c5
     obtain rfl := Option.some.inj H
     go_wp2
     go_ret
     exact ⟨by first | rfl | (simp; done) | (simp [*]; done) | (simp [wrap64]; done), by repeat (first | exact Drawn0.refl _ | apply Drawn0.step)⟩

/-! ### utf8_ValidRune: function 48 -/
def utf8_ValidRune.j0 : Nat → Int → Bool → Option (Bool)
 | 0, _, _ => none
 | k + 1, x0, x3 => if x3 = true then (some true) else (if 57343 < x0 then (if x0 ≤ 1114111 then (some true) else (some false)) else (some false))
def utf8_ValidRune.f (k : Nat) (a0 : Int) : Option (Bool) := if 0 ≤ a0 then (utf8_ValidRune.j0 k a0 (decide (a0 < 55296))) else (utf8_ValidRune.j0 k a0 false)
theorem utf8_ValidRune.mono_l : ∀ k, (∀ y0 y1, LeO (utf8_ValidRune.j0 k y0 y1) (utf8_ValidRune.j0 (k + 1) y0 y1))
 | 0 => fun _ _ r h => by simp [utf8_ValidRune.j0] at h
 | k + 1 => by
  have ih0 := utf8_ValidRune.mono_l k
  ·intro y0 y1
   unfold utf8_ValidRune.j0
   repeat' first
   | (with_reducible exact ih0 _ _)
   | (with_reducible exact LeO.refl _)
   | (with_reducible exact LeO.none _)
   | (with_reducible refine LeO.ite ?_ ?_)
   | (with_reducible refine LeO.bind ?_ (fun _ => ?_))
   | exact ih0 _ _
   | exact LeO.none _
   | refine LeO.ite ?_ ?_
   | refine LeO.bind ?_ (fun _ => ?_)
theorem utf8_ValidRune.mono : ∀ a0 k, LeO (utf8_ValidRune.f k a0) (utf8_ValidRune.f (k + 1) a0) := by
 intro a0 k
 have ih0 := utf8_ValidRune.mono_l k
 unfold utf8_ValidRune.f
 repeat' first
   | (with_reducible exact ih0 _ _)
   | (with_reducible exact LeO.refl _)
   | (with_reducible exact LeO.none _)
   | (with_reducible refine LeO.ite ?_ ?_)
   | (with_reducible refine LeO.bind ?_ (fun _ => ?_))
   | exact ih0 _ _
   | exact LeO.none _
   | refine LeO.ite ?_ ?_
   | refine LeO.bind ?_ (fun _ => ?_)
set_option maxHeartbeats 8000000 in
set_option maxRecDepth 100000 in
theorem utf8_ValidRune.calls (k : Nat) (a0 : Int) (r : Bool) (w : World) (h : utf8_ValidRune.f k a0 = some r) :
  Calls Tryd.prog 48 #[.int .i32 a0] w fun e w' => e = .returned (.bool r) ∧ Drawn0 w w' := by
 have H : (if 0 ≤ a0 then (utf8_ValidRune.j0 k a0 (decide (a0 < 55296))) else (utf8_ValidRune.j0 k a0 false)) = some r := h
 clear h
 have HC2 := Aside0.mk H
 clear H
 go_enter Tryd.func48, Tryd.ntmps48
 go_upto_region 1 with (fail)
 go_cut [3] (fun v3 wc => ∃ (kq : Nat) (x3_1 : Bool), v3 = .bool x3_1 ∧ Aside0 (utf8_ValidRune.j0 kq a0 x3_1 = some r) ∧ Aside0 (kq ≤ k) ∧ Drawn0 w wc)
 case first =>
  have H := HC2.out
  clear HC2
  by_cases c3 : 0 ≤ a0
  ·rw [if_pos c3] at H
   have c3b0 : decide (0 ≤ a0) = true := decide_eq_true c3
   clear c3
   (first | rw [c3b0] | (simp only [i64_w, i32_w]; rw [c3b0]) | skip)
   have H' := Aside0.mk H
   clear H
   go_wp2
   go_meet
   case rel => exact ⟨_, (decide (a0 < 55296)), (by first | rfl | (simp; done) | (simp [*]; done) | (simp [wrap64]; done)), H', ⟨by first | omega | exact Nat.le_refl _⟩, by repeat (first | exact Drawn0.refl _ | apply Drawn0.step)⟩
  ·rw [if_neg c3] at H
   have c3b0 : decide (0 ≤ a0) = false := decide_eq_false c3
   clear c3
   (first | rw [c3b0] | (simp only [i64_w, i32_w]; rw [c3b0]) | skip)
   have H' := Aside0.mk H
   clear H
   go_wp2
   go_meet
   case rel => exact ⟨_, (false), (by first | rfl | (simp; done) | (simp [*]; done) | (simp [wrap64]; done)), H', ⟨by first | omega | exact Nat.le_refl _⟩, by repeat (first | exact Drawn0.refl _ | apply Drawn0.step)⟩
 case rest =>
  clear HC2
  try clear p2; try clear c3; try clear c3b0
  obtain ⟨kq, x3_1, rfl, HA, HJ1, ⟨mc1, rfl⟩⟩ := hcut
  cases kq with
  | zero => exact absurd HA.out (by simp [utf8_ValidRune.j0])
  | succ kj1 =>
   have H := HA.out
   clear HA
   simp only [utf8_ValidRune.j0] at H
   by_cases c4 : x3_1 = true
   ·subst c4
    have H1 : (some true) = some r := by rw [if_pos rfl] at H; exact H
    clear H
    have H := H1
    clear H1
    obtain rfl := Option.some.inj H
    go_wp2
    go_ret
    exact ⟨by first | rfl | (simp; done) | (simp [*]; done) | (simp [wrap64]; done), by repeat (first | exact Drawn0.refl _ | apply Drawn0.step)⟩
   ·replace c4 := Bool.eq_false_iff.mpr c4
    subst c4
    have H1 : (if 57343 < a0 then (if a0 ≤ 1114111 then (some true) else (some false)) else (some false)) = some r := by rw [if_neg (show ¬ (false = true) by decide)] at H; exact H
    clear H
    have H := H1
    clear H1
    by_cases c5 : 57343 < a0
    ·rw [if_pos c5] at H
     have c5b0 : decide (57343 < a0) = true := decide_eq_true c5
     clear c5
     by_cases c6 : a0 ≤ 1114111
     ·rw [if_pos c6] at H
      have c6b0 : decide (a0 ≤ 1114111) = true := decide_eq_true c6
      clear c6
      obtain rfl := Option.some.inj H
      go_wp2
      go_ret
      exact ⟨by first | rfl | (simp; done) | (simp [*]; done) | (simp [wrap64]; done), by repeat (first | exact Drawn0.refl _ | apply Drawn0.step)⟩
     ·rw [if_neg c6] at H
      have c6b0 : decide (a0 ≤ 1114111) = false := decide_eq_false c6
      clear c6
      obtain rfl := Option.some.inj H
      go_wp2
      go_ret
      exact ⟨by first | rfl | (simp; done) | (simp [*]; done) | (simp [wrap64]; done), by repeat (first | exact Drawn0.refl _ | apply Drawn0.step)⟩
    ·rw [if_neg c5] at H
     have c5b0 : decide (57343 < a0) = false := decide_eq_false c5
     clear c5
     obtain rfl := Option.some.inj H
     go_wp2
     go_ret
     exact ⟨by first | rfl | (simp; done) | (simp [*]; done) | (simp [wrap64]; done), by repeat (first | exact Drawn0.refl _ | apply Drawn0.step)⟩

/-! ### utf_scalar: function 40 -/
def utf_scalar.f (k : Nat) (a0 : Int) : Option (Bool) := if a0 ≥ 0 then (if a0 ≤ 1114111 then ((utf8_ValidRune.f k (wrap32 (a0))).bind fun t106 => (some t106)) else (some false)) else (some false)
theorem utf_scalar.mono : ∀ a0 k, LeO (utf_scalar.f k a0) (utf_scalar.f (k + 1) a0) := by
 intro a0 k
 unfold utf_scalar.f
 repeat' first
   | (with_reducible exact utf8_ValidRune.mono _ _)
   | (with_reducible exact LeO.refl _)
   | (with_reducible exact LeO.none _)
   | (with_reducible refine LeO.ite ?_ ?_)
   | (with_reducible refine LeO.bind ?_ (fun _ => ?_))
   | exact utf8_ValidRune.mono _ _
   | exact LeO.none _
   | refine LeO.ite ?_ ?_
   | refine LeO.bind ?_ (fun _ => ?_)
set_option maxHeartbeats 8000000 in
set_option maxRecDepth 100000 in
theorem utf_scalar.calls (k : Nat) (a0 : Int) (r : Bool) (w : World) (h : utf_scalar.f k a0 = some r) :
  Calls Tryd.prog 40 #[.int .i64 a0] w fun e w' => e = .returned (.bool r) ∧ Drawn0 w w' := by
 have H : (if a0 ≥ 0 then (if a0 ≤ 1114111 then ((utf8_ValidRune.f k (wrap32 (a0))).bind fun t106 => (some t106)) else (some false)) else (some false)) = some r := h
 clear h
 by_cases c2 : a0 ≥ 0
 ·rw [if_pos c2] at H
  have c2b0 : decide (0 ≤ a0) = true := decide_eq_true c2
  clear c2
  by_cases c3 : a0 ≤ 1114111
  ·rw [if_pos c3] at H
   have c3b0 : decide (a0 ≤ 1114111) = true := decide_eq_true c3
   clear c3
   replace H := Option.bind_eq_some_iff.mp H
   obtain ⟨t106, A40, H⟩ := H
   replace H : (some t106) = some r := H
   have A4 := Aside0.mk A40
   clear A40
   obtain rfl := Option.some.inj H
   go_enter Tryd.func40, Tryd.ntmps40
   go_wp2_with (first | (go_at_call 48; (try (rename_i hK_; simp only [List.append] at hK_)); (with_reducible refine (utf8_ValidRune.calls k (wrap32 (a0)) t106 _ A4.out).mono ?_); rintro e w' ⟨rfl, ⟨nd, rfl⟩⟩))
   go_ret
   exact ⟨by first | rfl | (simp; done) | (simp [*]; done) | (simp [wrap64]; done), by repeat (first | exact Drawn0.refl _ | apply Drawn0.step)⟩
  ·rw [if_neg c3] at H
   have c3b0 : decide (a0 ≤ 1114111) = false := decide_eq_false c3
   clear c3
   obtain rfl := Option.some.inj H
   go_enter Tryd.func40, Tryd.ntmps40
   go_wp2
   go_ret
   exact ⟨by first | rfl | (simp; done) | (simp [*]; done) | (simp [wrap64]; done), by repeat (first | exact Drawn0.refl _ | apply Drawn0.step)⟩
 ·rw [if_neg c2] at H
  have c2b0 : decide (0 ≤ a0) = false := decide_eq_false c2
  clear c2
  obtain rfl := Option.some.inj H
  go_enter Tryd.func40, Tryd.ntmps40
  go_wp2
  go_ret
  exact ⟨by first | rfl | (simp; done) | (simp [*]; done) | (simp [wrap64]; done), by repeat (first | exact Drawn0.refl _ | apply Drawn0.step)⟩

end Go.Proofs.YtmpdggphhhljhaaDoor.PC
